/-
  What functions of heap and word do to the memory they own, step by step: each theorem is one function's contract. Conditions: those that each theorem names.
-/
import Derived.Test.YtdfhbheipagnmaaWord
set_option linter.unusedVariables false
set_option linter.unusedSimpArgs false
set_option maxRecDepth 100000
set_option maxHeartbeats 4000000
namespace Go.Proofs.Ytdfhbheipagnmaa
open Go.Sl

theorem heap_at {W0 : World} {F : HeapF} {H : HeapV} (hH : H.ok F) (w : Int) : SC Try.prog W0 38 #[.pointer (some ⟨F.p, 0, none⟩), .int .u64 w] (HeapV.ent H F) (Ret (fun _ : Unit => H.ent F) (fun v _ => v = match objAt w H.objs.length with | some n => .pointer (some ⟨H.s.blk, n * 9, none⟩) | none => .pointer none)) := by
  refine SC_body (fn := Try.f38) (n := 30) Try.func38 rfl (by kernel_rfl) (ρ := [(0, pt F.p 0), (1, .int .u64 w)]) rfl ?_
  refine SW_sig ((F.p, .cells 83 6 [Gs.val H.s H.objs.length, Gs.val H.ts H.texts.length, .map (some F.kb), pt F.T.p 0, pt F.cp 0, .int .i64 H.br]) :: ((Gs.ent 89 9 H.s (H.objs.flatMap ObjL.cells)) ++ ((H.objs.flatMap ObjL.ent) ++ ((Gs.ent 9 1 H.ts (H.texts.map encS)) ++ ((F.kb, .map (kvs encS encU H.known)) :: ((TreeV.ent H.V F.T) ++ ((CellsL.ent (CellsL.mk F.cp H.cs H.cl)) ++ ([])))))))) rfl ?_
  refine SW_seq ?_
  refine SW_region ?_
  refine SL_s1 1 4 (.pointer none) (by intro δ w; kernel_rfl) ?_
  refine SL_nil (n_then ?_)
  refine SW_seq ?_
  refine SW_region ?_
  refine SL_s1 1 8 (.int .u64 w) (by intro δ w; kernel_rfl) ?_
  rcases hm1 : tagOf w 65530 with _ | m1
  · skip
    refine SL_sig ([] ++ ((F.p, .cells 83 6 [Gs.val H.s H.objs.length, Gs.val H.ts H.texts.length, .map (some F.kb), pt F.T.p 0, pt F.cp 0, .int .i64 H.br]) :: ((Gs.ent 89 9 H.s (H.objs.flatMap ObjL.cells)) ++ ((H.objs.flatMap ObjL.ent) ++ ((Gs.ent 9 1 H.ts (H.texts.map encS)) ++ ((F.kb, .map (kvs encS encU H.known)) :: ((TreeV.ent H.V F.T) ++ ((CellsL.ent (CellsL.mk F.cp H.cs H.cl)) ++ ([]))))))))) rfl ?_
    refine SL_cons ⟨rfl, fun _ => rfl⟩ (O_call 72 #[.int .u64 w] rfl (by intro δ w; kernel_rfl) ((word_IsObject (w := w)).use _) ?_)
    rintro v1 σ1 ⟨_, hσ1, hv1⟩
    obtain rfl : v1 = .tuple #[.int .u32 0, .bool false] := hv1.trans (by rw [hm1])
    obtain rfl : σ1 = ((F.p, .cells 83 6 [Gs.val H.s H.objs.length, Gs.val H.ts H.texts.length, .map (some F.kb), pt F.T.p 0, pt F.cp 0, .int .i64 H.br]) :: ((Gs.ent 89 9 H.s (H.objs.flatMap ObjL.cells)) ++ ((H.objs.flatMap ObjL.ent) ++ ((Gs.ent 9 1 H.ts (H.texts.map encS)) ++ ((F.kb, .map (kvs encS encU H.known)) :: ((TreeV.ent H.V F.T) ++ ((CellsL.ent (CellsL.mk F.cp H.cs H.cl)) ++ ([])))))))) := hσ1.trans (rfl)
    refine SL_s5 5 6 (.bool false) 5 (.int .u32 0) 11 (.bool false) 10 (.int .u32 0) 7 (.tuple #[.int .u32 0, .bool false]) (by intro δ w; kernel_rfl) ?_
    refine SL_nil (n_then ?_)
    refine SW_seq ?_
    refine SW_seq ?_
    refine SW_region ?_
    refine SL_segT 12 [(23, .bool true), (6, .bool false), (5, .int .u32 0), (4, .pointer none), (0, pt F.p 0), (1, .int .u64 w)] (by intro δ w; kernel_rfl) ?_
    refine SL_nil (n_then ?_)
    refine SW_true (fun _ => rfl) ?_
    refine SW_seq ?_
    refine SW_region ?_
    refine SL_segT 1 [(4, .pointer none), (23, .bool true), (6, .bool false), (5, .int .u32 0), (0, pt F.p 0), (1, .int .u64 w)] (by intro δ w; kernel_rfl) ?_
    refine SL_nil (n_then ?_)
    refine SW_ret (r_then ?_)
    refine body_end (.pointer none) (fun _ => rfl) ?_
    exact ⟨(), (Own.of_perm (S := ((F.p, .cells 83 6 [Gs.val H.s H.objs.length, Gs.val H.ts H.texts.length, .map (some F.kb), pt F.T.p 0, pt F.cp 0, .int .i64 H.br]) :: ((Gs.ent 89 9 H.s (H.objs.flatMap ObjL.cells)) ++ ((H.objs.flatMap ObjL.ent) ++ ((Gs.ent 9 1 H.ts (H.texts.map encS)) ++ ((F.kb, .map (kvs encS encU H.known)) :: ((TreeV.ent H.V F.T) ++ ((CellsL.ent (CellsL.mk F.cp H.cs H.cl)) ++ ([]))))))))) (List.Perm.refl _)), by simp only [objAt, hm1]⟩
  · skip
    have hlt := tagOf_lt hm1
    refine SL_sig ([] ++ ((F.p, .cells 83 6 [Gs.val H.s H.objs.length, Gs.val H.ts H.texts.length, .map (some F.kb), pt F.T.p 0, pt F.cp 0, .int .i64 H.br]) :: ((Gs.ent 89 9 H.s (H.objs.flatMap ObjL.cells)) ++ ((H.objs.flatMap ObjL.ent) ++ ((Gs.ent 9 1 H.ts (H.texts.map encS)) ++ ((F.kb, .map (kvs encS encU H.known)) :: ((TreeV.ent H.V F.T) ++ ((CellsL.ent (CellsL.mk F.cp H.cs H.cl)) ++ ([]))))))))) rfl ?_
    refine SL_cons ⟨rfl, fun _ => rfl⟩ (O_call 72 #[.int .u64 w] rfl (by intro δ w; kernel_rfl) ((word_IsObject (w := w)).use _) ?_)
    rintro v2 σ2 ⟨_, hσ2, hv2⟩
    obtain rfl : v2 = .tuple #[.int .u32 (m1 : Int), .bool true] := hv2.trans (by rw [hm1])
    obtain rfl : σ2 = ((F.p, .cells 83 6 [Gs.val H.s H.objs.length, Gs.val H.ts H.texts.length, .map (some F.kb), pt F.T.p 0, pt F.cp 0, .int .i64 H.br]) :: ((Gs.ent 89 9 H.s (H.objs.flatMap ObjL.cells)) ++ ((H.objs.flatMap ObjL.ent) ++ ((Gs.ent 9 1 H.ts (H.texts.map encS)) ++ ((F.kb, .map (kvs encS encU H.known)) :: ((TreeV.ent H.V F.T) ++ ((CellsL.ent (CellsL.mk F.cp H.cs H.cl)) ++ ([])))))))) := hσ2.trans (rfl)
    refine SL_s5 5 6 (.bool true) 5 (.int .u32 (m1 : Int)) 11 (.bool true) 10 (.int .u32 (m1 : Int)) 7 (.tuple #[.int .u32 (m1 : Int), .bool true]) (by intro δ w; kernel_rfl) ?_
    refine SL_nil (n_then ?_)
    refine SW_seq ?_
    refine SW_seq ?_
    refine SW_region ?_
    refine SL_s5 5 16 (.int .i64 (IntKind.wrap .i64 ((m1 : Int)))) 15 (.int .u32 (m1 : Int)) 14 (.bool false) 13 (.bool false) 12 (.bool true) (by intro δ w; kernel_rfl) ?_
    rw [show IntKind.wrap .i64 ((m1 : Int)) = (m1 : Int) from IntWalk.i64_in _ (by omega)]
    refine SL_segT 3 [(19, pt F.p 0), (16, .int .i64 (m1 : Int)), (14, .bool false), (6, .bool true), (5, .int .u32 (m1 : Int)), (4, .pointer none), (0, pt F.p 0), (1, .int .u64 w)] (by intro δ w; kernel_rfl) ?_
    refine SL_cons ⟨rfl, fun _ => rfl⟩ (O_load F.p 0 (Gs.val H.s H.objs.length) (fun _ => rfl) (by kernel_rfl) (Cell.own mem_z rfl) rfl ?_)
    refine SL_s3 3 23 (.bool (decide ((m1 : Int) ≥ (H.objs.length : Int)))) 22 (.bool (decide ((m1 : Int) ≥ (H.objs.length : Int)))) 21 (.int .i64 (H.objs.length : Int)) (by intro δ w; kernel_rfl) ?_
    refine SL_nil (n_then ?_)
    refine SW_cond (decide ((m1 : Int) ≥ (H.objs.length : Int))) (fun _ => rfl) (fun hc1 => ?_) (fun hc1 => ?_)
    · skip
      replace hc1 := of_decide_eq_true hc1
      refine SW_seq ?_
      refine SW_region ?_
      refine SL_segT 1 [(4, .pointer none), (23, .bool (decide ((m1 : Int) ≥ (H.objs.length : Int)))), (6, .bool true), (5, .int .u32 (m1 : Int)), (0, pt F.p 0), (1, .int .u64 w)] (by intro δ w; kernel_rfl) ?_
      refine SL_nil (n_then ?_)
      refine SW_ret (r_then ?_)
      refine body_end (.pointer none) (fun _ => rfl) ?_
      exact ⟨(), (Own.of_perm (S := ((F.p, .cells 83 6 [Gs.val H.s H.objs.length, Gs.val H.ts H.texts.length, .map (some F.kb), pt F.T.p 0, pt F.cp 0, .int .i64 H.br]) :: ((Gs.ent 89 9 H.s (H.objs.flatMap ObjL.cells)) ++ ((H.objs.flatMap ObjL.ent) ++ ((Gs.ent 9 1 H.ts (H.texts.map encS)) ++ ((F.kb, .map (kvs encS encU H.known)) :: ((TreeV.ent H.V F.T) ++ ((CellsL.ent (CellsL.mk F.cp H.cs H.cl)) ++ ([]))))))))) (List.Perm.refl _)), by simp only [objAt, hm1]; rw [if_neg (by omega)]⟩
    · skip
      replace hc1 := of_decide_eq_false hc1
      refine SW_skip (n_then ?_)
      refine SW_seq ?_
      refine SW_region ?_
      refine SL_s3 3 26 (pt F.p 0) 25 (pt F.p 0) 24 (pt F.p 0) (by intro δ w; kernel_rfl) ?_
      refine SL_cons ⟨rfl, fun _ => rfl⟩ (O_load F.p 0 (Gs.val H.s H.objs.length) (fun _ => rfl) (by kernel_rfl) (Cell.own mem_z rfl) rfl ?_)
      refine SL_s1 1 28 (.int .u32 (m1 : Int)) (by intro δ w; kernel_rfl) ?_
      refine SL_cons ⟨rfl, fun _ => rfl⟩ (O_indexAddr' (m1 : Int) (m1 * 9) (Gs.blk H.s) 0 H.objs.length (Gs.cap H.s) .u32 9 Try.underlying81 (by kernel_rfl) (fun _ => gs_slice (Gs.ok.ne hH.row (by first | omega | (simp; omega)))) (fun _ => rfl) (by omega) (by omega) (by omega) rfl ?_)
      refine SL_segT 1 [(4, pt (Gs.blk H.s) (m1 * 9)), (23, .bool (decide ((m1 : Int) ≥ (H.objs.length : Int)))), (6, .bool true), (5, .int .u32 (m1 : Int)), (0, pt F.p 0), (1, .int .u64 w)] (by intro δ w; kernel_rfl) ?_
      refine SL_nil (n_then ?_)
      refine SW_ret ?_
      refine body_end (pt (Gs.blk H.s) (m1 * 9)) (fun _ => rfl) ?_
      exact ⟨(), (Own.of_perm (S := ((F.p, .cells 83 6 [Gs.val H.s H.objs.length, Gs.val H.ts H.texts.length, .map (some F.kb), pt F.T.p 0, pt F.cp 0, .int .i64 H.br]) :: ((Gs.ent 89 9 H.s (H.objs.flatMap ObjL.cells)) ++ ((H.objs.flatMap ObjL.ent) ++ ((Gs.ent 9 1 H.ts (H.texts.map encS)) ++ ((F.kb, .map (kvs encS encU H.known)) :: ((TreeV.ent H.V F.T) ++ ((CellsL.ent (CellsL.mk F.cp H.cs H.cl)) ++ ([]))))))))) (List.Perm.refl _)), by simp only [objAt, hm1]; rw [if_pos (by omega)]⟩

theorem heap_Len_none {W0 : World} {F : HeapF} {H : HeapV} (hH : H.ok F) {w : Int} (h0 : objAt w H.objs.length = none)  : SC Try.prog W0 24 #[.pointer (some ⟨F.p, 0, none⟩), .int .u64 w] (HeapV.ent H F) (Ret (fun _ : Unit => H.ent F) (fun v _ => v = .int .i64 0)) := by
  refine SC_body (fn := Try.f24) (n := 16) Try.func24 rfl (by kernel_rfl) (ρ := [(0, pt F.p 0), (1, .int .u64 w)]) rfl ?_
  refine SW_sig ((F.p, .cells 83 6 [Gs.val H.s H.objs.length, Gs.val H.ts H.texts.length, .map (some F.kb), pt F.T.p 0, pt F.cp 0, .int .i64 H.br]) :: ((Gs.ent 89 9 H.s (H.objs.flatMap ObjL.cells)) ++ ((H.objs.flatMap ObjL.ent) ++ ((Gs.ent 9 1 H.ts (H.texts.map encS)) ++ ((F.kb, .map (kvs encS encU H.known)) :: ((TreeV.ent H.V F.T) ++ ((CellsL.ent (CellsL.mk F.cp H.cs H.cl)) ++ ([])))))))) rfl ?_
  refine SW_seq ?_
  refine SW_region ?_
  refine SL_s1 1 4 (.int .i64 0) (by intro δ w; kernel_rfl) ?_
  refine SL_nil (n_then ?_)
  refine SW_seq ?_
  refine SW_region ?_
  refine SL_s2 2 7 (.int .u64 w) 6 (pt F.p 0) (by intro δ w; kernel_rfl) ?_
  refine SL_perm _ (perm_cc (perm_ca (perm_ca (perm_ca (perm_cc (perm_ca perm_cz)))))) ?_
  refine SL_perm _ (perm_ca (perm_cc (perm_ca (perm_ca (perm_ca (perm_cc perm_cz)))))) ?_
  refine SL_perm _ (perm_a (perm_a (perm_c (perm_a (perm_a (perm_a perm_z)))))) ?_
  refine SL_perm _ (perm_cc (perm_ca (perm_ca (perm_cc (perm_ca (perm_ca perm_cz)))))) ?_
  refine SL_perm _ (perm_ca (perm_cc (perm_ca (perm_ca (perm_cc (perm_ca perm_cz)))))) ?_
  refine SL_perm _ (perm_ca (perm_ca (perm_cc (perm_ca (perm_ca (perm_cc perm_cz)))))) ?_
  refine SL_perm _ (perm_a (perm_a (perm_a (perm_c (perm_a (perm_a perm_z)))))) ?_
  refine SL_sig (((F.p, .cells 83 6 [Gs.val H.s H.objs.length, Gs.val H.ts H.texts.length, .map (some F.kb), pt F.T.p 0, pt F.cp 0, .int .i64 H.br]) :: ((Gs.ent 89 9 H.s (H.objs.flatMap ObjL.cells)) ++ ((H.objs.flatMap ObjL.ent) ++ ((Gs.ent 9 1 H.ts (H.texts.map encS)) ++ ((F.kb, .map (kvs encS encU H.known)) :: ((TreeV.ent H.V F.T) ++ ((CellsL.ent (CellsL.mk F.cp H.cs H.cl)) ++ ([])))))))) ++ ([])) (by simp only [List.cons_append, List.append_assoc, List.nil_append, List.append_nil]) ?_
  refine SL_cons ⟨rfl, fun _ => rfl⟩ (O_call 38 #[pt F.p 0, .int .u64 w] rfl (by intro δ w; kernel_rfl) ((heap_at hH w).use _) ?_)
  rintro v1 σ1 ⟨_, hσ1, hv1⟩
  obtain rfl : v1 = .pointer none := hv1.trans (by rw [h0])
  obtain rfl : σ1 = ((F.p, .cells 83 6 [Gs.val H.s H.objs.length, Gs.val H.ts H.texts.length, .map (some F.kb), pt F.T.p 0, pt F.cp 0, .int .i64 H.br]) :: ((Gs.ent 89 9 H.s (H.objs.flatMap ObjL.cells)) ++ ((H.objs.flatMap ObjL.ent) ++ ((Gs.ent 9 1 H.ts (H.texts.map encS)) ++ ((F.kb, .map (kvs encS encU H.known)) :: ((TreeV.ent H.V F.T) ++ ((CellsL.ent (CellsL.mk F.cp H.cs H.cl)) ++ ([])))))))) := hσ1.trans (by simp only [HeapV.ent, List.cons_append, List.append_assoc, List.nil_append, List.append_nil])
  refine SL_s1 1 5 (.pointer none) (by intro δ w; kernel_rfl) ?_
  refine SL_nil (n_then ?_)
  refine SW_seq ?_
  refine SW_seq ?_
  refine SW_region ?_
  refine SL_s2 2 10 (.bool true) 9 (.pointer none) (by intro δ w; kernel_rfl) ?_
  refine SL_nil (n_then ?_)
  refine SW_true (fun _ => rfl) ?_
  refine SW_seq ?_
  refine SW_region ?_
  refine SL_segT 1 [(4, .int .i64 0), (10, .bool true), (5, .pointer none), (0, pt F.p 0), (1, .int .u64 w)] (by intro δ w; kernel_rfl) ?_
  refine SL_nil (n_then ?_)
  refine SW_ret (r_then ?_)
  refine body_end (.int .i64 0) (fun _ => rfl) ?_
  exact ⟨(), (Own.of_perm (S := ((F.p, .cells 83 6 [Gs.val H.s H.objs.length, Gs.val H.ts H.texts.length, .map (some F.kb), pt F.T.p 0, pt F.cp 0, .int .i64 H.br]) :: ((Gs.ent 89 9 H.s (H.objs.flatMap ObjL.cells)) ++ ((H.objs.flatMap ObjL.ent) ++ ((Gs.ent 9 1 H.ts (H.texts.map encS)) ++ ((F.kb, .map (kvs encS encU H.known)) :: ((TreeV.ent H.V F.T) ++ ((CellsL.ent (CellsL.mk F.cp H.cs H.cl)) ++ ([]))))))))) (List.Perm.refl _)), rfl⟩

theorem heap_Len_some {W0 : World} {F : HeapF} {H : HeapV} (hH : H.ok F) {w : Int} {n : Nat} {x : ObjL} (h0 : objAt w H.objs.length = some n) (hx : H.objs[n]? = some x)  : SC Try.prog W0 24 #[.pointer (some ⟨F.p, 0, none⟩), .int .u64 w] (HeapV.ent H F) (Ret (fun _ : Unit => H.ent F) (fun v _ => v = .int .i64 x.elems.length)) := by
  refine SC_body (fn := Try.f24) (n := 16) Try.func24 rfl (by kernel_rfl) (ρ := [(0, pt F.p 0), (1, .int .u64 w)]) rfl ?_
  refine SW_sig ((F.p, .cells 83 6 [Gs.val H.s H.objs.length, Gs.val H.ts H.texts.length, .map (some F.kb), pt F.T.p 0, pt F.cp 0, .int .i64 H.br]) :: ((Gs.ent 89 9 H.s (H.objs.flatMap ObjL.cells)) ++ ((H.objs.flatMap ObjL.ent) ++ ((Gs.ent 9 1 H.ts (H.texts.map encS)) ++ ((F.kb, .map (kvs encS encU H.known)) :: ((TreeV.ent H.V F.T) ++ ((CellsL.ent (CellsL.mk F.cp H.cs H.cl)) ++ ([])))))))) rfl ?_
  refine SW_seq ?_
  refine SW_region ?_
  refine SL_s1 1 4 (.int .i64 0) (by intro δ w; kernel_rfl) ?_
  refine SL_nil (n_then ?_)
  refine SW_seq ?_
  refine SW_region ?_
  refine SL_s2 2 7 (.int .u64 w) 6 (pt F.p 0) (by intro δ w; kernel_rfl) ?_
  refine SL_perm _ (perm_cc (perm_ca (perm_ca (perm_ca (perm_cc (perm_ca perm_cz)))))) ?_
  refine SL_perm _ (perm_ca (perm_cc (perm_ca (perm_ca (perm_ca (perm_cc perm_cz)))))) ?_
  refine SL_perm _ (perm_a (perm_a (perm_c (perm_a (perm_a (perm_a perm_z)))))) ?_
  refine SL_perm _ (perm_cc (perm_ca (perm_ca (perm_cc (perm_ca (perm_ca perm_cz)))))) ?_
  refine SL_perm _ (perm_ca (perm_cc (perm_ca (perm_ca (perm_cc (perm_ca perm_cz)))))) ?_
  refine SL_perm _ (perm_ca (perm_ca (perm_cc (perm_ca (perm_ca (perm_cc perm_cz)))))) ?_
  refine SL_perm _ (perm_a (perm_a (perm_a (perm_c (perm_a (perm_a perm_z)))))) ?_
  refine SL_sig (((F.p, .cells 83 6 [Gs.val H.s H.objs.length, Gs.val H.ts H.texts.length, .map (some F.kb), pt F.T.p 0, pt F.cp 0, .int .i64 H.br]) :: ((Gs.ent 89 9 H.s (H.objs.flatMap ObjL.cells)) ++ ((H.objs.flatMap ObjL.ent) ++ ((Gs.ent 9 1 H.ts (H.texts.map encS)) ++ ((F.kb, .map (kvs encS encU H.known)) :: ((TreeV.ent H.V F.T) ++ ((CellsL.ent (CellsL.mk F.cp H.cs H.cl)) ++ ([])))))))) ++ ([])) (by simp only [List.cons_append, List.append_assoc, List.nil_append, List.append_nil]) ?_
  refine SL_cons ⟨rfl, fun _ => rfl⟩ (O_call 38 #[pt F.p 0, .int .u64 w] rfl (by intro δ w; kernel_rfl) ((heap_at hH w).use _) ?_)
  rintro v1 σ1 ⟨_, hσ1, hv1⟩
  obtain rfl : v1 = pt (Gs.blk H.s) (n * 9) := hv1.trans (by rw [h0])
  obtain rfl : σ1 = ((F.p, .cells 83 6 [Gs.val H.s H.objs.length, Gs.val H.ts H.texts.length, .map (some F.kb), pt F.T.p 0, pt F.cp 0, .int .i64 H.br]) :: ((Gs.ent 89 9 H.s (H.objs.flatMap ObjL.cells)) ++ ((H.objs.flatMap ObjL.ent) ++ ((Gs.ent 9 1 H.ts (H.texts.map encS)) ++ ((F.kb, .map (kvs encS encU H.known)) :: ((TreeV.ent H.V F.T) ++ ((CellsL.ent (CellsL.mk F.cp H.cs H.cl)) ++ ([])))))))) := hσ1.trans (by simp only [HeapV.ent, List.cons_append, List.append_assoc, List.nil_append, List.append_nil])
  refine SL_s1 1 5 (pt (Gs.blk H.s) (n * 9)) (by intro δ w; kernel_rfl) ?_
  refine SL_nil (n_then ?_)
  refine SW_seq ?_
  refine SW_seq ?_
  refine SW_region ?_
  refine SL_s2 2 10 (.bool false) 9 (pt (Gs.blk H.s) (n * 9)) (by intro δ w; kernel_rfl) ?_
  refine SL_nil (n_then ?_)
  refine SW_false (fun _ => rfl) ?_
  refine SW_skip (n_then ?_)
  refine SW_seq ?_
  refine SW_region ?_
  refine SL_s3 3 13 (pt (Gs.blk H.s) (n * 9 + 6)) 12 (pt (Gs.blk H.s) (n * 9)) 11 (pt (Gs.blk H.s) (n * 9)) (by intro δ w; kernel_rfl) ?_
  refine SL_cons ⟨rfl, fun _ => rfl⟩ (O_load (Gs.blk H.s) (n * 9 + 6) (Gs.val x.es x.elems.length) (fun _ => rfl) (by kernel_rfl) (Gs.cell hH.row (fun e he => (mem_c (mem_h he))) (flat_cell ObjL.len hx (j := 6) (by decide) rfl)) rfl ?_)
  refine SL_segT 2 [(4, .int .i64 (x.elems.length : Int)), (10, .bool false), (5, pt (Gs.blk H.s) (n * 9)), (0, pt F.p 0), (1, .int .u64 w)] (by intro δ w; kernel_rfl) ?_
  refine SL_nil (n_then ?_)
  refine SW_ret ?_
  refine body_end (.int .i64 (x.elems.length : Int)) (fun _ => rfl) ?_
  exact ⟨(), (Own.of_perm (S := ((F.p, .cells 83 6 [Gs.val H.s H.objs.length, Gs.val H.ts H.texts.length, .map (some F.kb), pt F.T.p 0, pt F.cp 0, .int .i64 H.br]) :: ((Gs.ent 89 9 H.s (H.objs.flatMap ObjL.cells)) ++ ((H.objs.flatMap ObjL.ent) ++ ((Gs.ent 9 1 H.ts (H.texts.map encS)) ++ ((F.kb, .map (kvs encS encU H.known)) :: ((TreeV.ent H.V F.T) ++ ((CellsL.ent (CellsL.mk F.cp H.cs H.cl)) ++ ([]))))))))) (List.Perm.refl _)), rfl⟩

theorem heap_Shape_none {W0 : World} {F : HeapF} {H : HeapV} (hH : H.ok F) {w : Int} (h0 : objAt w H.objs.length = none)  : SC Try.prog W0 19 #[.pointer (some ⟨F.p, 0, none⟩), .int .u64 w] (HeapV.ent H F) (Ret (fun _ : Unit => H.ent F) (fun v _ => v = two (0, false))) := by
  refine SC_body (fn := Try.f19) (n := 23) Try.func19 rfl (by kernel_rfl) (ρ := [(0, pt F.p 0), (1, .int .u64 w)]) rfl ?_
  refine SW_sig ((F.p, .cells 83 6 [Gs.val H.s H.objs.length, Gs.val H.ts H.texts.length, .map (some F.kb), pt F.T.p 0, pt F.cp 0, .int .i64 H.br]) :: ((Gs.ent 89 9 H.s (H.objs.flatMap ObjL.cells)) ++ ((H.objs.flatMap ObjL.ent) ++ ((Gs.ent 9 1 H.ts (H.texts.map encS)) ++ ((F.kb, .map (kvs encS encU H.known)) :: ((TreeV.ent H.V F.T) ++ ((CellsL.ent (CellsL.mk F.cp H.cs H.cl)) ++ ([])))))))) rfl ?_
  refine SW_seq ?_
  refine SW_region ?_
  refine SL_s2 2 5 (.bool false) 4 (.int .i64 0) (by intro δ w; kernel_rfl) ?_
  refine SL_nil (n_then ?_)
  refine SW_seq ?_
  refine SW_region ?_
  refine SL_s2 2 8 (.int .u64 w) 7 (pt F.p 0) (by intro δ w; kernel_rfl) ?_
  refine SL_perm _ (perm_cc (perm_ca (perm_ca (perm_ca (perm_cc (perm_ca perm_cz)))))) ?_
  refine SL_perm _ (perm_ca (perm_cc (perm_ca (perm_ca (perm_ca (perm_cc perm_cz)))))) ?_
  refine SL_perm _ (perm_a (perm_a (perm_c (perm_a (perm_a (perm_a perm_z)))))) ?_
  refine SL_perm _ (perm_cc (perm_ca (perm_ca (perm_cc (perm_ca (perm_ca perm_cz)))))) ?_
  refine SL_perm _ (perm_ca (perm_cc (perm_ca (perm_ca (perm_cc (perm_ca perm_cz)))))) ?_
  refine SL_perm _ (perm_ca (perm_ca (perm_cc (perm_ca (perm_ca (perm_cc perm_cz)))))) ?_
  refine SL_perm _ (perm_a (perm_a (perm_a (perm_c (perm_a (perm_a perm_z)))))) ?_
  refine SL_sig (((F.p, .cells 83 6 [Gs.val H.s H.objs.length, Gs.val H.ts H.texts.length, .map (some F.kb), pt F.T.p 0, pt F.cp 0, .int .i64 H.br]) :: ((Gs.ent 89 9 H.s (H.objs.flatMap ObjL.cells)) ++ ((H.objs.flatMap ObjL.ent) ++ ((Gs.ent 9 1 H.ts (H.texts.map encS)) ++ ((F.kb, .map (kvs encS encU H.known)) :: ((TreeV.ent H.V F.T) ++ ((CellsL.ent (CellsL.mk F.cp H.cs H.cl)) ++ ([])))))))) ++ ([])) (by simp only [List.cons_append, List.append_assoc, List.nil_append, List.append_nil]) ?_
  refine SL_cons ⟨rfl, fun _ => rfl⟩ (O_call 38 #[pt F.p 0, .int .u64 w] rfl (by intro δ w; kernel_rfl) ((heap_at hH w).use _) ?_)
  rintro v1 σ1 ⟨_, hσ1, hv1⟩
  obtain rfl : v1 = .pointer none := hv1.trans (by rw [h0])
  obtain rfl : σ1 = ((F.p, .cells 83 6 [Gs.val H.s H.objs.length, Gs.val H.ts H.texts.length, .map (some F.kb), pt F.T.p 0, pt F.cp 0, .int .i64 H.br]) :: ((Gs.ent 89 9 H.s (H.objs.flatMap ObjL.cells)) ++ ((H.objs.flatMap ObjL.ent) ++ ((Gs.ent 9 1 H.ts (H.texts.map encS)) ++ ((F.kb, .map (kvs encS encU H.known)) :: ((TreeV.ent H.V F.T) ++ ((CellsL.ent (CellsL.mk F.cp H.cs H.cl)) ++ ([])))))))) := hσ1.trans (by simp only [HeapV.ent, List.cons_append, List.append_assoc, List.nil_append, List.append_nil])
  refine SL_s1 1 6 (.pointer none) (by intro δ w; kernel_rfl) ?_
  refine SL_nil (n_then ?_)
  refine SW_seq ?_
  refine SW_seq ?_
  refine SW_region ?_
  refine SL_segT 9 [(18, .bool true), (6, .pointer none), (5, .bool false), (4, .int .i64 0), (0, pt F.p 0), (1, .int .u64 w)] (by intro δ w; kernel_rfl) ?_
  refine SL_nil (n_then ?_)
  refine SW_true (fun _ => rfl) ?_
  refine SW_seq ?_
  refine SW_region ?_
  refine SL_segT 2 [(5, .bool false), (4, .int .i64 0), (18, .bool true), (6, .pointer none), (0, pt F.p 0), (1, .int .u64 w)] (by intro δ w; kernel_rfl) ?_
  refine SL_nil (n_then ?_)
  refine SW_ret (r_then ?_)
  refine body_end (.tuple #[.int .i64 0, .bool false]) (fun _ => rfl) ?_
  exact ⟨(), (Own.of_perm (S := ((F.p, .cells 83 6 [Gs.val H.s H.objs.length, Gs.val H.ts H.texts.length, .map (some F.kb), pt F.T.p 0, pt F.cp 0, .int .i64 H.br]) :: ((Gs.ent 89 9 H.s (H.objs.flatMap ObjL.cells)) ++ ((H.objs.flatMap ObjL.ent) ++ ((Gs.ent 9 1 H.ts (H.texts.map encS)) ++ ((F.kb, .map (kvs encS encU H.known)) :: ((TreeV.ent H.V F.T) ++ ((CellsL.ent (CellsL.mk F.cp H.cs H.cl)) ++ ([]))))))))) (List.Perm.refl _)), rfl⟩

theorem heap_Shape_some {W0 : World} {F : HeapF} {H : HeapV} (hH : H.ok F) {w : Int} {n : Nat} {x : ObjL} (h0 : objAt w H.objs.length = some n) (hx : H.objs[n]? = some x)  : SC Try.prog W0 19 #[.pointer (some ⟨F.p, 0, none⟩), .int .u64 w] (HeapV.ent H F) (Ret (fun _ : Unit => H.ent F) (fun v _ => v = (if x.shape < 0 then two (0, false) else two (x.shape, true)))) := by
  refine SC_body (fn := Try.f19) (n := 23) Try.func19 rfl (by kernel_rfl) (ρ := [(0, pt F.p 0), (1, .int .u64 w)]) rfl ?_
  refine SW_sig ((F.p, .cells 83 6 [Gs.val H.s H.objs.length, Gs.val H.ts H.texts.length, .map (some F.kb), pt F.T.p 0, pt F.cp 0, .int .i64 H.br]) :: ((Gs.ent 89 9 H.s (H.objs.flatMap ObjL.cells)) ++ ((H.objs.flatMap ObjL.ent) ++ ((Gs.ent 9 1 H.ts (H.texts.map encS)) ++ ((F.kb, .map (kvs encS encU H.known)) :: ((TreeV.ent H.V F.T) ++ ((CellsL.ent (CellsL.mk F.cp H.cs H.cl)) ++ ([])))))))) rfl ?_
  refine SW_seq ?_
  refine SW_region ?_
  refine SL_s2 2 5 (.bool false) 4 (.int .i64 0) (by intro δ w; kernel_rfl) ?_
  refine SL_nil (n_then ?_)
  refine SW_seq ?_
  refine SW_region ?_
  refine SL_s2 2 8 (.int .u64 w) 7 (pt F.p 0) (by intro δ w; kernel_rfl) ?_
  refine SL_perm _ (perm_cc (perm_ca (perm_ca (perm_ca (perm_cc (perm_ca perm_cz)))))) ?_
  refine SL_perm _ (perm_ca (perm_cc (perm_ca (perm_ca (perm_ca (perm_cc perm_cz)))))) ?_
  refine SL_perm _ (perm_a (perm_a (perm_c (perm_a (perm_a (perm_a perm_z)))))) ?_
  refine SL_perm _ (perm_cc (perm_ca (perm_ca (perm_cc (perm_ca (perm_ca perm_cz)))))) ?_
  refine SL_perm _ (perm_ca (perm_cc (perm_ca (perm_ca (perm_cc (perm_ca perm_cz)))))) ?_
  refine SL_perm _ (perm_ca (perm_ca (perm_cc (perm_ca (perm_ca (perm_cc perm_cz)))))) ?_
  refine SL_perm _ (perm_a (perm_a (perm_a (perm_c (perm_a (perm_a perm_z)))))) ?_
  refine SL_sig (((F.p, .cells 83 6 [Gs.val H.s H.objs.length, Gs.val H.ts H.texts.length, .map (some F.kb), pt F.T.p 0, pt F.cp 0, .int .i64 H.br]) :: ((Gs.ent 89 9 H.s (H.objs.flatMap ObjL.cells)) ++ ((H.objs.flatMap ObjL.ent) ++ ((Gs.ent 9 1 H.ts (H.texts.map encS)) ++ ((F.kb, .map (kvs encS encU H.known)) :: ((TreeV.ent H.V F.T) ++ ((CellsL.ent (CellsL.mk F.cp H.cs H.cl)) ++ ([])))))))) ++ ([])) (by simp only [List.cons_append, List.append_assoc, List.nil_append, List.append_nil]) ?_
  refine SL_cons ⟨rfl, fun _ => rfl⟩ (O_call 38 #[pt F.p 0, .int .u64 w] rfl (by intro δ w; kernel_rfl) ((heap_at hH w).use _) ?_)
  rintro v1 σ1 ⟨_, hσ1, hv1⟩
  obtain rfl : v1 = pt (Gs.blk H.s) (n * 9) := hv1.trans (by rw [h0])
  obtain rfl : σ1 = ((F.p, .cells 83 6 [Gs.val H.s H.objs.length, Gs.val H.ts H.texts.length, .map (some F.kb), pt F.T.p 0, pt F.cp 0, .int .i64 H.br]) :: ((Gs.ent 89 9 H.s (H.objs.flatMap ObjL.cells)) ++ ((H.objs.flatMap ObjL.ent) ++ ((Gs.ent 9 1 H.ts (H.texts.map encS)) ++ ((F.kb, .map (kvs encS encU H.known)) :: ((TreeV.ent H.V F.T) ++ ((CellsL.ent (CellsL.mk F.cp H.cs H.cl)) ++ ([])))))))) := hσ1.trans (by simp only [HeapV.ent, List.cons_append, List.append_assoc, List.nil_append, List.append_nil])
  refine SL_s1 1 6 (pt (Gs.blk H.s) (n * 9)) (by intro δ w; kernel_rfl) ?_
  refine SL_nil (n_then ?_)
  refine SW_seq ?_
  refine SW_seq ?_
  refine SW_region ?_
  refine SL_s6 6 15 (pt (Gs.blk H.s) (n * 9 + 3)) 14 (pt (Gs.blk H.s) (n * 9)) 13 (pt (Gs.blk H.s) (n * 9)) 12 (.bool false) 11 (.bool false) 10 (pt (Gs.blk H.s) (n * 9)) (by intro δ w; kernel_rfl) ?_
  refine SL_cons ⟨rfl, fun _ => rfl⟩ (O_load (Gs.blk H.s) (n * 9 + 3) (.int .i64 x.shape) (fun _ => rfl) (by kernel_rfl) (Gs.cell hH.row (fun e he => (mem_c (mem_h he))) (flat_cell ObjL.len hx (j := 3) (by decide) rfl)) rfl ?_)
  refine SL_s2 2 18 (.bool (decide (x.shape < 0))) 17 (.bool (decide (x.shape < 0))) (by intro δ w; kernel_rfl) ?_
  refine SL_nil (n_then ?_)
  refine SW_cond (decide (x.shape < 0)) (fun _ => rfl) (fun hc1 => ?_) (fun hc1 => ?_)
  · skip
    replace hc1 := of_decide_eq_true hc1
    refine SW_seq ?_
    refine SW_region ?_
    refine SL_segT 2 [(5, .bool false), (4, .int .i64 0), (18, .bool (decide (x.shape < 0))), (6, pt (Gs.blk H.s) (n * 9)), (0, pt F.p 0), (1, .int .u64 w)] (by intro δ w; kernel_rfl) ?_
    refine SL_nil (n_then ?_)
    refine SW_ret (r_then ?_)
    refine body_end (.tuple #[.int .i64 0, .bool false]) (fun _ => rfl) ?_
    exact ⟨(), (Own.of_perm (S := ((F.p, .cells 83 6 [Gs.val H.s H.objs.length, Gs.val H.ts H.texts.length, .map (some F.kb), pt F.T.p 0, pt F.cp 0, .int .i64 H.br]) :: ((Gs.ent 89 9 H.s (H.objs.flatMap ObjL.cells)) ++ ((H.objs.flatMap ObjL.ent) ++ ((Gs.ent 9 1 H.ts (H.texts.map encS)) ++ ((F.kb, .map (kvs encS encU H.known)) :: ((TreeV.ent H.V F.T) ++ ((CellsL.ent (CellsL.mk F.cp H.cs H.cl)) ++ ([]))))))))) (List.Perm.refl _)), by rw [if_pos (by omega)]⟩
  · skip
    replace hc1 := of_decide_eq_false hc1
    refine SW_skip (n_then ?_)
    refine SW_seq ?_
    refine SW_region ?_
    refine SL_segT 3 [(21, pt (Gs.blk H.s) (n * 9 + 3)), (18, .bool (decide (x.shape < 0))), (6, pt (Gs.blk H.s) (n * 9)), (5, .bool false), (4, .int .i64 0), (0, pt F.p 0), (1, .int .u64 w)] (by intro δ w; kernel_rfl) ?_
    refine SL_cons ⟨rfl, fun _ => rfl⟩ (O_load (Gs.blk H.s) (n * 9 + 3) (.int .i64 x.shape) (fun _ => rfl) (by kernel_rfl) (Gs.cell hH.row (fun e he => (mem_c (mem_h he))) (flat_cell ObjL.len hx (j := 3) (by decide) rfl)) rfl ?_)
    refine SL_segT 2 [(5, .bool true), (4, .int .i64 x.shape), (18, .bool (decide (x.shape < 0))), (6, pt (Gs.blk H.s) (n * 9)), (0, pt F.p 0), (1, .int .u64 w)] (by intro δ w; kernel_rfl) ?_
    refine SL_nil (n_then ?_)
    refine SW_ret ?_
    refine body_end (.tuple #[.int .i64 x.shape, .bool true]) (fun _ => rfl) ?_
    exact ⟨(), (Own.of_perm (S := ((F.p, .cells 83 6 [Gs.val H.s H.objs.length, Gs.val H.ts H.texts.length, .map (some F.kb), pt F.T.p 0, pt F.cp 0, .int .i64 H.br]) :: ((Gs.ent 89 9 H.s (H.objs.flatMap ObjL.cells)) ++ ((H.objs.flatMap ObjL.ent) ++ ((Gs.ent 9 1 H.ts (H.texts.map encS)) ++ ((F.kb, .map (kvs encS encU H.known)) :: ((TreeV.ent H.V F.T) ++ ((CellsL.ent (CellsL.mk F.cp H.cs H.cl)) ++ ([]))))))))) (List.Perm.refl _)), by rw [if_neg (by omega)]⟩

theorem heap_Objects {W0 : World} {F : HeapF} {H : HeapV} (hH : H.ok F) : SC Try.prog W0 37 #[.pointer (some ⟨F.p, 0, none⟩)] (HeapV.ent H F) (Ret (fun _ : Unit => H.ent F) (fun v _ => v = .int .i64 H.objs.length)) := by
  refine SC_body (fn := Try.f37) (n := 8) Try.func37 rfl (by kernel_rfl) (ρ := [(0, pt F.p 0)]) rfl ?_
  refine SW_sig ((F.p, .cells 83 6 [Gs.val H.s H.objs.length, Gs.val H.ts H.texts.length, .map (some F.kb), pt F.T.p 0, pt F.cp 0, .int .i64 H.br]) :: ((Gs.ent 89 9 H.s (H.objs.flatMap ObjL.cells)) ++ ((H.objs.flatMap ObjL.ent) ++ ((Gs.ent 9 1 H.ts (H.texts.map encS)) ++ ((F.kb, .map (kvs encS encU H.known)) :: ((TreeV.ent H.V F.T) ++ ((CellsL.ent (CellsL.mk F.cp H.cs H.cl)) ++ ([])))))))) rfl ?_
  refine SW_seq ?_
  refine SW_region ?_
  refine SL_s1 1 2 (.int .i64 0) (by intro δ w; kernel_rfl) ?_
  refine SL_nil (n_then ?_)
  refine SW_seq ?_
  refine SW_region ?_
  refine SL_s3 3 5 (pt F.p 0) 4 (pt F.p 0) 3 (pt F.p 0) (by intro δ w; kernel_rfl) ?_
  refine SL_cons ⟨rfl, fun _ => rfl⟩ (O_load F.p 0 (Gs.val H.s H.objs.length) (fun _ => rfl) (by kernel_rfl) (Cell.own mem_z rfl) rfl ?_)
  refine SL_segT 2 [(2, .int .i64 (H.objs.length : Int)), (0, pt F.p 0)] (by intro δ w; kernel_rfl) ?_
  refine SL_nil (n_then ?_)
  refine SW_ret ?_
  refine body_end (.int .i64 (H.objs.length : Int)) (fun _ => rfl) ?_
  exact ⟨(), (Own.of_perm (S := ((F.p, .cells 83 6 [Gs.val H.s H.objs.length, Gs.val H.ts H.texts.length, .map (some F.kb), pt F.T.p 0, pt F.cp 0, .int .i64 H.br]) :: ((Gs.ent 89 9 H.s (H.objs.flatMap ObjL.cells)) ++ ((H.objs.flatMap ObjL.ent) ++ ((Gs.ent 9 1 H.ts (H.texts.map encS)) ++ ((F.kb, .map (kvs encS encU H.known)) :: ((TreeV.ent H.V F.T) ++ ((CellsL.ent (CellsL.mk F.cp H.cs H.cl)) ++ ([]))))))))) (List.Perm.refl _)), rfl⟩

end Go.Proofs.Ytdfhbheipagnmaa
