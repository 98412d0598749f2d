/-
  What functions of heap and word do to the memory they own, step by step: each theorem is one function's contract. Conditions: those that each theorem names.
-/
import Derived.Test.YtdfhbheipagnmaaHeap4
set_option linter.unusedVariables false
set_option linter.unusedSimpArgs false
set_option maxRecDepth 100000
set_option maxHeartbeats 4000000
namespace Go.Proofs.Ytdfhbheipagnmaa
open Go.Sl

theorem words_Clone {W0 : World} {σ : Heaplet} {l : List Int} {A : Option Addr} {c : Nat} (hs : Src W0 σ A (l.map encU)) (hr : l.length ≤ 1099511627776) : SC Try.prog W0 41 #[.slice A l.length c] σ (Ret (fun s : Gs => s.ent 24 1 (l.map encU) ++ (σ ++ [])) (fun v s => v = s.val l.length ∧ s.ok 1 l.length (l.map encU))) := by
  cases A with
  | none =>
    obtain rfl : l = [] := by
      rcases hs with h | ⟨b, o, e, _⟩
      · exact List.eq_nil_of_length_eq_zero (by simpa using h)
      · cases e
    refine SC_body (fn := Try.f41) (n := 8) Try.func41 rfl (by kernel_rfl) (ρ := [(0, .slice none (([] : List Int).length) c)]) rfl ?_
    refine SW_sig (σ ++ ([])) (by simp only [List.append_nil, List.append_assoc]) ?_
    refine SW_seq ?_
    refine SW_region ?_
    refine SL_s1 1 2 (.slice none 0 0) (by intro δ w; kernel_rfl) ?_
    refine SL_nil (n_then ?_)
    refine SW_seq ?_
    refine SW_seq ?_
    refine SW_region ?_
    refine SL_s2 2 4 (.bool true) 3 (.slice none (([] : List Int).length) c) (by intro δ w; kernel_rfl) ?_
    refine SL_nil (n_then ?_)
    refine SW_true (fun _ => rfl) ?_
    refine SW_seq ?_
    refine SW_region ?_
    refine SL_segT 1 [(2, .slice none 0 0), (4, .bool true), (0, .slice none (([] : List Int).length) c)] (by intro δ w; kernel_rfl) ?_
    refine SL_nil (n_then ?_)
    refine SW_ret (r_then ?_)
    refine body_end (.slice none 0 0) (fun _ => rfl) ?_
    exact ⟨.nil, Own.of_perm (by simp [Gs.ent]), rfl, ⟨rfl, rfl⟩⟩
  | some a =>
    refine SC_body (fn := Try.f41) (n := 8) Try.func41 rfl (by kernel_rfl) (ρ := [(0, .slice (some a) l.length c)]) rfl ?_
    refine SW_sig (σ ++ ([])) (by simp only [List.append_nil, List.append_assoc]) ?_
    refine SW_seq ?_
    refine SW_region ?_
    refine SL_s1 1 2 (.slice none 0 0) (by intro δ w; kernel_rfl) ?_
    refine SL_nil (n_then ?_)
    refine SW_seq ?_
    refine SW_seq ?_
    refine SW_region ?_
    refine SL_s2 2 4 (.bool false) 3 (.slice (some a) l.length c) (by intro δ w; kernel_rfl) ?_
    refine SL_nil (n_then ?_)
    refine SW_false (fun _ => rfl) ?_
    refine SW_skip (n_then ?_)
    refine SW_seq ?_
    refine SW_region ?_
    refine SL_cons ⟨rfl, fun _ => rfl⟩ (O_new (fun b => .slice (some ⟨b, 0, none⟩) 0 0) (.cells #[] 24 (0, 0)) (.cells 24 0 []) rfl (by intro δ w; kernel_rfl) ⟨rfl, rfl, rfl, rfl⟩ ?_)
    intro b1 hlb1 hnb1
    refine SL_s1 1 6 (.slice (some a) l.length c) (by intro δ w; kernel_rfl) ?_
    refine SL_sig ((Gs.ent 24 1 (Gs.at b1 0) (([] : List Int).map encU)) ++ (σ ++ ([]))) rfl ?_
    refine SL_cons ⟨rfl, fun _ => rfl⟩ (O_append (size := 1) (bytes := 8) (z := .int .u64 0) (Gs.at b1 0) 0 l.length (some a) c (([] : List Int).map encU) (l.map encU) ((([] : List Int) ++ l).map encU) (map_app _ _) (fun _ => rfl) (fun _ => rfl) Try.underlying22 (by kernel_rfl) rfl (by decide) ⟨Nat.le_refl _, by unfold maxLen; omega, rfl⟩ (by simp) (Src.elems (hs.mono (fun e he => (mem_a (mem_h he)))) (by simp)) (map_one (fun _ => rfl) _) (by omega) (by decide) rfl ?_)
    intro s2 hks2 hfs2
    rw [show 0 + l.length = (([] : List Int) ++ l).length from by simp]
    rw [show 0 + l.length = (([] : List Int) ++ l).length from by simp] at hks2
    have hls2 : (([] : List Int) ++ l).length = ([] : List Int).length + l.length := by simp
    refine SL_segT 1 [(2, Gs.val s2 ((([] : List Int) ++ l).length)), (4, .bool false), (0, .slice (some a) l.length c)] (by intro δ w; kernel_rfl) ?_
    refine SL_nil (n_then ?_)
    refine SW_ret ?_
    refine body_end (Gs.val s2 ((([] : List Int) ++ l).length)) (fun _ => rfl) ?_
    exact ⟨s2, (own_mk (J := ([])) (List.Perm.refl _) (by simp only [List.cons_append, List.append_assoc, List.nil_append, List.append_nil])), rfl, hks2⟩

theorem heap_Inner_none {W0 : World} {F : HeapF} {H : HeapV} (hH : H.ok F) {w : Int} (h0 : objAt w H.objs.length = none) : SC Try.prog W0 13 #[.pointer (some ⟨F.p, 0, none⟩), .int .u64 w] (HeapV.ent H F) (Ret (fun _ : Unit => H.ent F) (fun v _ => v = .slice none 0 0)) := by
  refine SC_body (fn := Try.f13) (n := 25) Try.func13 rfl (by kernel_rfl) (ρ := [(0, pt F.p 0), (1, .int .u64 w)]) rfl ?_
  refine SW_sig ((F.p, .cells 83 6 [Gs.val H.s H.objs.length, Gs.val H.ts H.texts.length, .map (some F.kb), pt F.T.p 0, pt F.cp 0, .int .i64 H.br]) :: ((Gs.ent 89 9 H.s (H.objs.flatMap ObjL.cells)) ++ ((H.objs.flatMap ObjL.ent) ++ ((Gs.ent 9 1 H.ts (H.texts.map encS)) ++ ((F.kb, .map (kvs encS encU H.known)) :: ((TreeV.ent H.V F.T) ++ ((CellsL.ent (CellsL.mk F.cp H.cs H.cl)) ++ ([])))))))) rfl ?_
  refine SW_seq ?_
  refine SW_region ?_
  refine SL_s1 1 4 (.slice none 0 0) (by intro δ w; kernel_rfl) ?_
  refine SL_nil (n_then ?_)
  refine SW_seq ?_
  refine SW_region ?_
  refine SL_s2 2 8 (.int .u64 w) 7 (pt F.p 0) (by intro δ w; kernel_rfl) ?_
  refine SL_perm _ (perm_cc (perm_ca (perm_ca (perm_ca (perm_cc (perm_ca perm_cz)))))) ?_
  refine SL_perm _ (perm_ca (perm_cc (perm_ca (perm_ca (perm_ca (perm_cc perm_cz)))))) ?_
  refine SL_perm _ (perm_a (perm_a (perm_c (perm_a (perm_a (perm_a perm_z)))))) ?_
  refine SL_perm _ (perm_cc (perm_ca (perm_ca (perm_cc (perm_ca (perm_ca perm_cz)))))) ?_
  refine SL_perm _ (perm_ca (perm_cc (perm_ca (perm_ca (perm_cc (perm_ca perm_cz)))))) ?_
  refine SL_perm _ (perm_ca (perm_ca (perm_cc (perm_ca (perm_ca (perm_cc perm_cz)))))) ?_
  refine SL_perm _ (perm_a (perm_a (perm_a (perm_c (perm_a (perm_a perm_z)))))) ?_
  refine SL_sig (((F.p, .cells 83 6 [Gs.val H.s H.objs.length, Gs.val H.ts H.texts.length, .map (some F.kb), pt F.T.p 0, pt F.cp 0, .int .i64 H.br]) :: ((Gs.ent 89 9 H.s (H.objs.flatMap ObjL.cells)) ++ ((H.objs.flatMap ObjL.ent) ++ ((Gs.ent 9 1 H.ts (H.texts.map encS)) ++ ((F.kb, .map (kvs encS encU H.known)) :: ((TreeV.ent H.V F.T) ++ ((CellsL.ent (CellsL.mk F.cp H.cs H.cl)) ++ ([])))))))) ++ ([])) (by simp only [List.cons_append, List.append_assoc, List.nil_append, List.append_nil]) ?_
  refine SL_cons ⟨rfl, fun _ => rfl⟩ (O_call 38 #[pt F.p 0, .int .u64 w] rfl (by intro δ w; kernel_rfl) ((heap_at hH w).use _) ?_)
  rintro v1 σ1 ⟨_, hσ1, hv1⟩
  obtain rfl : v1 = .pointer none := hv1.trans (by rw [h0])
  obtain rfl : σ1 = ((F.p, .cells 83 6 [Gs.val H.s H.objs.length, Gs.val H.ts H.texts.length, .map (some F.kb), pt F.T.p 0, pt F.cp 0, .int .i64 H.br]) :: ((Gs.ent 89 9 H.s (H.objs.flatMap ObjL.cells)) ++ ((H.objs.flatMap ObjL.ent) ++ ((Gs.ent 9 1 H.ts (H.texts.map encS)) ++ ((F.kb, .map (kvs encS encU H.known)) :: ((TreeV.ent H.V F.T) ++ ((CellsL.ent (CellsL.mk F.cp H.cs H.cl)) ++ ([])))))))) := hσ1.trans (by simp only [HeapV.ent, List.cons_append, List.append_assoc, List.nil_append, List.append_nil])
  refine SL_s1 1 5 (.pointer none) (by intro δ w; kernel_rfl) ?_
  refine SL_nil (n_then ?_)
  refine SW_seq ?_
  refine SW_seq ?_
  refine SW_region ?_
  refine SL_s2 2 11 (.bool true) 10 (.pointer none) (by intro δ w; kernel_rfl) ?_
  refine SL_nil (n_then ?_)
  refine SW_true (fun _ => rfl) ?_
  refine SW_seq ?_
  refine SW_region ?_
  refine SL_segT 1 [(4, .slice none 0 0), (11, .bool true), (5, .pointer none), (0, pt F.p 0), (1, .int .u64 w)] (by intro δ w; kernel_rfl) ?_
  refine SL_nil (n_then ?_)
  refine SW_ret (r_then ?_)
  refine body_end (.slice none 0 0) (fun _ => rfl) ?_
  exact ⟨(), (Own.of_perm (S := ((F.p, .cells 83 6 [Gs.val H.s H.objs.length, Gs.val H.ts H.texts.length, .map (some F.kb), pt F.T.p 0, pt F.cp 0, .int .i64 H.br]) :: ((Gs.ent 89 9 H.s (H.objs.flatMap ObjL.cells)) ++ ((H.objs.flatMap ObjL.ent) ++ ((Gs.ent 9 1 H.ts (H.texts.map encS)) ++ ((F.kb, .map (kvs encS encU H.known)) :: ((TreeV.ent H.V F.T) ++ ((CellsL.ent (CellsL.mk F.cp H.cs H.cl)) ++ ([]))))))))) (List.Perm.refl _)), rfl⟩

theorem heap_Inner_some {W0 : World} {F : HeapF} {H : HeapV} (hH : H.ok F) {w : Int} {n : Nat} {x : ObjL} (h0 : objAt w H.objs.length = some n) (hx : H.objs[n]? = some x) (hin : x.inner.length ≤ 1099511627776) : SC Try.prog W0 13 #[.pointer (some ⟨F.p, 0, none⟩), .int .u64 w] (HeapV.ent H F) (Ret (fun g : Gs => g.ent 24 1 (x.inner.map encU) ++ H.ent F) (fun v g => v = g.val x.inner.length ∧ g.ok 1 x.inner.length (x.inner.map encU))) := by
  refine SC_body (fn := Try.f13) (n := 25) Try.func13 rfl (by kernel_rfl) (ρ := [(0, pt F.p 0), (1, .int .u64 w)]) rfl ?_
  refine SW_sig ((F.p, .cells 83 6 [Gs.val H.s H.objs.length, Gs.val H.ts H.texts.length, .map (some F.kb), pt F.T.p 0, pt F.cp 0, .int .i64 H.br]) :: ((Gs.ent 89 9 H.s (H.objs.flatMap ObjL.cells)) ++ ((H.objs.flatMap ObjL.ent) ++ ((Gs.ent 9 1 H.ts (H.texts.map encS)) ++ ((F.kb, .map (kvs encS encU H.known)) :: ((TreeV.ent H.V F.T) ++ ((CellsL.ent (CellsL.mk F.cp H.cs H.cl)) ++ ([])))))))) rfl ?_
  refine SW_seq ?_
  refine SW_region ?_
  refine SL_s1 1 4 (.slice none 0 0) (by intro δ w; kernel_rfl) ?_
  refine SL_nil (n_then ?_)
  refine SW_seq ?_
  refine SW_region ?_
  refine SL_s2 2 8 (.int .u64 w) 7 (pt F.p 0) (by intro δ w; kernel_rfl) ?_
  refine SL_perm _ (perm_cc (perm_ca (perm_ca (perm_ca (perm_cc (perm_ca perm_cz)))))) ?_
  refine SL_perm _ (perm_ca (perm_cc (perm_ca (perm_ca (perm_ca (perm_cc perm_cz)))))) ?_
  refine SL_perm _ (perm_a (perm_a (perm_c (perm_a (perm_a (perm_a perm_z)))))) ?_
  refine SL_perm _ (perm_cc (perm_ca (perm_ca (perm_cc (perm_ca (perm_ca perm_cz)))))) ?_
  refine SL_perm _ (perm_ca (perm_cc (perm_ca (perm_ca (perm_cc (perm_ca perm_cz)))))) ?_
  refine SL_perm _ (perm_ca (perm_ca (perm_cc (perm_ca (perm_ca (perm_cc perm_cz)))))) ?_
  refine SL_perm _ (perm_a (perm_a (perm_a (perm_c (perm_a (perm_a perm_z)))))) ?_
  refine SL_sig (((F.p, .cells 83 6 [Gs.val H.s H.objs.length, Gs.val H.ts H.texts.length, .map (some F.kb), pt F.T.p 0, pt F.cp 0, .int .i64 H.br]) :: ((Gs.ent 89 9 H.s (H.objs.flatMap ObjL.cells)) ++ ((H.objs.flatMap ObjL.ent) ++ ((Gs.ent 9 1 H.ts (H.texts.map encS)) ++ ((F.kb, .map (kvs encS encU H.known)) :: ((TreeV.ent H.V F.T) ++ ((CellsL.ent (CellsL.mk F.cp H.cs H.cl)) ++ ([])))))))) ++ ([])) (by simp only [List.cons_append, List.append_assoc, List.nil_append, List.append_nil]) ?_
  refine SL_cons ⟨rfl, fun _ => rfl⟩ (O_call 38 #[pt F.p 0, .int .u64 w] rfl (by intro δ w; kernel_rfl) ((heap_at hH w).use _) ?_)
  rintro v1 σ1 ⟨_, hσ1, hv1⟩
  obtain rfl : v1 = pt (Gs.blk H.s) (n * 9) := hv1.trans (by rw [h0])
  obtain rfl : σ1 = ((F.p, .cells 83 6 [Gs.val H.s H.objs.length, Gs.val H.ts H.texts.length, .map (some F.kb), pt F.T.p 0, pt F.cp 0, .int .i64 H.br]) :: ((Gs.ent 89 9 H.s (H.objs.flatMap ObjL.cells)) ++ ((H.objs.flatMap ObjL.ent) ++ ((Gs.ent 9 1 H.ts (H.texts.map encS)) ++ ((F.kb, .map (kvs encS encU H.known)) :: ((TreeV.ent H.V F.T) ++ ((CellsL.ent (CellsL.mk F.cp H.cs H.cl)) ++ ([])))))))) := hσ1.trans (by simp only [HeapV.ent, List.cons_append, List.append_assoc, List.nil_append, List.append_nil])
  refine SL_s1 1 5 (pt (Gs.blk H.s) (n * 9)) (by intro δ w; kernel_rfl) ?_
  refine SL_nil (n_then ?_)
  refine SW_seq ?_
  refine SW_seq ?_
  refine SW_region ?_
  refine SL_s2 2 11 (.bool false) 10 (pt (Gs.blk H.s) (n * 9)) (by intro δ w; kernel_rfl) ?_
  refine SL_nil (n_then ?_)
  refine SW_false (fun _ => rfl) ?_
  refine SW_skip (n_then ?_)
  refine SW_seq ?_
  refine SW_region ?_
  refine SL_s3 3 14 (pt (Gs.blk H.s) (n * 9 + 7)) 13 (pt (Gs.blk H.s) (n * 9)) 12 (pt (Gs.blk H.s) (n * 9)) (by intro δ w; kernel_rfl) ?_
  refine SL_cons ⟨rfl, fun _ => rfl⟩ (O_load (Gs.blk H.s) (n * 9 + 7) (Gs.val x.is x.inner.length) (fun _ => rfl) (by kernel_rfl) (Gs.cell hH.row (fun e he => (mem_c (mem_h he))) (flat_cell ObjL.len hx (j := 7) (by decide) rfl)) rfl ?_)
  refine SL_s1 1 16 (.int .i64 (x.inner.length : Int)) (by intro δ w; kernel_rfl) ?_
  refine SL_cons ⟨rfl, fun _ => rfl⟩ (O_make1 (bytes := 8) x.inner.length (.int .u64 0) (fun _ => rfl) (fun _ => rfl) Try.underlying22 (by kernel_rfl) rfl (by omega) (by omega) rfl ?_)
  intro b1 hlb1 hnb1
  have hmkb1 : Gs.ok 1 x.inner.length (Gs.at b1 x.inner.length) ((List.replicate x.inner.length 0).map encU) := Gs.ok_make (by simp) (by unfold maxLen; omega)
  refine SL_sig ((Gs.ent 24 1 (Gs.at b1 x.inner.length) ((List.replicate x.inner.length 0).map encU)) ++ ((F.p, .cells 83 6 [Gs.val H.s H.objs.length, Gs.val H.ts H.texts.length, .map (some F.kb), pt F.T.p 0, pt F.cp 0, .int .i64 H.br]) :: ((Gs.ent 89 9 H.s (H.objs.flatMap ObjL.cells)) ++ ((H.objs.flatMap ObjL.ent) ++ ((Gs.ent 9 1 H.ts (H.texts.map encS)) ++ ((F.kb, .map (kvs encS encU H.known)) :: ((TreeV.ent H.V F.T) ++ ((CellsL.ent (CellsL.mk F.cp H.cs H.cl)) ++ ([]))))))))) (by rw [show ((List.replicate x.inner.length 0).map encU) = List.replicate x.inner.length (.int .u64 0) from by simp]) ?_
  refine SL_s1 1 6 (Gs.val (Gs.at b1 x.inner.length) x.inner.length) (by intro δ w; kernel_rfl) ?_
  refine SL_nil (n_then ?_)
  refine SW_seq ?_
  refine SW_region ?_
  refine SL_s4 4 21 (pt (Gs.blk H.s) (n * 9 + 7)) 20 (pt (Gs.blk H.s) (n * 9)) 19 (pt (Gs.blk H.s) (n * 9)) 18 (Gs.val (Gs.at b1 x.inner.length) x.inner.length) (by intro δ w; kernel_rfl) ?_
  refine SL_cons ⟨rfl, fun _ => rfl⟩ (O_load (Gs.blk H.s) (n * 9 + 7) (Gs.val x.is x.inner.length) (fun _ => rfl) (by kernel_rfl) (Gs.cell hH.row (fun e he => (mem_a (mem_c (mem_h he)))) (flat_cell ObjL.len hx (j := 7) (by decide) rfl)) rfl ?_)
  refine SL_cons ⟨rfl, fun _ => rfl⟩ (O_copy (Gs.at b1 x.inner.length) x.inner.length x.inner.length (Gs.addr x.is) (Gs.cap x.is) ((List.replicate x.inner.length 0).map encU) (x.inner.map encU) (x.inner.map encU) (fun _ => rfl) (fun _ => rfl) Try.underlying22 (by kernel_rfl) hmkb1 (by simp) (Gs.src0 (HeapV.ok.at hH hx).is (fun e he => (mem_a (mem_c (mem_a (mem_h ((ObjL.mis hx) _ he))))))) (map_one (fun _ => rfl) _) (lay_all (by simp)) rfl ?_)
  have hok1 : Gs.ok 1 x.inner.length (Gs.at b1 x.inner.length) (x.inner.map encU) := Gs.ok.relen hmkb1 (by simp)
  refine SL_nil (n_then ?_)
  refine SW_seq ?_
  refine SW_region ?_
  refine SL_segT 2 [(4, Gs.val (Gs.at b1 x.inner.length) x.inner.length), (6, Gs.val (Gs.at b1 x.inner.length) x.inner.length), (11, .bool false), (5, pt (Gs.blk H.s) (n * 9)), (0, pt F.p 0), (1, .int .u64 w)] (by intro δ w; kernel_rfl) ?_
  refine SL_nil (n_then ?_)
  refine SW_ret ?_
  refine body_end (Gs.val (Gs.at b1 x.inner.length) x.inner.length) (fun _ => rfl) ?_
  exact ⟨(Gs.at b1 x.inner.length), (Own.of_perm (S := ((Gs.ent 24 1 (Gs.at b1 x.inner.length) (x.inner.map encU)) ++ ((F.p, .cells 83 6 [Gs.val H.s H.objs.length, Gs.val H.ts H.texts.length, .map (some F.kb), pt F.T.p 0, pt F.cp 0, .int .i64 H.br]) :: ((Gs.ent 89 9 H.s (H.objs.flatMap ObjL.cells)) ++ ((H.objs.flatMap ObjL.ent) ++ ((Gs.ent 9 1 H.ts (H.texts.map encS)) ++ ((F.kb, .map (kvs encS encU H.known)) :: ((TreeV.ent H.V F.T) ++ ((CellsL.ent (CellsL.mk F.cp H.cs H.cl)) ++ ([])))))))))) (List.Perm.refl _)), rfl, hok1⟩

theorem heap_SetInner_none {W0 : World} {F : HeapF} {H : HeapV} (hH : H.ok F) {w : Int} (h0 : objAt w H.objs.length = none) {τ : Heaplet} {l : List Int} {A : Option Addr} {c : Nat} (hs : Src W0 τ A (l.map encU)) (hr : l.length ≤ 1099511627776) : SC Try.prog W0 12 #[.pointer (some ⟨F.p, 0, none⟩), .int .u64 w, .slice A l.length c] (HeapV.ent H F ++ (τ ++ [])) (Ret (fun _ : Unit => H.ent F ++ (τ ++ [])) (fun v _ => v = .tuple #[])) := by
  refine SC_body (fn := Try.f12) (n := 17) Try.func12 rfl (by kernel_rfl) (ρ := [(0, pt F.p 0), (1, .int .u64 w), (2, .slice A l.length c)]) rfl ?_
  refine SW_sig ((F.p, .cells 83 6 [Gs.val H.s H.objs.length, Gs.val H.ts H.texts.length, .map (some F.kb), pt F.T.p 0, pt F.cp 0, .int .i64 H.br]) :: ((Gs.ent 89 9 H.s (H.objs.flatMap ObjL.cells)) ++ ((H.objs.flatMap ObjL.ent) ++ ((Gs.ent 9 1 H.ts (H.texts.map encS)) ++ ((F.kb, .map (kvs encS encU H.known)) :: ((TreeV.ent H.V F.T) ++ ((CellsL.ent (CellsL.mk F.cp H.cs H.cl)) ++ (τ ++ ([]))))))))) (by simp only [HeapV.ent, List.cons_append, List.append_assoc, List.nil_append, List.append_nil]) ?_
  refine SW_seq ?_
  refine SW_region ?_
  refine SL_s2 2 8 (.int .u64 w) 7 (pt F.p 0) (by intro δ w; kernel_rfl) ?_
  refine SL_perm _ (perm_cc (perm_ca (perm_ca (perm_ca (perm_cc (perm_ca perm_cz)))))) ?_
  refine SL_perm _ (perm_ca (perm_cc (perm_ca (perm_ca (perm_ca (perm_cc perm_cz)))))) ?_
  refine SL_perm _ (perm_a (perm_a (perm_c (perm_a (perm_a (perm_a perm_z)))))) ?_
  refine SL_perm _ (perm_cc (perm_ca (perm_ca (perm_cc (perm_ca (perm_ca perm_cz)))))) ?_
  refine SL_perm _ (perm_ca (perm_cc (perm_ca (perm_ca (perm_cc (perm_ca perm_cz)))))) ?_
  refine SL_perm _ (perm_ca (perm_ca (perm_cc (perm_ca (perm_ca (perm_cc perm_cz)))))) ?_
  refine SL_perm _ (perm_a (perm_a (perm_a (perm_c (perm_a (perm_a perm_z)))))) ?_
  refine SL_sig (((F.p, .cells 83 6 [Gs.val H.s H.objs.length, Gs.val H.ts H.texts.length, .map (some F.kb), pt F.T.p 0, pt F.cp 0, .int .i64 H.br]) :: ((Gs.ent 89 9 H.s (H.objs.flatMap ObjL.cells)) ++ ((H.objs.flatMap ObjL.ent) ++ ((Gs.ent 9 1 H.ts (H.texts.map encS)) ++ ((F.kb, .map (kvs encS encU H.known)) :: ((TreeV.ent H.V F.T) ++ ((CellsL.ent (CellsL.mk F.cp H.cs H.cl)) ++ ([])))))))) ++ (τ ++ ([]))) (by simp only [List.cons_append, List.append_assoc, List.nil_append, List.append_nil]) ?_
  refine SL_cons ⟨rfl, fun _ => rfl⟩ (O_call 38 #[pt F.p 0, .int .u64 w] rfl (by intro δ w; kernel_rfl) ((heap_at hH w).use _) ?_)
  rintro v1 σ1 ⟨_, hσ1, hv1⟩
  obtain rfl : v1 = .pointer none := hv1.trans (by rw [h0])
  obtain rfl : σ1 = ((F.p, .cells 83 6 [Gs.val H.s H.objs.length, Gs.val H.ts H.texts.length, .map (some F.kb), pt F.T.p 0, pt F.cp 0, .int .i64 H.br]) :: ((Gs.ent 89 9 H.s (H.objs.flatMap ObjL.cells)) ++ ((H.objs.flatMap ObjL.ent) ++ ((Gs.ent 9 1 H.ts (H.texts.map encS)) ++ ((F.kb, .map (kvs encS encU H.known)) :: ((TreeV.ent H.V F.T) ++ ((CellsL.ent (CellsL.mk F.cp H.cs H.cl)) ++ (τ ++ ([]))))))))) := hσ1.trans (by simp only [HeapV.ent, List.cons_append, List.append_assoc, List.nil_append, List.append_nil])
  refine SL_s1 1 6 (.pointer none) (by intro δ w; kernel_rfl) ?_
  refine SL_nil (n_then ?_)
  refine SW_seq ?_
  refine SW_region ?_
  refine SL_s2 2 11 (.bool false) 10 (.pointer none) (by intro δ w; kernel_rfl) ?_
  refine SL_nil (n_then ?_)
  refine SW_false (fun _ => rfl) ?_
  refine SW_skip ?_
  refine body_end' (.tuple #[]) (fun _ => rfl) ?_
  refine ⟨(), Own.trans (Own.of_perm (S := ((F.p, .cells 83 6 [Gs.val H.s H.objs.length, Gs.val H.ts H.texts.length, .map (some F.kb), pt F.T.p 0, pt F.cp 0, .int .i64 H.br]) :: ((Gs.ent 89 9 H.s (H.objs.flatMap ObjL.cells)) ++ ((H.objs.flatMap ObjL.ent) ++ ((Gs.ent 9 1 H.ts (H.texts.map encS)) ++ ((F.kb, .map (kvs encS encU H.known)) :: ((TreeV.ent H.V F.T) ++ ((CellsL.ent (CellsL.mk F.cp H.cs H.cl)) ++ (τ ++ ([])))))))))) (List.Perm.refl _)) (Own.of_perm (List.Perm.of_eq ?_)), rfl⟩
  simp only [HeapV.ent, List.cons_append, List.append_assoc, List.nil_append, List.append_nil]

theorem heap_SetInner_some {W0 : World} {F : HeapF} {H : HeapV} (hH : H.ok F) {w : Int} {n : Nat} {x : ObjL} (h0 : objAt w H.objs.length = some n) (hx : H.objs[n]? = some x) {τ : Heaplet} {l : List Int} {A : Option Addr} {c : Nat} (hs : Src W0 τ A (l.map encU)) (hr : l.length ≤ 1099511627776) : SC Try.prog W0 12 #[.pointer (some ⟨F.p, 0, none⟩), .int .u64 w, .slice A l.length c] (HeapV.ent H F ++ (τ ++ [])) (Ret (fun g : Gs => (H.put n ⟨x.kind, x.proto, x.shut, x.shape, x.ns, x.names, x.vs, x.vals, x.es, x.elems, g, l, x.cell⟩).ent F ++ (τ ++ [])) (fun v g => v = .tuple #[] ∧ g.ok 1 l.length (l.map encU))) := by
  have hnl := (List.getElem?_eq_some_iff.1 hx).1
  refine SC_body (fn := Try.f12) (n := 17) Try.func12 rfl (by kernel_rfl) (ρ := [(0, pt F.p 0), (1, .int .u64 w), (2, .slice A l.length c)]) rfl ?_
  refine SW_sig ((F.p, .cells 83 6 [Gs.val H.s H.objs.length, Gs.val H.ts H.texts.length, .map (some F.kb), pt F.T.p 0, pt F.cp 0, .int .i64 H.br]) :: ((Gs.ent 89 9 H.s (H.objs.flatMap ObjL.cells)) ++ ((H.objs.flatMap ObjL.ent) ++ ((Gs.ent 9 1 H.ts (H.texts.map encS)) ++ ((F.kb, .map (kvs encS encU H.known)) :: ((TreeV.ent H.V F.T) ++ ((CellsL.ent (CellsL.mk F.cp H.cs H.cl)) ++ (τ ++ ([]))))))))) (by simp only [HeapV.ent, List.cons_append, List.append_assoc, List.nil_append, List.append_nil]) ?_
  refine SW_seq ?_
  refine SW_region ?_
  refine SL_s2 2 8 (.int .u64 w) 7 (pt F.p 0) (by intro δ w; kernel_rfl) ?_
  refine SL_perm _ (perm_cc (perm_ca (perm_ca (perm_ca (perm_cc (perm_ca perm_cz)))))) ?_
  refine SL_perm _ (perm_ca (perm_cc (perm_ca (perm_ca (perm_ca (perm_cc perm_cz)))))) ?_
  refine SL_perm _ (perm_a (perm_a (perm_c (perm_a (perm_a (perm_a perm_z)))))) ?_
  refine SL_perm _ (perm_cc (perm_ca (perm_ca (perm_cc (perm_ca (perm_ca perm_cz)))))) ?_
  refine SL_perm _ (perm_ca (perm_cc (perm_ca (perm_ca (perm_cc (perm_ca perm_cz)))))) ?_
  refine SL_perm _ (perm_ca (perm_ca (perm_cc (perm_ca (perm_ca (perm_cc perm_cz)))))) ?_
  refine SL_perm _ (perm_a (perm_a (perm_a (perm_c (perm_a (perm_a perm_z)))))) ?_
  refine SL_sig (((F.p, .cells 83 6 [Gs.val H.s H.objs.length, Gs.val H.ts H.texts.length, .map (some F.kb), pt F.T.p 0, pt F.cp 0, .int .i64 H.br]) :: ((Gs.ent 89 9 H.s (H.objs.flatMap ObjL.cells)) ++ ((H.objs.flatMap ObjL.ent) ++ ((Gs.ent 9 1 H.ts (H.texts.map encS)) ++ ((F.kb, .map (kvs encS encU H.known)) :: ((TreeV.ent H.V F.T) ++ ((CellsL.ent (CellsL.mk F.cp H.cs H.cl)) ++ ([])))))))) ++ (τ ++ ([]))) (by simp only [List.cons_append, List.append_assoc, List.nil_append, List.append_nil]) ?_
  refine SL_cons ⟨rfl, fun _ => rfl⟩ (O_call 38 #[pt F.p 0, .int .u64 w] rfl (by intro δ w; kernel_rfl) ((heap_at hH w).use _) ?_)
  rintro v1 σ1 ⟨_, hσ1, hv1⟩
  obtain rfl : v1 = pt (Gs.blk H.s) (n * 9) := hv1.trans (by rw [h0])
  obtain rfl : σ1 = ((F.p, .cells 83 6 [Gs.val H.s H.objs.length, Gs.val H.ts H.texts.length, .map (some F.kb), pt F.T.p 0, pt F.cp 0, .int .i64 H.br]) :: ((Gs.ent 89 9 H.s (H.objs.flatMap ObjL.cells)) ++ ((H.objs.flatMap ObjL.ent) ++ ((Gs.ent 9 1 H.ts (H.texts.map encS)) ++ ((F.kb, .map (kvs encS encU H.known)) :: ((TreeV.ent H.V F.T) ++ ((CellsL.ent (CellsL.mk F.cp H.cs H.cl)) ++ (τ ++ ([]))))))))) := hσ1.trans (by simp only [HeapV.ent, List.cons_append, List.append_assoc, List.nil_append, List.append_nil])
  refine SL_s1 1 6 (pt (Gs.blk H.s) (n * 9)) (by intro δ w; kernel_rfl) ?_
  refine SL_nil (n_then ?_)
  refine SW_seq ?_
  refine SW_region ?_
  refine SL_s2 2 11 (.bool true) 10 (pt (Gs.blk H.s) (n * 9)) (by intro δ w; kernel_rfl) ?_
  refine SL_nil (n_then ?_)
  refine SW_true (fun _ => rfl) ?_
  refine SW_perm _ (perm_cc (perm_ca perm_cz)) ?_
  refine SW_perm ((Gs.ent 9 1 x.ns (x.names.map encS)) ++ ((Gs.ent 42 3 x.vs (x.vals.flatMap descCells)) ++ ((Gs.ent 24 1 x.es (x.elems.map encU)) ++ ((Gs.ent 24 1 x.is (x.inner.map encU)) ++ (((List.eraseIdx H.objs n).flatMap ObjL.ent) ++ ((F.p, .cells 83 6 [Gs.val H.s H.objs.length, Gs.val H.ts H.texts.length, .map (some F.kb), pt F.T.p 0, pt F.cp 0, .int .i64 H.br]) :: ((Gs.ent 89 9 H.s (H.objs.flatMap ObjL.cells)) ++ ((Gs.ent 9 1 H.ts (H.texts.map encS)) ++ ((F.kb, .map (kvs encS encU H.known)) :: ((TreeV.ent H.V F.T) ++ ((CellsL.ent (CellsL.mk F.cp H.cs H.cl)) ++ (τ ++ ([]))))))))))))) (obj_focus hx _) ?_
  refine SW_region ?_
  refine SL_s2 2 13 (.slice A l.length c) 12 (pt (Gs.blk H.s) (n * 9)) (by intro δ w; kernel_rfl) ?_
  refine SL_sig (((Gs.ent 9 1 x.ns (x.names.map encS)) ++ ((Gs.ent 42 3 x.vs (x.vals.flatMap descCells)) ++ ((Gs.ent 24 1 x.es (x.elems.map encU)) ++ ((Gs.ent 24 1 x.is (x.inner.map encU)) ++ (((List.eraseIdx H.objs n).flatMap ObjL.ent) ++ ((F.p, .cells 83 6 [Gs.val H.s H.objs.length, Gs.val H.ts H.texts.length, .map (some F.kb), pt F.T.p 0, pt F.cp 0, .int .i64 H.br]) :: ((Gs.ent 89 9 H.s (H.objs.flatMap ObjL.cells)) ++ ((Gs.ent 9 1 H.ts (H.texts.map encS)) ++ ((F.kb, .map (kvs encS encU H.known)) :: ((TreeV.ent H.V F.T) ++ ((CellsL.ent (CellsL.mk F.cp H.cs H.cl)) ++ (τ ++ ([]))))))))))))) ++ []) (by simp only [List.append_nil]) ?_
  refine SL_cons ⟨rfl, fun _ => rfl⟩ (O_call 41 #[.slice A l.length c] rfl (by intro δ w; kernel_rfl) ((words_Clone (σ := ((Gs.ent 9 1 x.ns (x.names.map encS)) ++ ((Gs.ent 42 3 x.vs (x.vals.flatMap descCells)) ++ ((Gs.ent 24 1 x.es (x.elems.map encU)) ++ ((Gs.ent 24 1 x.is (x.inner.map encU)) ++ (((List.eraseIdx H.objs n).flatMap ObjL.ent) ++ ((F.p, .cells 83 6 [Gs.val H.s H.objs.length, Gs.val H.ts H.texts.length, .map (some F.kb), pt F.T.p 0, pt F.cp 0, .int .i64 H.br]) :: ((Gs.ent 89 9 H.s (H.objs.flatMap ObjL.cells)) ++ ((Gs.ent 9 1 H.ts (H.texts.map encS)) ++ ((F.kb, .map (kvs encS encU H.known)) :: ((TreeV.ent H.V F.T) ++ ((CellsL.ent (CellsL.mk F.cp H.cs H.cl)) ++ (τ ++ ([])))))))))))))) (hs.mono (fun e he => (mem_a (mem_a (mem_a (mem_a (mem_a (mem_c (mem_a (mem_a (mem_c (mem_a (mem_a (mem_h he)))))))))))))) hr).use _) ?_)
  rintro _ σ2 ⟨cg1, hσ2, rfl, hcg1⟩
  obtain rfl : σ2 = ((Gs.ent 24 1 cg1 (l.map encU)) ++ ((Gs.ent 9 1 x.ns (x.names.map encS)) ++ ((Gs.ent 42 3 x.vs (x.vals.flatMap descCells)) ++ ((Gs.ent 24 1 x.es (x.elems.map encU)) ++ ((Gs.ent 24 1 x.is (x.inner.map encU)) ++ (((List.eraseIdx H.objs n).flatMap ObjL.ent) ++ ((F.p, .cells 83 6 [Gs.val H.s H.objs.length, Gs.val H.ts H.texts.length, .map (some F.kb), pt F.T.p 0, pt F.cp 0, .int .i64 H.br]) :: ((Gs.ent 89 9 H.s (H.objs.flatMap ObjL.cells)) ++ ((Gs.ent 9 1 H.ts (H.texts.map encS)) ++ ((F.kb, .map (kvs encS encU H.known)) :: ((TreeV.ent H.V F.T) ++ ((CellsL.ent (CellsL.mk F.cp H.cs H.cl)) ++ (τ ++ ([])))))))))))))) := hσ2.trans (by simp only [List.cons_append, List.append_assoc, List.nil_append, List.append_nil])
  refine SL_s2 2 16 (pt (Gs.blk H.s) (n * 9 + 7)) 15 (pt (Gs.blk H.s) (n * 9)) (by intro δ w; kernel_rfl) ?_
  have hok1 := Gs.ok.relen (ys := ((H.objs.set n (ObjL.mk x.kind x.proto x.shut x.shape x.ns x.names x.vs x.vals x.es x.elems cg1 l x.cell)).flatMap ObjL.cells)) hH.row (by simp [flat_len ObjL.len])
  refine SL_perm _ (perm_ca (perm_ca (perm_ca (perm_ca (perm_ca (perm_ca (perm_cc perm_cz))))))) ?_
  refine SL_cons ⟨rfl, fun _ => rfl⟩ (O_storeG (ys := ((H.objs.set n (ObjL.mk x.kind x.proto x.shut x.shape x.ns x.names x.vs x.vals x.es x.elems cg1 l x.cell)).flatMap ObjL.cells)) H.s (n * 9 + 7) (Gs.val cg1 l.length) [Gs.val cg1 l.length] (Gs.ok.ne hH.row (by first | omega | (simp; omega))) (fun _ => rfl) (fun _ => rfl) rfl (by kernel_rfl) rfl (by rw [flat_len ObjL.len]; simp; omega) (row_lay (j := 7) ObjL.len (ObjL.mk x.kind x.proto x.shut x.shape x.ns x.names x.vs x.vals x.es x.elems cg1 l x.cell) hx (Nat.le_of_ble_eq_true rfl) rfl) rfl ?_)
  refine SL_nil ?_
  refine body_end' (.tuple #[]) (fun _ => rfl) ?_
  refine ⟨cg1, Own.trans (own_mk (S := ((F.p, .cells 83 6 [Gs.val H.s H.objs.length, Gs.val H.ts H.texts.length, .map (some F.kb), pt F.T.p 0, pt F.cp 0, .int .i64 H.br]) :: ((Gs.ent 89 9 H.s ((H.objs.set n (ObjL.mk x.kind x.proto x.shut x.shape x.ns x.names x.vs x.vals x.es x.elems cg1 l x.cell)).flatMap ObjL.cells)) ++ ((Gs.ent 9 1 x.ns (x.names.map encS)) ++ ((Gs.ent 42 3 x.vs (x.vals.flatMap descCells)) ++ ((Gs.ent 24 1 x.es (x.elems.map encU)) ++ ((Gs.ent 24 1 cg1 (l.map encU)) ++ (((List.eraseIdx H.objs n).flatMap ObjL.ent) ++ ((Gs.ent 9 1 H.ts (H.texts.map encS)) ++ ((F.kb, .map (kvs encS encU H.known)) :: ((TreeV.ent H.V F.T) ++ ((CellsL.ent (CellsL.mk F.cp H.cs H.cl)) ++ (τ ++ ([])))))))))))))) (J := ((Gs.ent 24 1 x.is (x.inner.map encU)) ++ ([]))) (List.Perm.trans (perm_a (perm_a (perm_a (perm_a (perm_a (perm_a (perm_a perm_z))))))) (List.Perm.cons _ (List.Perm.trans perm_cz (List.Perm.append_left _ (List.Perm.trans (perm_ca perm_cz) (List.Perm.append_left _ (List.Perm.trans (perm_ca perm_cz) (List.Perm.append_left _ (List.Perm.trans (perm_ca perm_cz) (List.Perm.append_left _ (List.Perm.trans perm_cz (List.Perm.append_left _ (List.Perm.trans (perm_ca perm_cz) (List.Perm.append_left _ (List.Perm.trans (perm_ca perm_cz) (List.Perm.append_left _ (List.Perm.trans (perm_a perm_z) (List.Perm.cons _ (List.Perm.trans (perm_ca perm_cz) (List.Perm.append_left _ (List.Perm.trans (perm_ca perm_cz) (List.Perm.append_left _ (List.Perm.trans (perm_ca perm_cz) (List.Perm.append_left _ (List.Perm.refl _))))))))))))))))))))))))) (by simp only [List.cons_append, List.append_assoc, List.nil_append, List.append_nil])) ?_, rfl, hcg1⟩
  have hb_ := (HeapV.back (H := H) F hx (ObjL.mk x.kind x.proto x.shut x.shape x.ns x.names x.vs x.vals x.es x.elems cg1 l x.cell)).append_right (τ ++ [])
  simp only [List.cons_append, List.append_assoc, List.nil_append, List.append_nil] at hb_ ⊢
  exact Own.of_perm hb_

end Go.Proofs.Ytdfhbheipagnmaa
