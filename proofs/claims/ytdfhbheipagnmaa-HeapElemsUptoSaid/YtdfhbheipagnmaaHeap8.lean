/-
  What functions of heap and word do to the memory they own, step by step: each theorem is one function's contract. Conditions: those that each theorem names.
-/
import Derived.Test.YtdfhbheipagnmaaHeapI
import Derived.Test.YtdfhbheipagnmaaHeap7
set_option linter.unusedVariables false
set_option linter.unusedSimpArgs false
set_option maxRecDepth 100000
set_option maxHeartbeats 4000000
namespace Go.Proofs.Ytdfhbheipagnmaa
open Go.Sl

theorem heap_SetElem_bad {W0 : World} {F : HeapF} {H : HeapV} (hH : H.ok F) {w wd : Int} {m : Int} (hbad : ¬ (0 ≤ m ∧ m < 4096)) : SC Try.prog W0 23 #[.pointer (some ⟨F.p, 0, none⟩), .int .u64 w, .int .i64 m, .int .u64 wd] (HeapV.ent H F) (Ret (fun _ : Unit => H.ent F) (fun v _ => v = .bool false)) := by
  refine SC_body (fn := Try.f23) (n := 44) Try.func23 rfl (by kernel_rfl) (ρ := [(0, pt F.p 0), (1, .int .u64 w), (2, .int .i64 m), (3, .int .u64 wd)]) rfl ?_
  refine SW_sig ((F.p, .cells 83 6 [Gs.val H.s H.objs.length, Gs.val H.ts H.texts.length, .map (some F.kb), pt F.T.p 0, pt F.cp 0, .int .i64 H.br]) :: ((Gs.ent 89 9 H.s (H.objs.flatMap ObjL.cells)) ++ ((H.objs.flatMap ObjL.ent) ++ ((Gs.ent 9 1 H.ts (H.texts.map encS)) ++ ((F.kb, .map (kvs encS encU H.known)) :: ((TreeV.ent H.V F.T) ++ ((CellsL.ent (CellsL.mk F.cp H.cs H.cl)) ++ ([])))))))) rfl ?_
  refine SW_seq ?_
  refine SW_region ?_
  refine SL_s1 1 8 (.bool false) (by intro δ w; kernel_rfl) ?_
  refine SL_nil (n_then ?_)
  refine SW_seq ?_
  refine SW_seq ?_
  refine SW_region ?_
  refine SL_s3 3 12 (.bool (decide (m < 0))) 11 (.bool (decide (m < 0))) 10 (.int .i64 m) (by intro δ w; kernel_rfl) ?_
  refine SL_tb (decide (m < 0)) (fun tb_ => [(12, .bool tb_), (11, .bool tb_), (10, .int .i64 m), (8, .bool false), (0, pt F.p 0), (1, .int .u64 w), (2, .int .i64 m), (3, .int .u64 wd)]) (fun hg1 => ?_) (fun hg1 => ?_)
  · skip
    replace hg1 := of_decide_eq_true hg1
    refine SL_segT 18 [(30, .bool true), (8, .bool false), (0, pt F.p 0), (1, .int .u64 w), (2, .int .i64 m), (3, .int .u64 wd)] (by intro δ w; kernel_rfl) ?_
    refine SL_nil (n_then ?_)
    refine SW_true (fun _ => rfl) ?_
    refine SW_seq ?_
    refine SW_region ?_
    refine SL_segT 1 [(8, .bool false), (30, .bool true), (0, pt F.p 0), (1, .int .u64 w), (2, .int .i64 m), (3, .int .u64 wd)] (by intro δ w; kernel_rfl) ?_
    refine SL_nil (n_then ?_)
    refine SW_ret (r_then ?_)
    refine body_end (.bool false) (fun _ => rfl) ?_
    exact ⟨(), (Own.of_perm (S := ((F.p, .cells 83 6 [Gs.val H.s H.objs.length, Gs.val H.ts H.texts.length, .map (some F.kb), pt F.T.p 0, pt F.cp 0, .int .i64 H.br]) :: ((Gs.ent 89 9 H.s (H.objs.flatMap ObjL.cells)) ++ ((H.objs.flatMap ObjL.ent) ++ ((Gs.ent 9 1 H.ts (H.texts.map encS)) ++ ((F.kb, .map (kvs encS encU H.known)) :: ((TreeV.ent H.V F.T) ++ ((CellsL.ent (CellsL.mk F.cp H.cs H.cl)) ++ ([]))))))))) (List.Perm.refl _)), rfl⟩
  · skip
    replace hg1 := of_decide_eq_false hg1
    refine SL_s4 4 16 (.bool (decide (m ≥ 4096))) 15 (.bool (decide (m ≥ 4096))) 14 (.bool (decide (m ≥ 4096))) 13 (.int .i64 m) (by intro δ w; kernel_rfl) ?_
    refine SL_tb (decide (m ≥ 4096)) (fun tb_ => [(16, .bool tb_), (15, .bool tb_), (14, .bool tb_), (13, .int .i64 m), (12, .bool false), (11, .bool false), (10, .int .i64 m), (8, .bool false), (0, pt F.p 0), (1, .int .u64 w), (2, .int .i64 m), (3, .int .u64 wd)]) (fun hg2 => ?_) (fun hg2 => ?_)
    · skip
      replace hg2 := of_decide_eq_true hg2
      refine SL_segT 14 [(30, .bool true), (8, .bool false), (0, pt F.p 0), (1, .int .u64 w), (2, .int .i64 m), (3, .int .u64 wd)] (by intro δ w; kernel_rfl) ?_
      refine SL_nil (n_then ?_)
      refine SW_true (fun _ => rfl) ?_
      refine SW_seq ?_
      refine SW_region ?_
      refine SL_segT 1 [(8, .bool false), (30, .bool true), (0, pt F.p 0), (1, .int .u64 w), (2, .int .i64 m), (3, .int .u64 wd)] (by intro δ w; kernel_rfl) ?_
      refine SL_nil (n_then ?_)
      refine SW_ret (r_then ?_)
      refine body_end (.bool false) (fun _ => rfl) ?_
      exact ⟨(), (Own.of_perm (S := ((F.p, .cells 83 6 [Gs.val H.s H.objs.length, Gs.val H.ts H.texts.length, .map (some F.kb), pt F.T.p 0, pt F.cp 0, .int .i64 H.br]) :: ((Gs.ent 89 9 H.s (H.objs.flatMap ObjL.cells)) ++ ((H.objs.flatMap ObjL.ent) ++ ((Gs.ent 9 1 H.ts (H.texts.map encS)) ++ ((F.kb, .map (kvs encS encU H.known)) :: ((TreeV.ent H.V F.T) ++ ((CellsL.ent (CellsL.mk F.cp H.cs H.cl)) ++ ([]))))))))) (List.Perm.refl _)), rfl⟩
    · skip
      replace hg2 := of_decide_eq_false hg2
      exact absurd (by omega) hbad

theorem heap_SetElem_fast {W0 : World} {F : HeapF} {H : HeapV} (hH : H.ok F) {w wd : Int} {n : Nat} {x : ObjL} (h0 : objAt w H.objs.length = some n) (hx : H.objs[n]? = some x) {k : Nat} (hB : H.bud k) (hk : k ≤ 8000000) {m : Nat} (hm4 : m < 4096) (hmx : m < x.elems.length) : SC Try.prog W0 23 #[.pointer (some ⟨F.p, 0, none⟩), .int .u64 w, .int .i64 (m : Int), .int .u64 wd] (HeapV.ent H F) (Ret (fun r : ObjL × List CellL × Int => (H.upd n r.1 H.V r.2.1 r.2.2).ent F) (fun v r => v = .bool true ∧ (H.upd n r.1 H.V r.2.1 r.2.2).ok F ∧ SameE x r.1 ((x.elems).set m wd) ∧ Chg x.cell H.cl r.2.1)) := by
  have hnl := (List.getElem?_eq_some_iff.1 hx).1
  refine SC_body (fn := Try.f23) (n := 44) Try.func23 rfl (by kernel_rfl) (ρ := [(0, pt F.p 0), (1, .int .u64 w), (2, .int .i64 (m : Int)), (3, .int .u64 wd)]) rfl ?_
  refine SW_sig ((F.p, .cells 83 6 [Gs.val H.s H.objs.length, Gs.val H.ts H.texts.length, .map (some F.kb), pt F.T.p 0, pt F.cp 0, .int .i64 H.br]) :: ((Gs.ent 89 9 H.s (H.objs.flatMap ObjL.cells)) ++ ((H.objs.flatMap ObjL.ent) ++ ((Gs.ent 9 1 H.ts (H.texts.map encS)) ++ ((F.kb, .map (kvs encS encU H.known)) :: ((TreeV.ent H.V F.T) ++ ((CellsL.ent (CellsL.mk F.cp H.cs H.cl)) ++ ([])))))))) rfl ?_
  refine SW_seq ?_
  refine SW_region ?_
  refine SL_s1 1 8 (.bool false) (by intro δ w; kernel_rfl) ?_
  refine SL_nil (n_then ?_)
  refine SW_seq ?_
  refine SW_seq ?_
  refine SW_region ?_
  refine SL_s3 3 12 (.bool (decide ((m : Int) < 0))) 11 (.bool (decide ((m : Int) < 0))) 10 (.int .i64 (m : Int)) (by intro δ w; kernel_rfl) ?_
  refine SL_rho [(12, .bool false), (11, .bool false), (10, .int .i64 (m : Int)), (8, .bool false), (0, pt F.p 0), (1, .int .u64 w), (2, .int .i64 (m : Int)), (3, .int .u64 wd)] (by rw [show (decide ((m : Int) < 0)) = false from (by simp <;> omega)] <;> rfl) ?_
  refine SL_s4 4 16 (.bool (decide ((m : Int) ≥ 4096))) 15 (.bool (decide ((m : Int) ≥ 4096))) 14 (.bool (decide ((m : Int) ≥ 4096))) 13 (.int .i64 (m : Int)) (by intro δ w; kernel_rfl) ?_
  refine SL_rho [(16, .bool false), (15, .bool false), (14, .bool false), (13, .int .i64 (m : Int)), (12, .bool false), (11, .bool false), (10, .int .i64 (m : Int)), (8, .bool false), (0, pt F.p 0), (1, .int .u64 w), (2, .int .i64 (m : Int)), (3, .int .u64 wd)] (by rw [show (decide ((m : Int) ≥ 4096)) = false from (by simp <;> omega)] <;> rfl) ?_
  refine SL_s3 3 19 (.int .u64 w) 18 (pt F.p 0) 17 (.int .i64 (m : Int)) (by intro δ w; kernel_rfl) ?_
  refine SL_perm _ (perm_cc (perm_ca (perm_ca (perm_ca (perm_cc (perm_ca perm_cz)))))) ?_
  refine SL_perm _ (perm_ca (perm_cc (perm_ca (perm_ca (perm_ca (perm_cc perm_cz)))))) ?_
  refine SL_perm _ (perm_a (perm_a (perm_c (perm_a (perm_a (perm_a perm_z)))))) ?_
  refine SL_perm _ (perm_cc (perm_ca (perm_ca (perm_cc (perm_ca (perm_ca perm_cz)))))) ?_
  refine SL_perm _ (perm_ca (perm_cc (perm_ca (perm_ca (perm_cc (perm_ca perm_cz)))))) ?_
  refine SL_perm _ (perm_ca (perm_ca (perm_cc (perm_ca (perm_ca (perm_cc perm_cz)))))) ?_
  refine SL_perm _ (perm_a (perm_a (perm_a (perm_c (perm_a (perm_a perm_z)))))) ?_
  refine SL_sig (((F.p, .cells 83 6 [Gs.val H.s H.objs.length, Gs.val H.ts H.texts.length, .map (some F.kb), pt F.T.p 0, pt F.cp 0, .int .i64 H.br]) :: ((Gs.ent 89 9 H.s (H.objs.flatMap ObjL.cells)) ++ ((H.objs.flatMap ObjL.ent) ++ ((Gs.ent 9 1 H.ts (H.texts.map encS)) ++ ((F.kb, .map (kvs encS encU H.known)) :: ((TreeV.ent H.V F.T) ++ ((CellsL.ent (CellsL.mk F.cp H.cs H.cl)) ++ ([])))))))) ++ ([])) (by simp only [List.cons_append, List.append_assoc, List.nil_append, List.append_nil]) ?_
  refine SL_cons ⟨rfl, fun _ => rfl⟩ (O_call 24 #[pt F.p 0, .int .u64 w] rfl (by intro δ w; kernel_rfl) ((heap_Len_some hH h0 hx).use _) ?_)
  rintro _ σ1 ⟨_, hσ1, rfl⟩
  obtain rfl : σ1 = ((F.p, .cells 83 6 [Gs.val H.s H.objs.length, Gs.val H.ts H.texts.length, .map (some F.kb), pt F.T.p 0, pt F.cp 0, .int .i64 H.br]) :: ((Gs.ent 89 9 H.s (H.objs.flatMap ObjL.cells)) ++ ((H.objs.flatMap ObjL.ent) ++ ((Gs.ent 9 1 H.ts (H.texts.map encS)) ++ ((F.kb, .map (kvs encS encU H.known)) :: ((TreeV.ent H.V F.T) ++ ((CellsL.ent (CellsL.mk F.cp H.cs H.cl)) ++ ([])))))))) := hσ1.trans (by simp only [HeapV.ent, List.cons_append, List.append_assoc, List.nil_append, List.append_nil])
  refine SL_s2 2 22 (.bool (decide ((m : Int) ≥ (x.elems.length : Int)))) 21 (.bool (decide ((m : Int) ≥ (x.elems.length : Int)))) (by intro δ w; kernel_rfl) ?_
  refine SL_rho [(22, .bool false), (21, .bool false), (20, .int .i64 (x.elems.length : Int)), (19, .int .u64 w), (18, pt F.p 0), (17, .int .i64 (m : Int)), (16, .bool false), (15, .bool false), (14, .bool false), (13, .int .i64 (m : Int)), (12, .bool false), (11, .bool false), (10, .int .i64 (m : Int)), (8, .bool false), (0, pt F.p 0), (1, .int .u64 w), (2, .int .i64 (m : Int)), (3, .int .u64 wd)] (by rw [show (decide ((m : Int) ≥ (x.elems.length : Int))) = false from (by simp <;> omega)] <;> rfl) ?_
  refine SL_segT 8 [(30, .bool false), (8, .bool false), (0, pt F.p 0), (1, .int .u64 w), (2, .int .i64 (m : Int)), (3, .int .u64 wd)] (by intro δ w; kernel_rfl) ?_
  refine SL_nil (n_then ?_)
  refine SW_false (fun _ => rfl) ?_
  refine SW_skip (n_then ?_)
  refine SW_seq ?_
  refine SW_region ?_
  refine SL_s2 2 32 (.int .u64 w) 31 (pt F.p 0) (by intro δ w; kernel_rfl) ?_
  refine SL_perm _ (perm_cc (perm_ca (perm_ca (perm_ca (perm_cc (perm_ca perm_cz)))))) ?_
  refine SL_perm _ (perm_ca (perm_cc (perm_ca (perm_ca (perm_ca (perm_cc perm_cz)))))) ?_
  refine SL_perm _ (perm_a (perm_a (perm_c (perm_a (perm_a (perm_a perm_z)))))) ?_
  refine SL_perm _ (perm_cc (perm_ca (perm_ca (perm_cc (perm_ca (perm_ca perm_cz)))))) ?_
  refine SL_perm _ (perm_ca (perm_cc (perm_ca (perm_ca (perm_cc (perm_ca perm_cz)))))) ?_
  refine SL_perm _ (perm_ca (perm_ca (perm_cc (perm_ca (perm_ca (perm_cc perm_cz)))))) ?_
  refine SL_perm _ (perm_a (perm_a (perm_a (perm_c (perm_a (perm_a perm_z)))))) ?_
  refine SL_sig (((F.p, .cells 83 6 [Gs.val H.s H.objs.length, Gs.val H.ts H.texts.length, .map (some F.kb), pt F.T.p 0, pt F.cp 0, .int .i64 H.br]) :: ((Gs.ent 89 9 H.s (H.objs.flatMap ObjL.cells)) ++ ((H.objs.flatMap ObjL.ent) ++ ((Gs.ent 9 1 H.ts (H.texts.map encS)) ++ ((F.kb, .map (kvs encS encU H.known)) :: ((TreeV.ent H.V F.T) ++ ((CellsL.ent (CellsL.mk F.cp H.cs H.cl)) ++ ([])))))))) ++ ([])) (by simp only [List.cons_append, List.append_assoc, List.nil_append, List.append_nil]) ?_
  refine SL_cons ⟨rfl, fun _ => rfl⟩ (O_call 38 #[pt F.p 0, .int .u64 w] rfl (by intro δ w; kernel_rfl) ((heap_at hH w).use _) ?_)
  rintro v2 σ2 ⟨_, hσ2, hv2⟩
  obtain rfl : v2 = pt (Gs.blk H.s) (n * 9) := hv2.trans (by rw [h0])
  obtain rfl : σ2 = ((F.p, .cells 83 6 [Gs.val H.s H.objs.length, Gs.val H.ts H.texts.length, .map (some F.kb), pt F.T.p 0, pt F.cp 0, .int .i64 H.br]) :: ((Gs.ent 89 9 H.s (H.objs.flatMap ObjL.cells)) ++ ((H.objs.flatMap ObjL.ent) ++ ((Gs.ent 9 1 H.ts (H.texts.map encS)) ++ ((F.kb, .map (kvs encS encU H.known)) :: ((TreeV.ent H.V F.T) ++ ((CellsL.ent (CellsL.mk F.cp H.cs H.cl)) ++ ([])))))))) := hσ2.trans (by simp only [HeapV.ent, List.cons_append, List.append_assoc, List.nil_append, List.append_nil])
  refine SL_s1 1 9 (pt (Gs.blk H.s) (n * 9)) (by intro δ w; kernel_rfl) ?_
  refine SL_nil (n_then ?_)
  refine SW_seq ?_
  refine SW_region ?_
  refine SL_s2 2 35 (pt (Gs.blk H.s) (n * 9)) 34 (pt F.p 0) (by intro δ w; kernel_rfl) ?_
  refine SL_perm _ (perm_cc (perm_ca (perm_ca (perm_ca (perm_cc (perm_ca perm_cz)))))) ?_
  refine SL_perm _ (perm_ca (perm_cc (perm_ca (perm_ca (perm_ca (perm_cc perm_cz)))))) ?_
  refine SL_perm _ (perm_a (perm_a (perm_c (perm_a (perm_a (perm_a perm_z)))))) ?_
  refine SL_perm _ (perm_cc (perm_ca (perm_ca (perm_cc (perm_ca (perm_ca perm_cz)))))) ?_
  refine SL_perm _ (perm_ca (perm_cc (perm_ca (perm_ca (perm_cc (perm_ca perm_cz)))))) ?_
  refine SL_perm _ (perm_ca (perm_ca (perm_cc (perm_ca (perm_ca (perm_cc perm_cz)))))) ?_
  refine SL_perm _ (perm_a (perm_a (perm_a (perm_c (perm_a (perm_a perm_z)))))) ?_
  refine SL_sig (((F.p, .cells 83 6 [Gs.val H.s H.objs.length, Gs.val H.ts H.texts.length, .map (some F.kb), pt F.T.p 0, pt F.cp 0, .int .i64 H.br]) :: ((Gs.ent 89 9 H.s (H.objs.flatMap ObjL.cells)) ++ ((H.objs.flatMap ObjL.ent) ++ ((Gs.ent 9 1 H.ts (H.texts.map encS)) ++ ((F.kb, .map (kvs encS encU H.known)) :: ((TreeV.ent H.V F.T) ++ ((CellsL.ent (CellsL.mk F.cp H.cs H.cl)) ++ ([])))))))) ++ ([])) (by simp only [List.cons_append, List.append_assoc, List.nil_append, List.append_nil]) ?_
  refine SL_cons ⟨rfl, fun _ => rfl⟩ (O_call 44 #[pt F.p 0, pt (Gs.blk H.s) (n * 9)] rfl (by intro δ w; kernel_rfl) ((heap_changed hH (n := n) hx hB hk).use _) ?_)
  rintro _ σ3 ⟨⟨cl1, br1⟩, hσ3, rfl, hccl1, hchcl1⟩
  obtain rfl : σ3 = ((F.p, .cells 83 6 [Gs.val H.s ((H.objs.set n (ObjL.chg x)).length), Gs.val H.ts H.texts.length, .map (some F.kb), pt F.T.p 0, pt F.cp 0, .int .i64 br1]) :: ((Gs.ent 89 9 H.s ((H.objs.set n (ObjL.chg x)).flatMap ObjL.cells)) ++ (((H.objs.set n (ObjL.chg x)).flatMap ObjL.ent) ++ ((Gs.ent 9 1 H.ts (H.texts.map encS)) ++ ((F.kb, .map (kvs encS encU H.known)) :: ((TreeV.ent H.V F.T) ++ ((CellsL.ent (CellsL.mk F.cp H.cs cl1)) ++ ([])))))))) := hσ3.trans (by simp only [HeapV.ent, List.cons_append, List.append_assoc, List.nil_append, List.append_nil])
  have hH1 : HeapV.ok (HeapV.mk H.s (H.objs.set n (ObjL.chg x)) H.ts H.texts H.known H.V H.cs cl1 br1) F := hH.chg hx hccl1 br1
  refine SL_nil (n_then ?_)
  refine SW_seq ?_
  refine SW_perm _ (perm_cc (perm_ca perm_cz)) ?_
  refine SW_perm ((Gs.ent 9 1 x.ns (x.names.map encS)) ++ ((Gs.ent 42 3 x.vs (x.vals.flatMap descCells)) ++ ((Gs.ent 24 1 x.es (x.elems.map encU)) ++ ((Gs.ent 24 1 x.is (x.inner.map encU)) ++ (((List.eraseIdx (H.objs.set n (ObjL.chg x)) n).flatMap ObjL.ent) ++ ((F.p, .cells 83 6 [Gs.val H.s ((H.objs.set n (ObjL.chg x)).length), Gs.val H.ts H.texts.length, .map (some F.kb), pt F.T.p 0, pt F.cp 0, .int .i64 br1]) :: ((Gs.ent 89 9 H.s ((H.objs.set n (ObjL.chg x)).flatMap ObjL.cells)) ++ ((Gs.ent 9 1 H.ts (H.texts.map encS)) ++ ((F.kb, .map (kvs encS encU H.known)) :: ((TreeV.ent H.V F.T) ++ ((CellsL.ent (CellsL.mk F.cp H.cs cl1)) ++ ([])))))))))))) (obj_focus (get_set hx) _) ?_
  refine SW_region ?_
  refine SL_s3 3 39 (pt (Gs.blk H.s) (n * 9 + 6)) 38 (pt (Gs.blk H.s) (n * 9)) 37 (pt (Gs.blk H.s) (n * 9)) (by intro δ w; kernel_rfl) ?_
  refine SL_cons ⟨rfl, fun _ => rfl⟩ (O_load (Gs.blk H.s) (n * 9 + 6) (Gs.val x.es x.elems.length) (fun _ => rfl) (by kernel_rfl) (Gs.cell hH1.row (fun e he => (mem_a (mem_a (mem_a (mem_a (mem_a (mem_c (mem_h he)))))))) (flat_cell ObjL.len (get_set hx) (j := 6) (by decide) rfl)) rfl ?_)
  refine SL_s2 2 42 (.int .u64 wd) 41 (.int .i64 (m : Int)) (by intro δ w; kernel_rfl) ?_
  refine SL_cons ⟨rfl, fun _ => rfl⟩ (O_indexAddr' (m : Int) (m) (Gs.blk x.es) 0 x.elems.length (Gs.cap x.es) .i64 1 Try.underlying22 (by kernel_rfl) (fun _ => gs_slice (Gs.ok.ne (show Gs.ok 1 (x.elems).length x.es (x.elems.map encU) from (HeapV.ok.at (x := (ObjL.chg x)) hH1 (get_set hx)).es) (by first | omega | (simp; omega)))) (fun _ => rfl) (by omega) (by omega) (by omega) rfl ?_)
  obtain ⟨e1, he1⟩ : ∃ y_, x.elems[m]? = some y_ := ⟨_, List.getElem?_eq_getElem (by omega)⟩
  have hok1 := Gs.ok.relen (ys := ((x.elems.set m wd).map encU)) (show Gs.ok 1 (x.elems).length x.es (x.elems.map encU) from (HeapV.ok.at (x := (ObjL.chg x)) hH1 (get_set hx)).es) (by simp)
  refine SL_perm _ (perm_ca (perm_ca perm_cz)) ?_
  refine SL_cons ⟨rfl, fun _ => rfl⟩ (O_storeG (ys := ((x.elems.set m wd).map encU)) x.es (m) (.int .u64 wd) [.int .u64 wd] (Gs.ok.ne (show Gs.ok 1 (x.elems).length x.es (x.elems.map encU) from (HeapV.ok.at (x := (ObjL.chg x)) hH1 (get_set hx)).es) (by first | omega | (simp; omega))) (fun _ => rfl) (fun _ => rfl) rfl (by kernel_rfl) rfl (by simp; omega) (row_lay_map wd (by omega)) rfl ?_)
  refine SL_nil (n_then ?_)
  refine SW_seq ?_
  refine SW_region ?_
  refine SL_segT 1 [(8, .bool true), (9, pt (Gs.blk H.s) (n * 9)), (30, .bool false), (0, pt F.p 0), (1, .int .u64 w), (2, .int .i64 (m : Int)), (3, .int .u64 wd)] (by intro δ w; kernel_rfl) ?_
  refine SL_nil (n_then ?_)
  have er : (H.objs.set n (ObjL.mk x.kind x.proto x.shut x.shape x.ns x.names x.vs x.vals x.es (x.elems.set m wd) x.is x.inner (if 0 ≤ x.cell then -1 else x.cell))).flatMap ObjL.cells = (H.objs.set n (ObjL.chg x)).flatMap ObjL.cells := set_cells (by simp [ObjL.cells])
  refine SW_sig ((Gs.ent 24 1 x.es ((x.elems.set m wd).map encU)) ++ ((Gs.ent 9 1 x.ns (x.names.map encS)) ++ ((Gs.ent 42 3 x.vs (x.vals.flatMap descCells)) ++ ((Gs.ent 24 1 x.is (x.inner.map encU)) ++ (((List.eraseIdx (H.objs.set n (ObjL.chg x)) n).flatMap ObjL.ent) ++ ((F.p, .cells 83 6 [Gs.val H.s ((H.objs.set n (ObjL.chg x)).length), Gs.val H.ts H.texts.length, .map (some F.kb), pt F.T.p 0, pt F.cp 0, .int .i64 br1]) :: ((Gs.ent 89 9 H.s ((H.objs.set n (ObjL.mk x.kind x.proto x.shut x.shape x.ns x.names x.vs x.vals x.es (x.elems.set m wd) x.is x.inner (if 0 ≤ x.cell then -1 else x.cell))).flatMap ObjL.cells)) ++ ((Gs.ent 9 1 H.ts (H.texts.map encS)) ++ ((F.kb, .map (kvs encS encU H.known)) :: ((TreeV.ent H.V F.T) ++ ((CellsL.ent (CellsL.mk F.cp H.cs cl1)) ++ ([])))))))))))) (by rw [er]) ?_
  refine SW_ret ?_
  refine body_end (.bool true) (fun _ => rfl) ?_
  refine ⟨((ObjL.mk x.kind x.proto x.shut x.shape x.ns x.names x.vs x.vals x.es (x.elems.set m wd) x.is x.inner (if 0 ≤ x.cell then -1 else x.cell)), cl1, br1), ?_, rfl, ?_, ⟨rfl, rfl, rfl, rfl, rfl, rfl, rfl, rfl, ?_, rfl, rfl, ?_⟩, hchcl1⟩
  · refine Own.trans (Own.of_perm (S := ((F.p, .cells 83 6 [Gs.val H.s ((H.objs.set n (ObjL.chg x)).length), Gs.val H.ts H.texts.length, .map (some F.kb), pt F.T.p 0, pt F.cp 0, .int .i64 br1]) :: ((Gs.ent 89 9 H.s ((H.objs.set n (ObjL.mk x.kind x.proto x.shut x.shape x.ns x.names x.vs x.vals x.es (x.elems.set m wd) x.is x.inner (if 0 ≤ x.cell then -1 else x.cell))).flatMap ObjL.cells)) ++ ((Gs.ent 9 1 x.ns (x.names.map encS)) ++ ((Gs.ent 42 3 x.vs (x.vals.flatMap descCells)) ++ ((Gs.ent 24 1 x.es ((x.elems.set m wd).map encU)) ++ ((Gs.ent 24 1 x.is (x.inner.map encU)) ++ (((List.eraseIdx (H.objs.set n (ObjL.chg x)) n).flatMap ObjL.ent) ++ ((Gs.ent 9 1 H.ts (H.texts.map encS)) ++ ((F.kb, .map (kvs encS encU H.known)) :: ((TreeV.ent H.V F.T) ++ ((CellsL.ent (CellsL.mk F.cp H.cs cl1)) ++ ([]))))))))))))) (List.Perm.trans (perm_a (perm_a (perm_a (perm_a (perm_a perm_z))))) (List.Perm.cons _ (List.Perm.trans (perm_ca (perm_ca (perm_ca (perm_ca (perm_ca perm_cz))))) (List.Perm.append_left _ (List.Perm.trans (perm_ca perm_cz) (List.Perm.append_left _ (List.Perm.trans (perm_ca perm_cz) (List.Perm.append_left _ (List.Perm.refl _)))))))))) (Own.of_perm ?_)
    have hb_ := HeapV.back (H := (HeapV.mk H.s (H.objs.set n (ObjL.chg x)) H.ts H.texts H.known H.V H.cs cl1 br1)) F (get_set hx) (ObjL.mk x.kind x.proto x.shut x.shape x.ns x.names x.vs x.vals x.es (x.elems.set m wd) x.is x.inner (if 0 ≤ x.cell then -1 else x.cell))
    simp only [HeapV.head, HeapV.put, List.set_set, List.length_set] at hb_ ⊢
    exact hb_
  · simpa only [HeapV.put, List.set_set, List.length_set] using HeapV.ok.put hH1 (get_set hx) (x' := (ObjL.mk x.kind x.proto x.shut x.shape x.ns x.names x.vs x.vals x.es (x.elems.set m wd) x.is x.inner (if 0 ≤ x.cell then -1 else x.cell))) ⟨(by first | exact (show Gs.ok 1 (x.names).length x.ns (x.names.map encS) from (HeapV.ok.at (x := (ObjL.chg x)) hH1 (get_set hx)).ns) | (simp only [List.length_set]; exact (show Gs.ok 1 (x.names).length x.ns (x.names.map encS) from (HeapV.ok.at (x := (ObjL.chg x)) hH1 (get_set hx)).ns))), (by first | exact (show Gs.ok 3 (x.vals).length x.vs (x.vals.flatMap descCells) from (HeapV.ok.at (x := (ObjL.chg x)) hH1 (get_set hx)).vs) | (simp only [List.length_set]; exact (show Gs.ok 3 (x.vals).length x.vs (x.vals.flatMap descCells) from (HeapV.ok.at (x := (ObjL.chg x)) hH1 (get_set hx)).vs))), (by first | exact hok1 | (simp only [List.length_set]; exact hok1)), (by first | exact (show Gs.ok 1 (x.inner).length x.is (x.inner.map encU) from (HeapV.ok.at (x := (ObjL.chg x)) hH1 (get_set hx)).is) | (simp only [List.length_set]; exact (show Gs.ok 1 (x.inner).length x.is (x.inner.map encU) from (HeapV.ok.at (x := (ObjL.chg x)) hH1 (get_set hx)).is)))⟩ (by simp only [List.length_set]; first | omega | exact hH.small x (List.mem_of_getElem? hx))
  · rfl
  · rfl

theorem heap_SetElem_slow {W0 : World} {F : HeapF} {H : HeapV} (hH : H.ok F) {w wd : Int} {n : Nat} {x : ObjL} (h0 : objAt w H.objs.length = some n) (hx : H.objs[n]? = some x) {k : Nat} (hB : H.bud k) (hk : k ≤ 8000000) {m : Nat} (hm4 : m < 4096) (hmx : x.elems.length ≤ m) : SC Try.prog W0 23 #[.pointer (some ⟨F.p, 0, none⟩), .int .u64 w, .int .i64 (m : Int), .int .u64 wd] (HeapV.ent H F) (Ret (fun r : ObjL × List CellL × Int => (H.upd n r.1 H.V r.2.1 r.2.2).ent F) (fun v r => v = .bool true ∧ (H.upd n r.1 H.V r.2.1 r.2.2).ok F ∧ SameE x r.1 ((setLenL x.elems (max x.elems.length (m + 1))).set m wd) ∧ Chg x.cell H.cl r.2.1)) := by
  have hnl := (List.getElem?_eq_some_iff.1 hx).1
  refine SC_body (fn := Try.f23) (n := 44) Try.func23 rfl (by kernel_rfl) (ρ := [(0, pt F.p 0), (1, .int .u64 w), (2, .int .i64 (m : Int)), (3, .int .u64 wd)]) rfl ?_
  refine SW_sig ((F.p, .cells 83 6 [Gs.val H.s H.objs.length, Gs.val H.ts H.texts.length, .map (some F.kb), pt F.T.p 0, pt F.cp 0, .int .i64 H.br]) :: ((Gs.ent 89 9 H.s (H.objs.flatMap ObjL.cells)) ++ ((H.objs.flatMap ObjL.ent) ++ ((Gs.ent 9 1 H.ts (H.texts.map encS)) ++ ((F.kb, .map (kvs encS encU H.known)) :: ((TreeV.ent H.V F.T) ++ ((CellsL.ent (CellsL.mk F.cp H.cs H.cl)) ++ ([])))))))) rfl ?_
  refine SW_seq ?_
  refine SW_region ?_
  refine SL_s1 1 8 (.bool false) (by intro δ w; kernel_rfl) ?_
  refine SL_nil (n_then ?_)
  refine SW_seq ?_
  refine SW_seq ?_
  refine SW_region ?_
  refine SL_s3 3 12 (.bool (decide ((m : Int) < 0))) 11 (.bool (decide ((m : Int) < 0))) 10 (.int .i64 (m : Int)) (by intro δ w; kernel_rfl) ?_
  refine SL_rho [(12, .bool false), (11, .bool false), (10, .int .i64 (m : Int)), (8, .bool false), (0, pt F.p 0), (1, .int .u64 w), (2, .int .i64 (m : Int)), (3, .int .u64 wd)] (by rw [show (decide ((m : Int) < 0)) = false from (by simp <;> omega)] <;> rfl) ?_
  refine SL_s4 4 16 (.bool (decide ((m : Int) ≥ 4096))) 15 (.bool (decide ((m : Int) ≥ 4096))) 14 (.bool (decide ((m : Int) ≥ 4096))) 13 (.int .i64 (m : Int)) (by intro δ w; kernel_rfl) ?_
  refine SL_rho [(16, .bool false), (15, .bool false), (14, .bool false), (13, .int .i64 (m : Int)), (12, .bool false), (11, .bool false), (10, .int .i64 (m : Int)), (8, .bool false), (0, pt F.p 0), (1, .int .u64 w), (2, .int .i64 (m : Int)), (3, .int .u64 wd)] (by rw [show (decide ((m : Int) ≥ 4096)) = false from (by simp <;> omega)] <;> rfl) ?_
  refine SL_s3 3 19 (.int .u64 w) 18 (pt F.p 0) 17 (.int .i64 (m : Int)) (by intro δ w; kernel_rfl) ?_
  refine SL_perm _ (perm_cc (perm_ca (perm_ca (perm_ca (perm_cc (perm_ca perm_cz)))))) ?_
  refine SL_perm _ (perm_ca (perm_cc (perm_ca (perm_ca (perm_ca (perm_cc perm_cz)))))) ?_
  refine SL_perm _ (perm_a (perm_a (perm_c (perm_a (perm_a (perm_a perm_z)))))) ?_
  refine SL_perm _ (perm_cc (perm_ca (perm_ca (perm_cc (perm_ca (perm_ca perm_cz)))))) ?_
  refine SL_perm _ (perm_ca (perm_cc (perm_ca (perm_ca (perm_cc (perm_ca perm_cz)))))) ?_
  refine SL_perm _ (perm_ca (perm_ca (perm_cc (perm_ca (perm_ca (perm_cc perm_cz)))))) ?_
  refine SL_perm _ (perm_a (perm_a (perm_a (perm_c (perm_a (perm_a perm_z)))))) ?_
  refine SL_sig (((F.p, .cells 83 6 [Gs.val H.s H.objs.length, Gs.val H.ts H.texts.length, .map (some F.kb), pt F.T.p 0, pt F.cp 0, .int .i64 H.br]) :: ((Gs.ent 89 9 H.s (H.objs.flatMap ObjL.cells)) ++ ((H.objs.flatMap ObjL.ent) ++ ((Gs.ent 9 1 H.ts (H.texts.map encS)) ++ ((F.kb, .map (kvs encS encU H.known)) :: ((TreeV.ent H.V F.T) ++ ((CellsL.ent (CellsL.mk F.cp H.cs H.cl)) ++ ([])))))))) ++ ([])) (by simp only [List.cons_append, List.append_assoc, List.nil_append, List.append_nil]) ?_
  refine SL_cons ⟨rfl, fun _ => rfl⟩ (O_call 24 #[pt F.p 0, .int .u64 w] rfl (by intro δ w; kernel_rfl) ((heap_Len_some hH h0 hx).use _) ?_)
  rintro _ σ1 ⟨_, hσ1, rfl⟩
  obtain rfl : σ1 = ((F.p, .cells 83 6 [Gs.val H.s H.objs.length, Gs.val H.ts H.texts.length, .map (some F.kb), pt F.T.p 0, pt F.cp 0, .int .i64 H.br]) :: ((Gs.ent 89 9 H.s (H.objs.flatMap ObjL.cells)) ++ ((H.objs.flatMap ObjL.ent) ++ ((Gs.ent 9 1 H.ts (H.texts.map encS)) ++ ((F.kb, .map (kvs encS encU H.known)) :: ((TreeV.ent H.V F.T) ++ ((CellsL.ent (CellsL.mk F.cp H.cs H.cl)) ++ ([])))))))) := hσ1.trans (by simp only [HeapV.ent, List.cons_append, List.append_assoc, List.nil_append, List.append_nil])
  refine SL_s2 2 22 (.bool (decide ((m : Int) ≥ (x.elems.length : Int)))) 21 (.bool (decide ((m : Int) ≥ (x.elems.length : Int)))) (by intro δ w; kernel_rfl) ?_
  refine SL_rho [(22, .bool true), (21, .bool true), (20, .int .i64 (x.elems.length : Int)), (19, .int .u64 w), (18, pt F.p 0), (17, .int .i64 (m : Int)), (16, .bool false), (15, .bool false), (14, .bool false), (13, .int .i64 (m : Int)), (12, .bool false), (11, .bool false), (10, .int .i64 (m : Int)), (8, .bool false), (0, pt F.p 0), (1, .int .u64 w), (2, .int .i64 (m : Int)), (3, .int .u64 wd)] (by rw [show (decide ((m : Int) ≥ (x.elems.length : Int))) = true from (by simp <;> omega)] <;> rfl) ?_
  refine SL_s4 4 26 (.int .i64 (IntKind.wrap .i64 ((m : Int) + 1))) 25 (.int .i64 (m : Int)) 24 (.int .u64 w) 23 (pt F.p 0) (by intro δ w; kernel_rfl) ?_
  rw [show IntKind.wrap .i64 ((m : Int) + 1) = (m : Int) + 1 from IntWalk.i64_in _ (by omega)]
  refine SL_perm _ (perm_cc (perm_ca (perm_ca (perm_ca (perm_cc (perm_ca perm_cz)))))) ?_
  refine SL_perm _ (perm_ca (perm_cc (perm_ca (perm_ca (perm_ca (perm_cc perm_cz)))))) ?_
  refine SL_perm _ (perm_a (perm_a (perm_c (perm_a (perm_a (perm_a perm_z)))))) ?_
  refine SL_perm _ (perm_cc (perm_ca (perm_ca (perm_cc (perm_ca (perm_ca perm_cz)))))) ?_
  refine SL_perm _ (perm_ca (perm_cc (perm_ca (perm_ca (perm_cc (perm_ca perm_cz)))))) ?_
  refine SL_perm _ (perm_ca (perm_ca (perm_cc (perm_ca (perm_ca (perm_cc perm_cz)))))) ?_
  refine SL_perm _ (perm_a (perm_a (perm_a (perm_c (perm_a (perm_a perm_z)))))) ?_
  refine SL_sig (((F.p, .cells 83 6 [Gs.val H.s H.objs.length, Gs.val H.ts H.texts.length, .map (some F.kb), pt F.T.p 0, pt F.cp 0, .int .i64 H.br]) :: ((Gs.ent 89 9 H.s (H.objs.flatMap ObjL.cells)) ++ ((H.objs.flatMap ObjL.ent) ++ ((Gs.ent 9 1 H.ts (H.texts.map encS)) ++ ((F.kb, .map (kvs encS encU H.known)) :: ((TreeV.ent H.V F.T) ++ ((CellsL.ent (CellsL.mk F.cp H.cs H.cl)) ++ ([])))))))) ++ ([])) (by simp only [List.cons_append, List.append_assoc, List.nil_append, List.append_nil]) ?_
  refine SL_cons ⟨rfl, fun _ => rfl⟩ (O_call 25 #[pt F.p 0, .int .u64 w, .int .i64 ((m : Int) + 1)] rfl (by intro δ w; kernel_rfl) ((heap_SetLen_long hH h0 hx hB hk (m := m + 1) (by omega) (by omega)).use _) ?_)
  rintro _ σ2 ⟨⟨eg1, cl1, br1⟩, hσ2, rfl, hH1, hchcl1⟩
  obtain rfl : σ2 = ((F.p, .cells 83 6 [Gs.val H.s ((H.objs.set n ((ObjL.chg x).withElems eg1 (setLenL x.elems (m + 1)))).length), Gs.val H.ts H.texts.length, .map (some F.kb), pt F.T.p 0, pt F.cp 0, .int .i64 br1]) :: ((Gs.ent 89 9 H.s ((H.objs.set n ((ObjL.chg x).withElems eg1 (setLenL x.elems (m + 1)))).flatMap ObjL.cells)) ++ (((H.objs.set n ((ObjL.chg x).withElems eg1 (setLenL x.elems (m + 1)))).flatMap ObjL.ent) ++ ((Gs.ent 9 1 H.ts (H.texts.map encS)) ++ ((F.kb, .map (kvs encS encU H.known)) :: ((TreeV.ent H.V F.T) ++ ((CellsL.ent (CellsL.mk F.cp H.cs cl1)) ++ ([])))))))) := hσ2.trans (by simp only [HeapV.ent, List.cons_append, List.append_assoc, List.nil_append, List.append_nil])
  simp only [] at hH1 hchcl1
  have hB2 : HeapV.bud (HeapV.mk H.s (H.objs.set n ((ObjL.chg x).withElems eg1 (setLenL x.elems (m + 1)))) H.ts H.texts H.known H.V H.cs cl1 br1) k := by obtain ⟨b1, b2, b3⟩ := Chg.bud hchcl1 hB; exact ⟨fun y hy => by rcases List.mem_or_eq_of_mem_set hy with q | q; exact hB.vals y q; (subst q; exact hB.vals x (List.mem_of_getElem? hx)), b1, b2, b3⟩
  have h02 : objAt w (H.objs.set n ((ObjL.chg x).withElems eg1 (setLenL x.elems (m + 1)))).length = some n := by rw [List.length_set]; exact h0
  have hll := setLenL_len x.elems (m + 1)
  refine SL_segT 3 [(30, .bool false), (8, .bool false), (0, pt F.p 0), (1, .int .u64 w), (2, .int .i64 (m : Int)), (3, .int .u64 wd)] (by intro δ w; kernel_rfl) ?_
  refine SL_nil (n_then ?_)
  refine SW_false (fun _ => rfl) ?_
  refine SW_skip (n_then ?_)
  refine SW_seq ?_
  refine SW_region ?_
  refine SL_s2 2 32 (.int .u64 w) 31 (pt F.p 0) (by intro δ w; kernel_rfl) ?_
  refine SL_perm _ (perm_cc (perm_ca (perm_ca (perm_ca (perm_cc (perm_ca perm_cz)))))) ?_
  refine SL_perm _ (perm_ca (perm_cc (perm_ca (perm_ca (perm_ca (perm_cc perm_cz)))))) ?_
  refine SL_perm _ (perm_a (perm_a (perm_c (perm_a (perm_a (perm_a perm_z)))))) ?_
  refine SL_perm _ (perm_cc (perm_ca (perm_ca (perm_cc (perm_ca (perm_ca perm_cz)))))) ?_
  refine SL_perm _ (perm_ca (perm_cc (perm_ca (perm_ca (perm_cc (perm_ca perm_cz)))))) ?_
  refine SL_perm _ (perm_ca (perm_ca (perm_cc (perm_ca (perm_ca (perm_cc perm_cz)))))) ?_
  refine SL_perm _ (perm_a (perm_a (perm_a (perm_c (perm_a (perm_a perm_z)))))) ?_
  refine SL_sig (((F.p, .cells 83 6 [Gs.val H.s ((H.objs.set n ((ObjL.chg x).withElems eg1 (setLenL x.elems (m + 1)))).length), Gs.val H.ts H.texts.length, .map (some F.kb), pt F.T.p 0, pt F.cp 0, .int .i64 br1]) :: ((Gs.ent 89 9 H.s ((H.objs.set n ((ObjL.chg x).withElems eg1 (setLenL x.elems (m + 1)))).flatMap ObjL.cells)) ++ (((H.objs.set n ((ObjL.chg x).withElems eg1 (setLenL x.elems (m + 1)))).flatMap ObjL.ent) ++ ((Gs.ent 9 1 H.ts (H.texts.map encS)) ++ ((F.kb, .map (kvs encS encU H.known)) :: ((TreeV.ent H.V F.T) ++ ((CellsL.ent (CellsL.mk F.cp H.cs cl1)) ++ ([])))))))) ++ ([])) (by simp only [List.cons_append, List.append_assoc, List.nil_append, List.append_nil]) ?_
  refine SL_cons ⟨rfl, fun _ => rfl⟩ (O_call 38 #[pt F.p 0, .int .u64 w] rfl (by intro δ w; kernel_rfl) ((heap_at hH1 w).use _) ?_)
  rintro v3 σ3 ⟨_, hσ3, hv3⟩
  obtain rfl : v3 = pt (Gs.blk H.s) (n * 9) := hv3.trans (by rw [h02])
  obtain rfl : σ3 = ((F.p, .cells 83 6 [Gs.val H.s ((H.objs.set n ((ObjL.chg x).withElems eg1 (setLenL x.elems (m + 1)))).length), Gs.val H.ts H.texts.length, .map (some F.kb), pt F.T.p 0, pt F.cp 0, .int .i64 br1]) :: ((Gs.ent 89 9 H.s ((H.objs.set n ((ObjL.chg x).withElems eg1 (setLenL x.elems (m + 1)))).flatMap ObjL.cells)) ++ (((H.objs.set n ((ObjL.chg x).withElems eg1 (setLenL x.elems (m + 1)))).flatMap ObjL.ent) ++ ((Gs.ent 9 1 H.ts (H.texts.map encS)) ++ ((F.kb, .map (kvs encS encU H.known)) :: ((TreeV.ent H.V F.T) ++ ((CellsL.ent (CellsL.mk F.cp H.cs cl1)) ++ ([])))))))) := hσ3.trans (by simp only [HeapV.ent, List.cons_append, List.append_assoc, List.nil_append, List.append_nil])
  refine SL_s1 1 9 (pt (Gs.blk H.s) (n * 9)) (by intro δ w; kernel_rfl) ?_
  refine SL_nil (n_then ?_)
  refine SW_seq ?_
  refine SW_region ?_
  refine SL_s2 2 35 (pt (Gs.blk H.s) (n * 9)) 34 (pt F.p 0) (by intro δ w; kernel_rfl) ?_
  refine SL_perm _ (perm_cc (perm_ca (perm_ca (perm_ca (perm_cc (perm_ca perm_cz)))))) ?_
  refine SL_perm _ (perm_ca (perm_cc (perm_ca (perm_ca (perm_ca (perm_cc perm_cz)))))) ?_
  refine SL_perm _ (perm_a (perm_a (perm_c (perm_a (perm_a (perm_a perm_z)))))) ?_
  refine SL_perm _ (perm_cc (perm_ca (perm_ca (perm_cc (perm_ca (perm_ca perm_cz)))))) ?_
  refine SL_perm _ (perm_ca (perm_cc (perm_ca (perm_ca (perm_cc (perm_ca perm_cz)))))) ?_
  refine SL_perm _ (perm_ca (perm_ca (perm_cc (perm_ca (perm_ca (perm_cc perm_cz)))))) ?_
  refine SL_perm _ (perm_a (perm_a (perm_a (perm_c (perm_a (perm_a perm_z)))))) ?_
  refine SL_sig (((F.p, .cells 83 6 [Gs.val H.s ((H.objs.set n ((ObjL.chg x).withElems eg1 (setLenL x.elems (m + 1)))).length), Gs.val H.ts H.texts.length, .map (some F.kb), pt F.T.p 0, pt F.cp 0, .int .i64 br1]) :: ((Gs.ent 89 9 H.s ((H.objs.set n ((ObjL.chg x).withElems eg1 (setLenL x.elems (m + 1)))).flatMap ObjL.cells)) ++ (((H.objs.set n ((ObjL.chg x).withElems eg1 (setLenL x.elems (m + 1)))).flatMap ObjL.ent) ++ ((Gs.ent 9 1 H.ts (H.texts.map encS)) ++ ((F.kb, .map (kvs encS encU H.known)) :: ((TreeV.ent H.V F.T) ++ ((CellsL.ent (CellsL.mk F.cp H.cs cl1)) ++ ([])))))))) ++ ([])) (by simp only [List.cons_append, List.append_assoc, List.nil_append, List.append_nil]) ?_
  refine SL_cons ⟨rfl, fun _ => rfl⟩ (O_call 44 #[pt F.p 0, pt (Gs.blk H.s) (n * 9)] rfl (by intro δ w; kernel_rfl) ((heap_changed hH1 (n := n) (get_set hx) hB2 hk).use _) ?_)
  rintro _ σ4 ⟨⟨cl2, br2⟩, hσ4, rfl, hccl2, hchcl2⟩
  obtain rfl : σ4 = ((F.p, .cells 83 6 [Gs.val H.s (((H.objs.set n ((ObjL.chg x).withElems eg1 (setLenL x.elems (m + 1)))).set n (ObjL.chg ((ObjL.chg x).withElems eg1 (setLenL x.elems (m + 1))))).length), Gs.val H.ts H.texts.length, .map (some F.kb), pt F.T.p 0, pt F.cp 0, .int .i64 br2]) :: ((Gs.ent 89 9 H.s (((H.objs.set n ((ObjL.chg x).withElems eg1 (setLenL x.elems (m + 1)))).set n (ObjL.chg ((ObjL.chg x).withElems eg1 (setLenL x.elems (m + 1))))).flatMap ObjL.cells)) ++ ((((H.objs.set n ((ObjL.chg x).withElems eg1 (setLenL x.elems (m + 1)))).set n (ObjL.chg ((ObjL.chg x).withElems eg1 (setLenL x.elems (m + 1))))).flatMap ObjL.ent) ++ ((Gs.ent 9 1 H.ts (H.texts.map encS)) ++ ((F.kb, .map (kvs encS encU H.known)) :: ((TreeV.ent H.V F.T) ++ ((CellsL.ent (CellsL.mk F.cp H.cs cl2)) ++ ([])))))))) := hσ4.trans (by simp only [HeapV.ent, List.cons_append, List.append_assoc, List.nil_append, List.append_nil])
  have hH2 : HeapV.ok (HeapV.mk H.s ((H.objs.set n ((ObjL.chg x).withElems eg1 (setLenL x.elems (m + 1)))).set n (ObjL.chg ((ObjL.chg x).withElems eg1 (setLenL x.elems (m + 1))))) H.ts H.texts H.known H.V H.cs cl2 br2) F := hH1.chg (get_set hx) hccl2 br2
  refine SL_nil (n_then ?_)
  refine SW_seq ?_
  refine SW_perm _ (perm_cc (perm_ca perm_cz)) ?_
  refine SW_perm ((Gs.ent 9 1 x.ns (x.names.map encS)) ++ ((Gs.ent 42 3 x.vs (x.vals.flatMap descCells)) ++ ((Gs.ent 24 1 eg1 ((setLenL x.elems (m + 1)).map encU)) ++ ((Gs.ent 24 1 x.is (x.inner.map encU)) ++ (((List.eraseIdx ((H.objs.set n ((ObjL.chg x).withElems eg1 (setLenL x.elems (m + 1)))).set n (ObjL.chg ((ObjL.chg x).withElems eg1 (setLenL x.elems (m + 1))))) n).flatMap ObjL.ent) ++ ((F.p, .cells 83 6 [Gs.val H.s (((H.objs.set n ((ObjL.chg x).withElems eg1 (setLenL x.elems (m + 1)))).set n (ObjL.chg ((ObjL.chg x).withElems eg1 (setLenL x.elems (m + 1))))).length), Gs.val H.ts H.texts.length, .map (some F.kb), pt F.T.p 0, pt F.cp 0, .int .i64 br2]) :: ((Gs.ent 89 9 H.s (((H.objs.set n ((ObjL.chg x).withElems eg1 (setLenL x.elems (m + 1)))).set n (ObjL.chg ((ObjL.chg x).withElems eg1 (setLenL x.elems (m + 1))))).flatMap ObjL.cells)) ++ ((Gs.ent 9 1 H.ts (H.texts.map encS)) ++ ((F.kb, .map (kvs encS encU H.known)) :: ((TreeV.ent H.V F.T) ++ ((CellsL.ent (CellsL.mk F.cp H.cs cl2)) ++ ([])))))))))))) (obj_focus (get_set (get_set hx)) _) ?_
  refine SW_region ?_
  refine SL_s3 3 39 (pt (Gs.blk H.s) (n * 9 + 6)) 38 (pt (Gs.blk H.s) (n * 9)) 37 (pt (Gs.blk H.s) (n * 9)) (by intro δ w; kernel_rfl) ?_
  refine SL_cons ⟨rfl, fun _ => rfl⟩ (O_load (Gs.blk H.s) (n * 9 + 6) (Gs.val eg1 ((setLenL x.elems (m + 1)).length)) (fun _ => rfl) (by kernel_rfl) (Gs.cell hH2.row (fun e he => (mem_a (mem_a (mem_a (mem_a (mem_a (mem_c (mem_h he)))))))) (flat_cell ObjL.len (get_set (get_set hx)) (j := 6) (by decide) rfl)) rfl ?_)
  refine SL_s2 2 42 (.int .u64 wd) 41 (.int .i64 (m : Int)) (by intro δ w; kernel_rfl) ?_
  refine SL_cons ⟨rfl, fun _ => rfl⟩ (O_indexAddr' (m : Int) (m) (Gs.blk eg1) 0 ((setLenL x.elems (m + 1)).length) (Gs.cap eg1) .i64 1 Try.underlying22 (by kernel_rfl) (fun _ => gs_slice (Gs.ok.ne (show Gs.ok 1 ((setLenL x.elems (m + 1))).length eg1 ((setLenL x.elems (m + 1)).map encU) from (HeapV.ok.at (x := (ObjL.chg ((ObjL.chg x).withElems eg1 (setLenL x.elems (m + 1))))) hH2 (get_set (get_set hx))).es) (by first | omega | (simp; omega)))) (fun _ => rfl) (by omega) (by omega) (by omega) rfl ?_)
  obtain ⟨e1, he1⟩ : ∃ y_, (setLenL x.elems (m + 1))[m]? = some y_ := ⟨_, List.getElem?_eq_getElem (by omega)⟩
  have hok1 := Gs.ok.relen (ys := (((setLenL x.elems (m + 1)).set m wd).map encU)) (show Gs.ok 1 ((setLenL x.elems (m + 1))).length eg1 ((setLenL x.elems (m + 1)).map encU) from (HeapV.ok.at (x := (ObjL.chg ((ObjL.chg x).withElems eg1 (setLenL x.elems (m + 1))))) hH2 (get_set (get_set hx))).es) (by simp)
  refine SL_perm _ (perm_ca (perm_ca perm_cz)) ?_
  refine SL_cons ⟨rfl, fun _ => rfl⟩ (O_storeG (ys := (((setLenL x.elems (m + 1)).set m wd).map encU)) eg1 (m) (.int .u64 wd) [.int .u64 wd] (Gs.ok.ne (show Gs.ok 1 ((setLenL x.elems (m + 1))).length eg1 ((setLenL x.elems (m + 1)).map encU) from (HeapV.ok.at (x := (ObjL.chg ((ObjL.chg x).withElems eg1 (setLenL x.elems (m + 1))))) hH2 (get_set (get_set hx))).es) (by first | omega | (simp; omega))) (fun _ => rfl) (fun _ => rfl) rfl (by kernel_rfl) rfl (by simp; omega) (row_lay_map wd (by omega)) rfl ?_)
  refine SL_nil (n_then ?_)
  refine SW_seq ?_
  refine SW_region ?_
  refine SL_segT 1 [(8, .bool true), (9, pt (Gs.blk H.s) (n * 9)), (30, .bool false), (0, pt F.p 0), (1, .int .u64 w), (2, .int .i64 (m : Int)), (3, .int .u64 wd)] (by intro δ w; kernel_rfl) ?_
  refine SL_nil (n_then ?_)
  have er : ((H.objs.set n ((ObjL.chg x).withElems eg1 (setLenL x.elems (m + 1)))).set n (ObjL.mk x.kind x.proto x.shut x.shape x.ns x.names x.vs x.vals eg1 ((setLenL x.elems (m + 1)).set m wd) x.is x.inner (if 0 ≤ ((ObjL.chg x).withElems eg1 (setLenL x.elems (m + 1))).cell then -1 else ((ObjL.chg x).withElems eg1 (setLenL x.elems (m + 1))).cell))).flatMap ObjL.cells = ((H.objs.set n ((ObjL.chg x).withElems eg1 (setLenL x.elems (m + 1)))).set n (ObjL.chg ((ObjL.chg x).withElems eg1 (setLenL x.elems (m + 1))))).flatMap ObjL.cells := set_cells (by simp [ObjL.cells])
  refine SW_sig ((Gs.ent 24 1 eg1 (((setLenL x.elems (m + 1)).set m wd).map encU)) ++ ((Gs.ent 9 1 x.ns (x.names.map encS)) ++ ((Gs.ent 42 3 x.vs (x.vals.flatMap descCells)) ++ ((Gs.ent 24 1 x.is (x.inner.map encU)) ++ (((List.eraseIdx ((H.objs.set n ((ObjL.chg x).withElems eg1 (setLenL x.elems (m + 1)))).set n (ObjL.chg ((ObjL.chg x).withElems eg1 (setLenL x.elems (m + 1))))) n).flatMap ObjL.ent) ++ ((F.p, .cells 83 6 [Gs.val H.s (((H.objs.set n ((ObjL.chg x).withElems eg1 (setLenL x.elems (m + 1)))).set n (ObjL.chg ((ObjL.chg x).withElems eg1 (setLenL x.elems (m + 1))))).length), Gs.val H.ts H.texts.length, .map (some F.kb), pt F.T.p 0, pt F.cp 0, .int .i64 br2]) :: ((Gs.ent 89 9 H.s (((H.objs.set n ((ObjL.chg x).withElems eg1 (setLenL x.elems (m + 1)))).set n (ObjL.mk x.kind x.proto x.shut x.shape x.ns x.names x.vs x.vals eg1 ((setLenL x.elems (m + 1)).set m wd) x.is x.inner (if 0 ≤ ((ObjL.chg x).withElems eg1 (setLenL x.elems (m + 1))).cell then -1 else ((ObjL.chg x).withElems eg1 (setLenL x.elems (m + 1))).cell))).flatMap ObjL.cells)) ++ ((Gs.ent 9 1 H.ts (H.texts.map encS)) ++ ((F.kb, .map (kvs encS encU H.known)) :: ((TreeV.ent H.V F.T) ++ ((CellsL.ent (CellsL.mk F.cp H.cs cl2)) ++ ([])))))))))))) (by rw [er]) ?_
  refine SW_ret ?_
  refine body_end (.bool true) (fun _ => rfl) ?_
  refine ⟨((ObjL.mk x.kind x.proto x.shut x.shape x.ns x.names x.vs x.vals eg1 ((setLenL x.elems (m + 1)).set m wd) x.is x.inner (if 0 ≤ ((ObjL.chg x).withElems eg1 (setLenL x.elems (m + 1))).cell then -1 else ((ObjL.chg x).withElems eg1 (setLenL x.elems (m + 1))).cell)), cl2, br2), ?_, rfl, ?_, ⟨rfl, rfl, rfl, rfl, rfl, rfl, rfl, rfl, ?_, rfl, rfl, ?_⟩, (by have q_ := hchcl2; unfold Chg at q_; rw [if_neg (show ¬ (0 : Int) ≤ (ObjL.cell _) from by show ¬ (0 : Int) ≤ (if 0 ≤ x.cell then -1 else x.cell); split <;> omega)] at q_; simp only [] at q_ ⊢; rw [q_]; exact hchcl1)⟩
  · refine Own.trans (Own.of_perm (S := ((F.p, .cells 83 6 [Gs.val H.s (((H.objs.set n ((ObjL.chg x).withElems eg1 (setLenL x.elems (m + 1)))).set n (ObjL.chg ((ObjL.chg x).withElems eg1 (setLenL x.elems (m + 1))))).length), Gs.val H.ts H.texts.length, .map (some F.kb), pt F.T.p 0, pt F.cp 0, .int .i64 br2]) :: ((Gs.ent 89 9 H.s (((H.objs.set n ((ObjL.chg x).withElems eg1 (setLenL x.elems (m + 1)))).set n (ObjL.mk x.kind x.proto x.shut x.shape x.ns x.names x.vs x.vals eg1 ((setLenL x.elems (m + 1)).set m wd) x.is x.inner (if 0 ≤ ((ObjL.chg x).withElems eg1 (setLenL x.elems (m + 1))).cell then -1 else ((ObjL.chg x).withElems eg1 (setLenL x.elems (m + 1))).cell))).flatMap ObjL.cells)) ++ ((Gs.ent 9 1 x.ns (x.names.map encS)) ++ ((Gs.ent 42 3 x.vs (x.vals.flatMap descCells)) ++ ((Gs.ent 24 1 eg1 (((setLenL x.elems (m + 1)).set m wd).map encU)) ++ ((Gs.ent 24 1 x.is (x.inner.map encU)) ++ (((List.eraseIdx ((H.objs.set n ((ObjL.chg x).withElems eg1 (setLenL x.elems (m + 1)))).set n (ObjL.chg ((ObjL.chg x).withElems eg1 (setLenL x.elems (m + 1))))) n).flatMap ObjL.ent) ++ ((Gs.ent 9 1 H.ts (H.texts.map encS)) ++ ((F.kb, .map (kvs encS encU H.known)) :: ((TreeV.ent H.V F.T) ++ ((CellsL.ent (CellsL.mk F.cp H.cs cl2)) ++ ([]))))))))))))) (List.Perm.trans (perm_a (perm_a (perm_a (perm_a (perm_a perm_z))))) (List.Perm.cons _ (List.Perm.trans (perm_ca (perm_ca (perm_ca (perm_ca (perm_ca perm_cz))))) (List.Perm.append_left _ (List.Perm.trans (perm_ca perm_cz) (List.Perm.append_left _ (List.Perm.trans (perm_ca perm_cz) (List.Perm.append_left _ (List.Perm.refl _)))))))))) (Own.of_perm ?_)
    have hb_ := HeapV.back (H := (HeapV.mk H.s ((H.objs.set n ((ObjL.chg x).withElems eg1 (setLenL x.elems (m + 1)))).set n (ObjL.chg ((ObjL.chg x).withElems eg1 (setLenL x.elems (m + 1))))) H.ts H.texts H.known H.V H.cs cl2 br2)) F (get_set (get_set hx)) (ObjL.mk x.kind x.proto x.shut x.shape x.ns x.names x.vs x.vals eg1 ((setLenL x.elems (m + 1)).set m wd) x.is x.inner (if 0 ≤ ((ObjL.chg x).withElems eg1 (setLenL x.elems (m + 1))).cell then -1 else ((ObjL.chg x).withElems eg1 (setLenL x.elems (m + 1))).cell))
    simp only [HeapV.head, HeapV.put, List.set_set, List.length_set] at hb_ ⊢
    exact hb_
  · simpa only [HeapV.put, List.set_set, List.length_set] using HeapV.ok.put hH2 (get_set (get_set hx)) (x' := (ObjL.mk x.kind x.proto x.shut x.shape x.ns x.names x.vs x.vals eg1 ((setLenL x.elems (m + 1)).set m wd) x.is x.inner (if 0 ≤ ((ObjL.chg x).withElems eg1 (setLenL x.elems (m + 1))).cell then -1 else ((ObjL.chg x).withElems eg1 (setLenL x.elems (m + 1))).cell))) ⟨(by first | exact (show Gs.ok 1 (x.names).length x.ns (x.names.map encS) from (HeapV.ok.at (x := (ObjL.chg ((ObjL.chg x).withElems eg1 (setLenL x.elems (m + 1))))) hH2 (get_set (get_set hx))).ns) | (simp only [List.length_set]; exact (show Gs.ok 1 (x.names).length x.ns (x.names.map encS) from (HeapV.ok.at (x := (ObjL.chg ((ObjL.chg x).withElems eg1 (setLenL x.elems (m + 1))))) hH2 (get_set (get_set hx))).ns))), (by first | exact (show Gs.ok 3 (x.vals).length x.vs (x.vals.flatMap descCells) from (HeapV.ok.at (x := (ObjL.chg ((ObjL.chg x).withElems eg1 (setLenL x.elems (m + 1))))) hH2 (get_set (get_set hx))).vs) | (simp only [List.length_set]; exact (show Gs.ok 3 (x.vals).length x.vs (x.vals.flatMap descCells) from (HeapV.ok.at (x := (ObjL.chg ((ObjL.chg x).withElems eg1 (setLenL x.elems (m + 1))))) hH2 (get_set (get_set hx))).vs))), (by first | exact hok1 | (simp only [List.length_set]; exact hok1)), (by first | exact (show Gs.ok 1 (x.inner).length x.is (x.inner.map encU) from (HeapV.ok.at (x := (ObjL.chg ((ObjL.chg x).withElems eg1 (setLenL x.elems (m + 1))))) hH2 (get_set (get_set hx))).is) | (simp only [List.length_set]; exact (show Gs.ok 1 (x.inner).length x.is (x.inner.map encU) from (HeapV.ok.at (x := (ObjL.chg ((ObjL.chg x).withElems eg1 (setLenL x.elems (m + 1))))) hH2 (get_set (get_set hx))).is)))⟩ (by simp only [List.length_set, setLenL_len]; first | omega | exact hH.small x (List.mem_of_getElem? hx))
  · rw [show max x.elems.length (m + 1) = m + 1 by omega]
  · show (if 0 ≤ (if 0 ≤ x.cell then -1 else x.cell) then -1 else (if 0 ≤ x.cell then -1 else x.cell)) = _; by_cases q_ : (0 : Int) ≤ x.cell <;> simp [q_]

end Go.Proofs.Ytdfhbheipagnmaa
