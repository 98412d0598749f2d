/-
  What functions of heap and word do to the memory they own, step by step: each theorem is one function's contract. Conditions: those that each theorem names.
-/
import Derived.Test.YtdfhbheipagnmaaHeap1
set_option linter.unusedVariables false
set_option linter.unusedSimpArgs false
set_option maxRecDepth 100000
set_option maxHeartbeats 4000000
namespace Go.Proofs.Ytdfhbheipagnmaa
open Go.Sl

theorem heap_changed {W0 : World} {F : HeapF} {H : HeapV} (hH : H.ok F) {n : Nat} {x : ObjL} (hx : H.objs[n]? = some x) {k : Nat} (hB : H.bud k) (hk : k ≤ 8000000) : SC Try.prog W0 44 #[.pointer (some ⟨F.p, 0, none⟩), .pointer (some ⟨Gs.blk H.s, n * 9, none⟩)] (HeapV.ent H F) (Ret (fun r : List CellL × Int => ((H.break r.1 r.2).put n x.chg).ent F) (fun v r => v = .tuple #[] ∧ CellsL.ok ⟨F.cp, H.cs, r.1⟩ ∧ Chg x.cell H.cl r.1)) := by
  have hnl := (List.getElem?_eq_some_iff.1 hx).1
  refine SC_body (fn := Try.f44) (n := 28) Try.func44 rfl (by kernel_rfl) (ρ := [(0, pt F.p 0), (1, pt (Gs.blk H.s) (n * 9))]) rfl ?_
  refine SW_sig ((F.p, .cells 83 6 [Gs.val H.s H.objs.length, Gs.val H.ts H.texts.length, .map (some F.kb), pt F.T.p 0, pt F.cp 0, .int .i64 H.br]) :: ((Gs.ent 89 9 H.s (H.objs.flatMap ObjL.cells)) ++ ((H.objs.flatMap ObjL.ent) ++ ((Gs.ent 9 1 H.ts (H.texts.map encS)) ++ ((F.kb, .map (kvs encS encU H.known)) :: ((TreeV.ent H.V F.T) ++ ((CellsL.ent (CellsL.mk F.cp H.cs H.cl)) ++ ([])))))))) rfl ?_
  refine SW_seq ?_
  refine SW_region ?_
  refine SL_s3 3 6 (pt (Gs.blk H.s) (n * 9 + 8)) 5 (pt (Gs.blk H.s) (n * 9)) 4 (pt (Gs.blk H.s) (n * 9)) (by intro δ w; kernel_rfl) ?_
  refine SL_cons ⟨rfl, fun _ => rfl⟩ (O_load (Gs.blk H.s) (n * 9 + 8) (.int .i64 x.cell) (fun _ => rfl) (by kernel_rfl) (Gs.cell hH.row (fun e he => (mem_c (mem_h he))) (flat_cell ObjL.len hx (j := 8) (by decide) rfl)) rfl ?_)
  refine SL_s1 1 8 (.bool (decide (x.cell ≥ 0))) (by intro δ w; kernel_rfl) ?_
  refine SL_nil (n_then ?_)
  refine SW_cond (decide (x.cell ≥ 0)) (fun _ => rfl) (fun hc1 => ?_) (fun hc1 => ?_)
  · skip
    replace hc1 := of_decide_eq_true hc1
    refine SW_seq ?_
    refine SW_draw [(F.p, 5, .int .i64 H.br), (F.p, 4, pt F.cp 0), ((Gs.blk H.s), n * 9 + 8, .int .i64 x.cell)] [0, 1, 2, 3, 4, 5, 6, 7, 8, 9, 10, 11, 12] (by kernel_rfl) (rd_cons (Cell.own mem_z rfl) (rd_cons (Cell.own mem_z rfl) (rd_cons (Gs.cell hH.row (fun e he => (mem_c (mem_h he))) (flat_cell ObjL.len hx (j := 8) (by decide) rfl)) rd_nil))) ?_
    refine SA_take (li' := #[true, false, false, false, false, false, false, false, false, false, false, false, false, false, false, false, false]) 0 _ (pt F.p 0) (fun _ _ _ h => h) rfl (by kernel_rfl) rfl (Or.inl ⟨fun _ => rfl, by intro δ w; kernel_rfl⟩) ?_
    refine SA_take (li' := #[true, true, false, false, false, false, false, false, false, false, false, false, false, false, false, false, false]) 1 _ (pt F.p 0) (fun _ _ _ h => h) rfl (by kernel_rfl) rfl (Or.inl ⟨fun _ => rfl, by intro δ w; kernel_rfl⟩) ?_
    refine SA_take (li' := #[true, true, true, false, false, false, false, false, false, false, false, false, false, false, false, false, false]) 2 _ (pt F.p 5) (fun _ _ _ h => h) rfl (by kernel_rfl) rfl (Or.inl ⟨fun _ => rfl, by intro δ w; kernel_rfl⟩) ?_
    refine SA_read (li' := #[true, true, true, true, false, false, false, false, false, false, false, false, false, false, false, false, false]) 3 _ (.int .i64 H.br) (fun _ _ _ h => h) rfl (by kernel_rfl) rfl (fun _ => rfl) (fun δ w hr => Rd_load F.p 5 (.int .i64 H.br) rfl (by kernel_rfl) List.mem_cons_self hr) ?_
    refine SA_take (li' := #[true, true, true, true, true, false, false, false, false, false, false, false, false, false, false, false, false]) 4 _ (pt F.p 0) (fun _ _ _ h => h) rfl (by kernel_rfl) rfl (Or.inl ⟨fun _ => rfl, by intro δ w; kernel_rfl⟩) ?_
    refine SA_take (li' := #[true, true, true, true, true, true, false, false, false, false, false, false, false, false, false, false, false]) 5 _ (pt F.p 0) (fun _ _ _ h => h) rfl (by kernel_rfl) rfl (Or.inl ⟨fun _ => rfl, by intro δ w; kernel_rfl⟩) ?_
    refine SA_take (li' := #[true, true, true, true, true, true, true, false, false, false, false, false, false, false, false, false, false]) 6 _ (pt F.p 4) (fun _ _ _ h => h) rfl (by kernel_rfl) rfl (Or.inl ⟨fun _ => rfl, by intro δ w; kernel_rfl⟩) ?_
    refine SA_trim [(15, pt F.p 4), (12, .int .i64 H.br), (9, pt F.p 0), (8, .bool (decide (x.cell ≥ 0))), (0, pt F.p 0), (1, pt (Gs.blk H.s) (n * 9))] (fun _ => rfl) ?_
    refine SA_read (li' := #[true, true, true, true, true, true, true, true, false, false, false, false, false, false, false, false, false]) 7 _ (pt F.cp 0) (fun _ _ _ h => h) rfl (by kernel_rfl) rfl (fun _ => rfl) (fun δ w hr => Rd_load F.p 4 (pt F.cp 0) rfl (by kernel_rfl) (List.mem_cons_of_mem _ List.mem_cons_self) hr) ?_
    refine SA_take (li' := #[true, true, true, true, true, true, true, true, true, false, false, false, false, false, false, false, false]) 8 _ (pt (Gs.blk H.s) (n * 9)) (fun _ _ _ h => h) rfl (by kernel_rfl) rfl (Or.inl ⟨fun _ => rfl, by intro δ w; kernel_rfl⟩) ?_
    refine SA_take (li' := #[true, true, true, true, true, true, true, true, true, true, false, false, false, false, false, false, false]) 9 _ (pt (Gs.blk H.s) (n * 9)) (fun _ _ _ h => h) rfl (by kernel_rfl) rfl (Or.inl ⟨fun _ => rfl, by intro δ w; kernel_rfl⟩) ?_
    refine SA_take (li' := #[true, true, true, true, true, true, true, true, true, true, true, false, false, false, false, false, false]) 10 _ (pt (Gs.blk H.s) (n * 9 + 8)) (fun _ _ _ h => h) rfl (by kernel_rfl) rfl (Or.inl ⟨fun _ => rfl, by intro δ w; kernel_rfl⟩) ?_
    refine SA_read (li' := #[true, true, true, true, true, true, true, true, true, true, true, true, false, false, false, false, false]) 11 _ (.int .i64 x.cell) (fun _ _ _ h => h) rfl (by kernel_rfl) rfl (fun _ => rfl) (fun δ w hr => Rd_load (Gs.blk H.s) (n * 9 + 8) (.int .i64 x.cell) rfl (by kernel_rfl) (List.mem_cons_of_mem _ (List.mem_cons_of_mem _ List.mem_cons_self)) hr) ?_
    refine SA_perm _ (perm_cc (perm_ca (perm_ca (perm_ca (perm_cc (perm_ca perm_cz)))))) ?_
    refine SA_one true (li' := #[true, true, true, true, true, true, true, true, true, true, true, true, true, false, false, false, false]) 12 _ rfl rfl (by kernel_rfl) ⟨rfl, fun _ => rfl⟩ rfl (O_call 76 #[pt F.cp 0, .int .i64 x.cell] rfl (by intro δ w; kernel_rfl) ((cells_break hH.cells (Nat.le_trans hB.abv (Nat.le_trans hB.cl (by omega))) x.cell).use _) ?_)
    rintro _ σ2 ⟨r, hσ2, rfl, hrok, hrb⟩
    obtain rfl : σ2 = ((CellsL.ent (CellsL.mk F.cp H.cs r.1)) ++ ((F.p, .cells 83 6 [Gs.val H.s H.objs.length, Gs.val H.ts H.texts.length, .map (some F.kb), pt F.T.p 0, pt F.cp 0, .int .i64 H.br]) :: ((Gs.ent 89 9 H.s (H.objs.flatMap ObjL.cells)) ++ ((H.objs.flatMap ObjL.ent) ++ ((Gs.ent 9 1 H.ts (H.texts.map encS)) ++ ((F.kb, .map (kvs encS encU H.known)) :: ((TreeV.ent H.V F.T) ++ ([])))))))) := hσ2.trans (rfl)
    refine ⟨fun hnd => (rd_cons (Cell.own (mem_a mem_z) rfl) (rd_cons (Cell.own (mem_a mem_z) rfl) (rd_cons (Gs.cell hH.row (fun e he => (mem_a (mem_c (mem_h he)))) (flat_cell ObjL.len hx (j := 8) (by decide) rfl)) rd_nil))), ?_⟩
    refine SA_take (li' := #[true, true, true, true, true, true, true, true, true, true, true, true, true, true, false, false, false]) 13 _ (.int .i64 (IntKind.wrap .i64 (H.br + r.2))) (fun _ _ _ h => h) rfl (by kernel_rfl) rfl (Or.inl ⟨fun _ => rfl, by intro δ w; kernel_rfl⟩) ?_
    refine SA_trim [(22, .int .i64 (IntKind.wrap .i64 (H.br + r.2))), (9, pt F.p 0), (8, .bool (decide (x.cell ≥ 0))), (0, pt F.p 0), (1, pt (Gs.blk H.s) (n * 9))] (fun _ => rfl) ?_
    refine SA_take (li' := #[true, true, true, true, true, true, true, true, true, true, true, true, true, true, true, false, false]) 14 _ (pt F.p 0) (fun _ _ _ h => h) rfl (by kernel_rfl) rfl (Or.inl ⟨fun _ => rfl, by intro δ w; kernel_rfl⟩) ?_
    refine SA_take (li' := #[true, true, true, true, true, true, true, true, true, true, true, true, true, true, true, true, false]) 15 _ (pt F.p 5) (fun _ _ _ h => h) rfl (by kernel_rfl) rfl (Or.inl ⟨fun _ => rfl, by intro δ w; kernel_rfl⟩) ?_
    refine SA_perm _ (perm_a perm_z) ?_
    refine SA_one false (li' := #[true, true, true, true, true, true, true, true, true, true, true, true, true, true, true, true, true]) 16 _ rfl rfl (by kernel_rfl) ⟨rfl, fun _ => rfl⟩ rfl (O_store F.p 5 (.int .i64 (IntKind.wrap .i64 (H.br + r.2))) [.int .i64 (IntKind.wrap .i64 (H.br + r.2))] (fun _ => rfl) (fun _ => rfl) rfl (by kernel_rfl) rfl (by simp only [List.length_cons, List.length_nil]; omega) rfl ?_)
    refine ⟨fun hnd => (by cases hnd), ?_⟩
    refine SA_sig ((F.p, .cells 83 6 [Gs.val H.s H.objs.length, Gs.val H.ts H.texts.length, .map (some F.kb), pt F.T.p 0, pt F.cp 0, .int .i64 (IntKind.wrap .i64 (H.br + r.2))]) :: ((CellsL.ent (CellsL.mk F.cp H.cs r.1)) ++ ((Gs.ent 89 9 H.s (H.objs.flatMap ObjL.cells)) ++ ((H.objs.flatMap ObjL.ent) ++ ((Gs.ent 9 1 H.ts (H.texts.map encS)) ++ ((F.kb, .map (kvs encS encU H.known)) :: ((TreeV.ent H.V F.T) ++ ([])))))))) rfl ?_
    refine SA_done (by kernel_rfl) (n_then ?_)
    refine SW_region ?_
    refine SL_s3 3 27 (pt (Gs.blk H.s) (n * 9 + 8)) 26 (pt (Gs.blk H.s) (n * 9)) 25 (pt (Gs.blk H.s) (n * 9)) (by intro δ w; kernel_rfl) ?_
    have hok1 := Gs.ok.relen (ys := ((H.objs.set n (ObjL.mk x.kind x.proto x.shut x.shape x.ns x.names x.vs x.vals x.es x.elems x.is x.inner (-1))).flatMap ObjL.cells)) hH.row (by simp [flat_len ObjL.len])
    refine SL_perm _ (perm_cc (perm_ca perm_cz)) ?_
    refine SL_cons ⟨rfl, fun _ => rfl⟩ (O_storeG (ys := ((H.objs.set n (ObjL.mk x.kind x.proto x.shut x.shape x.ns x.names x.vs x.vals x.es x.elems x.is x.inner (-1))).flatMap ObjL.cells)) H.s (n * 9 + 8) (.int .i64 (-1)) [.int .i64 (-1)] (Gs.ok.ne hH.row (by first | omega | (simp; omega))) (fun _ => rfl) (fun _ => rfl) rfl (by kernel_rfl) rfl (by rw [flat_len ObjL.len]; simp; omega) (row_lay (j := 8) ObjL.len (ObjL.mk x.kind x.proto x.shut x.shape x.ns x.names x.vs x.vals x.es x.elems x.is x.inner (-1)) hx (Nat.le_of_ble_eq_true rfl) rfl) rfl ?_)
    refine SL_nil ?_
    refine body_end' (.tuple #[]) (fun _ => rfl) ?_
    refine ⟨(r.1, IntKind.wrap .i64 (H.br + r.2)), ?_, rfl, hrok, by unfold Chg; rw [if_pos (by omega)]; exact hrb⟩
    have e : ObjL.chg x = ObjL.mk x.kind x.proto x.shut x.shape x.ns x.names x.vs x.vals x.es x.elems x.is x.inner (-1) := by unfold ObjL.chg; rw [if_pos (by omega)]
    simp only [HeapV.put, HeapV.break, e]
    refine Own.trans (Own.of_perm (S := ((F.p, .cells 83 6 [Gs.val H.s H.objs.length, Gs.val H.ts H.texts.length, .map (some F.kb), pt F.T.p 0, pt F.cp 0, .int .i64 (IntKind.wrap .i64 (H.br + r.2))]) :: ((Gs.ent 89 9 H.s ((H.objs.set n (ObjL.mk x.kind x.proto x.shut x.shape x.ns x.names x.vs x.vals x.es x.elems x.is x.inner (-1))).flatMap ObjL.cells)) ++ ((H.objs.flatMap ObjL.ent) ++ ((Gs.ent 9 1 H.ts (H.texts.map encS)) ++ ((F.kb, .map (kvs encS encU H.known)) :: ((TreeV.ent H.V F.T) ++ ((CellsL.ent (CellsL.mk F.cp H.cs r.1)) ++ ([]))))))))) (List.Perm.trans (perm_a perm_z) (List.Perm.cons _ (List.Perm.trans perm_cz (List.Perm.append_left _ (List.Perm.trans (perm_ca perm_cz) (List.Perm.append_left _ (List.Perm.trans (perm_ca perm_cz) (List.Perm.append_left _ (List.Perm.trans (perm_a perm_z) (List.Perm.cons _ (List.Perm.trans (perm_ca perm_cz) (List.Perm.append_left _ (List.Perm.refl _)))))))))))))) ?_
    exact Own.of_perm (List.Perm.of_eq (by simp only [HeapV.ent, HeapV.head, HeapV.row, List.length_set, flat_same (f := ObjL.ent) (x' := ObjL.mk x.kind x.proto x.shut x.shape x.ns x.names x.vs x.vals x.es x.elems x.is x.inner (-1)) hx rfl]))
  · skip
    replace hc1 := of_decide_eq_false hc1
    refine SW_skip ?_
    refine body_end' (.tuple #[]) (fun _ => rfl) ?_
    refine ⟨(H.cl, H.br), ?_, rfl, hH.cells, by unfold Chg; rw [if_neg (by omega)]⟩
    have e : ObjL.chg x = x := by unfold ObjL.chg; rw [if_neg (by omega)]
    simp only [HeapV.put, HeapV.break, e, set_same hx]
    exact (Own.of_perm (S := ((F.p, .cells 83 6 [Gs.val H.s H.objs.length, Gs.val H.ts H.texts.length, .map (some F.kb), pt F.T.p 0, pt F.cp 0, .int .i64 H.br]) :: ((Gs.ent 89 9 H.s (H.objs.flatMap ObjL.cells)) ++ ((H.objs.flatMap ObjL.ent) ++ ((Gs.ent 9 1 H.ts (H.texts.map encS)) ++ ((F.kb, .map (kvs encS encU H.known)) :: ((TreeV.ent H.V F.T) ++ ((CellsL.ent (CellsL.mk F.cp H.cs H.cl)) ++ ([]))))))))) (List.Perm.refl _))

theorem slices_index {W0 : World} {σ : Heaplet} {g : Gs} {l : List ByteArray} (hl : g.ok 1 l.length (l.map encS)) (hm : ∀ e ∈ g.ent 9 1 (l.map encS), e ∈ σ) (key : ByteArray) : SC Try.prog W0 77 #[g.val l.length, .string key] σ (Ret (fun _ : Unit => σ) (fun v _ => v = .int .i64 (ixS l key))) := by
  refine SC_body (fn := Try.f77) (n := 19) Try.func77 rfl (by kernel_rfl) (ρ := [(0, Gs.val g l.length), (1, .string key)]) rfl ?_
  refine SW_sig (σ ++ ([])) (by simp only [List.append_nil, List.append_assoc]) ?_
  have hcap : l.length ≤ maxLen := Nat.le_trans (Gs.ok.cap_le hl) (Gs.ok.cap_max hl)
  unfold maxLen at hcap
  refine SW_seq ?_
  refine SW_region ?_
  refine SL_s1 1 4 (.int .i64 0) (by intro δ w; kernel_rfl) ?_
  refine SL_nil (n_then ?_)
  refine SW_seq ?_
  refine SW_seq ?_
  refine SW_region ?_
  refine SL_s3 3 8 (.int .i64 0) 7 (.int .i64 (l.length : Int)) 6 (Gs.val g l.length) (by intro δ w; kernel_rfl) ?_
  refine SL_nil (n_then ?_)
  refine SW_block ?_
  refine SW_loop (α := Nat) (fun z_ ρ_ σ_ => Fits ρ_ σ_ [(8, .int .i64 (z_ : Int)), (7, .int .i64 (l.length : Int)), (1, .string key), (0, Gs.val g l.length)] (σ ++ ([])) ∧ z_ ≤ l.length ∧ ixS l key = ixFrom (fun a : ByteArray => decide (a = key)) (l.drop z_) z_) (fun z_ => l.length - z_) 0 ⟨⟨fun _ => rfl, (own_mk (J := ([])) (List.Perm.refl _) (by simp only [List.cons_append, List.append_assoc, List.nil_append, List.append_nil]))⟩, Nat.zero_le _, rfl⟩ ?_
  rintro i ρ_ σ_ ⟨hfit, hi0, hi1⟩
  refine SW_fits hfit ?_
  clear hfit
  refine SW_seq ?_
  refine SW_region ?_
  refine SL_s1 1 9 (.bool (decide ((i : Int) < (l.length : Int)))) (by intro δ w; kernel_rfl) ?_
  refine SL_nil (n_then ?_)
  refine SW_seq ?_
  refine SW_cond (decide ((i : Int) < (l.length : Int))) (fun _ => rfl) (fun hc1 => ?_) (fun hc1 => ?_)
  · skip
    replace hc1 := of_decide_eq_true hc1
    refine SW_skip (n_then ?_)
    refine SW_seq ?_
    refine SW_block ?_
    refine SW_seq ?_
    refine SW_region ?_
    refine SL_s2 2 5 (.int .i64 (i : Int)) 10 (.int .i64 (i : Int)) (by intro δ w; kernel_rfl) ?_
    refine SL_nil (n_then ?_)
    refine SW_seq ?_
    refine SW_region ?_
    refine SL_s3 3 13 (.int .i64 (i : Int)) 12 (Gs.val g l.length) 11 (.string key) (by intro δ w; kernel_rfl) ?_
    refine SL_cons ⟨rfl, fun _ => rfl⟩ (O_indexAddr' (i : Int) (i) (Gs.blk g) 0 l.length (Gs.cap g) .i64 1 Try.underlying34 (by kernel_rfl) (fun _ => gs_slice (Gs.ok.ne hl (by first | omega | (simp; omega)))) (fun _ => rfl) (by omega) (by omega) (by omega) rfl ?_)
    obtain ⟨e1, he1⟩ : ∃ y_, l[i]? = some y_ := ⟨_, List.getElem?_eq_getElem (by omega)⟩
    refine SL_cons ⟨rfl, fun _ => rfl⟩ (O_load (Gs.blk g) i (.string e1) (fun _ => rfl) (by kernel_rfl) (Gs.cell hl (fun e he => (mem_h (hm _ he))) (map_cell he1 rfl)) rfl ?_)
    refine SL_s1 1 16 (.bool (key.toList == e1.toList)) (by intro δ w; kernel_rfl) ?_
    rw [show (key.toList == e1.toList) = (decide (key = e1)) from by rw [str_eq]]
    refine SL_nil (n_then ?_)
    refine SW_cond (decide (key = e1)) (fun _ => rfl) (fun hc2 => ?_) (fun hc2 => ?_)
    · skip
      replace hc2 := of_decide_eq_true hc2
      refine SW_seq ?_
      refine SW_region ?_
      refine SL_segT 2 [(4, .int .i64 (i : Int)), (16, .bool (decide (key = e1))), (5, .int .i64 (i : Int)), (9, .bool (decide ((i : Int) < (l.length : Int)))), (8, .int .i64 (i : Int)), (7, .int .i64 (l.length : Int)), (1, .string key), (0, Gs.val g l.length)] (by intro δ w; kernel_rfl) ?_
      refine SL_nil (n_then ?_)
      refine SW_ret (r_in (r_then (r_then (r_in (r_then ?_)))))
      refine body_end (.int .i64 (i : Int)) (fun _ => rfl) ?_
      exact ⟨(), (own_mk (J := ([])) (List.Perm.refl _) (by simp only [List.cons_append, List.append_assoc, List.nil_append, List.append_nil])), congrArg (Value.int .i64) (by rw [hi1, ixFrom_at he1, if_pos (by simp [hc2])])⟩
    · skip
      replace hc2 := of_decide_eq_false hc2
      refine SW_skip (n_in (n_then ?_))
      refine SW_region ?_
      refine SL_segT 1 [(18, .int .i64 (IntKind.wrap .i64 ((i : Int) + 1))), (16, .bool (decide (key = e1))), (5, .int .i64 (i : Int)), (9, .bool (decide ((i : Int) < (l.length : Int)))), (8, .int .i64 (i : Int)), (7, .int .i64 (l.length : Int)), (1, .string key), (0, Gs.val g l.length)] (by intro δ w; kernel_rfl) ?_
      rw [show IntKind.wrap .i64 ((i : Int) + 1) = (i : Int) + 1 from IntWalk.i64_in _ (by omega)]
      refine SL_segT 1 [(8, .int .i64 ((i : Int) + 1)), (16, .bool (decide (key = e1))), (5, .int .i64 (i : Int)), (9, .bool (decide ((i : Int) < (l.length : Int)))), (7, .int .i64 (l.length : Int)), (1, .string key), (0, Gs.val g l.length)] (by intro δ w; kernel_rfl) ?_
      refine SL_nil (n_then ?_)
      exact ⟨i + 1, by omega, ⟨fun _ => rfl, (own_mk (J := ([])) (List.Perm.refl _) (by simp only [List.cons_append, List.append_assoc, List.nil_append, List.append_nil]))⟩, by omega, by rw [hi1, ixFrom_at he1, if_neg (by simp; exact fun h => hc2 h.symm)]⟩
  · skip
    replace hc1 := of_decide_eq_false hc1
    refine SW_exit (x_then (x_then (x_in (n_then ?_))))
    refine SW_seq ?_
    refine SW_region ?_
    refine SL_s1 1 4 (.int .i64 (-1)) (by intro δ w; kernel_rfl) ?_
    refine SL_nil (n_then ?_)
    refine SW_ret ?_
    refine body_end (.int .i64 (-1)) (fun _ => rfl) ?_
    exact ⟨(), (own_mk (J := ([])) (List.Perm.refl _) (by simp only [List.cons_append, List.append_assoc, List.nil_append, List.append_nil])), congrArg (Value.int .i64) (by rw [hi1, ixFrom_end (by omega)])⟩

theorem heap_place {W0 : World} {F : HeapF} {H : HeapV} (hH : H.ok F) {n : Nat} {x : ObjL} (hx : H.objs[n]? = some x) (key : ByteArray) : SC Try.prog W0 45 #[.pointer (some ⟨F.p, 0, none⟩), .pointer (some ⟨Gs.blk H.s, n * 9, none⟩), .string key] (HeapV.ent H F) (Ret (fun _ : Unit => H.ent F) (fun v _ => v = .int .i64 (placeO (H.V.abs F.T) x.shape x.names key))) := by
  have hnl := (List.getElem?_eq_some_iff.1 hx).1
  refine SC_body (fn := Try.f45) (n := 38) Try.func45 rfl (by kernel_rfl) (ρ := [(0, pt F.p 0), (1, pt (Gs.blk H.s) (n * 9)), (2, .string key)]) rfl ?_
  refine SW_sig ((F.p, .cells 83 6 [Gs.val H.s H.objs.length, Gs.val H.ts H.texts.length, .map (some F.kb), pt F.T.p 0, pt F.cp 0, .int .i64 H.br]) :: ((Gs.ent 89 9 H.s (H.objs.flatMap ObjL.cells)) ++ ((H.objs.flatMap ObjL.ent) ++ ((Gs.ent 9 1 H.ts (H.texts.map encS)) ++ ((F.kb, .map (kvs encS encU H.known)) :: ((TreeV.ent H.V F.T) ++ ((CellsL.ent (CellsL.mk F.cp H.cs H.cl)) ++ ([])))))))) rfl ?_
  refine SW_seq ?_
  refine SW_region ?_
  refine SL_s1 1 6 (.int .i64 0) (by intro δ w; kernel_rfl) ?_
  refine SL_nil (n_then ?_)
  refine SW_seq ?_
  refine SW_seq ?_
  refine SW_region ?_
  refine SL_s3 3 12 (pt (Gs.blk H.s) (n * 9 + 3)) 11 (pt (Gs.blk H.s) (n * 9)) 10 (pt (Gs.blk H.s) (n * 9)) (by intro δ w; kernel_rfl) ?_
  refine SL_cons ⟨rfl, fun _ => rfl⟩ (O_load (Gs.blk H.s) (n * 9 + 3) (.int .i64 x.shape) (fun _ => rfl) (by kernel_rfl) (Gs.cell hH.row (fun e he => (mem_c (mem_h he))) (flat_cell ObjL.len hx (j := 3) (by decide) rfl)) rfl ?_)
  refine SL_s1 1 14 (.bool (decide (x.shape < 0))) (by intro δ w; kernel_rfl) ?_
  refine SL_nil (n_then ?_)
  refine SW_cond (decide (x.shape < 0)) (fun _ => rfl) (fun hc1 => ?_) (fun hc1 => ?_)
  · skip
    replace hc1 := of_decide_eq_true hc1
    refine SW_seq ?_
    refine SW_region ?_
    refine SL_s3 3 17 (pt (Gs.blk H.s) (n * 9 + 4)) 16 (pt (Gs.blk H.s) (n * 9)) 15 (pt (Gs.blk H.s) (n * 9)) (by intro δ w; kernel_rfl) ?_
    refine SL_cons ⟨rfl, fun _ => rfl⟩ (O_load (Gs.blk H.s) (n * 9 + 4) (Gs.val x.ns x.names.length) (fun _ => rfl) (by kernel_rfl) (Gs.cell hH.row (fun e he => (mem_c (mem_h he))) (flat_cell ObjL.len hx (j := 4) (by decide) rfl)) rfl ?_)
    refine SL_s1 1 19 (.string key) (by intro δ w; kernel_rfl) ?_
    refine SL_sig (((F.p, .cells 83 6 [Gs.val H.s H.objs.length, Gs.val H.ts H.texts.length, .map (some F.kb), pt F.T.p 0, pt F.cp 0, .int .i64 H.br]) :: ((Gs.ent 89 9 H.s (H.objs.flatMap ObjL.cells)) ++ ((H.objs.flatMap ObjL.ent) ++ ((Gs.ent 9 1 H.ts (H.texts.map encS)) ++ ((F.kb, .map (kvs encS encU H.known)) :: ((TreeV.ent H.V F.T) ++ ((CellsL.ent (CellsL.mk F.cp H.cs H.cl)) ++ ([])))))))) ++ []) (by simp only [List.append_nil]) ?_
    refine SL_cons ⟨rfl, fun _ => rfl⟩ (O_call 77 #[Gs.val x.ns x.names.length, .string key] rfl (by intro δ w; kernel_rfl) ((slices_index (σ := ((F.p, .cells 83 6 [Gs.val H.s H.objs.length, Gs.val H.ts H.texts.length, .map (some F.kb), pt F.T.p 0, pt F.cp 0, .int .i64 H.br]) :: ((Gs.ent 89 9 H.s (H.objs.flatMap ObjL.cells)) ++ ((H.objs.flatMap ObjL.ent) ++ ((Gs.ent 9 1 H.ts (H.texts.map encS)) ++ ((F.kb, .map (kvs encS encU H.known)) :: ((TreeV.ent H.V F.T) ++ ((CellsL.ent (CellsL.mk F.cp H.cs H.cl)) ++ ([]))))))))) (HeapV.ok.at hH hx).ns (fun e he => (mem_c (mem_a (mem_h ((ObjL.mns hx) _ he))))) key).use _) ?_)
    rintro _ σ1 ⟨_, hσ1, rfl⟩
    obtain rfl : σ1 = ((F.p, .cells 83 6 [Gs.val H.s H.objs.length, Gs.val H.ts H.texts.length, .map (some F.kb), pt F.T.p 0, pt F.cp 0, .int .i64 H.br]) :: ((Gs.ent 89 9 H.s (H.objs.flatMap ObjL.cells)) ++ ((H.objs.flatMap ObjL.ent) ++ ((Gs.ent 9 1 H.ts (H.texts.map encS)) ++ ((F.kb, .map (kvs encS encU H.known)) :: ((TreeV.ent H.V F.T) ++ ((CellsL.ent (CellsL.mk F.cp H.cs H.cl)) ++ ([])))))))) := hσ1.trans (by simp only [List.cons_append, List.append_assoc, List.nil_append, List.append_nil])
    refine SL_segT 1 [(6, .int .i64 (ixS x.names key)), (14, .bool (decide (x.shape < 0))), (0, pt F.p 0), (1, pt (Gs.blk H.s) (n * 9)), (2, .string key)] (by intro δ w; kernel_rfl) ?_
    refine SL_nil (n_then ?_)
    refine SW_ret (r_then ?_)
    refine body_end (.int .i64 (ixS x.names key)) (fun _ => rfl) ?_
    exact ⟨(), (Own.of_perm (S := ((F.p, .cells 83 6 [Gs.val H.s H.objs.length, Gs.val H.ts H.texts.length, .map (some F.kb), pt F.T.p 0, pt F.cp 0, .int .i64 H.br]) :: ((Gs.ent 89 9 H.s (H.objs.flatMap ObjL.cells)) ++ ((H.objs.flatMap ObjL.ent) ++ ((Gs.ent 9 1 H.ts (H.texts.map encS)) ++ ((F.kb, .map (kvs encS encU H.known)) :: ((TreeV.ent H.V F.T) ++ ((CellsL.ent (CellsL.mk F.cp H.cs H.cl)) ++ ([]))))))))) (List.Perm.refl _)), congrArg (Value.int .i64) (by unfold placeO; rw [if_pos (by omega)])⟩
  · skip
    replace hc1 := of_decide_eq_false hc1
    refine SW_skip (n_then ?_)
    refine SW_seq ?_
    refine SW_draw [(F.p, 3, pt F.T.p 0), ((Gs.blk H.s), n * 9 + 3, .int .i64 x.shape)] [0, 1, 2, 3, 4, 5, 6, 7, 8] (by kernel_rfl) (rd_cons (Cell.own mem_z rfl) (rd_cons (Gs.cell hH.row (fun e he => (mem_c (mem_h he))) (flat_cell ObjL.len hx (j := 3) (by decide) rfl)) rd_nil)) ?_
    refine SA_take (li' := #[true, false, false, false, false, false, false, false, false, false, false, false, false, false, false, false, false]) 0 _ (pt F.p 0) (fun _ _ _ h => h) rfl (by kernel_rfl) rfl (Or.inl ⟨fun _ => rfl, by intro δ w; kernel_rfl⟩) ?_
    refine SA_take (li' := #[true, true, false, false, false, false, false, false, false, false, false, false, false, false, false, false, false]) 1 _ (pt F.p 0) (fun _ _ _ h => h) rfl (by kernel_rfl) rfl (Or.inl ⟨fun _ => rfl, by intro δ w; kernel_rfl⟩) ?_
    refine SA_take (li' := #[true, true, true, false, false, false, false, false, false, false, false, false, false, false, false, false, false]) 2 _ (pt F.p 3) (fun _ _ _ h => h) rfl (by kernel_rfl) rfl (Or.inl ⟨fun _ => rfl, by intro δ w; kernel_rfl⟩) ?_
    refine SA_read (li' := #[true, true, true, true, false, false, false, false, false, false, false, false, false, false, false, false, false]) 3 _ (pt F.T.p 0) (fun _ _ _ h => h) rfl (by kernel_rfl) rfl (fun _ => rfl) (fun δ w hr => Rd_load F.p 3 (pt F.T.p 0) rfl (by kernel_rfl) List.mem_cons_self hr) ?_
    refine SA_take (li' := #[true, true, true, true, true, false, false, false, false, false, false, false, false, false, false, false, false]) 4 _ (pt (Gs.blk H.s) (n * 9)) (fun _ _ _ h => h) rfl (by kernel_rfl) rfl (Or.inl ⟨fun _ => rfl, by intro δ w; kernel_rfl⟩) ?_
    refine SA_take (li' := #[true, true, true, true, true, true, false, false, false, false, false, false, false, false, false, false, false]) 5 _ (pt (Gs.blk H.s) (n * 9)) (fun _ _ _ h => h) rfl (by kernel_rfl) rfl (Or.inl ⟨fun _ => rfl, by intro δ w; kernel_rfl⟩) ?_
    refine SA_trim [(27, pt (Gs.blk H.s) (n * 9)), (25, pt F.T.p 0), (14, .bool (decide (x.shape < 0))), (6, .int .i64 0), (0, pt F.p 0), (1, pt (Gs.blk H.s) (n * 9)), (2, .string key)] (fun _ => rfl) ?_
    refine SA_take (li' := #[true, true, true, true, true, true, true, false, false, false, false, false, false, false, false, false, false]) 6 _ (pt (Gs.blk H.s) (n * 9 + 3)) (fun _ _ _ h => h) rfl (by kernel_rfl) rfl (Or.inl ⟨fun _ => rfl, by intro δ w; kernel_rfl⟩) ?_
    refine SA_read (li' := #[true, true, true, true, true, true, true, true, false, false, false, false, false, false, false, false, false]) 7 _ (.int .i64 x.shape) (fun _ _ _ h => h) rfl (by kernel_rfl) rfl (fun _ => rfl) (fun δ w hr => Rd_load (Gs.blk H.s) (n * 9 + 3) (.int .i64 x.shape) rfl (by kernel_rfl) (List.mem_cons_of_mem _ List.mem_cons_self) hr) ?_
    refine SA_take (li' := #[true, true, true, true, true, true, true, true, true, false, false, false, false, false, false, false, false]) 8 _ (.string key) (fun _ _ _ h => h) rfl (by kernel_rfl) rfl (Or.inl ⟨fun _ => rfl, by intro δ w; kernel_rfl⟩) ?_
    refine SA_perm _ (perm_cc (perm_ca (perm_ca (perm_ca (perm_cc perm_cz))))) ?_
    refine SA_one false (li' := #[true, true, true, true, true, true, true, true, true, true, false, false, false, false, false, false, false]) 9 _ rfl rfl (by kernel_rfl) ⟨rfl, fun _ => rfl⟩ rfl (O_call 67 #[pt F.T.p 0, .int .i64 x.shape, .string key] rfl (by intro δ w; kernel_rfl) ((shapes_Find hH.tree x.shape key).use _) ?_)
    rintro _ σ3 ⟨_, hσ3, rfl⟩
    obtain rfl : σ3 = ((TreeV.ent H.V F.T) ++ ((F.p, .cells 83 6 [Gs.val H.s H.objs.length, Gs.val H.ts H.texts.length, .map (some F.kb), pt F.T.p 0, pt F.cp 0, .int .i64 H.br]) :: ((Gs.ent 89 9 H.s (H.objs.flatMap ObjL.cells)) ++ ((H.objs.flatMap ObjL.ent) ++ ((Gs.ent 9 1 H.ts (H.texts.map encS)) ++ ((F.kb, .map (kvs encS encU H.known)) :: ((CellsL.ent (CellsL.mk F.cp H.cs H.cl)) ++ ([])))))))) := hσ3.trans (rfl)
    refine ⟨fun hnd => (by cases hnd), ?_⟩
    refine SA_take (li' := #[true, true, true, true, true, true, true, true, true, true, true, false, false, false, false, false, false]) 10 _ (.tuple #[.int .i64 ((findP (TreeV.abs H.V F.T) x.shape key).1), .int .i64 ((findP (TreeV.abs H.V F.T) x.shape key).2.1), .bool ((findP (TreeV.abs H.V F.T) x.shape key).2.2)]) (fun _ _ _ h => h) rfl (by kernel_rfl) rfl (Or.inl ⟨fun _ => rfl, by intro δ w; kernel_rfl⟩) ?_
    refine SA_take (li' := #[true, true, true, true, true, true, true, true, true, true, true, true, false, false, false, false, false]) 11 _ (.int .i64 ((findP (TreeV.abs H.V F.T) x.shape key).1)) (fun _ _ _ h => h) rfl (by kernel_rfl) rfl (Or.inl ⟨fun _ => rfl, by intro δ w; kernel_rfl⟩) ?_
    refine SA_take (li' := #[true, true, true, true, true, true, true, true, true, true, true, true, true, false, false, false, false]) 12 _ (.int .i64 ((findP (TreeV.abs H.V F.T) x.shape key).2.1)) (fun _ _ _ h => h) rfl (by kernel_rfl) rfl (Or.inl ⟨fun _ => rfl, by intro δ w; kernel_rfl⟩) ?_
    refine SA_take (li' := #[true, true, true, true, true, true, true, true, true, true, true, true, true, true, false, false, false]) 13 _ (.bool ((findP (TreeV.abs H.V F.T) x.shape key).2.2)) (fun _ _ _ h => h) rfl (by kernel_rfl) rfl (Or.inl ⟨fun _ => rfl, by intro δ w; kernel_rfl⟩) ?_
    refine SA_take (li' := #[true, true, true, true, true, true, true, true, true, true, true, true, true, true, true, false, false]) 14 _ (.int .i64 ((findP (TreeV.abs H.V F.T) x.shape key).1)) (fun _ _ _ h => h) rfl (by kernel_rfl) rfl (Or.inl ⟨fun _ => rfl, by intro δ w; kernel_rfl⟩) ?_
    refine SA_trim [(7, .int .i64 ((findP (TreeV.abs H.V F.T) x.shape key).1)), (34, .bool ((findP (TreeV.abs H.V F.T) x.shape key).2.2)), (33, .int .i64 ((findP (TreeV.abs H.V F.T) x.shape key).2.1)), (14, .bool (decide (x.shape < 0))), (6, .int .i64 0), (0, pt F.p 0), (1, pt (Gs.blk H.s) (n * 9)), (2, .string key)] (fun _ => rfl) ?_
    refine SA_take (li' := #[true, true, true, true, true, true, true, true, true, true, true, true, true, true, true, true, false]) 15 _ (.int .i64 ((findP (TreeV.abs H.V F.T) x.shape key).2.1)) (fun _ _ _ h => h) rfl (by kernel_rfl) rfl (Or.inl ⟨fun _ => rfl, by intro δ w; kernel_rfl⟩) ?_
    refine SA_take (li' := #[true, true, true, true, true, true, true, true, true, true, true, true, true, true, true, true, true]) 16 _ (.bool ((findP (TreeV.abs H.V F.T) x.shape key).2.2)) (fun _ _ _ h => h) rfl (by kernel_rfl) rfl (Or.inl ⟨fun _ => rfl, by intro δ w; kernel_rfl⟩) ?_
    refine SA_done (by kernel_rfl) (n_then ?_)
    refine SW_seq ?_
    refine SW_seq ?_
    refine SW_region ?_
    refine SL_s2 2 36 (.bool (!((findP (TreeV.abs H.V F.T) x.shape key).2.2))) 35 (.bool ((findP (TreeV.abs H.V F.T) x.shape key).2.2)) (by intro δ w; kernel_rfl) ?_
    refine SL_nil (n_then ?_)
    refine SW_cond (!((findP (TreeV.abs H.V F.T) x.shape key).2.2)) (fun _ => rfl) (fun hc2 => ?_) (fun hc2 => ?_)
    · skip
      replace hc2 := bnot_t hc2
      refine SW_seq ?_
      refine SW_region ?_
      refine SL_segT 1 [(6, .int .i64 (-1)), (36, .bool (!((findP (TreeV.abs H.V F.T) x.shape key).2.2))), (9, .bool ((findP (TreeV.abs H.V F.T) x.shape key).2.2)), (7, .int .i64 ((findP (TreeV.abs H.V F.T) x.shape key).1)), (14, .bool (decide (x.shape < 0))), (0, pt F.p 0), (1, pt (Gs.blk H.s) (n * 9)), (2, .string key)] (by intro δ w; kernel_rfl) ?_
      refine SL_nil (n_then ?_)
      refine SW_ret (r_then ?_)
      refine body_end (.int .i64 (-1)) (fun _ => rfl) ?_
      exact ⟨(), (Own.of_perm (S := ((F.p, .cells 83 6 [Gs.val H.s H.objs.length, Gs.val H.ts H.texts.length, .map (some F.kb), pt F.T.p 0, pt F.cp 0, .int .i64 H.br]) :: ((Gs.ent 89 9 H.s (H.objs.flatMap ObjL.cells)) ++ ((H.objs.flatMap ObjL.ent) ++ ((Gs.ent 9 1 H.ts (H.texts.map encS)) ++ ((F.kb, .map (kvs encS encU H.known)) :: ((TreeV.ent H.V F.T) ++ ((CellsL.ent (CellsL.mk F.cp H.cs H.cl)) ++ ([]))))))))) (List.Perm.trans (perm_a perm_z) (List.Perm.cons _ (List.Perm.trans (perm_ca perm_cz) (List.Perm.append_left _ (List.Perm.trans (perm_ca perm_cz) (List.Perm.append_left _ (List.Perm.trans (perm_ca perm_cz) (List.Perm.append_left _ (List.Perm.trans (perm_a perm_z) (List.Perm.cons _ (List.Perm.refl _)))))))))))), congrArg (Value.int .i64) (by unfold placeO; rw [if_neg (by omega), if_neg (by simp [hc2])])⟩
    · skip
      replace hc2 := bnot_f hc2
      refine SW_skip (n_then ?_)
      refine SW_seq ?_
      refine SW_region ?_
      refine SL_segT 2 [(6, .int .i64 ((findP (TreeV.abs H.V F.T) x.shape key).1)), (36, .bool (!((findP (TreeV.abs H.V F.T) x.shape key).2.2))), (9, .bool ((findP (TreeV.abs H.V F.T) x.shape key).2.2)), (7, .int .i64 ((findP (TreeV.abs H.V F.T) x.shape key).1)), (14, .bool (decide (x.shape < 0))), (0, pt F.p 0), (1, pt (Gs.blk H.s) (n * 9)), (2, .string key)] (by intro δ w; kernel_rfl) ?_
      refine SL_nil (n_then ?_)
      refine SW_ret ?_
      refine body_end (.int .i64 ((findP (TreeV.abs H.V F.T) x.shape key).1)) (fun _ => rfl) ?_
      exact ⟨(), (Own.of_perm (S := ((F.p, .cells 83 6 [Gs.val H.s H.objs.length, Gs.val H.ts H.texts.length, .map (some F.kb), pt F.T.p 0, pt F.cp 0, .int .i64 H.br]) :: ((Gs.ent 89 9 H.s (H.objs.flatMap ObjL.cells)) ++ ((H.objs.flatMap ObjL.ent) ++ ((Gs.ent 9 1 H.ts (H.texts.map encS)) ++ ((F.kb, .map (kvs encS encU H.known)) :: ((TreeV.ent H.V F.T) ++ ((CellsL.ent (CellsL.mk F.cp H.cs H.cl)) ++ ([]))))))))) (List.Perm.trans (perm_a perm_z) (List.Perm.cons _ (List.Perm.trans (perm_ca perm_cz) (List.Perm.append_left _ (List.Perm.trans (perm_ca perm_cz) (List.Perm.append_left _ (List.Perm.trans (perm_ca perm_cz) (List.Perm.append_left _ (List.Perm.trans (perm_a perm_z) (List.Perm.cons _ (List.Perm.refl _)))))))))))), congrArg (Value.int .i64) (by unfold placeO; rw [if_neg (by omega), if_pos hc2])⟩

theorem heap_loose_no {W0 : World} {F : HeapF} {H : HeapV} (hH : H.ok F) {n : Nat} {x : ObjL} (hx : H.objs[n]? = some x) (hs : x.shape < 0) : SC Try.prog W0 48 #[.pointer (some ⟨F.p, 0, none⟩), .pointer (some ⟨Gs.blk H.s, n * 9, none⟩)] (HeapV.ent H F) (Ret (fun _ : Unit => H.ent F) (fun v _ => v = .tuple #[])) := by
  have hnl := (List.getElem?_eq_some_iff.1 hx).1
  refine SC_body (fn := Try.f48) (n := 24) Try.func48 rfl (by kernel_rfl) (ρ := [(0, pt F.p 0), (1, pt (Gs.blk H.s) (n * 9))]) rfl ?_
  refine SW_sig ((F.p, .cells 83 6 [Gs.val H.s H.objs.length, Gs.val H.ts H.texts.length, .map (some F.kb), pt F.T.p 0, pt F.cp 0, .int .i64 H.br]) :: ((Gs.ent 89 9 H.s (H.objs.flatMap ObjL.cells)) ++ ((H.objs.flatMap ObjL.ent) ++ ((Gs.ent 9 1 H.ts (H.texts.map encS)) ++ ((F.kb, .map (kvs encS encU H.known)) :: ((TreeV.ent H.V F.T) ++ ((CellsL.ent (CellsL.mk F.cp H.cs H.cl)) ++ ([])))))))) rfl ?_
  refine SW_seq ?_
  refine SW_region ?_
  refine SL_s3 3 6 (pt (Gs.blk H.s) (n * 9 + 3)) 5 (pt (Gs.blk H.s) (n * 9)) 4 (pt (Gs.blk H.s) (n * 9)) (by intro δ w; kernel_rfl) ?_
  refine SL_cons ⟨rfl, fun _ => rfl⟩ (O_load (Gs.blk H.s) (n * 9 + 3) (.int .i64 x.shape) (fun _ => rfl) (by kernel_rfl) (Gs.cell hH.row (fun e he => (mem_c (mem_h he))) (flat_cell ObjL.len hx (j := 3) (by decide) rfl)) rfl ?_)
  refine SL_s1 1 8 (.bool (decide (x.shape ≥ 0))) (by intro δ w; kernel_rfl) ?_
  refine SL_nil (n_then ?_)
  refine SW_false (fun _ => (congrArg Value.bool (show (decide (x.shape ≥ 0)) = false from (by simp; omega)))) ?_
  refine SW_skip ?_
  refine body_end' (.tuple #[]) (fun _ => rfl) ?_
  exact ⟨(), (Own.of_perm (S := ((F.p, .cells 83 6 [Gs.val H.s H.objs.length, Gs.val H.ts H.texts.length, .map (some F.kb), pt F.T.p 0, pt F.cp 0, .int .i64 H.br]) :: ((Gs.ent 89 9 H.s (H.objs.flatMap ObjL.cells)) ++ ((H.objs.flatMap ObjL.ent) ++ ((Gs.ent 9 1 H.ts (H.texts.map encS)) ++ ((F.kb, .map (kvs encS encU H.known)) :: ((TreeV.ent H.V F.T) ++ ((CellsL.ent (CellsL.mk F.cp H.cs H.cl)) ++ ([]))))))))) (List.Perm.refl _)), rfl⟩

theorem heap_loose_yes {W0 : World} {F : HeapF} {H : HeapV} (hH : H.ok F) {n : Nat} {x : ObjL} (hx : H.objs[n]? = some x) (hs : 0 ≤ x.shape) : SC Try.prog W0 48 #[.pointer (some ⟨F.p, 0, none⟩), .pointer (some ⟨Gs.blk H.s, n * 9, none⟩)] (HeapV.ent H F) (Ret (fun g : Gs => (H.put n (x.loosed g (keysP (H.V.abs F.T) x.shape))).ent F) (fun v g => v = .tuple #[] ∧ g.ok 1 (keysP (H.V.abs F.T) x.shape).length ((keysP (H.V.abs F.T) x.shape).map encS))) := by
  have hnl := (List.getElem?_eq_some_iff.1 hx).1
  refine SC_body (fn := Try.f48) (n := 24) Try.func48 rfl (by kernel_rfl) (ρ := [(0, pt F.p 0), (1, pt (Gs.blk H.s) (n * 9))]) rfl ?_
  refine SW_sig ((F.p, .cells 83 6 [Gs.val H.s H.objs.length, Gs.val H.ts H.texts.length, .map (some F.kb), pt F.T.p 0, pt F.cp 0, .int .i64 H.br]) :: ((Gs.ent 89 9 H.s (H.objs.flatMap ObjL.cells)) ++ ((H.objs.flatMap ObjL.ent) ++ ((Gs.ent 9 1 H.ts (H.texts.map encS)) ++ ((F.kb, .map (kvs encS encU H.known)) :: ((TreeV.ent H.V F.T) ++ ((CellsL.ent (CellsL.mk F.cp H.cs H.cl)) ++ ([])))))))) rfl ?_
  refine SW_seq ?_
  refine SW_perm _ (perm_cc (perm_ca perm_cz)) ?_
  refine SW_perm ((Gs.ent 9 1 x.ns (x.names.map encS)) ++ ((Gs.ent 42 3 x.vs (x.vals.flatMap descCells)) ++ ((Gs.ent 24 1 x.es (x.elems.map encU)) ++ ((Gs.ent 24 1 x.is (x.inner.map encU)) ++ (((List.eraseIdx H.objs n).flatMap ObjL.ent) ++ ((F.p, .cells 83 6 [Gs.val H.s H.objs.length, Gs.val H.ts H.texts.length, .map (some F.kb), pt F.T.p 0, pt F.cp 0, .int .i64 H.br]) :: ((Gs.ent 89 9 H.s (H.objs.flatMap ObjL.cells)) ++ ((Gs.ent 9 1 H.ts (H.texts.map encS)) ++ ((F.kb, .map (kvs encS encU H.known)) :: ((TreeV.ent H.V F.T) ++ ((CellsL.ent (CellsL.mk F.cp H.cs H.cl)) ++ ([])))))))))))) (obj_focus hx _) ?_
  refine SW_region ?_
  refine SL_s3 3 6 (pt (Gs.blk H.s) (n * 9 + 3)) 5 (pt (Gs.blk H.s) (n * 9)) 4 (pt (Gs.blk H.s) (n * 9)) (by intro δ w; kernel_rfl) ?_
  refine SL_cons ⟨rfl, fun _ => rfl⟩ (O_load (Gs.blk H.s) (n * 9 + 3) (.int .i64 x.shape) (fun _ => rfl) (by kernel_rfl) (Gs.cell hH.row (fun e he => (mem_a (mem_a (mem_a (mem_a (mem_a (mem_c (mem_h he)))))))) (flat_cell ObjL.len hx (j := 3) (by decide) rfl)) rfl ?_)
  refine SL_s1 1 8 (.bool (decide (x.shape ≥ 0))) (by intro δ w; kernel_rfl) ?_
  refine SL_nil (n_then ?_)
  refine SW_true (fun _ => (congrArg Value.bool (show (decide (x.shape ≥ 0)) = true from (by simp; omega)))) ?_
  refine SW_draw [(F.p, 3, pt F.T.p 0), ((Gs.blk H.s), n * 9 + 3, .int .i64 x.shape)] [0, 1, 2, 3, 4, 5, 6, 7, 8, 9] (by kernel_rfl) (rd_cons (Cell.own (mem_a (mem_a (mem_a (mem_a (mem_a mem_z))))) rfl) (rd_cons (Gs.cell hH.row (fun e he => (mem_a (mem_a (mem_a (mem_a (mem_a (mem_c (mem_h he)))))))) (flat_cell ObjL.len hx (j := 3) (by decide) rfl)) rd_nil)) ?_
  refine SA_take (li' := #[true, false, false, false, false, false, false, false, false, false, false, false, false, false, false, false, false]) 0 _ (pt (Gs.blk H.s) (n * 9)) (fun _ _ _ h => h) rfl (by kernel_rfl) rfl (Or.inl ⟨fun _ => rfl, by intro δ w; kernel_rfl⟩) ?_
  refine SA_take (li' := #[true, true, false, false, false, false, false, false, false, false, false, false, false, false, false, false, false]) 1 _ (pt (Gs.blk H.s) (n * 9)) (fun _ _ _ h => h) rfl (by kernel_rfl) rfl (Or.inl ⟨fun _ => rfl, by intro δ w; kernel_rfl⟩) ?_
  refine SA_take (li' := #[true, true, true, false, false, false, false, false, false, false, false, false, false, false, false, false, false]) 2 _ (pt F.p 0) (fun _ _ _ h => h) rfl (by kernel_rfl) rfl (Or.inl ⟨fun _ => rfl, by intro δ w; kernel_rfl⟩) ?_
  refine SA_take (li' := #[true, true, true, true, false, false, false, false, false, false, false, false, false, false, false, false, false]) 3 _ (pt F.p 0) (fun _ _ _ h => h) rfl (by kernel_rfl) rfl (Or.inl ⟨fun _ => rfl, by intro δ w; kernel_rfl⟩) ?_
  refine SA_take (li' := #[true, true, true, true, true, false, false, false, false, false, false, false, false, false, false, false, false]) 4 _ (pt F.p 3) (fun _ _ _ h => h) rfl (by kernel_rfl) rfl (Or.inl ⟨fun _ => rfl, by intro δ w; kernel_rfl⟩) ?_
  refine SA_read (li' := #[true, true, true, true, true, true, false, false, false, false, false, false, false, false, false, false, false]) 5 _ (pt F.T.p 0) (fun _ _ _ h => h) rfl (by kernel_rfl) rfl (fun _ => rfl) (fun δ w hr => Rd_load F.p 3 (pt F.T.p 0) rfl (by kernel_rfl) List.mem_cons_self hr) ?_
  refine SA_take (li' := #[true, true, true, true, true, true, true, false, false, false, false, false, false, false, false, false, false]) 6 _ (pt (Gs.blk H.s) (n * 9)) (fun _ _ _ h => h) rfl (by kernel_rfl) rfl (Or.inl ⟨fun _ => rfl, by intro δ w; kernel_rfl⟩) ?_
  refine SA_take (li' := #[true, true, true, true, true, true, true, true, false, false, false, false, false, false, false, false, false]) 7 _ (pt (Gs.blk H.s) (n * 9)) (fun _ _ _ h => h) rfl (by kernel_rfl) rfl (Or.inl ⟨fun _ => rfl, by intro δ w; kernel_rfl⟩) ?_
  refine SA_trim [(16, pt (Gs.blk H.s) (n * 9)), (14, pt F.T.p 0), (10, pt (Gs.blk H.s) (n * 9)), (9, pt (Gs.blk H.s) (n * 9)), (8, .bool (decide (x.shape ≥ 0))), (0, pt F.p 0), (1, pt (Gs.blk H.s) (n * 9))] (fun _ => rfl) ?_
  refine SA_take (li' := #[true, true, true, true, true, true, true, true, true, false, false, false, false, false, false, false, false]) 8 _ (pt (Gs.blk H.s) (n * 9 + 3)) (fun _ _ _ h => h) rfl (by kernel_rfl) rfl (Or.inl ⟨fun _ => rfl, by intro δ w; kernel_rfl⟩) ?_
  refine SA_read (li' := #[true, true, true, true, true, true, true, true, true, true, false, false, false, false, false, false, false]) 9 _ (.int .i64 x.shape) (fun _ _ _ h => h) rfl (by kernel_rfl) rfl (fun _ => rfl) (fun δ w hr => Rd_load (Gs.blk H.s) (n * 9 + 3) (.int .i64 x.shape) rfl (by kernel_rfl) (List.mem_cons_of_mem _ List.mem_cons_self) hr) ?_
  refine SA_perm _ (perm_ca (perm_ca (perm_ca (perm_ca (perm_ca (perm_cc (perm_ca (perm_ca (perm_cc perm_cz))))))))) ?_
  refine SA_one false (li' := #[true, true, true, true, true, true, true, true, true, true, true, false, false, false, false, false, false]) 10 _ rfl rfl (by kernel_rfl) ⟨rfl, fun _ => rfl⟩ rfl (O_call 53 #[pt F.T.p 0, .int .i64 x.shape] rfl (by intro δ w; kernel_rfl) ((shapes_Keys hH.tree x.shape).use _) ?_)
  rintro _ σ2 ⟨kg1, hσ2, rfl, hkg1⟩
  obtain rfl : σ2 = ((Gs.ent 9 1 kg1 ((keysP (TreeV.abs H.V F.T) x.shape).map encS)) ++ ((TreeV.ent H.V F.T) ++ ((Gs.ent 9 1 x.ns (x.names.map encS)) ++ ((Gs.ent 42 3 x.vs (x.vals.flatMap descCells)) ++ ((Gs.ent 24 1 x.es (x.elems.map encU)) ++ ((Gs.ent 24 1 x.is (x.inner.map encU)) ++ (((List.eraseIdx H.objs n).flatMap ObjL.ent) ++ ((F.p, .cells 83 6 [Gs.val H.s H.objs.length, Gs.val H.ts H.texts.length, .map (some F.kb), pt F.T.p 0, pt F.cp 0, .int .i64 H.br]) :: ((Gs.ent 89 9 H.s (H.objs.flatMap ObjL.cells)) ++ ((Gs.ent 9 1 H.ts (H.texts.map encS)) ++ ((F.kb, .map (kvs encS encU H.known)) :: ((CellsL.ent (CellsL.mk F.cp H.cs H.cl)) ++ ([]))))))))))))) := hσ2.trans (by simp only [List.cons_append, List.append_assoc, List.nil_append, List.append_nil])
  refine ⟨fun hnd => (by cases hnd), ?_⟩
  refine SA_take (li' := #[true, true, true, true, true, true, true, true, true, true, true, true, false, false, false, false, false]) 11 _ (pt (Gs.blk H.s) (n * 9)) (fun _ _ _ h => h) rfl (by kernel_rfl) rfl (Or.inl ⟨fun _ => rfl, by intro δ w; kernel_rfl⟩) ?_
  refine SA_take (li' := #[true, true, true, true, true, true, true, true, true, true, true, true, true, false, false, false, false]) 12 _ (pt (Gs.blk H.s) (n * 9 + 4)) (fun _ _ _ h => h) rfl (by kernel_rfl) rfl (Or.inl ⟨fun _ => rfl, by intro δ w; kernel_rfl⟩) ?_
  have hok3 := Gs.ok.relen (ys := ((H.objs.set n (ObjL.mk x.kind x.proto x.shut x.shape kg1 (keysP (TreeV.abs H.V F.T) x.shape) x.vs x.vals x.es x.elems x.is x.inner x.cell)).flatMap ObjL.cells)) hH.row (by simp [flat_len ObjL.len])
  refine SA_perm _ (perm_ca (perm_ca (perm_ca (perm_ca (perm_ca (perm_ca (perm_ca (perm_cc perm_cz)))))))) ?_
  refine SA_one false (li' := #[true, true, true, true, true, true, true, true, true, true, true, true, true, true, false, false, false]) 13 _ rfl rfl (by kernel_rfl) ⟨rfl, fun _ => rfl⟩ rfl (O_storeG (ys := ((H.objs.set n (ObjL.mk x.kind x.proto x.shut x.shape kg1 (keysP (TreeV.abs H.V F.T) x.shape) x.vs x.vals x.es x.elems x.is x.inner x.cell)).flatMap ObjL.cells)) H.s (n * 9 + 4) (Gs.val kg1 ((keysP (TreeV.abs H.V F.T) x.shape).length)) [Gs.val kg1 ((keysP (TreeV.abs H.V F.T) x.shape).length)] (Gs.ok.ne hH.row (by first | omega | (simp; omega))) (fun _ => rfl) (fun _ => rfl) rfl (by kernel_rfl) rfl (by rw [flat_len ObjL.len]; simp; omega) (row_lay (j := 4) ObjL.len (ObjL.mk x.kind x.proto x.shut x.shape kg1 (keysP (TreeV.abs H.V F.T) x.shape) x.vs x.vals x.es x.elems x.is x.inner x.cell) hx (Nat.le_of_ble_eq_true rfl) rfl) rfl ?_)
  refine ⟨fun hnd => (by cases hnd), ?_⟩
  refine SA_trim [(10, pt (Gs.blk H.s) (n * 9)), (8, .bool (decide (x.shape ≥ 0))), (0, pt F.p 0), (1, pt (Gs.blk H.s) (n * 9))] (fun _ => rfl) ?_
  refine SA_take (li' := #[true, true, true, true, true, true, true, true, true, true, true, true, true, true, true, false, false]) 14 _ (pt (Gs.blk H.s) (n * 9)) (fun _ _ _ h => h) rfl (by kernel_rfl) rfl (Or.inl ⟨fun _ => rfl, by intro δ w; kernel_rfl⟩) ?_
  refine SA_take (li' := #[true, true, true, true, true, true, true, true, true, true, true, true, true, true, true, true, false]) 15 _ (pt (Gs.blk H.s) (n * 9 + 3)) (fun _ _ _ h => h) rfl (by kernel_rfl) rfl (Or.inl ⟨fun _ => rfl, by intro δ w; kernel_rfl⟩) ?_
  have hok4 := Gs.ok.relen (ys := ((H.objs.set n (ObjL.mk x.kind x.proto x.shut (-1) kg1 (keysP (TreeV.abs H.V F.T) x.shape) x.vs x.vals x.es x.elems x.is x.inner x.cell)).flatMap ObjL.cells)) hok3 (by simp [flat_len ObjL.len])
  refine SA_one false (li' := #[true, true, true, true, true, true, true, true, true, true, true, true, true, true, true, true, true]) 16 _ rfl rfl (by kernel_rfl) ⟨rfl, fun _ => rfl⟩ rfl (O_storeG (ys := ((H.objs.set n (ObjL.mk x.kind x.proto x.shut (-1) kg1 (keysP (TreeV.abs H.V F.T) x.shape) x.vs x.vals x.es x.elems x.is x.inner x.cell)).flatMap ObjL.cells)) H.s (n * 9 + 3) (.int .i64 (-1)) [.int .i64 (-1)] (Gs.ok.ne hok3 (by first | omega | (simp; omega))) (fun _ => rfl) (fun _ => rfl) rfl (by kernel_rfl) rfl (by rw [flat_len ObjL.len]; simp; omega) ((row_lay (j := 3) ObjL.len (ObjL.mk x.kind x.proto x.shut (-1) kg1 (keysP (TreeV.abs H.V F.T) x.shape) x.vs x.vals x.es x.elems x.is x.inner x.cell) (get_set hx) (Nat.le_of_ble_eq_true rfl) rfl).trans (by rw [List.set_set])) rfl ?_)
  refine ⟨fun hnd => (by cases hnd), ?_⟩
  refine SA_done (by kernel_rfl) ?_
  refine body_end' (.tuple #[]) (fun _ => rfl) ?_
  exact ⟨kg1, (Own.trans (own_mk (S := ((F.p, .cells 83 6 [Gs.val H.s H.objs.length, Gs.val H.ts H.texts.length, .map (some F.kb), pt F.T.p 0, pt F.cp 0, .int .i64 H.br]) :: ((Gs.ent 89 9 H.s ((H.objs.set n (ObjL.mk x.kind x.proto x.shut (-1) kg1 (keysP (TreeV.abs H.V F.T) x.shape) x.vs x.vals x.es x.elems x.is x.inner x.cell)).flatMap ObjL.cells)) ++ ((Gs.ent 9 1 kg1 ((keysP (TreeV.abs H.V F.T) x.shape).map encS)) ++ ((Gs.ent 42 3 x.vs (x.vals.flatMap descCells)) ++ ((Gs.ent 24 1 x.es (x.elems.map encU)) ++ ((Gs.ent 24 1 x.is (x.inner.map encU)) ++ (((List.eraseIdx H.objs n).flatMap ObjL.ent) ++ ((Gs.ent 9 1 H.ts (H.texts.map encS)) ++ ((F.kb, .map (kvs encS encU H.known)) :: ((TreeV.ent H.V F.T) ++ ((CellsL.ent (CellsL.mk F.cp H.cs H.cl)) ++ ([]))))))))))))) (J := ((Gs.ent 9 1 x.ns (x.names.map encS)) ++ ([]))) (List.Perm.trans (perm_a (perm_a (perm_a (perm_a (perm_a (perm_a (perm_a (perm_a perm_z)))))))) (List.Perm.cons _ (List.Perm.trans perm_cz (List.Perm.append_left _ (List.Perm.trans perm_cz (List.Perm.append_left _ (List.Perm.trans (perm_ca (perm_ca perm_cz)) (List.Perm.append_left _ (List.Perm.trans (perm_ca (perm_ca perm_cz)) (List.Perm.append_left _ (List.Perm.trans (perm_ca (perm_ca perm_cz)) (List.Perm.append_left _ (List.Perm.trans (perm_ca (perm_ca perm_cz)) (List.Perm.append_left _ (List.Perm.trans (perm_ca (perm_ca perm_cz)) (List.Perm.append_left _ (List.Perm.trans (perm_a (perm_a perm_z)) (List.Perm.cons _ (List.Perm.trans perm_cz (List.Perm.append_left _ (List.Perm.trans (perm_ca perm_cz) (List.Perm.append_left _ (List.Perm.refl _))))))))))))))))))))))) (by simp only [List.cons_append, List.append_assoc, List.nil_append, List.append_nil])) (Own.of_perm (HeapV.back (H := (HeapV.mk H.s H.objs H.ts H.texts H.known H.V H.cs H.cl H.br)) F hx (x.loosed kg1 (keysP (TreeV.abs H.V F.T) x.shape))))), rfl, hkg1⟩

end Go.Proofs.Ytdfhbheipagnmaa
