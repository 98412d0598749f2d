/-
  What functions of shapes do to the memory they own, step by step: each theorem is one function's contract. Conditions: those that each theorem names.
-/
import Derived.Test.YtdfhbheipagnmaaShapesD
set_option linter.unusedVariables false
set_option linter.unusedSimpArgs false
set_option maxRecDepth 100000
namespace Go.Proofs.Ytdfhbheipagnmaa
open Go.Sl

theorem shapes_there {W0 : World} {F : TreeF} {V : TreeV} (hV : V.ok F) (n : Int) : SC Try.prog W0 78 #[.pointer (some ⟨F.p, 0, none⟩), .int .i64 n] (TreeV.ent V F) (Ret (fun _ : Unit => V.ent F) (fun v _ => v = .bool (decide (0 ≤ n ∧ n < V.l.length)))) := by
  refine SC_body (fn := Try.f78) (n := 16) Try.func78 rfl (by kernel_rfl) (ρ := [(0, pt F.p 0), (1, .int .i64 n)]) rfl ?_
  refine SW_sig ((TreeV.ent V F) ++ ([])) (by simp only [List.append_nil, List.append_assoc]) ?_
  refine SW_seq ?_
  refine SW_region ?_
  refine SL_s1 1 4 (.bool false) (by intro δ w; kernel_rfl) ?_
  refine SL_nil (n_then ?_)
  refine SW_seq ?_
  refine SW_region ?_
  refine SL_s3 3 7 (.bool (decide (n ≥ 0))) 6 (.bool (decide (n ≥ 0))) 5 (.int .i64 n) (by intro δ w; kernel_rfl) ?_
  refine SL_tb (decide (n ≥ 0)) (fun tb_ => [(7, .bool tb_), (6, .bool tb_), (5, .int .i64 n), (4, .bool false), (0, pt F.p 0), (1, .int .i64 n)]) (fun hg1 => ?_) (fun hg1 => ?_)
  · skip
    replace hg1 := of_decide_eq_true hg1
    refine SL_s4 4 11 (pt F.p 1) 10 (pt F.p 0) 9 (pt F.p 0) 8 (.int .i64 n) (by intro δ w; kernel_rfl) ?_
    refine SL_cons ⟨rfl, fun _ => rfl⟩ (O_load F.p 1 (Gs.val V.s V.l.length) (fun _ => rfl) (by kernel_rfl) (Cell.own (mem_h (TreeV.m0 V F)) rfl) rfl ?_)
    refine SL_segT 4 [(4, .bool (decide (n < (V.l.length : Int)))), (0, pt F.p 0), (1, .int .i64 n)] (by intro δ w; kernel_rfl) ?_
    refine SL_nil (n_then ?_)
    refine SW_ret ?_
    refine body_end (.bool (decide (n < (V.l.length : Int)))) (fun _ => rfl) ?_
    exact ⟨(), (own_mk (J := ([])) (List.Perm.refl _) (by simp only [List.cons_append, List.append_assoc, List.nil_append, List.append_nil])), congrArg Value.bool (by simp; omega)⟩
  · skip
    replace hg1 := of_decide_eq_false hg1
    refine SL_segT 9 [(4, .bool false), (0, pt F.p 0), (1, .int .i64 n)] (by intro δ w; kernel_rfl) ?_
    refine SL_nil (n_then ?_)
    refine SW_ret ?_
    refine body_end (.bool false) (fun _ => rfl) ?_
    exact ⟨(), (own_mk (J := ([])) (List.Perm.refl _) (by simp only [List.cons_append, List.append_assoc, List.nil_append, List.append_nil])), congrArg Value.bool (by simp; omega)⟩

theorem shapes_key {W0 : World} {σ : Heaplet} {kb : Nat} {key : ByteArray} (hk : (kb, Blk.cells 9 1 [.string key]) ∈ σ) (a : ByteArray) (f : Int) : SC Try.prog W0 92 #[.agg #[.string a, .int .i64 f], .pointer (some ⟨kb, 0, none⟩)] σ (Ret (fun _ : Unit => σ) (fun v _ => v = .bool (decide (a = key)))) := by
  refine SC_body (fn := Try.f92) (n := 8) Try.func92 rfl (by kernel_rfl) (ρ := [(0, .agg #[.string a, .int .i64 f]), (1, pt kb 0)]) rfl ?_
  refine SW_sig (σ ++ ([])) (by simp only [List.append_nil, List.append_assoc]) ?_
  refine SW_seq ?_
  refine SW_region ?_
  refine SL_cons ⟨rfl, fun _ => rfl⟩ (O_new (fun b => .pointer (some ⟨b, 0, none⟩)) (.cells #[.string a, .int .i64 f] 136 (0, 0)) (.cells 136 2 [.string a, .int .i64 f]) rfl (by intro δ w; kernel_rfl) ⟨rfl, rfl, rfl, rfl⟩ ?_)
  intro b1 hlb1 hnb1
  refine SL_s1 1 3 (.bool false) (by intro δ w; kernel_rfl) ?_
  refine SL_nil (n_then ?_)
  refine SW_seq ?_
  refine SW_region ?_
  refine SL_s1 1 4 (pt b1 0) (by intro δ w; kernel_rfl) ?_
  refine SL_cons ⟨rfl, fun _ => rfl⟩ (O_load b1 0 (.string a) (fun _ => rfl) (by kernel_rfl) (Cell.own mem_z rfl) rfl ?_)
  refine SL_cons ⟨rfl, fun _ => rfl⟩ (O_load kb 0 (.string key) (fun _ => rfl) (by kernel_rfl) (Cell.own (mem_c (mem_h hk)) rfl) rfl ?_)
  refine SL_s1 1 7 (.bool (a.toList == key.toList)) (by intro δ w; kernel_rfl) ?_
  rw [show (a.toList == key.toList) = (decide (a = key)) from by rw [str_eq]]
  refine SL_segT 1 [(3, .bool (decide (a = key))), (2, pt b1 0), (0, .agg #[.string a, .int .i64 f]), (1, pt kb 0)] (by intro δ w; kernel_rfl) ?_
  refine SL_nil (n_then ?_)
  refine SW_ret ?_
  refine body_end (.bool (decide (a = key))) (fun _ => rfl) ?_
  exact ⟨(), (own_mk (J := ((b1, .cells 136 2 [.string a, .int .i64 f]) :: ([]))) (List.Perm.trans (perm_cc perm_cz) (List.Perm.append_left _ (List.Perm.refl _))) (by simp only [List.cons_append, List.append_assoc, List.nil_append, List.append_nil])), rfl⟩

theorem shapes_ixfunc {W0 : World} {σ : Heaplet} {kb : Nat} {key : ByteArray} (hk : (kb, Blk.cells 9 1 [.string key]) ∈ σ) {ls : Gs} {l : List PropP} (hl : ls.ok 2 l.length (l.flatMap propCells)) (hm : ∀ e ∈ ls.ent 136 2 (l.flatMap propCells), e ∈ σ) : SC Try.prog W0 91 #[ls.val l.length, .func (.func 92) #[] #[.pointer (some ⟨kb, 0, none⟩)]] σ (Ret (fun _ : Unit => σ) (fun v _ => v = .int .i64 (keyIx l key))) := by
  refine SC_body (fn := Try.f91) (n := 19) Try.func91 rfl (by kernel_rfl) (ρ := [(0, Gs.val ls l.length), (1, .func (.func 92) #[] #[pt kb 0])]) rfl ?_
  refine SW_sig (σ ++ ([])) (by simp only [List.append_nil, List.append_assoc]) ?_
  have hcap : l.length ≤ maxLen := Nat.le_trans (Gs.ok.cap_le hl) (Gs.ok.cap_max hl)
  unfold maxLen at hcap
  refine SW_seq ?_
  refine SW_region ?_
  refine SL_s1 1 4 (.int .i64 0) (by intro δ w; kernel_rfl) ?_
  refine SL_nil (n_then ?_)
  refine SW_seq ?_
  refine SW_seq ?_
  refine SW_region ?_
  refine SL_s3 3 8 (.int .i64 0) 7 (.int .i64 (l.length : Int)) 6 (Gs.val ls l.length) (by intro δ w; kernel_rfl) ?_
  refine SL_nil (n_then ?_)
  refine SW_block ?_
  refine SW_loop (α := Nat) (fun z_ ρ_ σ_ => Fits ρ_ σ_ [(8, .int .i64 (z_ : Int)), (7, .int .i64 (l.length : Int)), (1, .func (.func 92) #[] #[pt kb 0]), (0, Gs.val ls l.length)] (σ ++ ([])) ∧ z_ ≤ l.length ∧ keyIx l key = ixFrom (fun p : PropP => decide (p.1 = key)) (l.drop z_) z_) (fun z_ => l.length - z_) 0 ⟨⟨fun _ => rfl, (own_mk (J := ([])) (List.Perm.refl _) (by simp only [List.cons_append, List.append_assoc, List.nil_append, List.append_nil]))⟩, Nat.zero_le _, rfl⟩ ?_
  rintro i ρ_ σ_ ⟨hfit, hi0, hi1⟩
  refine SW_fits hfit ?_
  clear hfit
  refine SW_seq ?_
  refine SW_region ?_
  refine SL_s1 1 9 (.bool (decide ((i : Int) < (l.length : Int)))) (by intro δ w; kernel_rfl) ?_
  refine SL_nil (n_then ?_)
  refine SW_seq ?_
  refine SW_cond (decide ((i : Int) < (l.length : Int))) (fun _ => rfl) (fun hc1 => ?_) (fun hc1 => ?_)
  · skip
    replace hc1 := of_decide_eq_true hc1
    refine SW_skip (n_then ?_)
    refine SW_seq ?_
    refine SW_block ?_
    refine SW_seq ?_
    refine SW_region ?_
    refine SL_s2 2 5 (.int .i64 (i : Int)) 10 (.int .i64 (i : Int)) (by intro δ w; kernel_rfl) ?_
    refine SL_nil (n_then ?_)
    refine SW_seq ?_
    refine SW_region ?_
    refine SL_s3 3 13 (.int .i64 (i : Int)) 12 (Gs.val ls l.length) 11 (.func (.func 92) #[] #[pt kb 0]) (by intro δ w; kernel_rfl) ?_
    refine SL_cons ⟨rfl, fun _ => rfl⟩ (O_indexAddr' (i : Int) (i * 2) (Gs.blk ls) 0 l.length (Gs.cap ls) .i64 2 Try.underlying130 (by kernel_rfl) (fun _ => gs_slice (Gs.ok.ne hl (by first | omega | (simp; omega)))) (fun _ => rfl) (by omega) (by omega) (by omega) rfl ?_)
    obtain ⟨e1, he1⟩ : ∃ y_, l[i]? = some y_ := ⟨_, List.getElem?_eq_getElem (by omega)⟩
    refine SL_cons ⟨rfl, fun _ => rfl⟩ (O_loads (Gs.blk ls) (i * 2) [.string e1.1, .int .i64 e1.2] (fun _ => rfl) (by kernel_rfl) (cells_cons (Gs.cell hl (fun e he => (mem_h (hm _ he))) (flat_cell propCells_len he1 (j := 0) (by decide) rfl)) (cells_cons (Gs.cell hl (fun e he => (mem_h (hm _ he))) (flat_cell propCells_len he1 (j := 1) (by decide) rfl)) cells_nil)) rfl ?_)
    refine SL_cons ⟨rfl, fun _ => rfl⟩ (O_call 92 #[.agg #[.string e1.1, .int .i64 e1.2], pt kb 0] rfl (by intro δ w; kernel_rfl) ((shapes_key hk e1.1 e1.2).use _) ?_)
    rintro _ σ1 ⟨_, hσ1, rfl⟩
    obtain rfl : σ1 = (σ ++ ([])) := hσ1.trans (rfl)
    refine SL_nil (n_then ?_)
    refine SW_cond (decide (e1.1 = key)) (fun _ => rfl) (fun hc2 => ?_) (fun hc2 => ?_)
    · skip
      replace hc2 := of_decide_eq_true hc2
      refine SW_seq ?_
      refine SW_region ?_
      refine SL_s2 2 4 (.int .i64 (i : Int)) 17 (.int .i64 (i : Int)) (by intro δ w; kernel_rfl) ?_
      refine SL_nil (n_then ?_)
      refine SW_ret (r_in (r_then (r_then (r_in (r_then ?_)))))
      refine body_end (.int .i64 (i : Int)) (fun _ => rfl) ?_
      exact ⟨(), (own_mk (J := ([])) (List.Perm.refl _) (by simp only [List.cons_append, List.append_assoc, List.nil_append, List.append_nil])), congrArg (Value.int .i64) (by rw [hi1, ixFrom_at he1, if_pos (by simpa using hc2)])⟩
    · skip
      replace hc2 := of_decide_eq_false hc2
      refine SW_skip (n_in (n_then ?_))
      refine SW_region ?_
      refine SL_s1 1 18 (.int .i64 (IntKind.wrap .i64 ((i : Int) + 1))) (by intro δ w; kernel_rfl) ?_
      rw [show IntKind.wrap .i64 ((i : Int) + 1) = (i : Int) + 1 from IntWalk.i64_in _ (by omega)]
      refine SL_segT 1 [(8, .int .i64 ((i : Int) + 1)), (16, .bool (decide (e1.1 = key))), (5, .int .i64 (i : Int)), (9, .bool (decide ((i : Int) < (l.length : Int)))), (7, .int .i64 (l.length : Int)), (1, .func (.func 92) #[] #[pt kb 0]), (0, Gs.val ls l.length)] (by intro δ w; kernel_rfl) ?_
      refine SL_nil (n_then ?_)
      exact ⟨i + 1, by omega, ⟨fun _ => rfl, (own_mk (J := ([])) (List.Perm.refl _) (by simp only [List.cons_append, List.append_assoc, List.nil_append, List.append_nil]))⟩, by omega, by rw [hi1, ixFrom_at he1, if_neg (by simpa using hc2)]⟩
  · skip
    replace hc1 := of_decide_eq_false hc1
    refine SW_exit (x_then (x_then (x_in (n_then ?_))))
    refine SW_seq ?_
    refine SW_region ?_
    refine SL_s1 1 4 (.int .i64 (-1)) (by intro δ w; kernel_rfl) ?_
    refine SL_nil (n_then ?_)
    refine SW_ret ?_
    refine body_end (.int .i64 (-1)) (fun _ => rfl) ?_
    exact ⟨(), (own_mk (J := ([])) (List.Perm.refl _) (by simp only [List.cons_append, List.append_assoc, List.nil_append, List.append_nil])), congrArg (Value.int .i64) (by rw [hi1, ixFrom_end (by omega)])⟩

theorem shapes_place {W0 : World} {σ : Heaplet} {ls : Gs} {l : List PropP} (hl : ls.ok 2 l.length (l.flatMap propCells)) (hm : ∀ e ∈ ls.ent 136 2 (l.flatMap propCells), e ∈ σ) (pr : Int) (nb : Nat) (key : ByteArray) : SC Try.prog W0 79 #[.agg #[.int .u64 pr, ls.val l.length, .map (some nb)], .string key] σ (Ret (fun _ : Unit => σ) (fun v _ => v = .int .i64 (keyIx l key))) := by
  refine SC_body (fn := Try.f79) (n := 9) Try.func79 rfl (by kernel_rfl) (ρ := [(0, .agg #[.int .u64 pr, Gs.val ls l.length, .map (some nb)]), (1, .string key)]) rfl ?_
  refine SW_sig (σ ++ ([])) (by simp only [List.append_nil, List.append_assoc]) ?_
  refine SW_seq ?_
  refine SW_region ?_
  refine SL_cons ⟨rfl, fun _ => rfl⟩ (O_new (fun b => .pointer (some ⟨b, 0, none⟩)) (.cells #[.int .u64 pr, Gs.val ls l.length, .map (some nb)] 133 (0, 0)) (.cells 133 3 [.int .u64 pr, Gs.val ls l.length, .map (some nb)]) rfl (by intro δ w; kernel_rfl) ⟨rfl, rfl, rfl, rfl⟩ ?_)
  intro b1 hlb1 hnb1
  refine SL_cons ⟨rfl, fun _ => rfl⟩ (O_new (fun b => .pointer (some ⟨b, 0, none⟩)) (.cells #[.string key] 9 (0, 0)) (.cells 9 1 [.string key]) rfl (by intro δ w; kernel_rfl) ⟨rfl, rfl, rfl, rfl⟩ ?_)
  intro b2 hlb2 hnb2
  refine SL_s1 1 4 (.int .i64 0) (by intro δ w; kernel_rfl) ?_
  refine SL_nil (n_then ?_)
  refine SW_seq ?_
  refine SW_region ?_
  refine SL_s1 1 5 (pt b1 1) (by intro δ w; kernel_rfl) ?_
  refine SL_cons ⟨rfl, fun _ => rfl⟩ (O_load b1 1 (Gs.val ls l.length) (fun _ => rfl) (by kernel_rfl) (Cell.own (mem_c mem_z) rfl) rfl ?_)
  refine SL_s1 1 7 (.func (.func 92) #[] #[pt b2 0]) (by intro δ w; kernel_rfl) ?_
  refine SL_sig (((b2, .cells 9 1 [.string key]) :: ((b1, .cells 133 3 [.int .u64 pr, Gs.val ls l.length, .map (some nb)]) :: (σ ++ ([])))) ++ []) (by simp only [List.append_nil]) ?_
  refine SL_cons ⟨rfl, fun _ => rfl⟩ (O_call 91 #[Gs.val ls l.length, .func (.func 92) #[] #[pt b2 0]] rfl (by intro δ w; kernel_rfl) ((shapes_ixfunc (σ := ((b2, .cells 9 1 [.string key]) :: ((b1, .cells 133 3 [.int .u64 pr, Gs.val ls l.length, .map (some nb)]) :: (σ ++ ([]))))) (kb := b2) (key := key) mem_z hl (fun e he => (mem_c (mem_c (mem_h (hm e he)))))).use _) ?_)
  rintro _ _ ⟨_, rfl, rfl⟩
  refine SL_sig ((b2, .cells 9 1 [.string key]) :: ((b1, .cells 133 3 [.int .u64 pr, Gs.val ls l.length, .map (some nb)]) :: (σ ++ ([])))) (by simp only [List.append_nil]) ?_
  refine SL_segT 1 [(4, .int .i64 (keyIx l key)), (3, pt b2 0), (2, pt b1 0), (0, .agg #[.int .u64 pr, Gs.val ls l.length, .map (some nb)]), (1, .string key)] (by intro δ w; kernel_rfl) ?_
  refine SL_nil (n_then ?_)
  refine SW_ret ?_
  refine body_end (.int .i64 (keyIx l key)) (fun _ => rfl) ?_
  exact ⟨(), (own_mk (J := ((b2, .cells 9 1 [.string key]) :: ((b1, .cells 133 3 [.int .u64 pr, Gs.val ls l.length, .map (some nb)]) :: ([])))) (List.Perm.trans (perm_cc (perm_cc perm_cz)) (List.Perm.append_left _ (List.Perm.refl _))) (by simp only [List.cons_append, List.append_assoc, List.nil_append, List.append_nil])), rfl⟩

theorem shapes_Find {W0 : World} {F : TreeF} {V : TreeV} (hV : V.ok F) (n : Int) (key : ByteArray) : SC Try.prog W0 67 #[.pointer (some ⟨F.p, 0, none⟩), .int .i64 n, .string key] (TreeV.ent V F) (Ret (fun _ : Unit => V.ent F) (fun v _ => v = three (findP (V.abs F) n key))) := by
  refine SC_body (fn := Try.f67) (n := 38) Try.func67 rfl (by kernel_rfl) (ρ := [(0, pt F.p 0), (1, .int .i64 n), (2, .string key)]) rfl ?_
  refine SW_sig ((TreeV.ent V F) ++ ([])) (by simp only [List.append_nil, List.append_assoc]) ?_
  refine SW_seq ?_
  refine SW_region ?_
  refine SL_s3 3 8 (.bool false) 7 (.int .i64 0) 6 (.int .i64 0) (by intro δ w; kernel_rfl) ?_
  refine SL_nil (n_then ?_)
  refine SW_seq ?_
  refine SW_seq ?_
  refine SW_region ?_
  refine SL_s2 2 11 (.int .i64 n) 10 (pt F.p 0) (by intro δ w; kernel_rfl) ?_
  refine SL_cons ⟨rfl, fun _ => rfl⟩ (O_call 78 #[pt F.p 0, .int .i64 n] rfl (by intro δ w; kernel_rfl) ((shapes_there hV n).use _) ?_)
  rintro _ σ1 ⟨_, hσ1, rfl⟩
  obtain rfl : σ1 = ((TreeV.ent V F) ++ ([])) := hσ1.trans (rfl)
  refine SL_s1 1 13 (.bool (!(decide (0 ≤ n ∧ n < V.l.length)))) (by intro δ w; kernel_rfl) ?_
  refine SL_nil (n_then ?_)
  refine SW_cond (!(decide (0 ≤ n ∧ n < V.l.length))) (fun _ => rfl) (fun hc1 => ?_) (fun hc1 => ?_)
  · skip
    replace hc1 := bnot_t hc1
    replace hc1 := of_decide_eq_false hc1
    refine SW_seq ?_
    refine SW_region ?_
    refine SL_segT 3 [(8, .bool false), (7, .int .i64 0), (6, .int .i64 0), (13, .bool (!(decide (0 ≤ n ∧ n < V.l.length)))), (0, pt F.p 0), (1, .int .i64 n), (2, .string key)] (by intro δ w; kernel_rfl) ?_
    refine SL_nil (n_then ?_)
    refine SW_ret (r_then ?_)
    refine body_end (.tuple #[.int .i64 0, .int .i64 0, .bool false]) (fun _ => rfl) ?_
    exact ⟨(), (own_mk (J := ([])) (List.Perm.refl _) (by simp only [List.cons_append, List.append_assoc, List.nil_append, List.append_nil])), congrArg three (show (0, 0, false) = findP (V.abs F) n key from by simp only [findP, shapeAt_out F hc1])⟩
  · skip
    replace hc1 := bnot_f hc1
    replace hc1 := of_decide_eq_true hc1
    refine SW_skip (n_then ?_)
    refine SW_seq ?_
    refine SW_region ?_
    refine SL_s3 3 16 (pt F.p 1) 15 (pt F.p 0) 14 (pt F.p 0) (by intro δ w; kernel_rfl) ?_
    refine SL_cons ⟨rfl, fun _ => rfl⟩ (O_load F.p 1 (Gs.val V.s V.l.length) (fun _ => rfl) (by kernel_rfl) (Cell.own (mem_h (TreeV.m0 V F)) rfl) rfl ?_)
    refine SL_s1 1 18 (.int .i64 n) (by intro δ w; kernel_rfl) ?_
    refine SL_cons ⟨rfl, fun _ => rfl⟩ (O_indexAddr' n (n.toNat * 3) (Gs.blk V.s) 0 V.l.length (Gs.cap V.s) .i64 3 Try.underlying120 (by kernel_rfl) (fun _ => gs_slice (Gs.ok.ne (TreeV.ok.row hV) (by first | omega | (simp; omega)))) (fun _ => rfl) (by omega) (by omega) (by omega) rfl ?_)
    obtain ⟨e1, he1⟩ : ∃ y_, V.l[n.toNat]? = some y_ := ⟨_, List.getElem?_eq_getElem (by omega)⟩
    refine SL_cons ⟨rfl, fun _ => rfl⟩ (O_loads (Gs.blk V.s) (n.toNat * 3) [.int .u64 e1.proto, Gs.val e1.ls e1.l.length, .map (some e1.nb)] (fun _ => rfl) (by kernel_rfl) (cells_cons (Gs.cell (TreeV.ok.row hV) (fun e he => (mem_h ((TreeV.m1 V F) _ he))) (flat_cell ShapeL.len he1 (j := 0) (by decide) rfl)) (cells_cons (Gs.cell (TreeV.ok.row hV) (fun e he => (mem_h ((TreeV.m1 V F) _ he))) (flat_cell ShapeL.len he1 (j := 1) (by decide) rfl)) (cells_cons (Gs.cell (TreeV.ok.row hV) (fun e he => (mem_h ((TreeV.m1 V F) _ he))) (flat_cell ShapeL.len he1 (j := 2) (by decide) rfl)) cells_nil))) rfl ?_)
    refine SL_s1 1 21 (.string key) (by intro δ w; kernel_rfl) ?_
    refine SL_cons ⟨rfl, fun _ => rfl⟩ (O_call 79 #[.agg #[.int .u64 e1.proto, Gs.val e1.ls e1.l.length, .map (some e1.nb)], .string key] rfl (by intro δ w; kernel_rfl) ((shapes_place (σ := (TreeV.ent V F)) (TreeV.ok.at hV he1) (TreeV.m2 F he1) e1.proto e1.nb key).use _) ?_)
    rintro _ σ2 ⟨_, hσ2, rfl⟩
    obtain rfl : σ2 = ((TreeV.ent V F) ++ ([])) := hσ2.trans (rfl)
    refine SL_s1 1 9 (.int .i64 (keyIx e1.l key)) (by intro δ w; kernel_rfl) ?_
    refine SL_nil (n_then ?_)
    refine SW_seq ?_
    refine SW_seq ?_
    refine SW_region ?_
    refine SL_segT 2 [(24, .bool (decide ((keyIx e1.l key) < 0))), (9, .int .i64 (keyIx e1.l key)), (13, .bool (!(decide (0 ≤ n ∧ n < V.l.length)))), (8, .bool false), (7, .int .i64 0), (6, .int .i64 0), (0, pt F.p 0), (1, .int .i64 n), (2, .string key)] (by intro δ w; kernel_rfl) ?_
    refine SL_nil (n_then ?_)
    refine SW_cond (decide ((keyIx e1.l key) < 0)) (fun _ => rfl) (fun hc2 => ?_) (fun hc2 => ?_)
    · skip
      replace hc2 := of_decide_eq_true hc2
      refine SW_seq ?_
      refine SW_region ?_
      refine SL_segT 3 [(8, .bool false), (7, .int .i64 0), (6, .int .i64 0), (24, .bool (decide ((keyIx e1.l key) < 0))), (9, .int .i64 (keyIx e1.l key)), (13, .bool (!(decide (0 ≤ n ∧ n < V.l.length)))), (0, pt F.p 0), (1, .int .i64 n), (2, .string key)] (by intro δ w; kernel_rfl) ?_
      refine SL_nil (n_then ?_)
      refine SW_ret (r_then ?_)
      refine body_end (.tuple #[.int .i64 0, .int .i64 0, .bool false]) (fun _ => rfl) ?_
      exact ⟨(), (own_mk (J := ([])) (List.Perm.refl _) (by simp only [List.cons_append, List.append_assoc, List.nil_append, List.append_nil])), congrArg three (show (0, 0, false) = findP (V.abs F) n key from by simp only [findP, shapeAt_in F hc1 he1, ShapeL.abs, if_pos hc2])⟩
    · skip
      replace hc2 := of_decide_eq_false hc2
      have hix : keyIx e1.l key < e1.l.length := keyIx_lt (by omega)
      refine SW_skip (n_then ?_)
      refine SW_seq ?_
      obtain ⟨e2, he2⟩ : ∃ y_, e1.l[((keyIx e1.l key).toNat)]? = some y_ := ⟨_, List.getElem?_eq_getElem (by omega)⟩
      refine SW_draw [(F.p, 1, Gs.val V.s V.l.length), ((Gs.blk V.s), n.toNat * 3 + 1, Gs.val e1.ls e1.l.length), ((Gs.blk e1.ls), ((keyIx e1.l key).toNat) * 2 + 1, .int .i64 e2.2)] [0, 1, 2, 3, 4, 5, 6, 7, 8, 9, 10, 11, 13] (by kernel_rfl) (rd_cons (Cell.own (mem_h (TreeV.m0 V F)) rfl) (rd_cons (Gs.cell (TreeV.ok.row hV) (fun e he => (mem_h ((TreeV.m1 V F) _ he))) (flat_cell ShapeL.len he1 (j := 1) (by decide) rfl)) (rd_cons (Gs.cell (TreeV.ok.at hV he1) (fun e he => (mem_h ((TreeV.m2 F he1) _ he))) (flat_cell propCells_len he2 (j := 1) (by decide) rfl)) rd_nil))) ?_
      refine SA_take (li' := #[true, false, false, false, false, false, false, false, false, false, false, false, false, false, false, false]) 0 _ (.int .i64 (keyIx e1.l key)) (fun _ _ _ h => h) rfl (by kernel_rfl) rfl (Or.inl ⟨fun _ => rfl, by intro δ w; kernel_rfl⟩) ?_
      refine SA_take (li' := #[true, true, false, false, false, false, false, false, false, false, false, false, false, false, false, false]) 1 _ (pt F.p 0) (fun _ _ _ h => h) rfl (by kernel_rfl) rfl (Or.inl ⟨fun _ => rfl, by intro δ w; kernel_rfl⟩) ?_
      refine SA_take (li' := #[true, true, true, false, false, false, false, false, false, false, false, false, false, false, false, false]) 2 _ (pt F.p 0) (fun _ _ _ h => h) rfl (by kernel_rfl) rfl (Or.inl ⟨fun _ => rfl, by intro δ w; kernel_rfl⟩) ?_
      refine SA_take (li' := #[true, true, true, true, false, false, false, false, false, false, false, false, false, false, false, false]) 3 _ (pt F.p 1) (fun _ _ _ h => h) rfl (by kernel_rfl) rfl (Or.inl ⟨fun _ => rfl, by intro δ w; kernel_rfl⟩) ?_
      refine SA_read (li' := #[true, true, true, true, true, false, false, false, false, false, false, false, false, false, false, false]) 4 _ (Gs.val V.s V.l.length) (fun _ _ _ h => h) rfl (by kernel_rfl) rfl (fun _ => rfl) (fun δ w hr => Rd_load F.p 1 (Gs.val V.s V.l.length) rfl (by kernel_rfl) List.mem_cons_self hr) ?_
      refine SA_take (li' := #[true, true, true, true, true, true, false, false, false, false, false, false, false, false, false, false]) 5 _ (.int .i64 n) (fun _ _ _ h => h) rfl (by kernel_rfl) rfl (Or.inl ⟨fun _ => rfl, by intro δ w; kernel_rfl⟩) ?_
      refine SA_take (li' := #[true, true, true, true, true, true, true, false, false, false, false, false, false, false, false, false]) 6 _ (pt (Gs.blk V.s) (n.toNat * 3)) (fun _ _ _ h => h) rfl (by kernel_rfl) rfl (Or.inl ⟨fun _ => rfl, (fun δ w => run_indexAddr n (n.toNat * 3) (Gs.blk V.s) 0 V.l.length (Gs.cap V.s) .i64 3 Try.underlying120 (by kernel_rfl) (fun _ => gs_slice (Gs.ok.ne (TreeV.ok.row hV) (by first | omega | (simp; omega)))) (fun _ => rfl) (by omega) (by omega) (by omega))⟩) ?_
      refine SA_take (li' := #[true, true, true, true, true, true, true, true, false, false, false, false, false, false, false, false]) 7 _ (pt (Gs.blk V.s) (n.toNat * 3 + 1)) (fun _ _ _ h => h) rfl (by kernel_rfl) rfl (Or.inl ⟨fun _ => rfl, by intro δ w; kernel_rfl⟩) ?_
      refine SA_read (li' := #[true, true, true, true, true, true, true, true, true, false, false, false, false, false, false, false]) 8 _ (Gs.val e1.ls e1.l.length) (fun _ _ _ h => h) rfl (by kernel_rfl) rfl (fun _ => rfl) (fun δ w hr => Rd_load (Gs.blk V.s) (n.toNat * 3 + 1) (Gs.val e1.ls e1.l.length) rfl (by kernel_rfl) (List.mem_cons_of_mem _ List.mem_cons_self) hr) ?_
      refine SA_take (li' := #[true, true, true, true, true, true, true, true, true, true, false, false, false, false, false, false]) 9 _ (.int .i64 (keyIx e1.l key)) (fun _ _ _ h => h) rfl (by kernel_rfl) rfl (Or.inl ⟨fun _ => rfl, by intro δ w; kernel_rfl⟩) ?_
      refine SA_take (li' := #[true, true, true, true, true, true, true, true, true, true, true, false, false, false, false, false]) 10 _ (pt (Gs.blk e1.ls) (((keyIx e1.l key).toNat) * 2)) (fun _ _ _ h => h) rfl (by kernel_rfl) rfl (Or.inl ⟨fun _ => rfl, (fun δ w => run_indexAddr (keyIx e1.l key) (((keyIx e1.l key).toNat) * 2) (Gs.blk e1.ls) 0 e1.l.length (Gs.cap e1.ls) .i64 2 Try.underlying130 (by kernel_rfl) (fun _ => gs_slice (Gs.ok.ne (TreeV.ok.at hV he1) (by first | omega | (simp; omega)))) (fun _ => rfl) (by omega) (by omega) (by omega))⟩) ?_
      refine SA_trim [(35, pt (Gs.blk e1.ls) (((keyIx e1.l key).toNat) * 2)), (25, .int .i64 (keyIx e1.l key)), (24, .bool (decide ((keyIx e1.l key) < 0))), (9, .int .i64 (keyIx e1.l key)), (13, .bool (!(decide (0 ≤ n ∧ n < V.l.length)))), (8, .bool false), (7, .int .i64 0), (6, .int .i64 0), (0, pt F.p 0), (1, .int .i64 n), (2, .string key)] (fun _ => rfl) ?_
      refine SA_take (li' := #[true, true, true, true, true, true, true, true, true, true, true, true, false, false, false, false]) 11 _ (pt (Gs.blk e1.ls) (((keyIx e1.l key).toNat) * 2 + 1)) (fun _ _ _ h => h) rfl (by kernel_rfl) rfl (Or.inl ⟨fun _ => rfl, by intro δ w; kernel_rfl⟩) ?_
      refine SA_read (li' := #[true, true, true, true, true, true, true, true, true, true, true, true, true, false, false, false]) 12 _ (.int .i64 e2.2) (fun _ _ _ h => h) rfl (by kernel_rfl) rfl (fun _ => rfl) (fun δ w hr => Rd_load (Gs.blk e1.ls) (((keyIx e1.l key).toNat) * 2 + 1) (.int .i64 e2.2) rfl (by kernel_rfl) (List.mem_cons_of_mem _ (List.mem_cons_of_mem _ List.mem_cons_self)) hr) ?_
      refine SA_take (li' := #[true, true, true, true, true, true, true, true, true, true, true, true, true, true, false, false]) 13 _ (.int .i64 (keyIx e1.l key)) (fun _ _ _ h => h) rfl (by kernel_rfl) rfl (Or.inl ⟨fun _ => rfl, by intro δ w; kernel_rfl⟩) ?_
      refine SA_trim [(6, .int .i64 (keyIx e1.l key)), (37, .int .i64 e2.2), (24, .bool (decide ((keyIx e1.l key) < 0))), (9, .int .i64 (keyIx e1.l key)), (13, .bool (!(decide (0 ≤ n ∧ n < V.l.length)))), (8, .bool false), (7, .int .i64 0), (0, pt F.p 0), (1, .int .i64 n), (2, .string key)] (fun _ => rfl) ?_
      refine SA_take (li' := #[true, true, true, true, true, true, true, true, true, true, true, true, true, true, true, false]) 14 _ (.int .i64 e2.2) (fun _ _ _ h => h) rfl (by kernel_rfl) rfl (Or.inl ⟨fun _ => rfl, by intro δ w; kernel_rfl⟩) ?_
      refine SA_trim [(7, .int .i64 e2.2), (6, .int .i64 (keyIx e1.l key)), (24, .bool (decide ((keyIx e1.l key) < 0))), (9, .int .i64 (keyIx e1.l key)), (13, .bool (!(decide (0 ≤ n ∧ n < V.l.length)))), (8, .bool false), (0, pt F.p 0), (1, .int .i64 n), (2, .string key)] (fun _ => rfl) ?_
      refine SA_take (li' := #[true, true, true, true, true, true, true, true, true, true, true, true, true, true, true, true]) 15 _ (.bool true) (fun _ _ _ h => h) rfl (by kernel_rfl) rfl (Or.inl ⟨fun _ => rfl, by intro δ w; kernel_rfl⟩) ?_
      refine SA_trim [(8, .bool true), (7, .int .i64 e2.2), (6, .int .i64 (keyIx e1.l key)), (24, .bool (decide ((keyIx e1.l key) < 0))), (9, .int .i64 (keyIx e1.l key)), (13, .bool (!(decide (0 ≤ n ∧ n < V.l.length)))), (0, pt F.p 0), (1, .int .i64 n), (2, .string key)] (fun _ => rfl) ?_
      refine SA_done (by kernel_rfl) (n_then ?_)
      refine SW_ret ?_
      refine body_end (.tuple #[.int .i64 (keyIx e1.l key), .int .i64 e2.2, .bool true]) (fun _ => rfl) ?_
      exact ⟨(), (own_mk (J := ([])) (List.Perm.refl _) (by simp only [List.cons_append, List.append_assoc, List.nil_append, List.append_nil])), congrArg three (show (keyIx e1.l key, e2.2, true) = findP (V.abs F) n key from by simp only [findP, shapeAt_in F hc1 he1, ShapeL.abs, if_neg hc2, he2])⟩

theorem shapes_Keys {W0 : World} {F : TreeF} {V : TreeV} (hV : V.ok F) (n : Int) : SC Try.prog W0 53 #[.pointer (some ⟨F.p, 0, none⟩), .int .i64 n] (TreeV.ent V F) (Ret (fun s : Gs => s.ent 9 1 ((keysP (V.abs F) n).map encS) ++ (V.ent F ++ [])) (fun v s => v = s.val (keysP (V.abs F) n).length ∧ s.ok 1 (keysP (V.abs F) n).length ((keysP (V.abs F) n).map encS))) := by
  refine SC_body (fn := Try.f53) (n := 32) Try.func53 rfl (by kernel_rfl) (ρ := [(0, pt F.p 0), (1, .int .i64 n)]) rfl ?_
  refine SW_sig ((TreeV.ent V F) ++ ([])) (by simp only [List.append_nil, List.append_assoc]) ?_
  refine SW_seq ?_
  refine SW_region ?_
  refine SL_s1 1 4 (.slice none 0 0) (by intro δ w; kernel_rfl) ?_
  refine SL_nil (n_then ?_)
  refine SW_seq ?_
  refine SW_seq ?_
  refine SW_region ?_
  refine SL_s2 2 9 (.int .i64 n) 8 (pt F.p 0) (by intro δ w; kernel_rfl) ?_
  refine SL_cons ⟨rfl, fun _ => rfl⟩ (O_call 78 #[pt F.p 0, .int .i64 n] rfl (by intro δ w; kernel_rfl) ((shapes_there hV n).use _) ?_)
  rintro _ σ1 ⟨_, hσ1, rfl⟩
  obtain rfl : σ1 = ((TreeV.ent V F) ++ ([])) := hσ1.trans (rfl)
  refine SL_s1 1 11 (.bool (!(decide (0 ≤ n ∧ n < V.l.length)))) (by intro δ w; kernel_rfl) ?_
  refine SL_nil (n_then ?_)
  refine SW_cond (!(decide (0 ≤ n ∧ n < V.l.length))) (fun _ => rfl) (fun hc1 => ?_) (fun hc1 => ?_)
  · skip
    replace hc1 := bnot_t hc1
    replace hc1 := of_decide_eq_false hc1
    refine SW_seq ?_
    refine SW_region ?_
    refine SL_segT 1 [(4, .slice none 0 0), (11, .bool (!(decide (0 ≤ n ∧ n < V.l.length)))), (0, pt F.p 0), (1, .int .i64 n)] (by intro δ w; kernel_rfl) ?_
    refine SL_nil (n_then ?_)
    refine SW_ret (r_then ?_)
    refine body_end (.slice none 0 0) (fun _ => rfl) ?_
    exact ⟨.nil, Own.of_perm (List.Perm.of_eq (by simp [Gs.ent])), by rw [show keysP (V.abs F) n = [] from by simp only [keysP, shapeAt_out F hc1]]; exact ⟨rfl, rfl, rfl⟩⟩
  · skip
    replace hc1 := bnot_f hc1
    replace hc1 := of_decide_eq_true hc1
    refine SW_skip (n_then ?_)
    refine SW_seq ?_
    refine SW_region ?_
    refine SL_s1 1 5 (.slice none 0 0) (by intro δ w; kernel_rfl) ?_
    refine SL_nil (n_then ?_)
    refine SW_seq ?_
    refine SW_seq ?_
    refine SW_region ?_
    refine SL_s3 3 14 (pt F.p 1) 13 (pt F.p 0) 12 (pt F.p 0) (by intro δ w; kernel_rfl) ?_
    refine SL_cons ⟨rfl, fun _ => rfl⟩ (O_load F.p 1 (Gs.val V.s V.l.length) (fun _ => rfl) (by kernel_rfl) (Cell.own (mem_h (TreeV.m0 V F)) rfl) rfl ?_)
    refine SL_s1 1 16 (.int .i64 n) (by intro δ w; kernel_rfl) ?_
    refine SL_cons ⟨rfl, fun _ => rfl⟩ (O_indexAddr' n (n.toNat * 3) (Gs.blk V.s) 0 V.l.length (Gs.cap V.s) .i64 3 Try.underlying120 (by kernel_rfl) (fun _ => gs_slice (Gs.ok.ne (TreeV.ok.row hV) (by first | omega | (simp; omega)))) (fun _ => rfl) (by omega) (by omega) (by omega) rfl ?_)
    refine SL_s1 1 18 (pt (Gs.blk V.s) (n.toNat * 3 + 1)) (by intro δ w; kernel_rfl) ?_
    obtain ⟨e1, he1⟩ : ∃ y_, V.l[n.toNat]? = some y_ := ⟨_, List.getElem?_eq_getElem (by omega)⟩
    refine SL_cons ⟨rfl, fun _ => rfl⟩ (O_load (Gs.blk V.s) (n.toNat * 3 + 1) (Gs.val e1.ls e1.l.length) (fun _ => rfl) (by kernel_rfl) (Gs.cell (TreeV.ok.row hV) (fun e he => (mem_h ((TreeV.m1 V F) _ he))) (flat_cell ShapeL.len he1 (j := 1) (by decide) rfl)) rfl ?_)
    refine SL_s2 2 21 (.int .i64 0) 20 (.int .i64 (e1.l.length : Int)) (by intro δ w; kernel_rfl) ?_
    refine SL_nil (n_then ?_)
    refine SW_block ?_
    have hroom := hV.room _ _ he1
    have hmany := hV.many
    refine SW_loop (α := Nat × Gs × List ByteArray) (fun z_ ρ_ σ_ => Fits ρ_ σ_ [(21, .int .i64 (z_.1 : Int)), (20, .int .i64 (e1.l.length : Int)), (19, Gs.val e1.ls e1.l.length), (5, Gs.val z_.2.1 ((z_.2.2).length))] ((Gs.ent 9 1 z_.2.1 (z_.2.2.map encS)) ++ ((TreeV.ent V F) ++ ([]))) ∧ z_.1 ≤ e1.l.length ∧ Gs.ok 1 (z_.2.2).length z_.2.1 ((z_.2.2).map encS) ∧ z_.2.2 = (e1.l.take z_.1).map (·.1) ∧ (z_.2.2).length = z_.1) (fun z_ => e1.l.length - z_.1) (0, Gs.nil, []) ⟨⟨fun _ => rfl, (Own.of_perm (List.Perm.of_eq (by simp [Gs.ent])))⟩, Nat.zero_le _, ⟨rfl, rfl⟩, rfl, rfl⟩ ?_
    rintro ⟨i, s, ks⟩ ρ_ σ_ ⟨hfit, hi0, hi1, hi2, hi3⟩
    refine SW_fits hfit ?_
    clear hfit
    simp only [] at hi0 hi1 hi2 hi3 ⊢
    refine SW_seq ?_
    refine SW_region ?_
    refine SL_s1 1 22 (.bool (decide ((i : Int) < (e1.l.length : Int)))) (by intro δ w; kernel_rfl) ?_
    refine SL_nil (n_then ?_)
    refine SW_seq ?_
    refine SW_cond (decide ((i : Int) < (e1.l.length : Int))) (fun _ => rfl) (fun hc2 => ?_) (fun hc2 => ?_)
    · skip
      replace hc2 := of_decide_eq_true hc2
      refine SW_skip (n_then ?_)
      refine SW_seq ?_
      refine SW_block ?_
      refine SW_seq ?_
      refine SW_region ?_
      refine SL_cons ⟨rfl, fun _ => rfl⟩ (O_indexAddr' (i : Int) (i * 2) (Gs.blk e1.ls) 0 e1.l.length (Gs.cap e1.ls) .i64 2 Try.underlying130 (by kernel_rfl) (fun _ => gs_slice (Gs.ok.ne (TreeV.ok.at hV he1) (by first | omega | (simp; omega)))) (fun _ => rfl) (by omega) (by omega) (by omega) rfl ?_)
      obtain ⟨e2, he2⟩ : ∃ y_, e1.l[i]? = some y_ := ⟨_, List.getElem?_eq_getElem (by omega)⟩
      refine SL_cons ⟨rfl, fun _ => rfl⟩ (O_loads (Gs.blk e1.ls) (i * 2) [.string e2.1, .int .i64 e2.2] (fun _ => rfl) (by kernel_rfl) (cells_cons (Gs.cell (TreeV.ok.at hV he1) (fun e he => (mem_a (mem_h ((TreeV.m2 F he1) _ he)))) (flat_cell propCells_len he2 (j := 0) (by decide) rfl)) (cells_cons (Gs.cell (TreeV.ok.at hV he1) (fun e he => (mem_a (mem_h ((TreeV.m2 F he1) _ he)))) (flat_cell propCells_len he2 (j := 1) (by decide) rfl)) cells_nil)) rfl ?_)
      refine SL_cons ⟨rfl, fun _ => rfl⟩ (O_new (fun b => .pointer (some ⟨b, 0, none⟩)) (.cells #[.string ByteArray.empty, .int .i64 0] 136 (0, 0)) (.cells 136 2 [.string ByteArray.empty, .int .i64 0]) rfl (by intro δ w; kernel_rfl) ⟨rfl, rfl, rfl, rfl⟩ ?_)
      intro b3 hlb3 hnb3
      refine SL_cons ⟨rfl, fun _ => rfl⟩ (O_store b3 0 (.agg #[.string e2.1, .int .i64 e2.2]) [.string e2.1, .int .i64 e2.2] (fun _ => rfl) (fun _ => rfl) rfl (by kernel_rfl) rfl (by simp only [List.length_cons, List.length_nil]; omega) rfl ?_)
      refine SL_sig ((b3, .cells 136 2 [.string e2.1, .int .i64 e2.2]) :: ((Gs.ent 9 1 s (ks.map encS)) ++ ((TreeV.ent V F) ++ ([])))) rfl ?_
      refine SL_nil (n_then ?_)
      refine SW_region ?_
      refine SL_s2 2 26 (pt b3 0) 25 (Gs.val s ((ks).length)) (by intro δ w; kernel_rfl) ?_
      refine SL_cons ⟨rfl, fun _ => rfl⟩ (O_load b3 0 (.string e2.1) (fun _ => rfl) (by kernel_rfl) (Cell.own mem_z rfl) rfl ?_)
      refine SL_cons ⟨rfl, fun _ => rfl⟩ (O_new (fun b => .slice (some ⟨b, 0, none⟩) 1 1) (.cells #[.string e2.1] 9 (0, 0)) (.cells 9 1 [.string e2.1]) rfl (by intro δ w; kernel_rfl) ⟨rfl, rfl, rfl, rfl⟩ ?_)
      intro b4 hlb4 hnb4
      refine SL_perm _ (perm_cc (perm_cc perm_cz)) ?_
      refine SL_cons ⟨rfl, fun _ => rfl⟩ (O_append (size := 1) (bytes := 16) (z := .string ByteArray.empty) s ((ks).length) 1 (some ⟨b4, 0, none⟩) 1 (ks.map encS) ([.string e2.1]) ((ks ++ [e2.1]).map encS) (map_snoc _ e2.1 rfl) (fun _ => rfl) (fun _ => rfl) Try.underlying34 (by kernel_rfl) rfl (by decide) hi1 rfl (.inr ⟨b4, 0, rfl, Cells.own (mem_a mem_z) rfl⟩) rfl (by omega) (by decide) rfl ?_)
      intro s5 hks5 hfs5
      rw [show (ks).length + 1 = (ks ++ [e2.1]).length from by simp]
      rw [show (ks).length + 1 = (ks ++ [e2.1]).length from by simp] at hks5
      have hls5 : (ks ++ [e2.1]).length = ks.length + 1 := by simp
      refine SL_segT 1 [(5, Gs.val s5 ((ks ++ [e2.1]).length)), (7, pt b3 0), (22, .bool (decide ((i : Int) < (e1.l.length : Int)))), (21, .int .i64 (i : Int)), (20, .int .i64 (e1.l.length : Int)), (19, Gs.val e1.ls e1.l.length)] (by intro δ w; kernel_rfl) ?_
      refine SL_nil (n_in (n_then ?_))
      refine SW_region ?_
      refine SL_s1 1 30 (.int .i64 (IntKind.wrap .i64 ((i : Int) + 1))) (by intro δ w; kernel_rfl) ?_
      rw [show IntKind.wrap .i64 ((i : Int) + 1) = (i : Int) + 1 from IntWalk.i64_in _ (by omega)]
      refine SL_segT 1 [(21, .int .i64 ((i : Int) + 1)), (5, Gs.val s5 ((ks ++ [e2.1]).length)), (7, pt b3 0), (22, .bool (decide ((i : Int) < (e1.l.length : Int)))), (20, .int .i64 (e1.l.length : Int)), (19, Gs.val e1.ls e1.l.length)] (by intro δ w; kernel_rfl) ?_
      refine SL_nil (n_then ?_)
      exact ⟨(i + 1, s5, (ks ++ [e2.1])), by simp only []; omega, ⟨fun _ => rfl, (own_mk (J := ((b4, .cells 9 1 [.string e2.1]) :: ((b3, .cells 136 2 [.string e2.1, .int .i64 e2.2]) :: ([])))) (List.Perm.trans perm_cz (List.Perm.append_left _ (List.Perm.trans (perm_cc (perm_cc perm_cz)) (List.Perm.append_left _ (List.Perm.refl _))))) (by simp only [List.cons_append, List.append_assoc, List.nil_append, List.append_nil]))⟩, by simp only []; omega, hks5, by simp only []; rw [hi2, List.take_add_one, he2]; simp, by simp only [List.length_append, List.length_singleton]; omega⟩
    · skip
      replace hc2 := of_decide_eq_false hc2
      refine SW_exit (x_then (x_then (x_in (n_then ?_))))
      refine SW_seq ?_
      refine SW_region ?_
      refine SL_s2 2 4 (Gs.val s ((ks).length)) 31 (Gs.val s ((ks).length)) (by intro δ w; kernel_rfl) ?_
      refine SL_nil (n_then ?_)
      refine SW_ret ?_
      refine body_end (Gs.val s ((ks).length)) (fun _ => rfl) ?_
      have hks : keysP (V.abs F) n = ks := by simp only [keysP, shapeAt_in F hc1 he1, ShapeL.abs]; rw [hi2, List.take_of_length_le (by omega)]
      exact ⟨s, by rw [hks]; exact (own_mk (J := ([])) (List.Perm.refl _) (by simp only [List.cons_append, List.append_assoc, List.nil_append, List.append_nil])), by rw [hks]; exact ⟨rfl, hi1⟩⟩

theorem shapes_Clone {W0 : World} {σ : Heaplet} {ls : Gs} {l : List PropP} (hl : ls.ok 2 l.length (l.flatMap propCells)) (hm : ∀ e ∈ ls.ent 136 2 (l.flatMap propCells), e ∈ σ) (hr : l.length ≤ 1099511627776) : SC Try.prog W0 80 #[ls.val l.length] σ (Ret (fun s : Gs => s.ent 136 2 (l.flatMap propCells) ++ (σ ++ [])) (fun v s => v = s.val l.length ∧ s.ok 2 l.length (l.flatMap propCells))) := by
  cases ls with
  | nil =>
    obtain rfl : l = [] := List.eq_nil_of_length_eq_zero hl.1
    refine SC_body (fn := Try.f80) (n := 8) Try.func80 rfl (by kernel_rfl) (ρ := [(0, .slice none 0 0)]) rfl ?_
    refine SW_sig (σ ++ ([])) (by simp only [List.append_nil, List.append_assoc]) ?_
    refine SW_seq ?_
    refine SW_region ?_
    refine SL_s1 1 2 (.slice none 0 0) (by intro δ w; kernel_rfl) ?_
    refine SL_nil (n_then ?_)
    refine SW_seq ?_
    refine SW_seq ?_
    refine SW_region ?_
    refine SL_s2 2 4 (.bool true) 3 (.slice none 0 0) (by intro δ w; kernel_rfl) ?_
    refine SL_nil (n_then ?_)
    refine SW_true (fun _ => rfl) ?_
    refine SW_seq ?_
    refine SW_region ?_
    refine SL_segT 1 [(2, .slice none 0 0), (4, .bool true), (0, .slice none 0 0)] (by intro δ w; kernel_rfl) ?_
    refine SL_nil (n_then ?_)
    refine SW_ret (r_then ?_)
    refine body_end (.slice none 0 0) (fun _ => rfl) ?_
    exact ⟨.nil, Own.of_perm (by simp [Gs.ent]), rfl, ⟨rfl, rfl⟩⟩
  | «at» g c =>
    refine SC_body (fn := Try.f80) (n := 8) Try.func80 rfl (by kernel_rfl) (ρ := [(0, Gs.val (Gs.at g c) l.length)]) rfl ?_
    refine SW_sig (σ ++ ([])) (by simp only [List.append_nil, List.append_assoc]) ?_
    refine SW_seq ?_
    refine SW_region ?_
    refine SL_s1 1 2 (.slice none 0 0) (by intro δ w; kernel_rfl) ?_
    refine SL_nil (n_then ?_)
    refine SW_seq ?_
    refine SW_seq ?_
    refine SW_region ?_
    refine SL_s2 2 4 (.bool false) 3 (Gs.val (Gs.at g c) l.length) (by intro δ w; kernel_rfl) ?_
    refine SL_nil (n_then ?_)
    refine SW_false (fun _ => rfl) ?_
    refine SW_skip (n_then ?_)
    refine SW_seq ?_
    refine SW_region ?_
    refine SL_cons ⟨rfl, fun _ => rfl⟩ (O_new (fun b => .slice (some ⟨b, 0, none⟩) 0 0) (.cells #[] 136 (0, 0)) (.cells 136 0 []) rfl (by intro δ w; kernel_rfl) ⟨rfl, rfl, rfl, rfl⟩ ?_)
    intro b1 hlb1 hnb1
    refine SL_s1 1 6 (Gs.val (Gs.at g c) l.length) (by intro δ w; kernel_rfl) ?_
    refine SL_sig ((Gs.ent 136 2 (Gs.at b1 0) (([] : List PropP).flatMap propCells)) ++ (σ ++ ([]))) rfl ?_
    refine SL_cons ⟨rfl, fun _ => rfl⟩ (O_append (size := 2) (bytes := 24) (z := .agg #[.string ByteArray.empty, .int .i64 0]) (Gs.at b1 0) 0 l.length (Gs.addr (Gs.at g c)) (Gs.cap (Gs.at g c)) (([] : List PropP).flatMap propCells) (l.flatMap propCells) ((([] : List PropP) ++ l).flatMap propCells) (flat_app _ _) (fun _ => rfl) (fun _ => rfl) Try.underlying130 (by kernel_rfl) rfl (by decide) ⟨Nat.le_refl _, by unfold maxLen; omega, rfl⟩ (Gs.ok.len hl) (Gs.src hl (fun e he => (mem_a (mem_h (hm _ he))))) (flat_one (fun _ => rfl) _) (by omega) (by decide) rfl ?_)
    intro s2 hks2 hfs2
    rw [show 0 + l.length = (([] : List PropP) ++ l).length from by simp]
    rw [show 0 + l.length = (([] : List PropP) ++ l).length from by simp] at hks2
    have hls2 : (([] : List PropP) ++ l).length = ([] : List PropP).length + l.length := by simp
    refine SL_segT 1 [(2, Gs.val s2 ((([] : List PropP) ++ l).length)), (4, .bool false), (0, Gs.val (Gs.at g c) l.length)] (by intro δ w; kernel_rfl) ?_
    refine SL_nil (n_then ?_)
    refine SW_ret ?_
    refine body_end (Gs.val s2 ((([] : List PropP) ++ l).length)) (fun _ => rfl) ?_
    exact ⟨s2, (own_mk (J := ([])) (List.Perm.refl _) (by simp only [List.cons_append, List.append_assoc, List.nil_append, List.append_nil])), rfl, hks2⟩

theorem shapes_New {W0 : World} (n : Int) : SC Try.prog W0 35 #[.int .i64 n] [] (Ret (fun F : TreeF => TreeV.ent ⟨.nil, [], []⟩ F) (fun v F => v = .pointer (some ⟨F.p, 0, none⟩) ∧ F.most = if 0 > n then 0 else n)) := by
  refine SC_body (fn := Try.f35) (n := 8) Try.func35 rfl (by kernel_rfl) (ρ := [(0, .int .i64 n)]) rfl ?_
  refine SW_seq ?_
  refine SW_region ?_
  refine SL_s1 1 2 (.pointer none) (by intro δ w; kernel_rfl) ?_
  refine SL_nil (n_then ?_)
  refine SW_seq ?_
  refine SW_region ?_
  refine SL_s2 2 4 (.int .i64 (if 0 > n then 0 else n)) 3 (.int .i64 n) (by intro δ w; kernel_rfl) ?_
  refine SL_cons ⟨rfl, fun _ => rfl⟩ (O_new (fun b => .map (some b)) (.map #[] 0) (.map (kvs encU encI ([]))) rfl (by intro δ w; kernel_rfl) rfl ?_)
  intro b1 hlb1 hnb1
  refine SL_s1 1 6 (.agg #[.int .i64 (if 0 > n then 0 else n), .slice none 0 0, .map (some b1)]) (by intro δ w; kernel_rfl) ?_
  refine SL_cons ⟨rfl, fun _ => rfl⟩ (O_new (fun b => .pointer (some ⟨b, 0, none⟩)) (.cells #[.int .i64 (if 0 > n then 0 else n), .slice none 0 0, .map (some b1)] 122 (0, 0)) (.cells 122 3 [.int .i64 (if 0 > n then 0 else n), .slice none 0 0, .map (some b1)]) rfl (by intro δ w; kernel_rfl) ⟨rfl, rfl, rfl, rfl⟩ ?_)
  intro b2 hlb2 hnb2
  refine SL_segT 1 [(2, pt b2 0), (0, .int .i64 n)] (by intro δ w; kernel_rfl) ?_
  refine SL_nil (n_then ?_)
  refine SW_ret ?_
  refine body_end (pt b2 0) (fun _ => rfl) ?_
  exact ⟨⟨b2, if 0 > n then 0 else n, b1⟩, (Own.of_perm (S := ((b2, .cells 122 3 [.int .i64 (if 0 > n then 0 else n), .slice none 0 0, .map (some b1)]) :: ((b1, .map (kvs encU encI ([]))) :: ([])))) (List.Perm.refl _)), rfl, rfl⟩

theorem shapes_lay_no {W0 : World} {F : TreeF} {V : TreeV} (hV : V.ok F) {ls : Gs} {l : List PropP} (hl : ls.ok 2 l.length (l.flatMap propCells)) (pr : Int) (hfull : F.most ≤ V.l.length) : SC Try.prog W0 90 #[.pointer (some ⟨F.p, 0, none⟩), .agg #[.int .u64 pr, ls.val l.length, .map none]] (TreeV.ent V F ++ (Gs.ent 136 2 ls (l.flatMap propCells) ++ [])) (Ret (fun _ : Unit => V.ent F) (fun v _ => v = two (0, false))) := by
  refine SC_body (fn := Try.f90) (n := 34) Try.func90 rfl (by kernel_rfl) (ρ := [(0, pt F.p 0), (1, .agg #[.int .u64 pr, Gs.val ls l.length, .map none])]) rfl ?_
  have hmany := hV.many
  refine SW_sig ((F.p, .cells 122 3 [.int .i64 F.most, Gs.val V.s V.l.length, .map (some F.rb)]) :: ((Gs.ent 133 3 V.s (V.l.flatMap ShapeL.cells)) ++ ((V.l.flatMap ShapeL.ent) ++ ((F.rb, .map (kvs encU encI V.roots)) :: ((Gs.ent 136 2 ls (l.flatMap propCells)) ++ ([])))))) (by simp [TreeV.ent]) ?_
  refine SW_seq ?_
  refine SW_region ?_
  refine SL_cons ⟨rfl, fun _ => rfl⟩ (O_new (fun b => .pointer (some ⟨b, 0, none⟩)) (.cells #[.int .u64 pr, Gs.val ls l.length, .map none] 133 (0, 0)) (.cells 133 3 [.int .u64 pr, Gs.val ls l.length, .map none]) rfl (by intro δ w; kernel_rfl) ⟨rfl, rfl, rfl, rfl⟩ ?_)
  intro b1 hlb1 hnb1
  refine SL_s2 2 5 (.bool false) 4 (.int .i64 0) (by intro δ w; kernel_rfl) ?_
  refine SL_nil (n_then ?_)
  refine SW_seq ?_
  refine SW_seq ?_
  refine SW_draw [(F.p, 1, Gs.val V.s V.l.length), (F.p, 0, .int .i64 F.most)] [0, 1, 2, 3, 4, 5, 6, 7, 8] (by kernel_rfl) (rd_cons (Cell.own (mem_c mem_z) rfl) (rd_cons (Cell.own (mem_c mem_z) rfl) rd_nil)) ?_
  refine SA_take (li' := #[true, false, false, false, false, false, false, false, false, false]) 0 _ (pt F.p 0) (fun _ _ _ h => h) rfl (by kernel_rfl) rfl (Or.inl ⟨fun _ => rfl, by intro δ w; kernel_rfl⟩) ?_
  refine SA_take (li' := #[true, true, false, false, false, false, false, false, false, false]) 1 _ (pt F.p 0) (fun _ _ _ h => h) rfl (by kernel_rfl) rfl (Or.inl ⟨fun _ => rfl, by intro δ w; kernel_rfl⟩) ?_
  refine SA_take (li' := #[true, true, true, false, false, false, false, false, false, false]) 2 _ (pt F.p 1) (fun _ _ _ h => h) rfl (by kernel_rfl) rfl (Or.inl ⟨fun _ => rfl, by intro δ w; kernel_rfl⟩) ?_
  refine SA_read (li' := #[true, true, true, true, false, false, false, false, false, false]) 3 _ (Gs.val V.s V.l.length) (fun _ _ _ h => h) rfl (by kernel_rfl) rfl (fun _ => rfl) (fun δ w hr => Rd_load F.p 1 (Gs.val V.s V.l.length) rfl (by kernel_rfl) List.mem_cons_self hr) ?_
  refine SA_take (li' := #[true, true, true, true, true, false, false, false, false, false]) 4 _ (.int .i64 (V.l.length : Int)) (fun _ _ _ h => h) rfl (by kernel_rfl) rfl (Or.inl ⟨fun _ => rfl, by intro δ w; kernel_rfl⟩) ?_
  refine SA_take (li' := #[true, true, true, true, true, true, false, false, false, false]) 5 _ (pt F.p 0) (fun _ _ _ h => h) rfl (by kernel_rfl) rfl (Or.inl ⟨fun _ => rfl, by intro δ w; kernel_rfl⟩) ?_
  refine SA_take (li' := #[true, true, true, true, true, true, true, false, false, false]) 6 _ (pt F.p 0) (fun _ _ _ h => h) rfl (by kernel_rfl) rfl (Or.inl ⟨fun _ => rfl, by intro δ w; kernel_rfl⟩) ?_
  refine SA_take (li' := #[true, true, true, true, true, true, true, true, false, false]) 7 _ (pt F.p 0) (fun _ _ _ h => h) rfl (by kernel_rfl) rfl (Or.inl ⟨fun _ => rfl, by intro δ w; kernel_rfl⟩) ?_
  refine SA_read (li' := #[true, true, true, true, true, true, true, true, true, false]) 8 _ (.int .i64 F.most) (fun _ _ _ h => h) rfl (by kernel_rfl) rfl (fun _ => rfl) (fun δ w hr => Rd_load F.p 0 (.int .i64 F.most) rfl (by kernel_rfl) (List.mem_cons_of_mem _ List.mem_cons_self) hr) ?_
  refine SA_take (li' := #[true, true, true, true, true, true, true, true, true, true]) 9 _ (.bool (decide ((V.l.length : Int) ≥ F.most))) (fun _ _ _ h => h) rfl (by kernel_rfl) rfl (Or.inl ⟨fun _ => rfl, by intro δ w; kernel_rfl⟩) ?_
  refine SA_trim [(15, .bool (decide ((V.l.length : Int) ≥ F.most))), (5, .bool false), (4, .int .i64 0), (3, pt b1 0), (0, pt F.p 0), (1, .agg #[.int .u64 pr, Gs.val ls l.length, .map none])] (fun _ => rfl) ?_
  refine SA_done (by kernel_rfl) (n_then ?_)
  refine SW_true (fun _ => (congrArg Value.bool (show (decide ((V.l.length : Int) ≥ F.most)) = true from by simp; omega))) ?_
  refine SW_seq ?_
  refine SW_region ?_
  refine SL_segT 2 [(5, .bool false), (4, .int .i64 0), (15, .bool (decide ((V.l.length : Int) ≥ F.most))), (3, pt b1 0), (0, pt F.p 0), (1, .agg #[.int .u64 pr, Gs.val ls l.length, .map none])] (by intro δ w; kernel_rfl) ?_
  refine SL_nil (n_then ?_)
  refine SW_ret (r_then ?_)
  refine body_end (.tuple #[.int .i64 0, .bool false]) (fun _ => rfl) ?_
  exact ⟨(), (own_mk (S := ((F.p, .cells 122 3 [.int .i64 F.most, Gs.val V.s V.l.length, .map (some F.rb)]) :: ((Gs.ent 133 3 V.s (V.l.flatMap ShapeL.cells)) ++ ((V.l.flatMap ShapeL.ent) ++ ((F.rb, .map (kvs encU encI V.roots)) :: ([])))))) (J := ((b1, .cells 133 3 [.int .u64 pr, Gs.val ls l.length, .map none]) :: ((Gs.ent 136 2 ls (l.flatMap propCells)) ++ ([])))) (List.Perm.trans (perm_c perm_z) (List.Perm.cons _ (List.Perm.trans (perm_cc perm_cz) (List.Perm.append_left _ (List.Perm.trans (perm_cc perm_cz) (List.Perm.append_left _ (List.Perm.trans (perm_c perm_z) (List.Perm.cons _ (List.Perm.refl _))))))))) (by simp only [List.cons_append, List.append_assoc, List.nil_append, List.append_nil])), rfl⟩

theorem shapes_lay_yes {W0 : World} {F : TreeF} {V : TreeV} (hV : V.ok F) {ls : Gs} {l : List PropP} (hl : ls.ok 2 l.length (l.flatMap propCells)) (pr : Int) (hfull : ¬ F.most ≤ V.l.length) (hlr : l.length ≤ V.l.length) : SC Try.prog W0 90 #[.pointer (some ⟨F.p, 0, none⟩), .agg #[.int .u64 pr, ls.val l.length, .map none]] (TreeV.ent V F ++ (Gs.ent 136 2 ls (l.flatMap propCells) ++ [])) (Ret (fun V' : TreeV => V'.ent F) (fun v V' => v = two (V.l.length, true) ∧ V'.ok F ∧ ∃ g nb, V' = V.more g ⟨pr, ls, l, nb, []⟩)) := by
  refine SC_body (fn := Try.f90) (n := 34) Try.func90 rfl (by kernel_rfl) (ρ := [(0, pt F.p 0), (1, .agg #[.int .u64 pr, Gs.val ls l.length, .map none])]) rfl ?_
  have hmany := hV.many
  refine SW_sig ((F.p, .cells 122 3 [.int .i64 F.most, Gs.val V.s V.l.length, .map (some F.rb)]) :: ((Gs.ent 133 3 V.s (V.l.flatMap ShapeL.cells)) ++ ((V.l.flatMap ShapeL.ent) ++ ((F.rb, .map (kvs encU encI V.roots)) :: ((Gs.ent 136 2 ls (l.flatMap propCells)) ++ ([])))))) (by simp [TreeV.ent]) ?_
  refine SW_seq ?_
  refine SW_region ?_
  refine SL_cons ⟨rfl, fun _ => rfl⟩ (O_new (fun b => .pointer (some ⟨b, 0, none⟩)) (.cells #[.int .u64 pr, Gs.val ls l.length, .map none] 133 (0, 0)) (.cells 133 3 [.int .u64 pr, Gs.val ls l.length, .map none]) rfl (by intro δ w; kernel_rfl) ⟨rfl, rfl, rfl, rfl⟩ ?_)
  intro b1 hlb1 hnb1
  refine SL_s2 2 5 (.bool false) 4 (.int .i64 0) (by intro δ w; kernel_rfl) ?_
  refine SL_nil (n_then ?_)
  refine SW_seq ?_
  refine SW_seq ?_
  refine SW_draw [(F.p, 1, Gs.val V.s V.l.length), (F.p, 0, .int .i64 F.most)] [0, 1, 2, 3, 4, 5, 6, 7, 8] (by kernel_rfl) (rd_cons (Cell.own (mem_c mem_z) rfl) (rd_cons (Cell.own (mem_c mem_z) rfl) rd_nil)) ?_
  refine SA_take (li' := #[true, false, false, false, false, false, false, false, false, false]) 0 _ (pt F.p 0) (fun _ _ _ h => h) rfl (by kernel_rfl) rfl (Or.inl ⟨fun _ => rfl, by intro δ w; kernel_rfl⟩) ?_
  refine SA_take (li' := #[true, true, false, false, false, false, false, false, false, false]) 1 _ (pt F.p 0) (fun _ _ _ h => h) rfl (by kernel_rfl) rfl (Or.inl ⟨fun _ => rfl, by intro δ w; kernel_rfl⟩) ?_
  refine SA_take (li' := #[true, true, true, false, false, false, false, false, false, false]) 2 _ (pt F.p 1) (fun _ _ _ h => h) rfl (by kernel_rfl) rfl (Or.inl ⟨fun _ => rfl, by intro δ w; kernel_rfl⟩) ?_
  refine SA_read (li' := #[true, true, true, true, false, false, false, false, false, false]) 3 _ (Gs.val V.s V.l.length) (fun _ _ _ h => h) rfl (by kernel_rfl) rfl (fun _ => rfl) (fun δ w hr => Rd_load F.p 1 (Gs.val V.s V.l.length) rfl (by kernel_rfl) List.mem_cons_self hr) ?_
  refine SA_take (li' := #[true, true, true, true, true, false, false, false, false, false]) 4 _ (.int .i64 (V.l.length : Int)) (fun _ _ _ h => h) rfl (by kernel_rfl) rfl (Or.inl ⟨fun _ => rfl, by intro δ w; kernel_rfl⟩) ?_
  refine SA_take (li' := #[true, true, true, true, true, true, false, false, false, false]) 5 _ (pt F.p 0) (fun _ _ _ h => h) rfl (by kernel_rfl) rfl (Or.inl ⟨fun _ => rfl, by intro δ w; kernel_rfl⟩) ?_
  refine SA_take (li' := #[true, true, true, true, true, true, true, false, false, false]) 6 _ (pt F.p 0) (fun _ _ _ h => h) rfl (by kernel_rfl) rfl (Or.inl ⟨fun _ => rfl, by intro δ w; kernel_rfl⟩) ?_
  refine SA_take (li' := #[true, true, true, true, true, true, true, true, false, false]) 7 _ (pt F.p 0) (fun _ _ _ h => h) rfl (by kernel_rfl) rfl (Or.inl ⟨fun _ => rfl, by intro δ w; kernel_rfl⟩) ?_
  refine SA_read (li' := #[true, true, true, true, true, true, true, true, true, false]) 8 _ (.int .i64 F.most) (fun _ _ _ h => h) rfl (by kernel_rfl) rfl (fun _ => rfl) (fun δ w hr => Rd_load F.p 0 (.int .i64 F.most) rfl (by kernel_rfl) (List.mem_cons_of_mem _ List.mem_cons_self) hr) ?_
  refine SA_take (li' := #[true, true, true, true, true, true, true, true, true, true]) 9 _ (.bool (decide ((V.l.length : Int) ≥ F.most))) (fun _ _ _ h => h) rfl (by kernel_rfl) rfl (Or.inl ⟨fun _ => rfl, by intro δ w; kernel_rfl⟩) ?_
  refine SA_trim [(15, .bool (decide ((V.l.length : Int) ≥ F.most))), (5, .bool false), (4, .int .i64 0), (3, pt b1 0), (0, pt F.p 0), (1, .agg #[.int .u64 pr, Gs.val ls l.length, .map none])] (fun _ => rfl) ?_
  refine SA_done (by kernel_rfl) (n_then ?_)
  refine SW_false (fun _ => (congrArg Value.bool (show (decide ((V.l.length : Int) ≥ F.most)) = false from by simp; omega))) ?_
  refine SW_skip (n_then ?_)
  refine SW_seq ?_
  refine SW_region ?_
  refine SL_cons ⟨rfl, fun _ => rfl⟩ (O_new (fun b => .map (some b)) (.map #[] 0) (.map (kvs stepV encI ([]))) rfl (by intro δ w; kernel_rfl) rfl ?_)
  intro b2 hlb2 hnb2
  refine SL_s1 1 17 (pt b1 2) (by intro δ w; kernel_rfl) ?_
  refine SL_perm _ (perm_c perm_z) ?_
  refine SL_cons ⟨rfl, fun _ => rfl⟩ (O_store b1 2 (.map (some b2)) [.map (some b2)] (fun _ => rfl) (fun _ => rfl) rfl (by kernel_rfl) rfl (by simp only [List.length_cons, List.length_nil]; omega) rfl ?_)
  refine SL_sig ((b1, .cells 133 3 [.int .u64 pr, Gs.val ls l.length, .map (some b2)]) :: ((b2, .map (kvs stepV encI ([]))) :: ((F.p, .cells 122 3 [.int .i64 F.most, Gs.val V.s V.l.length, .map (some F.rb)]) :: ((Gs.ent 133 3 V.s (V.l.flatMap ShapeL.cells)) ++ ((V.l.flatMap ShapeL.ent) ++ ((F.rb, .map (kvs encU encI V.roots)) :: ((Gs.ent 136 2 ls (l.flatMap propCells)) ++ ([])))))))) rfl ?_
  refine SL_nil (n_then ?_)
  refine SW_seq ?_
  refine SW_draw [(F.p, 1, Gs.val V.s V.l.length), (b1, 0, .int .u64 pr), (b1, 1, Gs.val ls l.length), (b1, 2, .map (some b2))] [0, 1, 2, 3, 4, 5, 6] (by kernel_rfl) (rd_cons (Cell.own (mem_c (mem_c mem_z)) rfl) (rd_cons (Cell.own mem_z rfl) (rd_cons (Cell.own mem_z rfl) (rd_cons (Cell.own mem_z rfl) rd_nil)))) ?_
  refine SA_take (li' := #[true, false, false, false, false, false, false, false, false, false, false]) 0 _ (pt F.p 0) (fun _ _ _ h => h) rfl (by kernel_rfl) rfl (Or.inl ⟨fun _ => rfl, by intro δ w; kernel_rfl⟩) ?_
  refine SA_take (li' := #[true, true, false, false, false, false, false, false, false, false, false]) 1 _ (pt F.p 0) (fun _ _ _ h => h) rfl (by kernel_rfl) rfl (Or.inl ⟨fun _ => rfl, by intro δ w; kernel_rfl⟩) ?_
  refine SA_take (li' := #[true, true, true, false, false, false, false, false, false, false, false]) 2 _ (pt F.p 0) (fun _ _ _ h => h) rfl (by kernel_rfl) rfl (Or.inl ⟨fun _ => rfl, by intro δ w; kernel_rfl⟩) ?_
  refine SA_take (li' := #[true, true, true, true, false, false, false, false, false, false, false]) 3 _ (pt F.p 1) (fun _ _ _ h => h) rfl (by kernel_rfl) rfl (Or.inl ⟨fun _ => rfl, by intro δ w; kernel_rfl⟩) ?_
  refine SA_read (li' := #[true, true, true, true, true, false, false, false, false, false, false]) 4 _ (Gs.val V.s V.l.length) (fun _ _ _ h => h) rfl (by kernel_rfl) rfl (fun _ => rfl) (fun δ w hr => Rd_load F.p 1 (Gs.val V.s V.l.length) rfl (by kernel_rfl) List.mem_cons_self hr) ?_
  refine SA_read (li' := #[true, true, true, true, true, true, false, false, false, false, false]) 5 _ (.agg #[.int .u64 pr, Gs.val ls l.length, .map (some b2)]) (fun _ _ _ h => h) rfl (by kernel_rfl) rfl (fun _ => rfl) (fun δ w hr => Rd_loads b1 0 [.int .u64 pr, Gs.val ls l.length, .map (some b2)] rfl (by kernel_rfl) (rdm_cons (List.mem_cons_of_mem _ List.mem_cons_self) (rdm_cons (List.mem_cons_of_mem _ (List.mem_cons_of_mem _ List.mem_cons_self)) (rdm_cons (List.mem_cons_of_mem _ (List.mem_cons_of_mem _ (List.mem_cons_of_mem _ List.mem_cons_self))) rdm_nil))) hr) ?_
  refine SA_one true (li' := #[true, true, true, true, true, true, true, false, false, false, false]) 6 _ rfl rfl (by kernel_rfl) ⟨rfl, fun _ => rfl⟩ rfl (O_new (fun b => .slice (some ⟨b, 0, none⟩) 1 1) (.cells #[.int .u64 pr, Gs.val ls l.length, .map (some b2)] 133 (0, 0)) (.cells 133 3 [.int .u64 pr, Gs.val ls l.length, .map (some b2)]) rfl (by intro δ w; kernel_rfl) ⟨rfl, rfl, rfl, rfl⟩ ?_)
  intro b3 hlb3 hnb3
  refine ⟨fun hnd => (rd_cons (Cell.own (mem_c (mem_c (mem_c mem_z))) rfl) (rd_cons (Cell.own (mem_c mem_z) rfl) (rd_cons (Cell.own (mem_c mem_z) rfl) (rd_cons (Cell.own (mem_c mem_z) rfl) rd_nil)))), ?_⟩
  refine SA_perm _ (perm_cc (perm_cc (perm_cc (perm_cc perm_cz)))) ?_
  refine SA_one false (li' := #[true, true, true, true, true, true, true, true, false, false, false]) 7 _ rfl rfl (by kernel_rfl) ⟨rfl, fun _ => rfl⟩ rfl (O_append (size := 3) (bytes := 40) (z := .agg #[.int .u64 0, .slice none 0 0, .map none]) V.s V.l.length 1 (some ⟨b3, 0, none⟩) 1 (V.l.flatMap ShapeL.cells) ([.int .u64 pr, Gs.val ls l.length, .map (some b2)]) ((V.l ++ [(ShapeL.mk pr ls l b2 ([]))]).flatMap ShapeL.cells) (flat_snoc _ (ShapeL.mk pr ls l b2 ([])) rfl) (fun _ => rfl) (fun _ => rfl) Try.underlying120 (by kernel_rfl) rfl (by decide) (TreeV.ok.row hV) rfl (.inr ⟨b3, 0, rfl, Cells.own (mem_a mem_z) rfl⟩) rfl (by omega) (by decide) rfl ?_)
  intro s4 hks4 hfs4
  rw [show V.l.length + 1 = (V.l ++ [(ShapeL.mk pr ls l b2 ([]))]).length from by simp]
  rw [show V.l.length + 1 = (V.l ++ [(ShapeL.mk pr ls l b2 ([]))]).length from by simp] at hks4
  have hls4 : (V.l ++ [(ShapeL.mk pr ls l b2 ([]))]).length = V.l.length + 1 := by simp
  refine ⟨fun hnd => (by cases hnd), ?_⟩
  refine SA_trim [(25, Gs.val s4 ((V.l ++ [(ShapeL.mk pr ls l b2 ([]))]).length)), (18, pt F.p 0), (15, .bool (decide ((V.l.length : Int) ≥ F.most))), (5, .bool false), (4, .int .i64 0), (3, pt b1 0), (0, pt F.p 0), (1, .agg #[.int .u64 pr, Gs.val ls l.length, .map none])] (fun _ => rfl) ?_
  refine SA_take (li' := #[true, true, true, true, true, true, true, true, true, false, false]) 8 _ (pt F.p 0) (fun _ _ _ h => h) rfl (by kernel_rfl) rfl (Or.inl ⟨fun _ => rfl, by intro δ w; kernel_rfl⟩) ?_
  refine SA_take (li' := #[true, true, true, true, true, true, true, true, true, true, false]) 9 _ (pt F.p 1) (fun _ _ _ h => h) rfl (by kernel_rfl) rfl (Or.inl ⟨fun _ => rfl, by intro δ w; kernel_rfl⟩) ?_
  refine SA_perm _ (perm_a (perm_c (perm_c (perm_c perm_z)))) ?_
  refine SA_one false (li' := #[true, true, true, true, true, true, true, true, true, true, true]) 10 _ rfl rfl (by kernel_rfl) ⟨rfl, fun _ => rfl⟩ rfl (O_store F.p 1 (Gs.val s4 ((V.l ++ [(ShapeL.mk pr ls l b2 ([]))]).length)) [Gs.val s4 ((V.l ++ [(ShapeL.mk pr ls l b2 ([]))]).length)] (fun _ => rfl) (fun _ => rfl) rfl (by kernel_rfl) rfl (by simp only [List.length_cons, List.length_nil]; omega) rfl ?_)
  refine ⟨fun hnd => (by cases hnd), ?_⟩
  refine SA_sig ((F.p, .cells 122 3 [.int .i64 F.most, Gs.val s4 ((V.l ++ [(ShapeL.mk pr ls l b2 ([]))]).length), .map (some F.rb)]) :: ((Gs.ent 133 3 s4 ((V.l ++ [(ShapeL.mk pr ls l b2 ([]))]).flatMap ShapeL.cells)) ++ ((b3, .cells 133 3 [.int .u64 pr, Gs.val ls l.length, .map (some b2)]) :: ((b1, .cells 133 3 [.int .u64 pr, Gs.val ls l.length, .map (some b2)]) :: ((b2, .map (kvs stepV encI ([]))) :: ((V.l.flatMap ShapeL.ent) ++ ((F.rb, .map (kvs encU encI V.roots)) :: ((Gs.ent 136 2 ls (l.flatMap propCells)) ++ ([]))))))))) rfl ?_
  refine SA_done (by kernel_rfl) (n_then ?_)
  refine SW_seq ?_
  refine SW_region ?_
  refine SL_s3 3 30 (pt F.p 1) 29 (pt F.p 0) 28 (pt F.p 0) (by intro δ w; kernel_rfl) ?_
  refine SL_cons ⟨rfl, fun _ => rfl⟩ (O_load F.p 1 (Gs.val s4 ((V.l ++ [(ShapeL.mk pr ls l b2 ([]))]).length)) (fun _ => rfl) (by kernel_rfl) (Cell.own mem_z rfl) rfl ?_)
  refine SL_s2 2 33 (.int .i64 (IntKind.wrap .i64 (((((V.l ++ [(ShapeL.mk pr ls l b2 ([]))]).length : Nat)) : Int) - 1))) 32 (.int .i64 ((((V.l ++ [(ShapeL.mk pr ls l b2 ([]))]).length : Nat)) : Int)) (by intro δ w; kernel_rfl) ?_
  rw [show IntKind.wrap .i64 (((((V.l ++ [(ShapeL.mk pr ls l b2 ([]))]).length : Nat)) : Int) - 1) = ((((V.l ++ [(ShapeL.mk pr ls l b2 ([]))]).length : Nat)) : Int) - 1 from IntWalk.i64_in _ (by omega)]
  refine SL_segT 2 [(5, .bool true), (4, .int .i64 (((((V.l ++ [(ShapeL.mk pr ls l b2 ([]))]).length : Nat)) : Int) - 1)), (15, .bool (decide ((V.l.length : Int) ≥ F.most))), (3, pt b1 0), (0, pt F.p 0), (1, .agg #[.int .u64 pr, Gs.val ls l.length, .map none])] (by intro δ w; kernel_rfl) ?_
  refine SL_nil (n_then ?_)
  refine SW_ret ?_
  refine body_end (.tuple #[.int .i64 (((((V.l ++ [(ShapeL.mk pr ls l b2 ([]))]).length : Nat)) : Int) - 1), .bool true]) (fun _ => rfl) ?_
  refine ⟨V.more s4 ⟨pr, ls, l, b2, []⟩, ?_, congrArg (fun i => Value.tuple #[.int .i64 i, .bool true]) (by simp), hV.more hks4 hl hlr (by omega), s4, b2, rfl⟩
  · refine Own.trans (own_mk (S := ((F.p, .cells 122 3 [.int .i64 F.most, Gs.val s4 ((V.l ++ [(ShapeL.mk pr ls l b2 ([]))]).length), .map (some F.rb)]) :: ((Gs.ent 133 3 s4 ((V.l ++ [(ShapeL.mk pr ls l b2 ([]))]).flatMap ShapeL.cells)) ++ ((V.l.flatMap ShapeL.ent) ++ ((Gs.ent 136 2 ls (l.flatMap propCells)) ++ ((b2, .map (kvs stepV encI ([]))) :: ((F.rb, .map (kvs encU encI V.roots)) :: ([])))))))) (J := ((b3, .cells 133 3 [.int .u64 pr, Gs.val ls l.length, .map (some b2)]) :: ((b1, .cells 133 3 [.int .u64 pr, Gs.val ls l.length, .map (some b2)]) :: ([])))) (List.Perm.trans perm_z (List.Perm.cons _ (List.Perm.trans perm_cz (List.Perm.append_left _ (List.Perm.trans (perm_cc (perm_cc (perm_cc perm_cz))) (List.Perm.append_left _ (List.Perm.trans (perm_cc (perm_cc (perm_cc (perm_cc perm_cz)))) (List.Perm.append_left _ (List.Perm.trans (perm_c (perm_c perm_z)) (List.Perm.cons _ (List.Perm.trans (perm_c (perm_c perm_z)) (List.Perm.cons _ (List.Perm.refl _))))))))))))) (by simp only [List.cons_append, List.append_assoc, List.nil_append, List.append_nil])) ?_
    exact Own.of_perm (List.Perm.of_eq (by simp [TreeV.ent, TreeV.row, ShapeL.ent]))

theorem shapes_Root {W0 : World} {F : TreeF} {V : TreeV} (hV : V.ok F) (pr : Int) : SC Try.prog W0 73 #[.pointer (some ⟨F.p, 0, none⟩), .int .u64 pr] (TreeV.ent V F) (Ret (fun V' : TreeV => V'.ent F) (fun v V' => V'.ok F ∧ Keep V V' ∧ ∃ m' ok', v = two (m', ok') ∧ rootP (V.abs F) pr = (V'.abs F, m', ok'))) := by
  refine SC_body (fn := Try.f73) (n := 36) Try.func73 rfl (by kernel_rfl) (ρ := [(0, pt F.p 0), (1, .int .u64 pr)]) rfl ?_
  refine SW_sig ((TreeV.ent V F) ++ ([])) (by simp only [List.append_nil, List.append_assoc]) ?_
  refine SW_seq ?_
  refine SW_region ?_
  refine SL_s2 2 5 (.bool false) 4 (.int .i64 0) (by intro δ w; kernel_rfl) ?_
  refine SL_nil (n_then ?_)
  refine SW_seq ?_
  refine SW_region ?_
  refine SL_s3 3 12 (pt F.p 2) 11 (pt F.p 0) 10 (pt F.p 0) (by intro δ w; kernel_rfl) ?_
  refine SL_cons ⟨rfl, fun _ => rfl⟩ (O_load F.p 2 (.map (some F.rb)) (fun _ => rfl) (by kernel_rfl) (Cell.own (mem_h (TreeV.m0 V F)) rfl) rfl ?_)
  refine SL_s1 1 14 (.int .u64 pr) (by intro δ w; kernel_rfl) ?_
  rcases hm1 : mget V.roots pr with _ | m1
  · skip
    refine SL_cons ⟨rfl, fun _ => rfl⟩ (O_lookup2 lawU (e := 3) (m := V.roots) pr (z := .int .i64 0) (by kernel_rfl) (by kernel_rfl) (mem_h (TreeV.m4 V F)) (fun _ => rfl) (fun _ => rfl) (.int .i64 0) false (by rw [hm1]) (by rw [hm1]; rfl) rfl ?_)
    refine SL_s5 5 7 (.bool false) 6 (.int .i64 0) 17 (.bool false) 16 (.int .i64 0) 9 (.tuple #[.int .i64 0, .bool false]) (by intro δ w; kernel_rfl) ?_
    refine SL_nil (n_then ?_)
    refine SW_seq ?_
    refine SW_seq ?_
    refine SW_region ?_
    refine SL_s1 1 18 (.bool false) (by intro δ w; kernel_rfl) ?_
    refine SL_nil (n_then ?_)
    refine SW_false (fun _ => rfl) ?_
    refine SW_skip (n_then ?_)
    refine SW_seq ?_
    refine SW_region ?_
    refine SL_s3 3 23 (.agg #[.int .u64 pr, .slice none 0 0, .map none]) 22 (.int .u64 pr) 21 (pt F.p 0) (by intro δ w; kernel_rfl) ?_
    by_cases hp2 : F.most ≤ V.l.length
    · skip
      refine SL_sig ((Gs.ent 136 2 Gs.nil (([] : List PropP).flatMap propCells)) ++ ((TreeV.ent V F) ++ ([]))) rfl ?_
      refine SL_perm _ (perm_ca perm_cz) ?_
      refine SL_sig (((TreeV.ent V F) ++ ((Gs.ent 136 2 Gs.nil (([] : List PropP).flatMap propCells)) ++ ([]))) ++ ([])) (by simp only [List.cons_append, List.append_assoc, List.nil_append, List.append_nil]) ?_
      refine SL_cons ⟨rfl, fun _ => rfl⟩ (O_call 90 #[pt F.p 0, .agg #[.int .u64 pr, .slice none 0 0, .map none]] rfl (by intro δ w; kernel_rfl) ((shapes_lay_no (ls := Gs.nil) (l := ([] : List PropP)) hV ⟨rfl, rfl⟩ pr hp2).use _) ?_)
      rintro _ σ1 ⟨_, hσ1, rfl⟩
      obtain rfl : σ1 = ((TreeV.ent V F) ++ ([])) := hσ1.trans (rfl)
      refine SL_segT 5 [(8, .bool false), (6, .int .i64 0), (18, .bool false), (7, .bool false), (5, .bool false), (4, .int .i64 0), (0, pt F.p 0), (1, .int .u64 pr)] (by intro δ w; kernel_rfl) ?_
      refine SL_nil (n_then ?_)
      refine SW_seq ?_
      refine SW_seq ?_
      refine SW_region ?_
      refine SL_s1 1 27 (.bool false) (by intro δ w; kernel_rfl) ?_
      refine SL_nil (n_then ?_)
      refine SW_false (fun _ => rfl) ?_
      refine SW_skip (n_then ?_)
      refine SW_seq ?_
      refine SW_region ?_
      refine SL_segT 4 [(5, .bool false), (4, .int .i64 0), (27, .bool false), (8, .bool false), (6, .int .i64 0), (18, .bool false), (7, .bool false), (0, pt F.p 0), (1, .int .u64 pr)] (by intro δ w; kernel_rfl) ?_
      refine SL_nil (n_then ?_)
      refine SW_ret ?_
      refine body_end (.tuple #[.int .i64 0, .bool false]) (fun _ => rfl) ?_
      exact ⟨V, (own_mk (J := ([])) (List.Perm.refl _) (by simp only [List.cons_append, List.append_assoc, List.nil_append, List.append_nil])), hV, Keep.refl V, 0, false, rfl, by simp only [rootP, layP, TreeV.abs, hm1, List.length_map, if_pos hp2]⟩
    · skip
      refine SL_sig ((Gs.ent 136 2 Gs.nil (([] : List PropP).flatMap propCells)) ++ ((TreeV.ent V F) ++ ([]))) rfl ?_
      refine SL_perm _ (perm_ca perm_cz) ?_
      refine SL_sig (((TreeV.ent V F) ++ ((Gs.ent 136 2 Gs.nil (([] : List PropP).flatMap propCells)) ++ ([]))) ++ ([])) (by simp only [List.cons_append, List.append_assoc, List.nil_append, List.append_nil]) ?_
      refine SL_cons ⟨rfl, fun _ => rfl⟩ (O_call 90 #[pt F.p 0, .agg #[.int .u64 pr, .slice none 0 0, .map none]] rfl (by intro δ w; kernel_rfl) ((shapes_lay_yes (ls := Gs.nil) (l := ([] : List PropP)) hV ⟨rfl, rfl⟩ pr hp2 (Nat.zero_le _)).use _) ?_)
      rintro _ σ2 ⟨V1, hσ2, rfl, hV1, g1, nb1, heV1⟩
      obtain rfl : σ2 = ((TreeV.ent V1 F) ++ ([])) := hσ2.trans (rfl)
      refine SL_segT 5 [(8, .bool true), (6, .int .i64 (V.l.length : Int)), (18, .bool false), (7, .bool false), (5, .bool false), (4, .int .i64 0), (0, pt F.p 0), (1, .int .u64 pr)] (by intro δ w; kernel_rfl) ?_
      refine SL_nil (n_then ?_)
      refine SW_seq ?_
      refine SW_seq ?_
      refine SW_region ?_
      refine SL_s1 1 27 (.bool true) (by intro δ w; kernel_rfl) ?_
      refine SL_nil (n_then ?_)
      refine SW_true (fun _ => rfl) ?_
      refine SW_sig ((F.p, .cells 122 3 [.int .i64 F.most, Gs.val V1.s V1.l.length, .map (some F.rb)]) :: ((Gs.ent 133 3 V1.s (V1.l.flatMap ShapeL.cells)) ++ ((V1.l.flatMap ShapeL.ent) ++ ((F.rb, .map (kvs encU encI V1.roots)) :: ([]))))) (by simp only [TreeV.ent, TreeV.row, TreeV.head, List.cons_append, List.append_assoc, List.nil_append]) ?_
      refine SW_region ?_
      refine SL_s3 3 30 (pt F.p 2) 29 (pt F.p 0) 28 (pt F.p 0) (by intro δ w; kernel_rfl) ?_
      refine SL_cons ⟨rfl, fun _ => rfl⟩ (O_load F.p 2 (.map (some F.rb)) (fun _ => rfl) (by kernel_rfl) (Cell.own mem_z rfl) rfl ?_)
      refine SL_s2 2 33 (.int .i64 (V.l.length : Int)) 32 (.int .u64 pr) (by intro δ w; kernel_rfl) ?_
      refine SL_perm _ (perm_c (perm_a (perm_a perm_z))) ?_
      refine SL_cons ⟨rfl, fun _ => rfl⟩ (O_mapUpdate lawU (e := 3) (m := V1.roots) pr (V.l.length : Int) (by kernel_rfl) (fun _ => rfl) (fun _ => rfl) (fun _ => rfl) rfl ?_)
      refine SL_nil (n_then ?_)
      refine SW_seq ?_
      refine SW_region ?_
      refine SL_segT 4 [(5, .bool true), (4, .int .i64 (V.l.length : Int)), (27, .bool true), (8, .bool true), (6, .int .i64 (V.l.length : Int)), (18, .bool false), (7, .bool false), (0, pt F.p 0), (1, .int .u64 pr)] (by intro δ w; kernel_rfl) ?_
      refine SL_nil (n_then ?_)
      refine SW_ret ?_
      refine body_end (.tuple #[.int .i64 (V.l.length : Int), .bool true]) (fun _ => rfl) ?_
      exact ⟨⟨V1.s, V1.l, mset V1.roots pr V.l.length⟩, (Own.of_perm (S := ((F.p, .cells 122 3 [.int .i64 F.most, Gs.val V1.s V1.l.length, .map (some F.rb)]) :: ((Gs.ent 133 3 V1.s (V1.l.flatMap ShapeL.cells)) ++ ((V1.l.flatMap ShapeL.ent) ++ ((F.rb, .map (kvs encU encI (mset V1.roots pr (V.l.length : Int)))) :: ([])))))) (List.Perm.trans (perm_c perm_z) (List.Perm.cons _ (List.Perm.trans (perm_cc perm_cz) (List.Perm.append_left _ (List.Perm.trans (perm_cc perm_cz) (List.Perm.append_left _ (List.Perm.refl _)))))))), hV1.withRoots _, by subst heV1; exact Keep.snoc rfl, V.l.length, true, rfl, by subst heV1; simp only [rootP, layP, TreeV.abs, hm1, List.length_map, if_neg hp2, List.map_append, List.map_cons, List.map_nil, ShapeL.abs]⟩
  · skip
    refine SL_cons ⟨rfl, fun _ => rfl⟩ (O_lookup2 lawU (e := 3) (m := V.roots) pr (z := .int .i64 0) (by kernel_rfl) (by kernel_rfl) (mem_h (TreeV.m4 V F)) (fun _ => rfl) (fun _ => rfl) (.int .i64 m1) true (by rw [hm1]) (by rw [hm1]; rfl) rfl ?_)
    refine SL_s5 5 7 (.bool true) 6 (.int .i64 m1) 17 (.bool true) 16 (.int .i64 m1) 9 (.tuple #[.int .i64 m1, .bool true]) (by intro δ w; kernel_rfl) ?_
    refine SL_nil (n_then ?_)
    refine SW_seq ?_
    refine SW_seq ?_
    refine SW_region ?_
    refine SL_s1 1 18 (.bool true) (by intro δ w; kernel_rfl) ?_
    refine SL_nil (n_then ?_)
    refine SW_true (fun _ => rfl) ?_
    refine SW_seq ?_
    refine SW_region ?_
    refine SL_segT 3 [(5, .bool true), (4, .int .i64 m1), (18, .bool true), (7, .bool true), (6, .int .i64 m1), (0, pt F.p 0), (1, .int .u64 pr)] (by intro δ w; kernel_rfl) ?_
    refine SL_nil (n_then ?_)
    refine SW_ret (r_then ?_)
    refine body_end (.tuple #[.int .i64 m1, .bool true]) (fun _ => rfl) ?_
    exact ⟨V, (own_mk (J := ([])) (List.Perm.refl _) (by simp only [List.cons_append, List.append_assoc, List.nil_append, List.append_nil])), hV, Keep.refl V, m1, true, rfl, by simp only [rootP, TreeV.abs, hm1]⟩

end Go.Proofs.Ytdfhbheipagnmaa
