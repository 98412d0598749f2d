/-
  What functions of the laws of layer 13 do to the memory they own, step by step: each theorem is one function's contract. Conditions: those that each theorem names.
-/
import Derived.Test.YtdfhbheipagnmaaHeapI
set_option linter.unusedVariables false
set_option linter.unusedSimpArgs false
set_option maxRecDepth 100000
set_option maxHeartbeats 4000000
namespace Go.Proofs.Ytdfhbheipagnmaa
open Go.Sl

theorem law_words {W0 : World} {σ : Heaplet} {a b : List Int} {A B : Option Addr} {c d : Nat} (ha : Src W0 σ A (a.map encU)) (hb : Src W0 σ B (b.map encU)) (hr : a.length ≤ 1099511627776) : SC Try.prog W0 14 #[.slice A a.length c, .slice B b.length d] σ (Ret (fun _ : Unit => σ) (fun v _ => v = .bool (decide (a = b)))) := by
  by_cases hne : a.length = b.length
  rotate_left
  · skip
    refine SC_body (fn := Try.f14) (n := 26) Try.func14 rfl (by kernel_rfl) (ρ := [(0, .slice A a.length c), (1, .slice B b.length d)]) rfl ?_
    refine SW_sig (σ ++ ([])) (by simp only [List.append_nil, List.append_assoc]) ?_
    have hka := ha
    have hkb := hb
    refine SW_seq ?_
    refine SW_region ?_
    refine SL_segT 1 [(4, .bool false), (0, .slice A a.length c), (1, .slice B b.length d)] (by intro δ w; kernel_rfl) ?_
    refine SL_nil (n_then ?_)
    refine SW_seq ?_
    refine SW_seq ?_
    refine SW_region ?_
    refine SL_segT 5 [(10, .bool ((a.length : Int) != (b.length : Int))), (4, .bool false), (0, .slice A a.length c), (1, .slice B b.length d)] (by intro δ w; kernel_rfl) ?_
    refine SL_nil (n_then ?_)
    refine SW_true (fun _ => (congrArg Value.bool (show ((a.length : Int) != (b.length : Int)) = true from (by simp only [bne_iff_ne, ne_eq]; omega)))) ?_
    refine SW_seq ?_
    refine SW_region ?_
    refine SL_segT 1 [(4, .bool false), (10, .bool ((a.length : Int) != (b.length : Int))), (0, .slice A a.length c), (1, .slice B b.length d)] (by intro δ w; kernel_rfl) ?_
    refine SL_nil (n_then ?_)
    refine SW_ret (r_then ?_)
    refine body_end (.bool false) (fun _ => rfl) ?_
    exact ⟨(), (own_mk (X := (σ ++ ([]))) (J := ([])) (List.Perm.refl _) (by simp only [List.cons_append, List.append_assoc, List.nil_append, List.append_nil])), congrArg Value.bool ((decide_eq_false (fun q => hne (by rw [q]))).symm)⟩
  by_cases hz : a.length = 0
  · skip
    refine SC_body (fn := Try.f14) (n := 26) Try.func14 rfl (by kernel_rfl) (ρ := [(0, .slice A a.length c), (1, .slice B b.length d)]) rfl ?_
    refine SW_sig (σ ++ ([])) (by simp only [List.append_nil, List.append_assoc]) ?_
    have hka := ha
    have hkb := hb
    refine SW_seq ?_
    refine SW_region ?_
    refine SL_segT 1 [(4, .bool false), (0, .slice A a.length c), (1, .slice B b.length d)] (by intro δ w; kernel_rfl) ?_
    refine SL_nil (n_then ?_)
    refine SW_seq ?_
    refine SW_seq ?_
    refine SW_region ?_
    refine SL_segT 5 [(10, .bool ((a.length : Int) != (b.length : Int))), (4, .bool false), (0, .slice A a.length c), (1, .slice B b.length d)] (by intro δ w; kernel_rfl) ?_
    refine SL_nil (n_then ?_)
    refine SW_false (fun _ => (congrArg Value.bool (show ((a.length : Int) != (b.length : Int)) = false from (by simp only [bne_eq_false_iff_eq]; omega)))) ?_
    refine SW_skip (n_then ?_)
    refine SW_seq ?_
    refine SW_seq ?_
    refine SW_region ?_
    refine SL_segT 3 [(13, .int .i64 0), (12, .int .i64 (a.length : Int)), (10, .bool ((a.length : Int) != (b.length : Int))), (4, .bool false), (0, .slice A a.length c), (1, .slice B b.length d)] (by intro δ w; kernel_rfl) ?_
    refine SL_nil (n_then ?_)
    refine SW_block ?_
    refine SW_loop (α := Nat) (fun z_ ρ_ σ_ => Fits ρ_ σ_ [(13, .int .i64 (z_ : Int)), (12, .int .i64 (a.length : Int)), (0, .slice A a.length c), (1, .slice B b.length d)] (σ ++ ([])) ∧ z_ ≤ a.length ∧ a.take z_ = b.take z_) (fun z_ => a.length - z_) 0 ⟨⟨fun _ => rfl, (own_mk (X := (σ ++ ([]))) (J := ([])) (List.Perm.refl _) (by simp only [List.cons_append, List.append_assoc, List.nil_append, List.append_nil]))⟩, Nat.zero_le _, rfl⟩ ?_
    rintro i ρ_ σ_ ⟨hfit, hi0, hi1⟩
    refine SW_fits hfit ?_
    clear hfit
    refine SW_seq ?_
    refine SW_region ?_
    refine SL_segT 1 [(14, .bool (decide ((i : Int) < (a.length : Int)))), (13, .int .i64 (i : Int)), (12, .int .i64 (a.length : Int)), (0, .slice A a.length c), (1, .slice B b.length d)] (by intro δ w; kernel_rfl) ?_
    refine SL_nil (n_then ?_)
    refine SW_seq ?_
    refine SW_false (fun _ => (congrArg Value.bool (show (decide ((i : Int) < (a.length : Int))) = false from (by simp; omega)))) ?_
    refine SW_exit (x_then (x_then (x_in (n_then ?_))))
    refine SW_seq ?_
    refine SW_region ?_
    refine SL_segT 1 [(4, .bool true), (14, .bool (decide ((i : Int) < (a.length : Int)))), (13, .int .i64 (i : Int)), (12, .int .i64 (a.length : Int)), (0, .slice A a.length c), (1, .slice B b.length d)] (by intro δ w; kernel_rfl) ?_
    refine SL_nil (n_then ?_)
    refine SW_ret ?_
    refine body_end (.bool true) (fun _ => rfl) ?_
    exact ⟨(), (own_mk (X := (σ ++ ([]))) (J := ([])) (List.Perm.refl _) (by simp only [List.cons_append, List.append_assoc, List.nil_append, List.append_nil])), congrArg Value.bool ((decide_eq_true (by have h1 := List.take_of_length_le (l := a) (i := i) (by omega); have h2 := List.take_of_length_le (l := b) (i := i) (by omega); rw [← h1, ← h2]; exact hi1)).symm)⟩
  · obtain ⟨ba, oa, rfl, hqa⟩ := ha.resolve_left (by simpa using hz)
    obtain ⟨bb, ob, rfl, hqb⟩ := hb.resolve_left (by simp only [List.length_map]; omega)
    refine SC_body (fn := Try.f14) (n := 26) Try.func14 rfl (by kernel_rfl) (ρ := [(0, .slice (some ⟨ba, oa, none⟩) a.length c), (1, .slice (some ⟨bb, ob, none⟩) b.length d)]) rfl ?_
    refine SW_sig (σ ++ ([])) (by simp only [List.append_nil, List.append_assoc]) ?_
    refine SW_seq ?_
    refine SW_region ?_
    refine SL_segT 1 [(4, .bool false), (0, .slice (some ⟨ba, oa, none⟩) a.length c), (1, .slice (some ⟨bb, ob, none⟩) b.length d)] (by intro δ w; kernel_rfl) ?_
    refine SL_nil (n_then ?_)
    refine SW_seq ?_
    refine SW_seq ?_
    refine SW_region ?_
    refine SL_segT 5 [(10, .bool ((a.length : Int) != (b.length : Int))), (4, .bool false), (0, .slice (some ⟨ba, oa, none⟩) a.length c), (1, .slice (some ⟨bb, ob, none⟩) b.length d)] (by intro δ w; kernel_rfl) ?_
    refine SL_nil (n_then ?_)
    refine SW_false (fun _ => (congrArg Value.bool (show ((a.length : Int) != (b.length : Int)) = false from (by simp only [bne_eq_false_iff_eq]; omega)))) ?_
    refine SW_skip (n_then ?_)
    refine SW_seq ?_
    refine SW_seq ?_
    refine SW_region ?_
    refine SL_segT 3 [(13, .int .i64 0), (12, .int .i64 (a.length : Int)), (10, .bool ((a.length : Int) != (b.length : Int))), (4, .bool false), (0, .slice (some ⟨ba, oa, none⟩) a.length c), (1, .slice (some ⟨bb, ob, none⟩) b.length d)] (by intro δ w; kernel_rfl) ?_
    refine SL_nil (n_then ?_)
    refine SW_block ?_
    refine SW_loop (α := Nat) (fun z_ ρ_ σ_ => Fits ρ_ σ_ [(13, .int .i64 (z_ : Int)), (12, .int .i64 (a.length : Int)), (0, .slice (some ⟨ba, oa, none⟩) a.length c), (1, .slice (some ⟨bb, ob, none⟩) b.length d)] (σ ++ ([])) ∧ z_ ≤ a.length ∧ a.take z_ = b.take z_) (fun z_ => a.length - z_) 0 ⟨⟨fun _ => rfl, (own_mk (X := (σ ++ ([]))) (J := ([])) (List.Perm.refl _) (by simp only [List.cons_append, List.append_assoc, List.nil_append, List.append_nil]))⟩, Nat.zero_le _, rfl⟩ ?_
    rintro i ρ_ σ_ ⟨hfit, hi0, hi1⟩
    refine SW_fits hfit ?_
    clear hfit
    refine SW_seq ?_
    refine SW_region ?_
    refine SL_segT 1 [(14, .bool (decide ((i : Int) < (a.length : Int)))), (13, .int .i64 (i : Int)), (12, .int .i64 (a.length : Int)), (0, .slice (some ⟨ba, oa, none⟩) a.length c), (1, .slice (some ⟨bb, ob, none⟩) b.length d)] (by intro δ w; kernel_rfl) ?_
    refine SL_nil (n_then ?_)
    refine SW_seq ?_
    refine SW_cond (decide ((i : Int) < (a.length : Int))) (fun _ => rfl) (fun hc1 => ?_) (fun hc1 => ?_)
    · skip
      replace hc1 := of_decide_eq_true hc1
      refine SW_skip (n_then ?_)
      refine SW_seq ?_
      refine SW_block ?_
      refine SW_seq ?_
      refine SW_region ?_
      refine SL_segT 2 [(5, .int .i64 (i : Int)), (14, .bool (decide ((i : Int) < (a.length : Int)))), (13, .int .i64 (i : Int)), (12, .int .i64 (a.length : Int)), (0, .slice (some ⟨ba, oa, none⟩) a.length c), (1, .slice (some ⟨bb, ob, none⟩) b.length d)] (by intro δ w; kernel_rfl) ?_
      refine SL_nil (n_then ?_)
      refine SW_seq ?_
      obtain ⟨e1, he1⟩ : ∃ y_, a[i]? = some y_ := ⟨_, List.getElem?_eq_getElem (by omega)⟩
      obtain ⟨e2, he2⟩ : ∃ y_, b[i]? = some y_ := ⟨_, List.getElem?_eq_getElem (by omega)⟩
      refine SW_draw [(ba, oa + i, .int .u64 e1), (bb, ob + i, .int .u64 e2)] [0, 1, 2, 3, 4, 5, 6, 7] (by kernel_rfl) (rd_cons (Cell.mono (hqa _ _ (map_cell he1 rfl)) (fun e he => (mem_h he))) (rd_cons (Cell.mono (hqb _ _ (map_cell he2 rfl)) (fun e he => (mem_h he))) rd_nil)) ?_
      refine SA_take (li' := #[true, false, false, false, false, false, false, false, false]) 0 _ (.slice (some ⟨ba, oa, none⟩) a.length c) (fun _ _ _ h => h) rfl (by kernel_rfl) rfl (Or.inl ⟨fun _ => rfl, by intro δ w; kernel_rfl⟩) ?_
      refine SA_take (li' := #[true, true, false, false, false, false, false, false, false]) 1 _ (.int .i64 (i : Int)) (fun _ _ _ h => h) rfl (by kernel_rfl) rfl (Or.inl ⟨fun _ => rfl, by intro δ w; kernel_rfl⟩) ?_
      refine SA_take (li' := #[true, true, true, false, false, false, false, false, false]) 2 _ (.pointer (some ⟨ba, oa + i, none⟩)) (fun _ _ _ h => h) rfl (by kernel_rfl) rfl (Or.inl ⟨fun _ => rfl, (fun δ w => run_indexAddr (i : Int) (oa + i) ba oa a.length c .i64 1 Try.underlying22 (by kernel_rfl) (fun _ => rfl) (fun _ => rfl) (by omega) (by omega) (by omega))⟩) ?_
      refine SA_read (li' := #[true, true, true, true, false, false, false, false, false]) 3 _ (.int .u64 e1) (fun _ _ _ h => h) rfl (by kernel_rfl) rfl (fun _ => rfl) (fun δ w hr => Rd_load ba (oa + i) (.int .u64 e1) rfl (by kernel_rfl) List.mem_cons_self hr) ?_
      refine SA_take (li' := #[true, true, true, true, true, false, false, false, false]) 4 _ (.slice (some ⟨bb, ob, none⟩) b.length d) (fun _ _ _ h => h) rfl (by kernel_rfl) rfl (Or.inl ⟨fun _ => rfl, by intro δ w; kernel_rfl⟩) ?_
      refine SA_take (li' := #[true, true, true, true, true, true, false, false, false]) 5 _ (.int .i64 (i : Int)) (fun _ _ _ h => h) rfl (by kernel_rfl) rfl (Or.inl ⟨fun _ => rfl, by intro δ w; kernel_rfl⟩) ?_
      refine SA_take (li' := #[true, true, true, true, true, true, true, false, false]) 6 _ (.pointer (some ⟨bb, ob + i, none⟩)) (fun _ _ _ h => h) rfl (by kernel_rfl) rfl (Or.inl ⟨fun _ => rfl, (fun δ w => run_indexAddr (i : Int) (ob + i) bb ob b.length d .i64 1 Try.underlying22 (by kernel_rfl) (fun _ => rfl) (fun _ => rfl) (by omega) (by omega) (by omega))⟩) ?_
      refine SA_trim [(22, .pointer (some ⟨bb, ob + i, none⟩)), (19, .int .u64 e1), (5, .int .i64 (i : Int)), (14, .bool (decide ((i : Int) < (a.length : Int)))), (13, .int .i64 (i : Int)), (12, .int .i64 (a.length : Int)), (0, .slice (some ⟨ba, oa, none⟩) a.length c), (1, .slice (some ⟨bb, ob, none⟩) b.length d)] (fun _ => rfl) ?_
      refine SA_read (li' := #[true, true, true, true, true, true, true, true, false]) 7 _ (.int .u64 e2) (fun _ _ _ h => h) rfl (by kernel_rfl) rfl (fun _ => rfl) (fun δ w hr => Rd_load bb (ob + i) (.int .u64 e2) rfl (by kernel_rfl) (List.mem_cons_of_mem _ List.mem_cons_self) hr) ?_
      refine SA_take (li' := #[true, true, true, true, true, true, true, true, true]) 8 _ (.bool (e1 != e2)) (fun _ _ _ h => h) rfl (by kernel_rfl) rfl (Or.inl ⟨fun _ => rfl, by intro δ w; kernel_rfl⟩) ?_
      refine SA_done (by kernel_rfl) (n_then ?_)
      refine SW_cond (e1 != e2) (fun _ => rfl) (fun hc2 => ?_) (fun hc2 => ?_)
      · skip
        refine SW_seq ?_
        refine SW_region ?_
        refine SL_segT 1 [(4, .bool false), (24, .bool (e1 != e2)), (5, .int .i64 (i : Int)), (14, .bool (decide ((i : Int) < (a.length : Int)))), (13, .int .i64 (i : Int)), (12, .int .i64 (a.length : Int)), (0, .slice (some ⟨ba, oa, none⟩) a.length c), (1, .slice (some ⟨bb, ob, none⟩) b.length d)] (by intro δ w; kernel_rfl) ?_
        refine SL_nil (n_then ?_)
        refine SW_ret (r_in (r_then (r_then (r_in (r_then ?_)))))
        refine body_end (.bool false) (fun _ => rfl) ?_
        exact ⟨(), (own_mk (X := (σ ++ ([]))) (J := ([])) (List.Perm.refl _) (by simp only [List.cons_append, List.append_assoc, List.nil_append, List.append_nil])), congrArg Value.bool ((decide_eq_false (by rintro rfl; have q := he1.symm.trans he2; simp only [Option.some.injEq] at q; simp [q] at hc2)).symm)⟩
      · skip
        refine SW_skip (n_in (n_then ?_))
        refine SW_region ?_
        refine SL_segT 1 [(25, .int .i64 (IntKind.wrap .i64 ((i : Int) + 1))), (24, .bool (e1 != e2)), (5, .int .i64 (i : Int)), (14, .bool (decide ((i : Int) < (a.length : Int)))), (13, .int .i64 (i : Int)), (12, .int .i64 (a.length : Int)), (0, .slice (some ⟨ba, oa, none⟩) a.length c), (1, .slice (some ⟨bb, ob, none⟩) b.length d)] (by intro δ w; kernel_rfl) ?_
        rw [show IntKind.wrap .i64 ((i : Int) + 1) = (i : Int) + 1 from IntWalk.i64_in _ (by omega)]
        refine SL_segT 1 [(13, .int .i64 ((i : Int) + 1)), (24, .bool (e1 != e2)), (5, .int .i64 (i : Int)), (14, .bool (decide ((i : Int) < (a.length : Int)))), (12, .int .i64 (a.length : Int)), (0, .slice (some ⟨ba, oa, none⟩) a.length c), (1, .slice (some ⟨bb, ob, none⟩) b.length d)] (by intro δ w; kernel_rfl) ?_
        refine SL_nil (n_then ?_)
        exact ⟨i + 1, by omega, ⟨fun _ => rfl, (own_mk (X := (σ ++ ([]))) (J := ([])) (List.Perm.refl _) (by simp only [List.cons_append, List.append_assoc, List.nil_append, List.append_nil]))⟩, by omega, by rw [List.take_add_one, List.take_add_one, hi1, he1, he2]; simpa using hc2⟩
    · skip
      replace hc1 := of_decide_eq_false hc1
      refine SW_exit (x_then (x_then (x_in (n_then ?_))))
      refine SW_seq ?_
      refine SW_region ?_
      refine SL_segT 1 [(4, .bool true), (14, .bool (decide ((i : Int) < (a.length : Int)))), (13, .int .i64 (i : Int)), (12, .int .i64 (a.length : Int)), (0, .slice (some ⟨ba, oa, none⟩) a.length c), (1, .slice (some ⟨bb, ob, none⟩) b.length d)] (by intro δ w; kernel_rfl) ?_
      refine SL_nil (n_then ?_)
      refine SW_ret ?_
      refine body_end (.bool true) (fun _ => rfl) ?_
      exact ⟨(), (own_mk (X := (σ ++ ([]))) (J := ([])) (List.Perm.refl _) (by simp only [List.cons_append, List.append_assoc, List.nil_append, List.append_nil])), congrArg Value.bool ((decide_eq_true (by have h1 := List.take_of_length_le (l := a) (i := i) (by omega); have h2 := List.take_of_length_le (l := b) (i := i) (by omega); rw [← h1, ← h2]; exact hi1)).symm)⟩

end Go.Proofs.Ytdfhbheipagnmaa
