/-
  What functions of heap and word do to the memory they own, step by step: each theorem is one function's contract. Conditions: those that each theorem names.
-/
import Derived.Test.YtdfhbheipagnmaaHeapI
import Derived.Test.YtdfhbheipagnmaaHeap7
set_option linter.unusedVariables false
set_option linter.unusedSimpArgs false
set_option maxRecDepth 100000
set_option maxHeartbeats 4000000
namespace Go.Proofs.Ytdfhbheipagnmaa
open Go.Sl

theorem oneS (a : ByteArray) : ((fun a => [encS a]) a : List Value).length = 1 := rfl
theorem delete_texts0 {W0 : World} {l : List ByteArray} {i : Nat} {s : Gs} (hs : s.ok 1 l.length (l.flatMap (fun a => [encS a]))) (hi : i < l.length) : SC Try.prog W0 50 #[s.val l.length, .int .i64 i, .int .i64 ((i : Int) + 1)] (s.ent 9 1 (l.flatMap (fun a => [encS a]))) (Ret (fun _ : Unit => s.ent 9 1 ((l.eraseIdx i).flatMap (fun a => [encS a]))) (fun v _ => v = s.val (l.eraseIdx i).length ∧ s.ok 1 (l.eraseIdx i).length ((l.eraseIdx i).flatMap (fun a => [encS a])))) := by
  cases s with
  | nil => exact absurd hs.1 (by omega)
  | «at» g c =>
    have hcap : l.length ≤ c := hs.1
    have hcm := hs.2.1
    unfold maxLen at hcm
    refine SC_body (fn := Try.f50) (n := 33) Try.func50 rfl (by kernel_rfl) (ρ := [(0, .slice (some ⟨g, 0, none⟩) l.length c), (1, .int .i64 (i : Int)), (2, .int .i64 ((i : Int) + 1))]) rfl ?_
    obtain ⟨tl, htl, hlay⟩ := lay_erase oneS hi
    refine SW_seq ?_
    refine SW_region ?_
    refine SL_s1 1 6 (.slice none 0 0) (by intro δ w; kernel_rfl) ?_
    refine SL_nil (n_then ?_)
    refine SW_seq ?_
    refine SW_region ?_
    refine SL_s5 5 12 (.int .i64 (l.length : Int)) 11 (.slice (some ⟨g, 0, none⟩) l.length c) 10 (.int .i64 ((i : Int) + 1)) 9 (.int .i64 (i : Int)) 8 (.slice (some ⟨g, 0, none⟩) l.length c) (by intro δ w; kernel_rfl) ?_
    refine SL_cons ⟨rfl, fun _ => rfl⟩ (O_val (.slice (tailA g l.length i 1) ((i + 1) - i) (l.length - i)) rfl (fun δ w _ => run_slice_three g l.length c i (i + 1) l.length 1 .i64 .i64 .i64 Try.underlying34 (by kernel_rfl) rfl rfl rfl rfl (by omega) (by omega) hcap) ?_)
    refine SL_nil (n_then ?_)
    refine SW_seq ?_
    refine SW_seq ?_
    refine SW_region ?_
    refine SL_s3 3 16 (.bool ((i : Int) == ((i : Int) + 1))) 15 (.int .i64 ((i : Int) + 1)) 14 (.int .i64 (i : Int)) (by intro δ w; kernel_rfl) ?_
    refine SL_nil (n_then ?_)
    refine SW_false (fun _ => (congrArg Value.bool (show ((i : Int) == ((i : Int) + 1)) = false from (by simp; omega)))) ?_
    refine SW_skip (n_then ?_)
    refine SW_seq ?_
    refine SW_region ?_
    refine SL_s3 3 7 (.int .i64 (l.length : Int)) 19 (.int .i64 (l.length : Int)) 18 (.slice (some ⟨g, 0, none⟩) l.length c) (by intro δ w; kernel_rfl) ?_
    refine SL_nil (n_then ?_)
    refine SW_seq ?_
    refine SW_draw [] [] (by kernel_rfl) rd_nil ?_
    refine SA_take (li' := #[true, false, false, false, false, false, false, false]) 0 _ (.slice (some ⟨g, 0, none⟩) l.length c) (fun _ _ _ h => h) rfl (by kernel_rfl) rfl (Or.inl ⟨fun _ => rfl, by intro δ w; kernel_rfl⟩) ?_
    refine SA_trim [(20, .slice (some ⟨g, 0, none⟩) l.length c), (7, .int .i64 (l.length : Int)), (16, .bool ((i : Int) == ((i : Int) + 1))), (6, .slice none 0 0), (0, .slice (some ⟨g, 0, none⟩) l.length c), (1, .int .i64 (i : Int)), (2, .int .i64 ((i : Int) + 1))] (fun _ => rfl) ?_
    refine SA_take (li' := #[true, true, false, false, false, false, false, false]) 1 _ (.int .i64 (i : Int)) (fun _ _ _ h => h) rfl (by kernel_rfl) rfl (Or.inl ⟨fun _ => rfl, by intro δ w; kernel_rfl⟩) ?_
    refine SA_take (li' := #[true, true, true, false, false, false, false, false]) 2 _ (.slice (some ⟨g, 0, none⟩) ((i : Int)).toNat c) (fun _ _ _ h => h) rfl (by kernel_rfl) rfl (Or.inl ⟨fun _ => rfl, (fun δ w => run_slice_to (i : Int) (some ⟨g, 0, none⟩) l.length c .i64 Try.underlying34 (by kernel_rfl) rfl rfl (by omega) (by omega))⟩) ?_
    rw [show ((i : Int)).toNat = i from by omega]
    refine SA_take (li' := #[true, true, true, true, false, false, false, false]) 3 _ (.slice (some ⟨g, 0, none⟩) l.length c) (fun _ _ _ h => h) rfl (by kernel_rfl) rfl (Or.inl ⟨fun _ => rfl, by intro δ w; kernel_rfl⟩) ?_
    refine SA_take (li' := #[true, true, true, true, true, false, false, false]) 4 _ (.int .i64 ((i : Int) + 1)) (fun _ _ _ h => h) rfl (by kernel_rfl) rfl (Or.inl ⟨fun _ => rfl, by intro δ w; kernel_rfl⟩) ?_
    refine SA_take (li' := #[true, true, true, true, true, true, false, false]) 5 _ (.slice (tailA g c (i + 1) 1) (l.length - (i + 1)) (c - (i + 1))) (fun _ _ _ h => h) rfl (by kernel_rfl) rfl (Or.inl ⟨fun _ => rfl, (fun δ w => run_slice_from g l.length c (i + 1) 1 .i64 Try.underlying34 (by kernel_rfl) rfl rfl (by omega))⟩) ?_
    refine SA_one false (li' := #[true, true, true, true, true, true, true, false]) 6 _ rfl rfl (by kernel_rfl) ⟨rfl, fun _ => rfl⟩ rfl (O_append_in g c i (l.length - (i + 1)) (tailA g c (i + 1) 1) (c - (i + 1)) (l.flatMap (fun a => [encS a])) ((l.drop (i + 1)).flatMap (fun a => [encS a])) (((l.eraseIdx i).flatMap (fun a => [encS a])) ++ tl) (fun _ => rfl) (fun _ => rfl) Try.underlying34 (by kernel_rfl) (by rw [flat_len oneS, List.length_drop]) (del_src oneS hi hcap) (flat_one (fun _ => rfl) _) (by omega) (del_fit oneS hi) hlay rfl ?_)
    rw [show i + (l.length - (i + 1)) = l.length - 1 from by omega]
    refine ⟨fun hnd => (by cases hnd), ?_⟩
    refine SA_take (li' := #[true, true, true, true, true, true, true, true]) 7 _ (.slice (some ⟨g, 0, none⟩) (l.length - 1) c) (fun _ _ _ h => h) rfl (by kernel_rfl) rfl (Or.inl ⟨fun _ => rfl, by intro δ w; kernel_rfl⟩) ?_
    refine SA_trim [(0, .slice (some ⟨g, 0, none⟩) (l.length - 1) c), (7, .int .i64 (l.length : Int)), (16, .bool ((i : Int) == ((i : Int) + 1))), (6, .slice none 0 0), (1, .int .i64 (i : Int)), (2, .int .i64 ((i : Int) + 1))] (fun _ => rfl) ?_
    refine SA_done (by kernel_rfl) (n_then ?_)
    refine SW_seq ?_
    refine SW_region ?_
    refine SL_s4 4 30 (.int .i64 (l.length : Int)) 29 (.int .i64 (((l.length - 1 : Nat)) : Int)) 28 (.slice (some ⟨g, 0, none⟩) (l.length - 1) c) 27 (.slice (some ⟨g, 0, none⟩) (l.length - 1) c) (by intro δ w; kernel_rfl) ?_
    refine SL_cons ⟨rfl, fun _ => rfl⟩ (O_val (.slice (tailA g c (l.length - 1) 1) (l.length - (l.length - 1)) (c - (l.length - 1))) rfl (fun δ w _ => run_slice_mid g (l.length - 1) c (l.length - 1) l.length 1 .i64 .i64 Try.underlying34 (by kernel_rfl) rfl rfl rfl (by omega) hcap) ?_)
    rw [show Value.slice (tailA g c (l.length - 1) 1) (l.length - (l.length - 1)) (c - (l.length - 1)) = Value.slice (some ⟨g, (l.length - 1) * 1, none⟩) (0 + 1) (c - (l.length - 1)) from by unfold tailA; rw [if_neg (by omega), show l.length - (l.length - 1) = 0 + 1 from by omega]]
    refine SL_cons ⟨rfl, fun _ => rfl⟩ (O_clear g (c * 1) ((l.length - 1) * 1) 0 (c - (l.length - 1)) (.string ByteArray.empty) (((l.eraseIdx i).flatMap (fun a => [encS a])) ++ tl) [.string ByteArray.empty] (((l.eraseIdx i).flatMap (fun a => [encS a])) ++ [.string ByteArray.empty]) (fun _ => rfl) Try.underlying34 (by kernel_rfl) (by kernel_rfl) (by kernel_rfl) (by simp only [List.length_append, erase_len oneS hi, htl]; exact Nat.le_refl _) (lay_tail (zs := [.string ByteArray.empty]) (erase_len oneS hi) htl.symm) rfl ?_)
    refine SL_nil (n_then ?_)
    refine SW_seq ?_
    refine SW_weakG (s := Gs.at g c) (e := 9) (size := 1) (cs := ((l.eraseIdx i).flatMap (fun a => [encS a]))) (ds := [.string ByteArray.empty]) (τ := []) ?_
    refine SW_region ?_
    refine SL_segT 2 [(6, .slice (some ⟨g, 0, none⟩) (l.length - 1) c), (0, .slice (some ⟨g, 0, none⟩) (l.length - 1) c), (7, .int .i64 (l.length : Int)), (16, .bool ((i : Int) == ((i : Int) + 1))), (1, .int .i64 (i : Int)), (2, .int .i64 ((i : Int) + 1))] (by intro δ w; kernel_rfl) ?_
    refine SL_nil (n_then ?_)
    refine SW_ret ?_
    refine body_end (.slice (some ⟨g, 0, none⟩) (l.length - 1) c) (fun _ => rfl) ?_
    refine ⟨(), Own.of_perm (List.Perm.refl _), ?_, ?_⟩
    · rw [List.length_eraseIdx, if_pos hi]; rfl
    · refine ⟨by rw [List.length_eraseIdx, if_pos hi]; omega, hs.2.1, ?_⟩
      rw [erase_len oneS hi, List.length_eraseIdx, if_pos hi]

theorem delete_texts {W0 : World} {l : List ByteArray} {i : Nat} {s : Gs} (hs : s.ok 1 l.length (l.map encS)) (hi : i < l.length) : SC Try.prog W0 50 #[s.val l.length, .int .i64 i, .int .i64 ((i : Int) + 1)] (s.ent 9 1 (l.map encS)) (Ret (fun _ : Unit => s.ent 9 1 ((l.eraseIdx i).map encS)) (fun v _ => v = s.val (l.eraseIdx i).length ∧ s.ok 1 (l.eraseIdx i).length ((l.eraseIdx i).map encS))) := by
  rw [List.map_eq_flatMap, List.map_eq_flatMap]
  rw [List.map_eq_flatMap] at hs
  exact delete_texts0 hs hi

theorem delete_descs {W0 : World} {l : List DescP} {i : Nat} {s : Gs} (hs : s.ok 3 l.length (l.flatMap descCells)) (hi : i < l.length) : SC Try.prog W0 51 #[s.val l.length, .int .i64 i, .int .i64 ((i : Int) + 1)] (s.ent 42 3 (l.flatMap descCells)) (Ret (fun _ : Unit => s.ent 42 3 ((l.eraseIdx i).flatMap descCells)) (fun v _ => v = s.val (l.eraseIdx i).length ∧ s.ok 3 (l.eraseIdx i).length ((l.eraseIdx i).flatMap descCells))) := by
  cases s with
  | nil => exact absurd hs.1 (by omega)
  | «at» g c =>
    have hcap : l.length ≤ c := hs.1
    have hcm := hs.2.1
    unfold maxLen at hcm
    refine SC_body (fn := Try.f51) (n := 33) Try.func51 rfl (by kernel_rfl) (ρ := [(0, .slice (some ⟨g, 0, none⟩) l.length c), (1, .int .i64 (i : Int)), (2, .int .i64 ((i : Int) + 1))]) rfl ?_
    obtain ⟨tl, htl, hlay⟩ := lay_erase descCells_len hi
    refine SW_seq ?_
    refine SW_region ?_
    refine SL_s1 1 6 (.slice none 0 0) (by intro δ w; kernel_rfl) ?_
    refine SL_nil (n_then ?_)
    refine SW_seq ?_
    refine SW_region ?_
    refine SL_s5 5 12 (.int .i64 (l.length : Int)) 11 (.slice (some ⟨g, 0, none⟩) l.length c) 10 (.int .i64 ((i : Int) + 1)) 9 (.int .i64 (i : Int)) 8 (.slice (some ⟨g, 0, none⟩) l.length c) (by intro δ w; kernel_rfl) ?_
    refine SL_cons ⟨rfl, fun _ => rfl⟩ (O_val (.slice (tailA g l.length i 3) ((i + 1) - i) (l.length - i)) rfl (fun δ w _ => run_slice_three g l.length c i (i + 1) l.length 3 .i64 .i64 .i64 Try.underlying64 (by kernel_rfl) rfl rfl rfl rfl (by omega) (by omega) hcap) ?_)
    refine SL_nil (n_then ?_)
    refine SW_seq ?_
    refine SW_seq ?_
    refine SW_region ?_
    refine SL_s3 3 16 (.bool ((i : Int) == ((i : Int) + 1))) 15 (.int .i64 ((i : Int) + 1)) 14 (.int .i64 (i : Int)) (by intro δ w; kernel_rfl) ?_
    refine SL_nil (n_then ?_)
    refine SW_false (fun _ => (congrArg Value.bool (show ((i : Int) == ((i : Int) + 1)) = false from (by simp; omega)))) ?_
    refine SW_skip (n_then ?_)
    refine SW_seq ?_
    refine SW_region ?_
    refine SL_s3 3 7 (.int .i64 (l.length : Int)) 19 (.int .i64 (l.length : Int)) 18 (.slice (some ⟨g, 0, none⟩) l.length c) (by intro δ w; kernel_rfl) ?_
    refine SL_nil (n_then ?_)
    refine SW_seq ?_
    refine SW_draw [] [] (by kernel_rfl) rd_nil ?_
    refine SA_take (li' := #[true, false, false, false, false, false, false, false]) 0 _ (.slice (some ⟨g, 0, none⟩) l.length c) (fun _ _ _ h => h) rfl (by kernel_rfl) rfl (Or.inl ⟨fun _ => rfl, by intro δ w; kernel_rfl⟩) ?_
    refine SA_trim [(20, .slice (some ⟨g, 0, none⟩) l.length c), (7, .int .i64 (l.length : Int)), (16, .bool ((i : Int) == ((i : Int) + 1))), (6, .slice none 0 0), (0, .slice (some ⟨g, 0, none⟩) l.length c), (1, .int .i64 (i : Int)), (2, .int .i64 ((i : Int) + 1))] (fun _ => rfl) ?_
    refine SA_take (li' := #[true, true, false, false, false, false, false, false]) 1 _ (.int .i64 (i : Int)) (fun _ _ _ h => h) rfl (by kernel_rfl) rfl (Or.inl ⟨fun _ => rfl, by intro δ w; kernel_rfl⟩) ?_
    refine SA_take (li' := #[true, true, true, false, false, false, false, false]) 2 _ (.slice (some ⟨g, 0, none⟩) ((i : Int)).toNat c) (fun _ _ _ h => h) rfl (by kernel_rfl) rfl (Or.inl ⟨fun _ => rfl, (fun δ w => run_slice_to (i : Int) (some ⟨g, 0, none⟩) l.length c .i64 Try.underlying64 (by kernel_rfl) rfl rfl (by omega) (by omega))⟩) ?_
    rw [show ((i : Int)).toNat = i from by omega]
    refine SA_take (li' := #[true, true, true, true, false, false, false, false]) 3 _ (.slice (some ⟨g, 0, none⟩) l.length c) (fun _ _ _ h => h) rfl (by kernel_rfl) rfl (Or.inl ⟨fun _ => rfl, by intro δ w; kernel_rfl⟩) ?_
    refine SA_take (li' := #[true, true, true, true, true, false, false, false]) 4 _ (.int .i64 ((i : Int) + 1)) (fun _ _ _ h => h) rfl (by kernel_rfl) rfl (Or.inl ⟨fun _ => rfl, by intro δ w; kernel_rfl⟩) ?_
    refine SA_take (li' := #[true, true, true, true, true, true, false, false]) 5 _ (.slice (tailA g c (i + 1) 3) (l.length - (i + 1)) (c - (i + 1))) (fun _ _ _ h => h) rfl (by kernel_rfl) rfl (Or.inl ⟨fun _ => rfl, (fun δ w => run_slice_from g l.length c (i + 1) 3 .i64 Try.underlying64 (by kernel_rfl) rfl rfl (by omega))⟩) ?_
    refine SA_one false (li' := #[true, true, true, true, true, true, true, false]) 6 _ rfl rfl (by kernel_rfl) ⟨rfl, fun _ => rfl⟩ rfl (O_append_in g c i (l.length - (i + 1)) (tailA g c (i + 1) 3) (c - (i + 1)) (l.flatMap descCells) ((l.drop (i + 1)).flatMap descCells) (((l.eraseIdx i).flatMap descCells) ++ tl) (fun _ => rfl) (fun _ => rfl) Try.underlying64 (by kernel_rfl) (by rw [flat_len descCells_len, List.length_drop]) (del_src descCells_len hi hcap) (flat_one (fun _ => rfl) _) (by omega) (del_fit descCells_len hi) hlay rfl ?_)
    rw [show i + (l.length - (i + 1)) = l.length - 1 from by omega]
    refine ⟨fun hnd => (by cases hnd), ?_⟩
    refine SA_take (li' := #[true, true, true, true, true, true, true, true]) 7 _ (.slice (some ⟨g, 0, none⟩) (l.length - 1) c) (fun _ _ _ h => h) rfl (by kernel_rfl) rfl (Or.inl ⟨fun _ => rfl, by intro δ w; kernel_rfl⟩) ?_
    refine SA_trim [(0, .slice (some ⟨g, 0, none⟩) (l.length - 1) c), (7, .int .i64 (l.length : Int)), (16, .bool ((i : Int) == ((i : Int) + 1))), (6, .slice none 0 0), (1, .int .i64 (i : Int)), (2, .int .i64 ((i : Int) + 1))] (fun _ => rfl) ?_
    refine SA_done (by kernel_rfl) (n_then ?_)
    refine SW_seq ?_
    refine SW_region ?_
    refine SL_s4 4 30 (.int .i64 (l.length : Int)) 29 (.int .i64 (((l.length - 1 : Nat)) : Int)) 28 (.slice (some ⟨g, 0, none⟩) (l.length - 1) c) 27 (.slice (some ⟨g, 0, none⟩) (l.length - 1) c) (by intro δ w; kernel_rfl) ?_
    refine SL_cons ⟨rfl, fun _ => rfl⟩ (O_val (.slice (tailA g c (l.length - 1) 3) (l.length - (l.length - 1)) (c - (l.length - 1))) rfl (fun δ w _ => run_slice_mid g (l.length - 1) c (l.length - 1) l.length 3 .i64 .i64 Try.underlying64 (by kernel_rfl) rfl rfl rfl (by omega) hcap) ?_)
    rw [show Value.slice (tailA g c (l.length - 1) 3) (l.length - (l.length - 1)) (c - (l.length - 1)) = Value.slice (some ⟨g, (l.length - 1) * 3, none⟩) (0 + 1) (c - (l.length - 1)) from by unfold tailA; rw [if_neg (by omega), show l.length - (l.length - 1) = 0 + 1 from by omega]]
    refine SL_cons ⟨rfl, fun _ => rfl⟩ (O_clear g (c * 3) ((l.length - 1) * 3) 0 (c - (l.length - 1)) (.agg #[.int .u64 0, .int .u64 0, .int .i64 0]) (((l.eraseIdx i).flatMap descCells) ++ tl) [.int .u64 0, .int .u64 0, .int .i64 0] (((l.eraseIdx i).flatMap descCells) ++ [.int .u64 0, .int .u64 0, .int .i64 0]) (fun _ => rfl) Try.underlying64 (by kernel_rfl) (by kernel_rfl) (by kernel_rfl) (by simp only [List.length_append, erase_len descCells_len hi, htl]; exact Nat.le_refl _) (lay_tail (zs := [.int .u64 0, .int .u64 0, .int .i64 0]) (erase_len descCells_len hi) htl.symm) rfl ?_)
    refine SL_nil (n_then ?_)
    refine SW_seq ?_
    refine SW_weakG (s := Gs.at g c) (e := 42) (size := 3) (cs := ((l.eraseIdx i).flatMap descCells)) (ds := [.int .u64 0, .int .u64 0, .int .i64 0]) (τ := []) ?_
    refine SW_region ?_
    refine SL_segT 2 [(6, .slice (some ⟨g, 0, none⟩) (l.length - 1) c), (0, .slice (some ⟨g, 0, none⟩) (l.length - 1) c), (7, .int .i64 (l.length : Int)), (16, .bool ((i : Int) == ((i : Int) + 1))), (1, .int .i64 (i : Int)), (2, .int .i64 ((i : Int) + 1))] (by intro δ w; kernel_rfl) ?_
    refine SL_nil (n_then ?_)
    refine SW_ret ?_
    refine body_end (.slice (some ⟨g, 0, none⟩) (l.length - 1) c) (fun _ => rfl) ?_
    refine ⟨(), Own.of_perm (List.Perm.refl _), ?_, ?_⟩
    · rw [List.length_eraseIdx, if_pos hi]; rfl
    · refine ⟨by rw [List.length_eraseIdx, if_pos hi]; omega, hs.2.1, ?_⟩
      rw [erase_len descCells_len hi, List.length_eraseIdx, if_pos hi]

theorem heap_Drop_no {W0 : World} {F : HeapF} {H : HeapV} (hH : H.ok F) {w : Int} {n : Nat} {x : ObjL} (h0 : objAt w H.objs.length = some n) (hx : H.objs[n]? = some x) {key : ByteArray} (hno : placeO (H.V.abs F.T) x.shape x.names key < 0) : SC Try.prog W0 20 #[.pointer (some ⟨F.p, 0, none⟩), .int .u64 w, .string key] (HeapV.ent H F) (Ret (fun _ : Unit => H.ent F) (fun v _ => v = .bool false)) := by
  refine SC_body (fn := Try.f20) (n := 48) Try.func20 rfl (by kernel_rfl) (ρ := [(0, pt F.p 0), (1, .int .u64 w), (2, .string key)]) rfl ?_
  refine SW_sig ((F.p, .cells 83 6 [Gs.val H.s H.objs.length, Gs.val H.ts H.texts.length, .map (some F.kb), pt F.T.p 0, pt F.cp 0, .int .i64 H.br]) :: ((Gs.ent 89 9 H.s (H.objs.flatMap ObjL.cells)) ++ ((H.objs.flatMap ObjL.ent) ++ ((Gs.ent 9 1 H.ts (H.texts.map encS)) ++ ((F.kb, .map (kvs encS encU H.known)) :: ((TreeV.ent H.V F.T) ++ ((CellsL.ent (CellsL.mk F.cp H.cs H.cl)) ++ ([])))))))) rfl ?_
  refine SW_seq ?_
  refine SW_region ?_
  refine SL_s1 1 6 (.bool false) (by intro δ w; kernel_rfl) ?_
  refine SL_nil (n_then ?_)
  refine SW_seq ?_
  refine SW_region ?_
  refine SL_s2 2 10 (.int .u64 w) 9 (pt F.p 0) (by intro δ w; kernel_rfl) ?_
  refine SL_perm _ (perm_cc (perm_ca (perm_ca (perm_ca (perm_cc (perm_ca perm_cz)))))) ?_
  refine SL_perm _ (perm_ca (perm_cc (perm_ca (perm_ca (perm_ca (perm_cc perm_cz)))))) ?_
  refine SL_perm _ (perm_a (perm_a (perm_c (perm_a (perm_a (perm_a perm_z)))))) ?_
  refine SL_perm _ (perm_cc (perm_ca (perm_ca (perm_cc (perm_ca (perm_ca perm_cz)))))) ?_
  refine SL_perm _ (perm_ca (perm_cc (perm_ca (perm_ca (perm_cc (perm_ca perm_cz)))))) ?_
  refine SL_perm _ (perm_ca (perm_ca (perm_cc (perm_ca (perm_ca (perm_cc perm_cz)))))) ?_
  refine SL_perm _ (perm_a (perm_a (perm_a (perm_c (perm_a (perm_a perm_z)))))) ?_
  refine SL_sig (((F.p, .cells 83 6 [Gs.val H.s H.objs.length, Gs.val H.ts H.texts.length, .map (some F.kb), pt F.T.p 0, pt F.cp 0, .int .i64 H.br]) :: ((Gs.ent 89 9 H.s (H.objs.flatMap ObjL.cells)) ++ ((H.objs.flatMap ObjL.ent) ++ ((Gs.ent 9 1 H.ts (H.texts.map encS)) ++ ((F.kb, .map (kvs encS encU H.known)) :: ((TreeV.ent H.V F.T) ++ ((CellsL.ent (CellsL.mk F.cp H.cs H.cl)) ++ ([])))))))) ++ ([])) (by simp only [List.cons_append, List.append_assoc, List.nil_append, List.append_nil]) ?_
  refine SL_cons ⟨rfl, fun _ => rfl⟩ (O_call 38 #[pt F.p 0, .int .u64 w] rfl (by intro δ w; kernel_rfl) ((heap_at hH w).use _) ?_)
  rintro v1 σ1 ⟨_, hσ1, hv1⟩
  obtain rfl : v1 = pt (Gs.blk H.s) (n * 9) := hv1.trans (by rw [h0])
  obtain rfl : σ1 = ((F.p, .cells 83 6 [Gs.val H.s H.objs.length, Gs.val H.ts H.texts.length, .map (some F.kb), pt F.T.p 0, pt F.cp 0, .int .i64 H.br]) :: ((Gs.ent 89 9 H.s (H.objs.flatMap ObjL.cells)) ++ ((H.objs.flatMap ObjL.ent) ++ ((Gs.ent 9 1 H.ts (H.texts.map encS)) ++ ((F.kb, .map (kvs encS encU H.known)) :: ((TreeV.ent H.V F.T) ++ ((CellsL.ent (CellsL.mk F.cp H.cs H.cl)) ++ ([])))))))) := hσ1.trans (by simp only [HeapV.ent, List.cons_append, List.append_assoc, List.nil_append, List.append_nil])
  refine SL_s1 1 7 (pt (Gs.blk H.s) (n * 9)) (by intro δ w; kernel_rfl) ?_
  refine SL_nil (n_then ?_)
  refine SW_seq ?_
  refine SW_seq ?_
  refine SW_region ?_
  refine SL_s2 2 13 (.bool false) 12 (pt (Gs.blk H.s) (n * 9)) (by intro δ w; kernel_rfl) ?_
  refine SL_nil (n_then ?_)
  refine SW_false (fun _ => rfl) ?_
  refine SW_skip (n_then ?_)
  refine SW_seq ?_
  refine SW_region ?_
  refine SL_s3 3 16 (.string key) 15 (pt (Gs.blk H.s) (n * 9)) 14 (pt F.p 0) (by intro δ w; kernel_rfl) ?_
  refine SL_perm _ (perm_cc (perm_ca (perm_ca (perm_ca (perm_cc (perm_ca perm_cz)))))) ?_
  refine SL_perm _ (perm_ca (perm_cc (perm_ca (perm_ca (perm_ca (perm_cc perm_cz)))))) ?_
  refine SL_perm _ (perm_a (perm_a (perm_c (perm_a (perm_a (perm_a perm_z)))))) ?_
  refine SL_perm _ (perm_cc (perm_ca (perm_ca (perm_cc (perm_ca (perm_ca perm_cz)))))) ?_
  refine SL_perm _ (perm_ca (perm_cc (perm_ca (perm_ca (perm_cc (perm_ca perm_cz)))))) ?_
  refine SL_perm _ (perm_ca (perm_ca (perm_cc (perm_ca (perm_ca (perm_cc perm_cz)))))) ?_
  refine SL_perm _ (perm_a (perm_a (perm_a (perm_c (perm_a (perm_a perm_z)))))) ?_
  refine SL_sig (((F.p, .cells 83 6 [Gs.val H.s H.objs.length, Gs.val H.ts H.texts.length, .map (some F.kb), pt F.T.p 0, pt F.cp 0, .int .i64 H.br]) :: ((Gs.ent 89 9 H.s (H.objs.flatMap ObjL.cells)) ++ ((H.objs.flatMap ObjL.ent) ++ ((Gs.ent 9 1 H.ts (H.texts.map encS)) ++ ((F.kb, .map (kvs encS encU H.known)) :: ((TreeV.ent H.V F.T) ++ ((CellsL.ent (CellsL.mk F.cp H.cs H.cl)) ++ ([])))))))) ++ ([])) (by simp only [List.cons_append, List.append_assoc, List.nil_append, List.append_nil]) ?_
  refine SL_cons ⟨rfl, fun _ => rfl⟩ (O_call 45 #[pt F.p 0, pt (Gs.blk H.s) (n * 9), .string key] rfl (by intro δ w; kernel_rfl) ((heap_place hH (n := n) hx key).use _) ?_)
  rintro _ σ2 ⟨_, hσ2, rfl⟩
  obtain rfl : σ2 = ((F.p, .cells 83 6 [Gs.val H.s H.objs.length, Gs.val H.ts H.texts.length, .map (some F.kb), pt F.T.p 0, pt F.cp 0, .int .i64 H.br]) :: ((Gs.ent 89 9 H.s (H.objs.flatMap ObjL.cells)) ++ ((H.objs.flatMap ObjL.ent) ++ ((Gs.ent 9 1 H.ts (H.texts.map encS)) ++ ((F.kb, .map (kvs encS encU H.known)) :: ((TreeV.ent H.V F.T) ++ ((CellsL.ent (CellsL.mk F.cp H.cs H.cl)) ++ ([])))))))) := hσ2.trans (by simp only [HeapV.ent, List.cons_append, List.append_assoc, List.nil_append, List.append_nil])
  refine SL_s1 1 8 (.int .i64 (placeO (TreeV.abs H.V F.T) x.shape x.names key)) (by intro δ w; kernel_rfl) ?_
  refine SL_nil (n_then ?_)
  refine SW_seq ?_
  refine SW_seq ?_
  refine SW_region ?_
  refine SL_s2 2 19 (.bool (decide ((placeO (TreeV.abs H.V F.T) x.shape x.names key) < 0))) 18 (.int .i64 (placeO (TreeV.abs H.V F.T) x.shape x.names key)) (by intro δ w; kernel_rfl) ?_
  refine SL_nil (n_then ?_)
  refine SW_true (fun _ => (congrArg Value.bool (show (decide ((placeO (TreeV.abs H.V F.T) x.shape x.names key) < 0)) = true from (by simp; omega)))) ?_
  refine SW_seq ?_
  refine SW_region ?_
  refine SL_segT 1 [(6, .bool false), (19, .bool (decide ((placeO (TreeV.abs H.V F.T) x.shape x.names key) < 0))), (8, .int .i64 (placeO (TreeV.abs H.V F.T) x.shape x.names key)), (13, .bool false), (7, pt (Gs.blk H.s) (n * 9)), (0, pt F.p 0), (1, .int .u64 w), (2, .string key)] (by intro δ w; kernel_rfl) ?_
  refine SL_nil (n_then ?_)
  refine SW_ret (r_then ?_)
  refine body_end (.bool false) (fun _ => rfl) ?_
  exact ⟨(), (Own.of_perm (S := ((F.p, .cells 83 6 [Gs.val H.s H.objs.length, Gs.val H.ts H.texts.length, .map (some F.kb), pt F.T.p 0, pt F.cp 0, .int .i64 H.br]) :: ((Gs.ent 89 9 H.s (H.objs.flatMap ObjL.cells)) ++ ((H.objs.flatMap ObjL.ent) ++ ((Gs.ent 9 1 H.ts (H.texts.map encS)) ++ ((F.kb, .map (kvs encS encU H.known)) :: ((TreeV.ent H.V F.T) ++ ((CellsL.ent (CellsL.mk F.cp H.cs H.cl)) ++ ([]))))))))) (List.Perm.refl _)), rfl⟩

theorem heap_Drop_yes {W0 : World} {F : HeapF} {H : HeapV} (hH : H.ok F) {w : Int} {n : Nat} {x : ObjL} (h0 : objAt w H.objs.length = some n) (hx : H.objs[n]? = some x) (hI : OInv (H.V.abs F.T) x) {k : Nat} (hB : H.bud k) (hk : k ≤ 8000000) {key : ByteArray} {q_ : Nat} (hq : placeO (H.V.abs F.T) x.shape x.names key = q_) : SC Try.prog W0 20 #[.pointer (some ⟨F.p, 0, none⟩), .int .u64 w, .string key] (HeapV.ent H F) (Ret (fun r : ObjL × List CellL × Int => (H.upd n r.1 H.V r.2.1 r.2.2).ent F) (fun v r => v = .bool true ∧ (H.upd n r.1 H.V r.2.1 r.2.2).ok F ∧ Same x r.1 ∧ r.1.ps = ⟨if 0 ≤ x.shape then -1 else x.shape, (keysOf (H.V.abs F.T) x).eraseIdx q_, x.vals.eraseIdx q_⟩ ∧ Chg x.cell H.cl r.2.1)) := by
  have hnl := (List.getElem?_eq_some_iff.1 hx).1
  refine SC_body (fn := Try.f20) (n := 48) Try.func20 rfl (by kernel_rfl) (ρ := [(0, pt F.p 0), (1, .int .u64 w), (2, .string key)]) rfl ?_
  refine SW_sig ((F.p, .cells 83 6 [Gs.val H.s H.objs.length, Gs.val H.ts H.texts.length, .map (some F.kb), pt F.T.p 0, pt F.cp 0, .int .i64 H.br]) :: ((Gs.ent 89 9 H.s (H.objs.flatMap ObjL.cells)) ++ ((H.objs.flatMap ObjL.ent) ++ ((Gs.ent 9 1 H.ts (H.texts.map encS)) ++ ((F.kb, .map (kvs encS encU H.known)) :: ((TreeV.ent H.V F.T) ++ ((CellsL.ent (CellsL.mk F.cp H.cs H.cl)) ++ ([])))))))) rfl ?_
  have hvl := hB.vals x (List.mem_of_getElem? hx)
  have hqv : q_ < x.vals.length := by have q1 := placeO_lt hI (key := key) (by omega); omega
  refine SW_seq ?_
  refine SW_region ?_
  refine SL_s1 1 6 (.bool false) (by intro δ w; kernel_rfl) ?_
  refine SL_nil (n_then ?_)
  refine SW_seq ?_
  refine SW_region ?_
  refine SL_s2 2 10 (.int .u64 w) 9 (pt F.p 0) (by intro δ w; kernel_rfl) ?_
  refine SL_perm _ (perm_cc (perm_ca (perm_ca (perm_ca (perm_cc (perm_ca perm_cz)))))) ?_
  refine SL_perm _ (perm_ca (perm_cc (perm_ca (perm_ca (perm_ca (perm_cc perm_cz)))))) ?_
  refine SL_perm _ (perm_a (perm_a (perm_c (perm_a (perm_a (perm_a perm_z)))))) ?_
  refine SL_perm _ (perm_cc (perm_ca (perm_ca (perm_cc (perm_ca (perm_ca perm_cz)))))) ?_
  refine SL_perm _ (perm_ca (perm_cc (perm_ca (perm_ca (perm_cc (perm_ca perm_cz)))))) ?_
  refine SL_perm _ (perm_ca (perm_ca (perm_cc (perm_ca (perm_ca (perm_cc perm_cz)))))) ?_
  refine SL_perm _ (perm_a (perm_a (perm_a (perm_c (perm_a (perm_a perm_z)))))) ?_
  refine SL_sig (((F.p, .cells 83 6 [Gs.val H.s H.objs.length, Gs.val H.ts H.texts.length, .map (some F.kb), pt F.T.p 0, pt F.cp 0, .int .i64 H.br]) :: ((Gs.ent 89 9 H.s (H.objs.flatMap ObjL.cells)) ++ ((H.objs.flatMap ObjL.ent) ++ ((Gs.ent 9 1 H.ts (H.texts.map encS)) ++ ((F.kb, .map (kvs encS encU H.known)) :: ((TreeV.ent H.V F.T) ++ ((CellsL.ent (CellsL.mk F.cp H.cs H.cl)) ++ ([])))))))) ++ ([])) (by simp only [List.cons_append, List.append_assoc, List.nil_append, List.append_nil]) ?_
  refine SL_cons ⟨rfl, fun _ => rfl⟩ (O_call 38 #[pt F.p 0, .int .u64 w] rfl (by intro δ w; kernel_rfl) ((heap_at hH w).use _) ?_)
  rintro v1 σ1 ⟨_, hσ1, hv1⟩
  obtain rfl : v1 = pt (Gs.blk H.s) (n * 9) := hv1.trans (by rw [h0])
  obtain rfl : σ1 = ((F.p, .cells 83 6 [Gs.val H.s H.objs.length, Gs.val H.ts H.texts.length, .map (some F.kb), pt F.T.p 0, pt F.cp 0, .int .i64 H.br]) :: ((Gs.ent 89 9 H.s (H.objs.flatMap ObjL.cells)) ++ ((H.objs.flatMap ObjL.ent) ++ ((Gs.ent 9 1 H.ts (H.texts.map encS)) ++ ((F.kb, .map (kvs encS encU H.known)) :: ((TreeV.ent H.V F.T) ++ ((CellsL.ent (CellsL.mk F.cp H.cs H.cl)) ++ ([])))))))) := hσ1.trans (by simp only [HeapV.ent, List.cons_append, List.append_assoc, List.nil_append, List.append_nil])
  refine SL_s1 1 7 (pt (Gs.blk H.s) (n * 9)) (by intro δ w; kernel_rfl) ?_
  refine SL_nil (n_then ?_)
  refine SW_seq ?_
  refine SW_seq ?_
  refine SW_region ?_
  refine SL_s2 2 13 (.bool false) 12 (pt (Gs.blk H.s) (n * 9)) (by intro δ w; kernel_rfl) ?_
  refine SL_nil (n_then ?_)
  refine SW_false (fun _ => rfl) ?_
  refine SW_skip (n_then ?_)
  refine SW_seq ?_
  refine SW_region ?_
  refine SL_s3 3 16 (.string key) 15 (pt (Gs.blk H.s) (n * 9)) 14 (pt F.p 0) (by intro δ w; kernel_rfl) ?_
  refine SL_perm _ (perm_cc (perm_ca (perm_ca (perm_ca (perm_cc (perm_ca perm_cz)))))) ?_
  refine SL_perm _ (perm_ca (perm_cc (perm_ca (perm_ca (perm_ca (perm_cc perm_cz)))))) ?_
  refine SL_perm _ (perm_a (perm_a (perm_c (perm_a (perm_a (perm_a perm_z)))))) ?_
  refine SL_perm _ (perm_cc (perm_ca (perm_ca (perm_cc (perm_ca (perm_ca perm_cz)))))) ?_
  refine SL_perm _ (perm_ca (perm_cc (perm_ca (perm_ca (perm_cc (perm_ca perm_cz)))))) ?_
  refine SL_perm _ (perm_ca (perm_ca (perm_cc (perm_ca (perm_ca (perm_cc perm_cz)))))) ?_
  refine SL_perm _ (perm_a (perm_a (perm_a (perm_c (perm_a (perm_a perm_z)))))) ?_
  refine SL_sig (((F.p, .cells 83 6 [Gs.val H.s H.objs.length, Gs.val H.ts H.texts.length, .map (some F.kb), pt F.T.p 0, pt F.cp 0, .int .i64 H.br]) :: ((Gs.ent 89 9 H.s (H.objs.flatMap ObjL.cells)) ++ ((H.objs.flatMap ObjL.ent) ++ ((Gs.ent 9 1 H.ts (H.texts.map encS)) ++ ((F.kb, .map (kvs encS encU H.known)) :: ((TreeV.ent H.V F.T) ++ ((CellsL.ent (CellsL.mk F.cp H.cs H.cl)) ++ ([])))))))) ++ ([])) (by simp only [List.cons_append, List.append_assoc, List.nil_append, List.append_nil]) ?_
  refine SL_cons ⟨rfl, fun _ => rfl⟩ (O_call 45 #[pt F.p 0, pt (Gs.blk H.s) (n * 9), .string key] rfl (by intro δ w; kernel_rfl) ((heap_place hH (n := n) hx key).use _) ?_)
  rintro v2 σ2 ⟨_, hσ2, hv2⟩
  obtain rfl : v2 = .int .i64 (q_ : Int) := hv2.trans (congrArg (Value.int .i64) hq)
  obtain rfl : σ2 = ((F.p, .cells 83 6 [Gs.val H.s H.objs.length, Gs.val H.ts H.texts.length, .map (some F.kb), pt F.T.p 0, pt F.cp 0, .int .i64 H.br]) :: ((Gs.ent 89 9 H.s (H.objs.flatMap ObjL.cells)) ++ ((H.objs.flatMap ObjL.ent) ++ ((Gs.ent 9 1 H.ts (H.texts.map encS)) ++ ((F.kb, .map (kvs encS encU H.known)) :: ((TreeV.ent H.V F.T) ++ ((CellsL.ent (CellsL.mk F.cp H.cs H.cl)) ++ ([])))))))) := hσ2.trans (by simp only [HeapV.ent, List.cons_append, List.append_assoc, List.nil_append, List.append_nil])
  refine SL_s1 1 8 (.int .i64 (q_ : Int)) (by intro δ w; kernel_rfl) ?_
  refine SL_nil (n_then ?_)
  refine SW_seq ?_
  refine SW_seq ?_
  refine SW_region ?_
  refine SL_s2 2 19 (.bool (decide ((q_ : Int) < 0))) 18 (.int .i64 (q_ : Int)) (by intro δ w; kernel_rfl) ?_
  refine SL_nil (n_then ?_)
  refine SW_false (fun _ => (congrArg Value.bool (show (decide ((q_ : Int) < 0)) = false from (by simp)))) ?_
  refine SW_skip (n_then ?_)
  refine SW_seq ?_
  refine SW_region ?_
  refine SL_s2 2 21 (pt (Gs.blk H.s) (n * 9)) 20 (pt F.p 0) (by intro δ w; kernel_rfl) ?_
  refine SL_perm _ (perm_cc (perm_ca (perm_ca (perm_ca (perm_cc (perm_ca perm_cz)))))) ?_
  refine SL_perm _ (perm_ca (perm_cc (perm_ca (perm_ca (perm_ca (perm_cc perm_cz)))))) ?_
  refine SL_perm _ (perm_a (perm_a (perm_c (perm_a (perm_a (perm_a perm_z)))))) ?_
  refine SL_perm _ (perm_cc (perm_ca (perm_ca (perm_cc (perm_ca (perm_ca perm_cz)))))) ?_
  refine SL_perm _ (perm_ca (perm_cc (perm_ca (perm_ca (perm_cc (perm_ca perm_cz)))))) ?_
  refine SL_perm _ (perm_ca (perm_ca (perm_cc (perm_ca (perm_ca (perm_cc perm_cz)))))) ?_
  refine SL_perm _ (perm_a (perm_a (perm_a (perm_c (perm_a (perm_a perm_z)))))) ?_
  refine SL_sig (((F.p, .cells 83 6 [Gs.val H.s H.objs.length, Gs.val H.ts H.texts.length, .map (some F.kb), pt F.T.p 0, pt F.cp 0, .int .i64 H.br]) :: ((Gs.ent 89 9 H.s (H.objs.flatMap ObjL.cells)) ++ ((H.objs.flatMap ObjL.ent) ++ ((Gs.ent 9 1 H.ts (H.texts.map encS)) ++ ((F.kb, .map (kvs encS encU H.known)) :: ((TreeV.ent H.V F.T) ++ ((CellsL.ent (CellsL.mk F.cp H.cs H.cl)) ++ ([])))))))) ++ ([])) (by simp only [List.cons_append, List.append_assoc, List.nil_append, List.append_nil]) ?_
  refine SL_cons ⟨rfl, fun _ => rfl⟩ (O_call 44 #[pt F.p 0, pt (Gs.blk H.s) (n * 9)] rfl (by intro δ w; kernel_rfl) ((heap_changed hH (n := n) hx hB hk).use _) ?_)
  rintro _ σ3 ⟨⟨cl1, br1⟩, hσ3, rfl, hccl1, hchcl1⟩
  obtain rfl : σ3 = ((F.p, .cells 83 6 [Gs.val H.s ((H.objs.set n (ObjL.chg x)).length), Gs.val H.ts H.texts.length, .map (some F.kb), pt F.T.p 0, pt F.cp 0, .int .i64 br1]) :: ((Gs.ent 89 9 H.s ((H.objs.set n (ObjL.chg x)).flatMap ObjL.cells)) ++ (((H.objs.set n (ObjL.chg x)).flatMap ObjL.ent) ++ ((Gs.ent 9 1 H.ts (H.texts.map encS)) ++ ((F.kb, .map (kvs encS encU H.known)) :: ((TreeV.ent H.V F.T) ++ ((CellsL.ent (CellsL.mk F.cp H.cs cl1)) ++ ([])))))))) := hσ3.trans (by simp only [HeapV.ent, List.cons_append, List.append_assoc, List.nil_append, List.append_nil])
  have hH1 : HeapV.ok (HeapV.mk H.s (H.objs.set n (ObjL.chg x)) H.ts H.texts H.known H.V H.cs cl1 br1) F := hH.chg hx hccl1 br1
  refine SL_nil (n_then ?_)
  refine SW_seq ?_
  refine SW_region ?_
  refine SL_s2 2 24 (pt (Gs.blk H.s) (n * 9)) 23 (pt F.p 0) (by intro δ w; kernel_rfl) ?_
  by_cases hp1 : 0 ≤ x.shape
  · skip
    refine SL_perm _ (perm_cc (perm_ca (perm_ca (perm_ca (perm_cc (perm_ca perm_cz)))))) ?_
    refine SL_perm _ (perm_ca (perm_cc (perm_ca (perm_ca (perm_ca (perm_cc perm_cz)))))) ?_
    refine SL_perm _ (perm_a (perm_a (perm_c (perm_a (perm_a (perm_a perm_z)))))) ?_
    refine SL_perm _ (perm_cc (perm_ca (perm_ca (perm_cc (perm_ca (perm_ca perm_cz)))))) ?_
    refine SL_perm _ (perm_ca (perm_cc (perm_ca (perm_ca (perm_cc (perm_ca perm_cz)))))) ?_
    refine SL_perm _ (perm_ca (perm_ca (perm_cc (perm_ca (perm_ca (perm_cc perm_cz)))))) ?_
    refine SL_perm _ (perm_a (perm_a (perm_a (perm_c (perm_a (perm_a perm_z)))))) ?_
    refine SL_sig (((F.p, .cells 83 6 [Gs.val H.s ((H.objs.set n (ObjL.chg x)).length), Gs.val H.ts H.texts.length, .map (some F.kb), pt F.T.p 0, pt F.cp 0, .int .i64 br1]) :: ((Gs.ent 89 9 H.s ((H.objs.set n (ObjL.chg x)).flatMap ObjL.cells)) ++ (((H.objs.set n (ObjL.chg x)).flatMap ObjL.ent) ++ ((Gs.ent 9 1 H.ts (H.texts.map encS)) ++ ((F.kb, .map (kvs encS encU H.known)) :: ((TreeV.ent H.V F.T) ++ ((CellsL.ent (CellsL.mk F.cp H.cs cl1)) ++ ([])))))))) ++ ([])) (by simp only [List.cons_append, List.append_assoc, List.nil_append, List.append_nil]) ?_
    refine SL_cons ⟨rfl, fun _ => rfl⟩ (O_call 48 #[pt F.p 0, pt (Gs.blk H.s) (n * 9)] rfl (by intro δ w; kernel_rfl) ((heap_loose_yes hH1 (n := n) (get_set hx) hp1).use _) ?_)
    rintro _ σ4 ⟨kg1, hσ4, rfl, hkg1⟩
    obtain rfl : σ4 = ((F.p, .cells 83 6 [Gs.val H.s ((H.objs.set n (ObjL.loosed (ObjL.chg x) kg1 (keysP (TreeV.abs H.V F.T) x.shape))).length), Gs.val H.ts H.texts.length, .map (some F.kb), pt F.T.p 0, pt F.cp 0, .int .i64 br1]) :: ((Gs.ent 89 9 H.s ((H.objs.set n (ObjL.loosed (ObjL.chg x) kg1 (keysP (TreeV.abs H.V F.T) x.shape))).flatMap ObjL.cells)) ++ (((H.objs.set n (ObjL.loosed (ObjL.chg x) kg1 (keysP (TreeV.abs H.V F.T) x.shape))).flatMap ObjL.ent) ++ ((Gs.ent 9 1 H.ts (H.texts.map encS)) ++ ((F.kb, .map (kvs encS encU H.known)) :: ((TreeV.ent H.V F.T) ++ ((CellsL.ent (CellsL.mk F.cp H.cs cl1)) ++ ([])))))))) := hσ4.trans (by simp only [HeapV.ent, HeapV.put, List.set_set, List.cons_append, List.append_assoc, List.nil_append, List.append_nil])
    have hH2 : HeapV.ok (HeapV.mk H.s (H.objs.set n (ObjL.loosed (ObjL.chg x) kg1 (keysP (TreeV.abs H.V F.T) x.shape))) H.ts H.texts H.known H.V H.cs cl1 br1) F := by simpa only [HeapV.put, List.set_set] using HeapV.ok.put hH1 (get_set hx) (x' := (ObjL.loosed (ObjL.chg x) kg1 (keysP (TreeV.abs H.V F.T) x.shape))) ⟨hkg1, (HeapV.ok.at hH1 (get_set hx)).vs, (HeapV.ok.at hH1 (get_set hx)).es, (HeapV.ok.at hH1 (get_set hx)).is⟩ (HeapV.ok.small hH1 (ObjL.chg x) (List.mem_of_getElem? (get_set hx)))
    refine SL_nil (n_then ?_)
    refine SW_seq ?_
    have hqn : q_ < (keysP (TreeV.abs H.V F.T) x.shape).length := by have q1 := hI.len; have q2 := hqv; unfold keysOf at q1; rw [if_neg (by omega)] at q1; omega
    refine SW_perm _ (perm_cc (perm_ca perm_cz)) ?_
    refine SW_perm ((Gs.ent 9 1 kg1 ((keysP (TreeV.abs H.V F.T) x.shape).map encS)) ++ ((Gs.ent 42 3 x.vs (x.vals.flatMap descCells)) ++ ((Gs.ent 24 1 x.es (x.elems.map encU)) ++ ((Gs.ent 24 1 x.is (x.inner.map encU)) ++ (((List.eraseIdx (H.objs.set n (ObjL.loosed (ObjL.chg x) kg1 (keysP (TreeV.abs H.V F.T) x.shape))) n).flatMap ObjL.ent) ++ ((F.p, .cells 83 6 [Gs.val H.s ((H.objs.set n (ObjL.loosed (ObjL.chg x) kg1 (keysP (TreeV.abs H.V F.T) x.shape))).length), Gs.val H.ts H.texts.length, .map (some F.kb), pt F.T.p 0, pt F.cp 0, .int .i64 br1]) :: ((Gs.ent 89 9 H.s ((H.objs.set n (ObjL.loosed (ObjL.chg x) kg1 (keysP (TreeV.abs H.V F.T) x.shape))).flatMap ObjL.cells)) ++ ((Gs.ent 9 1 H.ts (H.texts.map encS)) ++ ((F.kb, .map (kvs encS encU H.known)) :: ((TreeV.ent H.V F.T) ++ ((CellsL.ent (CellsL.mk F.cp H.cs cl1)) ++ ([])))))))))))) (obj_focus (get_set hx) _) ?_
    refine SW_draw [((Gs.blk H.s), n * 9 + 4, Gs.val kg1 ((keysP (TreeV.abs H.V F.T) x.shape).length)), ((Gs.blk H.s), n * 9 + 5, Gs.val x.vs x.vals.length)] [0, 1, 2, 3, 4, 5, 6, 7, 8, 9, 10, 11, 12, 13, 14, 15, 16] (by kernel_rfl) (rd_cons (Gs.cell hH2.row (fun e he => (mem_a (mem_a (mem_a (mem_a (mem_a (mem_c (mem_h he)))))))) (flat_cell ObjL.len (get_set hx) (j := 4) (by decide) rfl)) (rd_cons (Gs.cell hH2.row (fun e he => (mem_a (mem_a (mem_a (mem_a (mem_a (mem_c (mem_h he)))))))) (flat_cell ObjL.len (get_set hx) (j := 5) (by decide) rfl)) rd_nil)) ?_
    refine SA_take (li' := #[true, false, false, false, false, false, false, false, false, false, false, false, false, false, false, false, false, false, false, false, false, false, false, false]) 0 _ (pt (Gs.blk H.s) (n * 9)) (fun _ _ _ h => h) rfl (by kernel_rfl) rfl (Or.inl ⟨fun _ => rfl, by intro δ w; kernel_rfl⟩) ?_
    refine SA_trim [(26, pt (Gs.blk H.s) (n * 9)), (19, .bool (decide ((q_ : Int) < 0))), (8, .int .i64 (q_ : Int)), (13, .bool false), (7, pt (Gs.blk H.s) (n * 9)), (6, .bool false), (0, pt F.p 0), (1, .int .u64 w), (2, .string key)] (fun _ => rfl) ?_
    refine SA_take (li' := #[true, true, false, false, false, false, false, false, false, false, false, false, false, false, false, false, false, false, false, false, false, false, false, false]) 1 _ (pt (Gs.blk H.s) (n * 9)) (fun _ _ _ h => h) rfl (by kernel_rfl) rfl (Or.inl ⟨fun _ => rfl, by intro δ w; kernel_rfl⟩) ?_
    refine SA_take (li' := #[true, true, true, false, false, false, false, false, false, false, false, false, false, false, false, false, false, false, false, false, false, false, false, false]) 2 _ (pt (Gs.blk H.s) (n * 9)) (fun _ _ _ h => h) rfl (by kernel_rfl) rfl (Or.inl ⟨fun _ => rfl, by intro δ w; kernel_rfl⟩) ?_
    refine SA_take (li' := #[true, true, true, true, false, false, false, false, false, false, false, false, false, false, false, false, false, false, false, false, false, false, false, false]) 3 _ (pt (Gs.blk H.s) (n * 9)) (fun _ _ _ h => h) rfl (by kernel_rfl) rfl (Or.inl ⟨fun _ => rfl, by intro δ w; kernel_rfl⟩) ?_
    refine SA_take (li' := #[true, true, true, true, true, false, false, false, false, false, false, false, false, false, false, false, false, false, false, false, false, false, false, false]) 4 _ (pt (Gs.blk H.s) (n * 9 + 4)) (fun _ _ _ h => h) rfl (by kernel_rfl) rfl (Or.inl ⟨fun _ => rfl, by intro δ w; kernel_rfl⟩) ?_
    refine SA_read (li' := #[true, true, true, true, true, true, false, false, false, false, false, false, false, false, false, false, false, false, false, false, false, false, false, false]) 5 _ (Gs.val kg1 ((keysP (TreeV.abs H.V F.T) x.shape).length)) (fun _ _ _ h => h) rfl (by kernel_rfl) rfl (fun _ => rfl) (fun δ w hr => Rd_load (Gs.blk H.s) (n * 9 + 4) (Gs.val kg1 ((keysP (TreeV.abs H.V F.T) x.shape).length)) rfl (by kernel_rfl) List.mem_cons_self hr) ?_
    refine SA_take (li' := #[true, true, true, true, true, true, true, false, false, false, false, false, false, false, false, false, false, false, false, false, false, false, false, false]) 6 _ (.int .i64 (q_ : Int)) (fun _ _ _ h => h) rfl (by kernel_rfl) rfl (Or.inl ⟨fun _ => rfl, by intro δ w; kernel_rfl⟩) ?_
    refine SA_take (li' := #[true, true, true, true, true, true, true, true, false, false, false, false, false, false, false, false, false, false, false, false, false, false, false, false]) 7 _ (.int .i64 (q_ : Int)) (fun _ _ _ h => h) rfl (by kernel_rfl) rfl (Or.inl ⟨fun _ => rfl, by intro δ w; kernel_rfl⟩) ?_
    refine SA_take (li' := #[true, true, true, true, true, true, true, true, true, false, false, false, false, false, false, false, false, false, false, false, false, false, false, false]) 8 _ (.int .i64 (IntKind.wrap .i64 ((q_ : Int) + 1))) (fun _ _ _ h => h) rfl (by kernel_rfl) rfl (Or.inl ⟨fun _ => rfl, by intro δ w; kernel_rfl⟩) ?_
    rw [show IntKind.wrap .i64 ((q_ : Int) + 1) = (q_ : Int) + 1 from IntWalk.i64_in _ (by omega)]
    refine SA_take (li' := #[true, true, true, true, true, true, true, true, true, false, true, false, false, false, false, false, false, false, false, false, false, false, false, false]) 10 _ (pt (Gs.blk H.s) (n * 9)) (fun _ _ _ h => h) rfl (by kernel_rfl) rfl (Or.inl ⟨fun _ => rfl, by intro δ w; kernel_rfl⟩) ?_
    refine SA_take (li' := #[true, true, true, true, true, true, true, true, true, false, true, true, false, false, false, false, false, false, false, false, false, false, false, false]) 11 _ (pt (Gs.blk H.s) (n * 9)) (fun _ _ _ h => h) rfl (by kernel_rfl) rfl (Or.inl ⟨fun _ => rfl, by intro δ w; kernel_rfl⟩) ?_
    refine SA_take (li' := #[true, true, true, true, true, true, true, true, true, false, true, true, true, false, false, false, false, false, false, false, false, false, false, false]) 12 _ (pt (Gs.blk H.s) (n * 9 + 5)) (fun _ _ _ h => h) rfl (by kernel_rfl) rfl (Or.inl ⟨fun _ => rfl, by intro δ w; kernel_rfl⟩) ?_
    refine SA_read (li' := #[true, true, true, true, true, true, true, true, true, false, true, true, true, true, false, false, false, false, false, false, false, false, false, false]) 13 _ (Gs.val x.vs x.vals.length) (fun _ _ _ h => h) rfl (by kernel_rfl) rfl (fun _ => rfl) (fun δ w hr => Rd_load (Gs.blk H.s) (n * 9 + 5) (Gs.val x.vs x.vals.length) rfl (by kernel_rfl) (List.mem_cons_of_mem _ List.mem_cons_self) hr) ?_
    refine SA_take (li' := #[true, true, true, true, true, true, true, true, true, false, true, true, true, true, true, false, false, false, false, false, false, false, false, false]) 14 _ (.int .i64 (q_ : Int)) (fun _ _ _ h => h) rfl (by kernel_rfl) rfl (Or.inl ⟨fun _ => rfl, by intro δ w; kernel_rfl⟩) ?_
    refine SA_take (li' := #[true, true, true, true, true, true, true, true, true, false, true, true, true, true, true, true, false, false, false, false, false, false, false, false]) 15 _ (.int .i64 (q_ : Int)) (fun _ _ _ h => h) rfl (by kernel_rfl) rfl (Or.inl ⟨fun _ => rfl, by intro δ w; kernel_rfl⟩) ?_
    refine SA_take (li' := #[true, true, true, true, true, true, true, true, true, false, true, true, true, true, true, true, true, false, false, false, false, false, false, false]) 16 _ (.int .i64 (IntKind.wrap .i64 ((q_ : Int) + 1))) (fun _ _ _ h => h) rfl (by kernel_rfl) rfl (Or.inl ⟨fun _ => rfl, by intro δ w; kernel_rfl⟩) ?_
    rw [show IntKind.wrap .i64 ((q_ : Int) + 1) = (q_ : Int) + 1 from IntWalk.i64_in _ (by omega)]
    refine SA_trim [(42, .int .i64 ((q_ : Int) + 1)), (40, .int .i64 (q_ : Int)), (39, Gs.val x.vs x.vals.length), (34, .int .i64 ((q_ : Int) + 1)), (32, .int .i64 (q_ : Int)), (31, Gs.val kg1 ((keysP (TreeV.abs H.V F.T) x.shape).length)), (27, pt (Gs.blk H.s) (n * 9)), (26, pt (Gs.blk H.s) (n * 9)), (19, .bool (decide ((q_ : Int) < 0))), (8, .int .i64 (q_ : Int)), (13, .bool false), (7, pt (Gs.blk H.s) (n * 9)), (6, .bool false), (0, pt F.p 0), (1, .int .u64 w), (2, .string key)] (fun _ => rfl) ?_
    refine SA_one true (li' := #[true, true, true, true, true, true, true, true, true, true, true, true, true, true, true, true, true, false, false, false, false, false, false, false]) 9 _ rfl rfl (by kernel_rfl) ⟨rfl, fun _ => rfl⟩ rfl (O_call 50 #[Gs.val kg1 ((keysP (TreeV.abs H.V F.T) x.shape).length), .int .i64 (q_ : Int), .int .i64 ((q_ : Int) + 1)] rfl (by intro δ w; kernel_rfl) ((delete_texts (i := q_) (show Gs.ok 1 ((keysP (TreeV.abs H.V F.T) x.shape)).length kg1 ((keysP (TreeV.abs H.V F.T) x.shape).map encS) from (HeapV.ok.at (x := (ObjL.loosed (ObjL.chg x) kg1 (keysP (TreeV.abs H.V F.T) x.shape))) hH2 (get_set hx)).ns) hqn).use _) ?_)
    rintro _ σ7 ⟨_, hσ7, rfl, hdl1⟩
    obtain rfl : σ7 = ((Gs.ent 9 1 kg1 (((keysP (TreeV.abs H.V F.T) x.shape).eraseIdx q_).map encS)) ++ ((Gs.ent 42 3 x.vs (x.vals.flatMap descCells)) ++ ((Gs.ent 24 1 x.es (x.elems.map encU)) ++ ((Gs.ent 24 1 x.is (x.inner.map encU)) ++ (((List.eraseIdx (H.objs.set n (ObjL.loosed (ObjL.chg x) kg1 (keysP (TreeV.abs H.V F.T) x.shape))) n).flatMap ObjL.ent) ++ ((F.p, .cells 83 6 [Gs.val H.s ((H.objs.set n (ObjL.loosed (ObjL.chg x) kg1 (keysP (TreeV.abs H.V F.T) x.shape))).length), Gs.val H.ts H.texts.length, .map (some F.kb), pt F.T.p 0, pt F.cp 0, .int .i64 br1]) :: ((Gs.ent 89 9 H.s ((H.objs.set n (ObjL.loosed (ObjL.chg x) kg1 (keysP (TreeV.abs H.V F.T) x.shape))).flatMap ObjL.cells)) ++ ((Gs.ent 9 1 H.ts (H.texts.map encS)) ++ ((F.kb, .map (kvs encS encU H.known)) :: ((TreeV.ent H.V F.T) ++ ((CellsL.ent (CellsL.mk F.cp H.cs cl1)) ++ ([])))))))))))) := hσ7.trans (rfl)
    refine ⟨fun hnd => (rd_cons (Gs.cell hH2.row (fun e he => (mem_a (mem_a (mem_a (mem_a (mem_a (mem_c (mem_h he)))))))) (flat_cell ObjL.len (get_set hx) (j := 4) (by decide) rfl)) (rd_cons (Gs.cell hH2.row (fun e he => (mem_a (mem_a (mem_a (mem_a (mem_a (mem_c (mem_h he)))))))) (flat_cell ObjL.len (get_set hx) (j := 5) (by decide) rfl)) rd_nil)), ?_⟩
    refine SA_perm _ (perm_ca perm_cz) ?_
    refine SA_one false (li' := #[true, true, true, true, true, true, true, true, true, true, true, true, true, true, true, true, true, true, false, false, false, false, false, false]) 17 _ rfl rfl (by kernel_rfl) ⟨rfl, fun _ => rfl⟩ rfl (O_call 51 #[Gs.val x.vs x.vals.length, .int .i64 (q_ : Int), .int .i64 ((q_ : Int) + 1)] rfl (by intro δ w; kernel_rfl) ((delete_descs (i := q_) (show Gs.ok 3 (x.vals).length x.vs (x.vals.flatMap descCells) from (HeapV.ok.at (x := (ObjL.loosed (ObjL.chg x) kg1 (keysP (TreeV.abs H.V F.T) x.shape))) hH2 (get_set hx)).vs) hqv).use _) ?_)
    rintro _ σ8 ⟨_, hσ8, rfl, hdl2⟩
    obtain rfl : σ8 = ((Gs.ent 42 3 x.vs ((x.vals.eraseIdx q_).flatMap descCells)) ++ ((Gs.ent 9 1 kg1 (((keysP (TreeV.abs H.V F.T) x.shape).eraseIdx q_).map encS)) ++ ((Gs.ent 24 1 x.es (x.elems.map encU)) ++ ((Gs.ent 24 1 x.is (x.inner.map encU)) ++ (((List.eraseIdx (H.objs.set n (ObjL.loosed (ObjL.chg x) kg1 (keysP (TreeV.abs H.V F.T) x.shape))) n).flatMap ObjL.ent) ++ ((F.p, .cells 83 6 [Gs.val H.s ((H.objs.set n (ObjL.loosed (ObjL.chg x) kg1 (keysP (TreeV.abs H.V F.T) x.shape))).length), Gs.val H.ts H.texts.length, .map (some F.kb), pt F.T.p 0, pt F.cp 0, .int .i64 br1]) :: ((Gs.ent 89 9 H.s ((H.objs.set n (ObjL.loosed (ObjL.chg x) kg1 (keysP (TreeV.abs H.V F.T) x.shape))).flatMap ObjL.cells)) ++ ((Gs.ent 9 1 H.ts (H.texts.map encS)) ++ ((F.kb, .map (kvs encS encU H.known)) :: ((TreeV.ent H.V F.T) ++ ((CellsL.ent (CellsL.mk F.cp H.cs cl1)) ++ ([])))))))))))) := hσ8.trans (rfl)
    refine ⟨fun hnd => (by cases hnd), ?_⟩
    refine SA_take (li' := #[true, true, true, true, true, true, true, true, true, true, true, true, true, true, true, true, true, true, true, false, false, false, false, false]) 18 _ (pt (Gs.blk H.s) (n * 9)) (fun _ _ _ h => h) rfl (by kernel_rfl) rfl (Or.inl ⟨fun _ => rfl, by intro δ w; kernel_rfl⟩) ?_
    refine SA_take (li' := #[true, true, true, true, true, true, true, true, true, true, true, true, true, true, true, true, true, true, true, true, false, false, false, false]) 19 _ (pt (Gs.blk H.s) (n * 9 + 4)) (fun _ _ _ h => h) rfl (by kernel_rfl) rfl (Or.inl ⟨fun _ => rfl, by intro δ w; kernel_rfl⟩) ?_
    refine SA_trim [(45, pt (Gs.blk H.s) (n * 9 + 4)), (43, Gs.val x.vs ((x.vals.eraseIdx q_).length)), (35, Gs.val kg1 (((keysP (TreeV.abs H.V F.T) x.shape).eraseIdx q_).length)), (27, pt (Gs.blk H.s) (n * 9)), (19, .bool (decide ((q_ : Int) < 0))), (8, .int .i64 (q_ : Int)), (13, .bool false), (7, pt (Gs.blk H.s) (n * 9)), (6, .bool false), (0, pt F.p 0), (1, .int .u64 w), (2, .string key)] (fun _ => rfl) ?_
    have hok3 := Gs.ok.relen (ys := ((H.objs.set n (ObjL.mk x.kind x.proto x.shut (-1) kg1 ((keysP (TreeV.abs H.V F.T) x.shape).eraseIdx q_) x.vs x.vals x.es x.elems x.is x.inner (if 0 ≤ x.cell then -1 else x.cell))).flatMap ObjL.cells)) hH2.row (by simp [flat_len ObjL.len])
    refine SA_perm _ (perm_ca (perm_ca (perm_ca (perm_ca (perm_ca (perm_cc perm_cz)))))) ?_
    refine SA_one false (li' := #[true, true, true, true, true, true, true, true, true, true, true, true, true, true, true, true, true, true, true, true, true, false, false, false]) 20 _ rfl rfl (by kernel_rfl) ⟨rfl, fun _ => rfl⟩ rfl (O_storeG (ys := ((H.objs.set n (ObjL.mk x.kind x.proto x.shut (-1) kg1 ((keysP (TreeV.abs H.V F.T) x.shape).eraseIdx q_) x.vs x.vals x.es x.elems x.is x.inner (if 0 ≤ x.cell then -1 else x.cell))).flatMap ObjL.cells)) H.s (n * 9 + 4) (Gs.val kg1 (((keysP (TreeV.abs H.V F.T) x.shape).eraseIdx q_).length)) [Gs.val kg1 (((keysP (TreeV.abs H.V F.T) x.shape).eraseIdx q_).length)] (Gs.ok.ne hH2.row (by first | omega | (simp; omega))) (fun _ => rfl) (fun _ => rfl) rfl (by kernel_rfl) rfl (by rw [flat_len ObjL.len]; simp; omega) ((row_lay (j := 4) ObjL.len (ObjL.mk x.kind x.proto x.shut (-1) kg1 ((keysP (TreeV.abs H.V F.T) x.shape).eraseIdx q_) x.vs x.vals x.es x.elems x.is x.inner (if 0 ≤ x.cell then -1 else x.cell)) (get_set hx) (Nat.le_of_ble_eq_true rfl) rfl).trans (by rw [List.set_set])) rfl ?_)
    refine ⟨fun hnd => (by cases hnd), ?_⟩
    refine SA_take (li' := #[true, true, true, true, true, true, true, true, true, true, true, true, true, true, true, true, true, true, true, true, true, true, false, false]) 21 _ (pt (Gs.blk H.s) (n * 9)) (fun _ _ _ h => h) rfl (by kernel_rfl) rfl (Or.inl ⟨fun _ => rfl, by intro δ w; kernel_rfl⟩) ?_
    refine SA_take (li' := #[true, true, true, true, true, true, true, true, true, true, true, true, true, true, true, true, true, true, true, true, true, true, true, false]) 22 _ (pt (Gs.blk H.s) (n * 9 + 5)) (fun _ _ _ h => h) rfl (by kernel_rfl) rfl (Or.inl ⟨fun _ => rfl, by intro δ w; kernel_rfl⟩) ?_
    have hok4 := Gs.ok.relen (ys := ((H.objs.set n (ObjL.mk x.kind x.proto x.shut (-1) kg1 ((keysP (TreeV.abs H.V F.T) x.shape).eraseIdx q_) x.vs (x.vals.eraseIdx q_) x.es x.elems x.is x.inner (if 0 ≤ x.cell then -1 else x.cell))).flatMap ObjL.cells)) hok3 (by simp [flat_len ObjL.len])
    refine SA_one false (li' := #[true, true, true, true, true, true, true, true, true, true, true, true, true, true, true, true, true, true, true, true, true, true, true, true]) 23 _ rfl rfl (by kernel_rfl) ⟨rfl, fun _ => rfl⟩ rfl (O_storeG (ys := ((H.objs.set n (ObjL.mk x.kind x.proto x.shut (-1) kg1 ((keysP (TreeV.abs H.V F.T) x.shape).eraseIdx q_) x.vs (x.vals.eraseIdx q_) x.es x.elems x.is x.inner (if 0 ≤ x.cell then -1 else x.cell))).flatMap ObjL.cells)) H.s (n * 9 + 5) (Gs.val x.vs ((x.vals.eraseIdx q_).length)) [Gs.val x.vs ((x.vals.eraseIdx q_).length)] (Gs.ok.ne hok3 (by first | omega | (simp; omega))) (fun _ => rfl) (fun _ => rfl) rfl (by kernel_rfl) rfl (by rw [flat_len ObjL.len]; simp; omega) ((row_lay (j := 5) ObjL.len (ObjL.mk x.kind x.proto x.shut (-1) kg1 ((keysP (TreeV.abs H.V F.T) x.shape).eraseIdx q_) x.vs (x.vals.eraseIdx q_) x.es x.elems x.is x.inner (if 0 ≤ x.cell then -1 else x.cell)) (get_set hx) (Nat.le_of_ble_eq_true rfl) rfl).trans (by rw [List.set_set])) rfl ?_)
    refine ⟨fun hnd => (by cases hnd), ?_⟩
    refine SA_done (by kernel_rfl) (n_then ?_)
    refine SW_seq ?_
    refine SW_region ?_
    refine SL_segT 1 [(6, .bool true), (19, .bool (decide ((q_ : Int) < 0))), (8, .int .i64 (q_ : Int)), (13, .bool false), (7, pt (Gs.blk H.s) (n * 9)), (0, pt F.p 0), (1, .int .u64 w), (2, .string key)] (by intro δ w; kernel_rfl) ?_
    refine SL_nil (n_then ?_)
    refine SW_ret ?_
    refine body_end (.bool true) (fun _ => rfl) ?_
    refine ⟨((ObjL.mk x.kind x.proto x.shut (-1) kg1 ((keysP (TreeV.abs H.V F.T) x.shape).eraseIdx q_) x.vs (x.vals.eraseIdx q_) x.es x.elems x.is x.inner (if 0 ≤ x.cell then -1 else x.cell)), cl1, br1), ?_, rfl, ?_, ⟨rfl, rfl, rfl, rfl, rfl, rfl, rfl, rfl⟩, ?_, hchcl1⟩
    · refine Own.trans (Own.of_perm (S := ((F.p, .cells 83 6 [Gs.val H.s ((H.objs.set n (ObjL.loosed (ObjL.chg x) kg1 (keysP (TreeV.abs H.V F.T) x.shape))).length), Gs.val H.ts H.texts.length, .map (some F.kb), pt F.T.p 0, pt F.cp 0, .int .i64 br1]) :: ((Gs.ent 89 9 H.s ((H.objs.set n (ObjL.mk x.kind x.proto x.shut (-1) kg1 ((keysP (TreeV.abs H.V F.T) x.shape).eraseIdx q_) x.vs (x.vals.eraseIdx q_) x.es x.elems x.is x.inner (if 0 ≤ x.cell then -1 else x.cell))).flatMap ObjL.cells)) ++ ((Gs.ent 9 1 kg1 (((keysP (TreeV.abs H.V F.T) x.shape).eraseIdx q_).map encS)) ++ ((Gs.ent 42 3 x.vs ((x.vals.eraseIdx q_).flatMap descCells)) ++ ((Gs.ent 24 1 x.es (x.elems.map encU)) ++ ((Gs.ent 24 1 x.is (x.inner.map encU)) ++ (((List.eraseIdx (H.objs.set n (ObjL.loosed (ObjL.chg x) kg1 (keysP (TreeV.abs H.V F.T) x.shape))) n).flatMap ObjL.ent) ++ ((Gs.ent 9 1 H.ts (H.texts.map encS)) ++ ((F.kb, .map (kvs encS encU H.known)) :: ((TreeV.ent H.V F.T) ++ ((CellsL.ent (CellsL.mk F.cp H.cs cl1)) ++ ([]))))))))))))) (List.Perm.trans (perm_a (perm_a (perm_a (perm_a (perm_a (perm_a perm_z)))))) (List.Perm.cons _ (List.Perm.trans perm_cz (List.Perm.append_left _ (List.Perm.trans (perm_ca perm_cz) (List.Perm.append_left _ (List.Perm.refl _)))))))) (Own.of_perm ?_)
      have hb_ := HeapV.back (H := (HeapV.mk H.s (H.objs.set n (ObjL.loosed (ObjL.chg x) kg1 (keysP (TreeV.abs H.V F.T) x.shape))) H.ts H.texts H.known H.V H.cs cl1 br1)) F (get_set hx) (ObjL.mk x.kind x.proto x.shut (-1) kg1 ((keysP (TreeV.abs H.V F.T) x.shape).eraseIdx q_) x.vs (x.vals.eraseIdx q_) x.es x.elems x.is x.inner (if 0 ≤ x.cell then -1 else x.cell))
      simp only [HeapV.head, HeapV.put, List.set_set, List.length_set] at hb_ ⊢
      exact hb_
    · simpa only [HeapV.put, List.set_set, List.length_set] using HeapV.ok.put hH2 (get_set hx) (x' := (ObjL.mk x.kind x.proto x.shut (-1) kg1 ((keysP (TreeV.abs H.V F.T) x.shape).eraseIdx q_) x.vs (x.vals.eraseIdx q_) x.es x.elems x.is x.inner (if 0 ≤ x.cell then -1 else x.cell))) ⟨(by first | exact hdl1 | (simp only [List.length_set]; exact hdl1)), (by first | exact hdl2 | (simp only [List.length_set]; exact hdl2)), (by first | exact (show Gs.ok 1 (x.elems).length x.es (x.elems.map encU) from (HeapV.ok.at (x := (ObjL.loosed (ObjL.chg x) kg1 (keysP (TreeV.abs H.V F.T) x.shape))) hH2 (get_set hx)).es) | (simp only [List.length_set]; exact (show Gs.ok 1 (x.elems).length x.es (x.elems.map encU) from (HeapV.ok.at (x := (ObjL.loosed (ObjL.chg x) kg1 (keysP (TreeV.abs H.V F.T) x.shape))) hH2 (get_set hx)).es))), (by first | exact (show Gs.ok 1 (x.inner).length x.is (x.inner.map encU) from (HeapV.ok.at (x := (ObjL.loosed (ObjL.chg x) kg1 (keysP (TreeV.abs H.V F.T) x.shape))) hH2 (get_set hx)).is) | (simp only [List.length_set]; exact (show Gs.ok 1 (x.inner).length x.is (x.inner.map encU) from (HeapV.ok.at (x := (ObjL.loosed (ObjL.chg x) kg1 (keysP (TreeV.abs H.V F.T) x.shape))) hH2 (get_set hx)).is)))⟩ (by first | omega | exact hH.small x (List.mem_of_getElem? hx))
    · show PS.mk _ _ _ = PS.mk _ _ _
      unfold keysOf; rw [if_pos hp1, if_neg (show ¬ x.shape < 0 from by omega)]
  · skip
    refine SL_perm _ (perm_cc (perm_ca (perm_ca (perm_ca (perm_cc (perm_ca perm_cz)))))) ?_
    refine SL_perm _ (perm_ca (perm_cc (perm_ca (perm_ca (perm_ca (perm_cc perm_cz)))))) ?_
    refine SL_perm _ (perm_a (perm_a (perm_c (perm_a (perm_a (perm_a perm_z)))))) ?_
    refine SL_perm _ (perm_cc (perm_ca (perm_ca (perm_cc (perm_ca (perm_ca perm_cz)))))) ?_
    refine SL_perm _ (perm_ca (perm_cc (perm_ca (perm_ca (perm_cc (perm_ca perm_cz)))))) ?_
    refine SL_perm _ (perm_ca (perm_ca (perm_cc (perm_ca (perm_ca (perm_cc perm_cz)))))) ?_
    refine SL_perm _ (perm_a (perm_a (perm_a (perm_c (perm_a (perm_a perm_z)))))) ?_
    refine SL_sig (((F.p, .cells 83 6 [Gs.val H.s ((H.objs.set n (ObjL.chg x)).length), Gs.val H.ts H.texts.length, .map (some F.kb), pt F.T.p 0, pt F.cp 0, .int .i64 br1]) :: ((Gs.ent 89 9 H.s ((H.objs.set n (ObjL.chg x)).flatMap ObjL.cells)) ++ (((H.objs.set n (ObjL.chg x)).flatMap ObjL.ent) ++ ((Gs.ent 9 1 H.ts (H.texts.map encS)) ++ ((F.kb, .map (kvs encS encU H.known)) :: ((TreeV.ent H.V F.T) ++ ((CellsL.ent (CellsL.mk F.cp H.cs cl1)) ++ ([])))))))) ++ ([])) (by simp only [List.cons_append, List.append_assoc, List.nil_append, List.append_nil]) ?_
    refine SL_cons ⟨rfl, fun _ => rfl⟩ (O_call 48 #[pt F.p 0, pt (Gs.blk H.s) (n * 9)] rfl (by intro δ w; kernel_rfl) ((heap_loose_no hH1 (n := n) (get_set hx) (by simpa using hp1)).use _) ?_)
    rintro _ σ9 ⟨_, hσ9, rfl⟩
    obtain rfl : σ9 = ((F.p, .cells 83 6 [Gs.val H.s ((H.objs.set n (ObjL.chg x)).length), Gs.val H.ts H.texts.length, .map (some F.kb), pt F.T.p 0, pt F.cp 0, .int .i64 br1]) :: ((Gs.ent 89 9 H.s ((H.objs.set n (ObjL.chg x)).flatMap ObjL.cells)) ++ (((H.objs.set n (ObjL.chg x)).flatMap ObjL.ent) ++ ((Gs.ent 9 1 H.ts (H.texts.map encS)) ++ ((F.kb, .map (kvs encS encU H.known)) :: ((TreeV.ent H.V F.T) ++ ((CellsL.ent (CellsL.mk F.cp H.cs cl1)) ++ ([])))))))) := hσ9.trans (by simp only [HeapV.ent, List.cons_append, List.append_assoc, List.nil_append, List.append_nil])
    refine SL_nil (n_then ?_)
    refine SW_seq ?_
    have hqn : q_ < x.names.length := by have q1 := hI.len; have q2 := hqv; unfold keysOf at q1; rw [if_pos (by omega)] at q1; omega
    refine SW_perm _ (perm_cc (perm_ca perm_cz)) ?_
    refine SW_perm ((Gs.ent 9 1 x.ns (x.names.map encS)) ++ ((Gs.ent 42 3 x.vs (x.vals.flatMap descCells)) ++ ((Gs.ent 24 1 x.es (x.elems.map encU)) ++ ((Gs.ent 24 1 x.is (x.inner.map encU)) ++ (((List.eraseIdx (H.objs.set n (ObjL.chg x)) n).flatMap ObjL.ent) ++ ((F.p, .cells 83 6 [Gs.val H.s ((H.objs.set n (ObjL.chg x)).length), Gs.val H.ts H.texts.length, .map (some F.kb), pt F.T.p 0, pt F.cp 0, .int .i64 br1]) :: ((Gs.ent 89 9 H.s ((H.objs.set n (ObjL.chg x)).flatMap ObjL.cells)) ++ ((Gs.ent 9 1 H.ts (H.texts.map encS)) ++ ((F.kb, .map (kvs encS encU H.known)) :: ((TreeV.ent H.V F.T) ++ ((CellsL.ent (CellsL.mk F.cp H.cs cl1)) ++ ([])))))))))))) (obj_focus (get_set hx) _) ?_
    refine SW_draw [((Gs.blk H.s), n * 9 + 4, Gs.val x.ns x.names.length), ((Gs.blk H.s), n * 9 + 5, Gs.val x.vs x.vals.length)] [0, 1, 2, 3, 4, 5, 6, 7, 8, 9, 10, 11, 12, 13, 14, 15, 16] (by kernel_rfl) (rd_cons (Gs.cell hH1.row (fun e he => (mem_a (mem_a (mem_a (mem_a (mem_a (mem_c (mem_h he)))))))) (flat_cell ObjL.len (get_set hx) (j := 4) (by decide) rfl)) (rd_cons (Gs.cell hH1.row (fun e he => (mem_a (mem_a (mem_a (mem_a (mem_a (mem_c (mem_h he)))))))) (flat_cell ObjL.len (get_set hx) (j := 5) (by decide) rfl)) rd_nil)) ?_
    refine SA_take (li' := #[true, false, false, false, false, false, false, false, false, false, false, false, false, false, false, false, false, false, false, false, false, false, false, false]) 0 _ (pt (Gs.blk H.s) (n * 9)) (fun _ _ _ h => h) rfl (by kernel_rfl) rfl (Or.inl ⟨fun _ => rfl, by intro δ w; kernel_rfl⟩) ?_
    refine SA_trim [(26, pt (Gs.blk H.s) (n * 9)), (19, .bool (decide ((q_ : Int) < 0))), (8, .int .i64 (q_ : Int)), (13, .bool false), (7, pt (Gs.blk H.s) (n * 9)), (6, .bool false), (0, pt F.p 0), (1, .int .u64 w), (2, .string key)] (fun _ => rfl) ?_
    refine SA_take (li' := #[true, true, false, false, false, false, false, false, false, false, false, false, false, false, false, false, false, false, false, false, false, false, false, false]) 1 _ (pt (Gs.blk H.s) (n * 9)) (fun _ _ _ h => h) rfl (by kernel_rfl) rfl (Or.inl ⟨fun _ => rfl, by intro δ w; kernel_rfl⟩) ?_
    refine SA_take (li' := #[true, true, true, false, false, false, false, false, false, false, false, false, false, false, false, false, false, false, false, false, false, false, false, false]) 2 _ (pt (Gs.blk H.s) (n * 9)) (fun _ _ _ h => h) rfl (by kernel_rfl) rfl (Or.inl ⟨fun _ => rfl, by intro δ w; kernel_rfl⟩) ?_
    refine SA_take (li' := #[true, true, true, true, false, false, false, false, false, false, false, false, false, false, false, false, false, false, false, false, false, false, false, false]) 3 _ (pt (Gs.blk H.s) (n * 9)) (fun _ _ _ h => h) rfl (by kernel_rfl) rfl (Or.inl ⟨fun _ => rfl, by intro δ w; kernel_rfl⟩) ?_
    refine SA_take (li' := #[true, true, true, true, true, false, false, false, false, false, false, false, false, false, false, false, false, false, false, false, false, false, false, false]) 4 _ (pt (Gs.blk H.s) (n * 9 + 4)) (fun _ _ _ h => h) rfl (by kernel_rfl) rfl (Or.inl ⟨fun _ => rfl, by intro δ w; kernel_rfl⟩) ?_
    refine SA_read (li' := #[true, true, true, true, true, true, false, false, false, false, false, false, false, false, false, false, false, false, false, false, false, false, false, false]) 5 _ (Gs.val x.ns x.names.length) (fun _ _ _ h => h) rfl (by kernel_rfl) rfl (fun _ => rfl) (fun δ w hr => Rd_load (Gs.blk H.s) (n * 9 + 4) (Gs.val x.ns x.names.length) rfl (by kernel_rfl) List.mem_cons_self hr) ?_
    refine SA_take (li' := #[true, true, true, true, true, true, true, false, false, false, false, false, false, false, false, false, false, false, false, false, false, false, false, false]) 6 _ (.int .i64 (q_ : Int)) (fun _ _ _ h => h) rfl (by kernel_rfl) rfl (Or.inl ⟨fun _ => rfl, by intro δ w; kernel_rfl⟩) ?_
    refine SA_take (li' := #[true, true, true, true, true, true, true, true, false, false, false, false, false, false, false, false, false, false, false, false, false, false, false, false]) 7 _ (.int .i64 (q_ : Int)) (fun _ _ _ h => h) rfl (by kernel_rfl) rfl (Or.inl ⟨fun _ => rfl, by intro δ w; kernel_rfl⟩) ?_
    refine SA_take (li' := #[true, true, true, true, true, true, true, true, true, false, false, false, false, false, false, false, false, false, false, false, false, false, false, false]) 8 _ (.int .i64 (IntKind.wrap .i64 ((q_ : Int) + 1))) (fun _ _ _ h => h) rfl (by kernel_rfl) rfl (Or.inl ⟨fun _ => rfl, by intro δ w; kernel_rfl⟩) ?_
    rw [show IntKind.wrap .i64 ((q_ : Int) + 1) = (q_ : Int) + 1 from IntWalk.i64_in _ (by omega)]
    refine SA_take (li' := #[true, true, true, true, true, true, true, true, true, false, true, false, false, false, false, false, false, false, false, false, false, false, false, false]) 10 _ (pt (Gs.blk H.s) (n * 9)) (fun _ _ _ h => h) rfl (by kernel_rfl) rfl (Or.inl ⟨fun _ => rfl, by intro δ w; kernel_rfl⟩) ?_
    refine SA_take (li' := #[true, true, true, true, true, true, true, true, true, false, true, true, false, false, false, false, false, false, false, false, false, false, false, false]) 11 _ (pt (Gs.blk H.s) (n * 9)) (fun _ _ _ h => h) rfl (by kernel_rfl) rfl (Or.inl ⟨fun _ => rfl, by intro δ w; kernel_rfl⟩) ?_
    refine SA_take (li' := #[true, true, true, true, true, true, true, true, true, false, true, true, true, false, false, false, false, false, false, false, false, false, false, false]) 12 _ (pt (Gs.blk H.s) (n * 9 + 5)) (fun _ _ _ h => h) rfl (by kernel_rfl) rfl (Or.inl ⟨fun _ => rfl, by intro δ w; kernel_rfl⟩) ?_
    refine SA_read (li' := #[true, true, true, true, true, true, true, true, true, false, true, true, true, true, false, false, false, false, false, false, false, false, false, false]) 13 _ (Gs.val x.vs x.vals.length) (fun _ _ _ h => h) rfl (by kernel_rfl) rfl (fun _ => rfl) (fun δ w hr => Rd_load (Gs.blk H.s) (n * 9 + 5) (Gs.val x.vs x.vals.length) rfl (by kernel_rfl) (List.mem_cons_of_mem _ List.mem_cons_self) hr) ?_
    refine SA_take (li' := #[true, true, true, true, true, true, true, true, true, false, true, true, true, true, true, false, false, false, false, false, false, false, false, false]) 14 _ (.int .i64 (q_ : Int)) (fun _ _ _ h => h) rfl (by kernel_rfl) rfl (Or.inl ⟨fun _ => rfl, by intro δ w; kernel_rfl⟩) ?_
    refine SA_take (li' := #[true, true, true, true, true, true, true, true, true, false, true, true, true, true, true, true, false, false, false, false, false, false, false, false]) 15 _ (.int .i64 (q_ : Int)) (fun _ _ _ h => h) rfl (by kernel_rfl) rfl (Or.inl ⟨fun _ => rfl, by intro δ w; kernel_rfl⟩) ?_
    refine SA_take (li' := #[true, true, true, true, true, true, true, true, true, false, true, true, true, true, true, true, true, false, false, false, false, false, false, false]) 16 _ (.int .i64 (IntKind.wrap .i64 ((q_ : Int) + 1))) (fun _ _ _ h => h) rfl (by kernel_rfl) rfl (Or.inl ⟨fun _ => rfl, by intro δ w; kernel_rfl⟩) ?_
    rw [show IntKind.wrap .i64 ((q_ : Int) + 1) = (q_ : Int) + 1 from IntWalk.i64_in _ (by omega)]
    refine SA_trim [(42, .int .i64 ((q_ : Int) + 1)), (40, .int .i64 (q_ : Int)), (39, Gs.val x.vs x.vals.length), (34, .int .i64 ((q_ : Int) + 1)), (32, .int .i64 (q_ : Int)), (31, Gs.val x.ns x.names.length), (27, pt (Gs.blk H.s) (n * 9)), (26, pt (Gs.blk H.s) (n * 9)), (19, .bool (decide ((q_ : Int) < 0))), (8, .int .i64 (q_ : Int)), (13, .bool false), (7, pt (Gs.blk H.s) (n * 9)), (6, .bool false), (0, pt F.p 0), (1, .int .u64 w), (2, .string key)] (fun _ => rfl) ?_
    refine SA_one true (li' := #[true, true, true, true, true, true, true, true, true, true, true, true, true, true, true, true, true, false, false, false, false, false, false, false]) 9 _ rfl rfl (by kernel_rfl) ⟨rfl, fun _ => rfl⟩ rfl (O_call 50 #[Gs.val x.ns x.names.length, .int .i64 (q_ : Int), .int .i64 ((q_ : Int) + 1)] rfl (by intro δ w; kernel_rfl) ((delete_texts (i := q_) (show Gs.ok 1 (x.names).length x.ns (x.names.map encS) from (HeapV.ok.at (x := (ObjL.chg x)) hH1 (get_set hx)).ns) hqn).use _) ?_)
    rintro _ σ12 ⟨_, hσ12, rfl, hdl1⟩
    obtain rfl : σ12 = ((Gs.ent 9 1 x.ns ((x.names.eraseIdx q_).map encS)) ++ ((Gs.ent 42 3 x.vs (x.vals.flatMap descCells)) ++ ((Gs.ent 24 1 x.es (x.elems.map encU)) ++ ((Gs.ent 24 1 x.is (x.inner.map encU)) ++ (((List.eraseIdx (H.objs.set n (ObjL.chg x)) n).flatMap ObjL.ent) ++ ((F.p, .cells 83 6 [Gs.val H.s ((H.objs.set n (ObjL.chg x)).length), Gs.val H.ts H.texts.length, .map (some F.kb), pt F.T.p 0, pt F.cp 0, .int .i64 br1]) :: ((Gs.ent 89 9 H.s ((H.objs.set n (ObjL.chg x)).flatMap ObjL.cells)) ++ ((Gs.ent 9 1 H.ts (H.texts.map encS)) ++ ((F.kb, .map (kvs encS encU H.known)) :: ((TreeV.ent H.V F.T) ++ ((CellsL.ent (CellsL.mk F.cp H.cs cl1)) ++ ([])))))))))))) := hσ12.trans (rfl)
    refine ⟨fun hnd => (rd_cons (Gs.cell hH1.row (fun e he => (mem_a (mem_a (mem_a (mem_a (mem_a (mem_c (mem_h he)))))))) (flat_cell ObjL.len (get_set hx) (j := 4) (by decide) rfl)) (rd_cons (Gs.cell hH1.row (fun e he => (mem_a (mem_a (mem_a (mem_a (mem_a (mem_c (mem_h he)))))))) (flat_cell ObjL.len (get_set hx) (j := 5) (by decide) rfl)) rd_nil)), ?_⟩
    refine SA_perm _ (perm_ca perm_cz) ?_
    refine SA_one false (li' := #[true, true, true, true, true, true, true, true, true, true, true, true, true, true, true, true, true, true, false, false, false, false, false, false]) 17 _ rfl rfl (by kernel_rfl) ⟨rfl, fun _ => rfl⟩ rfl (O_call 51 #[Gs.val x.vs x.vals.length, .int .i64 (q_ : Int), .int .i64 ((q_ : Int) + 1)] rfl (by intro δ w; kernel_rfl) ((delete_descs (i := q_) (show Gs.ok 3 (x.vals).length x.vs (x.vals.flatMap descCells) from (HeapV.ok.at (x := (ObjL.chg x)) hH1 (get_set hx)).vs) hqv).use _) ?_)
    rintro _ σ13 ⟨_, hσ13, rfl, hdl2⟩
    obtain rfl : σ13 = ((Gs.ent 42 3 x.vs ((x.vals.eraseIdx q_).flatMap descCells)) ++ ((Gs.ent 9 1 x.ns ((x.names.eraseIdx q_).map encS)) ++ ((Gs.ent 24 1 x.es (x.elems.map encU)) ++ ((Gs.ent 24 1 x.is (x.inner.map encU)) ++ (((List.eraseIdx (H.objs.set n (ObjL.chg x)) n).flatMap ObjL.ent) ++ ((F.p, .cells 83 6 [Gs.val H.s ((H.objs.set n (ObjL.chg x)).length), Gs.val H.ts H.texts.length, .map (some F.kb), pt F.T.p 0, pt F.cp 0, .int .i64 br1]) :: ((Gs.ent 89 9 H.s ((H.objs.set n (ObjL.chg x)).flatMap ObjL.cells)) ++ ((Gs.ent 9 1 H.ts (H.texts.map encS)) ++ ((F.kb, .map (kvs encS encU H.known)) :: ((TreeV.ent H.V F.T) ++ ((CellsL.ent (CellsL.mk F.cp H.cs cl1)) ++ ([])))))))))))) := hσ13.trans (rfl)
    refine ⟨fun hnd => (by cases hnd), ?_⟩
    refine SA_take (li' := #[true, true, true, true, true, true, true, true, true, true, true, true, true, true, true, true, true, true, true, false, false, false, false, false]) 18 _ (pt (Gs.blk H.s) (n * 9)) (fun _ _ _ h => h) rfl (by kernel_rfl) rfl (Or.inl ⟨fun _ => rfl, by intro δ w; kernel_rfl⟩) ?_
    refine SA_take (li' := #[true, true, true, true, true, true, true, true, true, true, true, true, true, true, true, true, true, true, true, true, false, false, false, false]) 19 _ (pt (Gs.blk H.s) (n * 9 + 4)) (fun _ _ _ h => h) rfl (by kernel_rfl) rfl (Or.inl ⟨fun _ => rfl, by intro δ w; kernel_rfl⟩) ?_
    refine SA_trim [(45, pt (Gs.blk H.s) (n * 9 + 4)), (43, Gs.val x.vs ((x.vals.eraseIdx q_).length)), (35, Gs.val x.ns ((x.names.eraseIdx q_).length)), (27, pt (Gs.blk H.s) (n * 9)), (19, .bool (decide ((q_ : Int) < 0))), (8, .int .i64 (q_ : Int)), (13, .bool false), (7, pt (Gs.blk H.s) (n * 9)), (6, .bool false), (0, pt F.p 0), (1, .int .u64 w), (2, .string key)] (fun _ => rfl) ?_
    have hok7 := Gs.ok.relen (ys := ((H.objs.set n (ObjL.mk x.kind x.proto x.shut x.shape x.ns (x.names.eraseIdx q_) x.vs x.vals x.es x.elems x.is x.inner (if 0 ≤ x.cell then -1 else x.cell))).flatMap ObjL.cells)) hH1.row (by simp [flat_len ObjL.len])
    refine SA_perm _ (perm_ca (perm_ca (perm_ca (perm_ca (perm_ca (perm_cc perm_cz)))))) ?_
    refine SA_one false (li' := #[true, true, true, true, true, true, true, true, true, true, true, true, true, true, true, true, true, true, true, true, true, false, false, false]) 20 _ rfl rfl (by kernel_rfl) ⟨rfl, fun _ => rfl⟩ rfl (O_storeG (ys := ((H.objs.set n (ObjL.mk x.kind x.proto x.shut x.shape x.ns (x.names.eraseIdx q_) x.vs x.vals x.es x.elems x.is x.inner (if 0 ≤ x.cell then -1 else x.cell))).flatMap ObjL.cells)) H.s (n * 9 + 4) (Gs.val x.ns ((x.names.eraseIdx q_).length)) [Gs.val x.ns ((x.names.eraseIdx q_).length)] (Gs.ok.ne hH1.row (by first | omega | (simp; omega))) (fun _ => rfl) (fun _ => rfl) rfl (by kernel_rfl) rfl (by rw [flat_len ObjL.len]; simp; omega) ((row_lay (j := 4) ObjL.len (ObjL.mk x.kind x.proto x.shut x.shape x.ns (x.names.eraseIdx q_) x.vs x.vals x.es x.elems x.is x.inner (if 0 ≤ x.cell then -1 else x.cell)) (get_set hx) (Nat.le_of_ble_eq_true rfl) rfl).trans (by rw [List.set_set])) rfl ?_)
    refine ⟨fun hnd => (by cases hnd), ?_⟩
    refine SA_take (li' := #[true, true, true, true, true, true, true, true, true, true, true, true, true, true, true, true, true, true, true, true, true, true, false, false]) 21 _ (pt (Gs.blk H.s) (n * 9)) (fun _ _ _ h => h) rfl (by kernel_rfl) rfl (Or.inl ⟨fun _ => rfl, by intro δ w; kernel_rfl⟩) ?_
    refine SA_take (li' := #[true, true, true, true, true, true, true, true, true, true, true, true, true, true, true, true, true, true, true, true, true, true, true, false]) 22 _ (pt (Gs.blk H.s) (n * 9 + 5)) (fun _ _ _ h => h) rfl (by kernel_rfl) rfl (Or.inl ⟨fun _ => rfl, by intro δ w; kernel_rfl⟩) ?_
    have hok8 := Gs.ok.relen (ys := ((H.objs.set n (ObjL.mk x.kind x.proto x.shut x.shape x.ns (x.names.eraseIdx q_) x.vs (x.vals.eraseIdx q_) x.es x.elems x.is x.inner (if 0 ≤ x.cell then -1 else x.cell))).flatMap ObjL.cells)) hok7 (by simp [flat_len ObjL.len])
    refine SA_one false (li' := #[true, true, true, true, true, true, true, true, true, true, true, true, true, true, true, true, true, true, true, true, true, true, true, true]) 23 _ rfl rfl (by kernel_rfl) ⟨rfl, fun _ => rfl⟩ rfl (O_storeG (ys := ((H.objs.set n (ObjL.mk x.kind x.proto x.shut x.shape x.ns (x.names.eraseIdx q_) x.vs (x.vals.eraseIdx q_) x.es x.elems x.is x.inner (if 0 ≤ x.cell then -1 else x.cell))).flatMap ObjL.cells)) H.s (n * 9 + 5) (Gs.val x.vs ((x.vals.eraseIdx q_).length)) [Gs.val x.vs ((x.vals.eraseIdx q_).length)] (Gs.ok.ne hok7 (by first | omega | (simp; omega))) (fun _ => rfl) (fun _ => rfl) rfl (by kernel_rfl) rfl (by rw [flat_len ObjL.len]; simp; omega) ((row_lay (j := 5) ObjL.len (ObjL.mk x.kind x.proto x.shut x.shape x.ns (x.names.eraseIdx q_) x.vs (x.vals.eraseIdx q_) x.es x.elems x.is x.inner (if 0 ≤ x.cell then -1 else x.cell)) (get_set hx) (Nat.le_of_ble_eq_true rfl) rfl).trans (by rw [List.set_set])) rfl ?_)
    refine ⟨fun hnd => (by cases hnd), ?_⟩
    refine SA_done (by kernel_rfl) (n_then ?_)
    refine SW_seq ?_
    refine SW_region ?_
    refine SL_segT 1 [(6, .bool true), (19, .bool (decide ((q_ : Int) < 0))), (8, .int .i64 (q_ : Int)), (13, .bool false), (7, pt (Gs.blk H.s) (n * 9)), (0, pt F.p 0), (1, .int .u64 w), (2, .string key)] (by intro δ w; kernel_rfl) ?_
    refine SL_nil (n_then ?_)
    refine SW_ret ?_
    refine body_end (.bool true) (fun _ => rfl) ?_
    refine ⟨((ObjL.mk x.kind x.proto x.shut x.shape x.ns (x.names.eraseIdx q_) x.vs (x.vals.eraseIdx q_) x.es x.elems x.is x.inner (if 0 ≤ x.cell then -1 else x.cell)), cl1, br1), ?_, rfl, ?_, ⟨rfl, rfl, rfl, rfl, rfl, rfl, rfl, rfl⟩, ?_, hchcl1⟩
    · refine Own.trans (Own.of_perm (S := ((F.p, .cells 83 6 [Gs.val H.s ((H.objs.set n (ObjL.chg x)).length), Gs.val H.ts H.texts.length, .map (some F.kb), pt F.T.p 0, pt F.cp 0, .int .i64 br1]) :: ((Gs.ent 89 9 H.s ((H.objs.set n (ObjL.mk x.kind x.proto x.shut x.shape x.ns (x.names.eraseIdx q_) x.vs (x.vals.eraseIdx q_) x.es x.elems x.is x.inner (if 0 ≤ x.cell then -1 else x.cell))).flatMap ObjL.cells)) ++ ((Gs.ent 9 1 x.ns ((x.names.eraseIdx q_).map encS)) ++ ((Gs.ent 42 3 x.vs ((x.vals.eraseIdx q_).flatMap descCells)) ++ ((Gs.ent 24 1 x.es (x.elems.map encU)) ++ ((Gs.ent 24 1 x.is (x.inner.map encU)) ++ (((List.eraseIdx (H.objs.set n (ObjL.chg x)) n).flatMap ObjL.ent) ++ ((Gs.ent 9 1 H.ts (H.texts.map encS)) ++ ((F.kb, .map (kvs encS encU H.known)) :: ((TreeV.ent H.V F.T) ++ ((CellsL.ent (CellsL.mk F.cp H.cs cl1)) ++ ([]))))))))))))) (List.Perm.trans (perm_a (perm_a (perm_a (perm_a (perm_a (perm_a perm_z)))))) (List.Perm.cons _ (List.Perm.trans perm_cz (List.Perm.append_left _ (List.Perm.trans (perm_ca perm_cz) (List.Perm.append_left _ (List.Perm.refl _)))))))) (Own.of_perm ?_)
      have hb_ := HeapV.back (H := (HeapV.mk H.s (H.objs.set n (ObjL.chg x)) H.ts H.texts H.known H.V H.cs cl1 br1)) F (get_set hx) (ObjL.mk x.kind x.proto x.shut x.shape x.ns (x.names.eraseIdx q_) x.vs (x.vals.eraseIdx q_) x.es x.elems x.is x.inner (if 0 ≤ x.cell then -1 else x.cell))
      simp only [HeapV.head, HeapV.put, List.set_set, List.length_set] at hb_ ⊢
      exact hb_
    · simpa only [HeapV.put, List.set_set, List.length_set] using HeapV.ok.put hH1 (get_set hx) (x' := (ObjL.mk x.kind x.proto x.shut x.shape x.ns (x.names.eraseIdx q_) x.vs (x.vals.eraseIdx q_) x.es x.elems x.is x.inner (if 0 ≤ x.cell then -1 else x.cell))) ⟨(by first | exact hdl1 | (simp only [List.length_set]; exact hdl1)), (by first | exact hdl2 | (simp only [List.length_set]; exact hdl2)), (by first | exact (show Gs.ok 1 (x.elems).length x.es (x.elems.map encU) from (HeapV.ok.at (x := (ObjL.chg x)) hH1 (get_set hx)).es) | (simp only [List.length_set]; exact (show Gs.ok 1 (x.elems).length x.es (x.elems.map encU) from (HeapV.ok.at (x := (ObjL.chg x)) hH1 (get_set hx)).es))), (by first | exact (show Gs.ok 1 (x.inner).length x.is (x.inner.map encU) from (HeapV.ok.at (x := (ObjL.chg x)) hH1 (get_set hx)).is) | (simp only [List.length_set]; exact (show Gs.ok 1 (x.inner).length x.is (x.inner.map encU) from (HeapV.ok.at (x := (ObjL.chg x)) hH1 (get_set hx)).is)))⟩ (by first | omega | exact hH.small x (List.mem_of_getElem? hx))
    · show PS.mk _ _ _ = PS.mk _ _ _
      unfold keysOf; rw [if_neg hp1, if_pos (show x.shape < 0 from by omega)]

theorem texts_Clone {W0 : World} {σ : Heaplet} {l : List ByteArray} {A : Option Addr} {c : Nat} (hs : Src W0 σ A (l.map encS)) (hr : l.length ≤ 1099511627776) : SC Try.prog W0 52 #[.slice A l.length c] σ (Ret (fun s : Gs => s.ent 9 1 (l.map encS) ++ (σ ++ [])) (fun v s => v = s.val l.length ∧ s.ok 1 l.length (l.map encS))) := by
  cases A with
  | none =>
    obtain rfl : l = [] := by
      rcases hs with h | ⟨b, o, e, _⟩
      · exact List.eq_nil_of_length_eq_zero (by simpa using h)
      · cases e
    refine SC_body (fn := Try.f52) (n := 8) Try.func52 rfl (by kernel_rfl) (ρ := [(0, .slice none (([] : List ByteArray).length) c)]) rfl ?_
    refine SW_sig (σ ++ ([])) (by simp only [List.append_nil, List.append_assoc]) ?_
    refine SW_seq ?_
    refine SW_region ?_
    refine SL_s1 1 2 (.slice none 0 0) (by intro δ w; kernel_rfl) ?_
    refine SL_nil (n_then ?_)
    refine SW_seq ?_
    refine SW_seq ?_
    refine SW_region ?_
    refine SL_s2 2 4 (.bool true) 3 (.slice none (([] : List ByteArray).length) c) (by intro δ w; kernel_rfl) ?_
    refine SL_nil (n_then ?_)
    refine SW_true (fun _ => rfl) ?_
    refine SW_seq ?_
    refine SW_region ?_
    refine SL_segT 1 [(2, .slice none 0 0), (4, .bool true), (0, .slice none (([] : List ByteArray).length) c)] (by intro δ w; kernel_rfl) ?_
    refine SL_nil (n_then ?_)
    refine SW_ret (r_then ?_)
    refine body_end (.slice none 0 0) (fun _ => rfl) ?_
    exact ⟨.nil, Own.of_perm (by simp [Gs.ent]), rfl, ⟨rfl, rfl⟩⟩
  | some a =>
    refine SC_body (fn := Try.f52) (n := 8) Try.func52 rfl (by kernel_rfl) (ρ := [(0, .slice (some a) l.length c)]) rfl ?_
    refine SW_sig (σ ++ ([])) (by simp only [List.append_nil, List.append_assoc]) ?_
    refine SW_seq ?_
    refine SW_region ?_
    refine SL_s1 1 2 (.slice none 0 0) (by intro δ w; kernel_rfl) ?_
    refine SL_nil (n_then ?_)
    refine SW_seq ?_
    refine SW_seq ?_
    refine SW_region ?_
    refine SL_s2 2 4 (.bool false) 3 (.slice (some a) l.length c) (by intro δ w; kernel_rfl) ?_
    refine SL_nil (n_then ?_)
    refine SW_false (fun _ => rfl) ?_
    refine SW_skip (n_then ?_)
    refine SW_seq ?_
    refine SW_region ?_
    refine SL_cons ⟨rfl, fun _ => rfl⟩ (O_new (fun b => .slice (some ⟨b, 0, none⟩) 0 0) (.cells #[] 9 (0, 0)) (.cells 9 0 []) rfl (by intro δ w; kernel_rfl) ⟨rfl, rfl, rfl, rfl⟩ ?_)
    intro b1 hlb1 hnb1
    refine SL_s1 1 6 (.slice (some a) l.length c) (by intro δ w; kernel_rfl) ?_
    refine SL_sig ((Gs.ent 9 1 (Gs.at b1 0) (([] : List ByteArray).map encS)) ++ (σ ++ ([]))) rfl ?_
    refine SL_cons ⟨rfl, fun _ => rfl⟩ (O_append (size := 1) (bytes := 16) (z := .string ByteArray.empty) (Gs.at b1 0) 0 l.length (some a) c (([] : List ByteArray).map encS) (l.map encS) ((([] : List ByteArray) ++ l).map encS) (map_app _ _) (fun _ => rfl) (fun _ => rfl) Try.underlying34 (by kernel_rfl) rfl (by decide) ⟨Nat.le_refl _, by unfold maxLen; omega, rfl⟩ (by simp) (Src.elems (hs.mono (fun e he => (mem_a (mem_h he)))) (by simp)) (map_one (fun _ => rfl) _) (by omega) (by decide) rfl ?_)
    intro s2 hks2 hfs2
    rw [show 0 + l.length = (([] : List ByteArray) ++ l).length from by simp]
    rw [show 0 + l.length = (([] : List ByteArray) ++ l).length from by simp] at hks2
    have hls2 : (([] : List ByteArray) ++ l).length = ([] : List ByteArray).length + l.length := by simp
    refine SL_segT 1 [(2, Gs.val s2 ((([] : List ByteArray) ++ l).length)), (4, .bool false), (0, .slice (some a) l.length c)] (by intro δ w; kernel_rfl) ?_
    refine SL_nil (n_then ?_)
    refine SW_ret ?_
    refine body_end (Gs.val s2 ((([] : List ByteArray) ++ l).length)) (fun _ => rfl) ?_
    exact ⟨s2, (own_mk (J := ([])) (List.Perm.refl _) (by simp only [List.cons_append, List.append_assoc, List.nil_append, List.append_nil])), rfl, hks2⟩

theorem heap_Keys_slow {W0 : World} {F : HeapF} {H : HeapV} (hH : H.ok F) {w : Int} {n : Nat} {x : ObjL} (h0 : objAt w H.objs.length = some n) (hx : H.objs[n]? = some x) (hsh : x.shape < 0) (hnm : x.names.length ≤ 1099511627776) : SC Try.prog W0 21 #[.pointer (some ⟨F.p, 0, none⟩), .int .u64 w] (HeapV.ent H F) (Ret (fun g : Gs => g.ent 9 1 ((keysOf (H.V.abs F.T) x).map encS) ++ H.ent F) (fun v g => v = g.val (keysOf (H.V.abs F.T) x).length ∧ g.ok 1 (keysOf (H.V.abs F.T) x).length ((keysOf (H.V.abs F.T) x).map encS))) := by
  refine SC_body (fn := Try.f21) (n := 32) Try.func21 rfl (by kernel_rfl) (ρ := [(0, pt F.p 0), (1, .int .u64 w)]) rfl ?_
  refine SW_sig ((F.p, .cells 83 6 [Gs.val H.s H.objs.length, Gs.val H.ts H.texts.length, .map (some F.kb), pt F.T.p 0, pt F.cp 0, .int .i64 H.br]) :: ((Gs.ent 89 9 H.s (H.objs.flatMap ObjL.cells)) ++ ((H.objs.flatMap ObjL.ent) ++ ((Gs.ent 9 1 H.ts (H.texts.map encS)) ++ ((F.kb, .map (kvs encS encU H.known)) :: ((TreeV.ent H.V F.T) ++ ((CellsL.ent (CellsL.mk F.cp H.cs H.cl)) ++ ([])))))))) rfl ?_
  refine SW_seq ?_
  refine SW_region ?_
  refine SL_s1 1 4 (.slice none 0 0) (by intro δ w; kernel_rfl) ?_
  refine SL_nil (n_then ?_)
  refine SW_seq ?_
  refine SW_region ?_
  refine SL_s2 2 7 (.int .u64 w) 6 (pt F.p 0) (by intro δ w; kernel_rfl) ?_
  refine SL_perm _ (perm_cc (perm_ca (perm_ca (perm_ca (perm_cc (perm_ca perm_cz)))))) ?_
  refine SL_perm _ (perm_ca (perm_cc (perm_ca (perm_ca (perm_ca (perm_cc perm_cz)))))) ?_
  refine SL_perm _ (perm_a (perm_a (perm_c (perm_a (perm_a (perm_a perm_z)))))) ?_
  refine SL_perm _ (perm_cc (perm_ca (perm_ca (perm_cc (perm_ca (perm_ca perm_cz)))))) ?_
  refine SL_perm _ (perm_ca (perm_cc (perm_ca (perm_ca (perm_cc (perm_ca perm_cz)))))) ?_
  refine SL_perm _ (perm_ca (perm_ca (perm_cc (perm_ca (perm_ca (perm_cc perm_cz)))))) ?_
  refine SL_perm _ (perm_a (perm_a (perm_a (perm_c (perm_a (perm_a perm_z)))))) ?_
  refine SL_sig (((F.p, .cells 83 6 [Gs.val H.s H.objs.length, Gs.val H.ts H.texts.length, .map (some F.kb), pt F.T.p 0, pt F.cp 0, .int .i64 H.br]) :: ((Gs.ent 89 9 H.s (H.objs.flatMap ObjL.cells)) ++ ((H.objs.flatMap ObjL.ent) ++ ((Gs.ent 9 1 H.ts (H.texts.map encS)) ++ ((F.kb, .map (kvs encS encU H.known)) :: ((TreeV.ent H.V F.T) ++ ((CellsL.ent (CellsL.mk F.cp H.cs H.cl)) ++ ([])))))))) ++ ([])) (by simp only [List.cons_append, List.append_assoc, List.nil_append, List.append_nil]) ?_
  refine SL_cons ⟨rfl, fun _ => rfl⟩ (O_call 38 #[pt F.p 0, .int .u64 w] rfl (by intro δ w; kernel_rfl) ((heap_at hH w).use _) ?_)
  rintro v1 σ1 ⟨_, hσ1, hv1⟩
  obtain rfl : v1 = pt (Gs.blk H.s) (n * 9) := hv1.trans (by rw [h0])
  obtain rfl : σ1 = ((F.p, .cells 83 6 [Gs.val H.s H.objs.length, Gs.val H.ts H.texts.length, .map (some F.kb), pt F.T.p 0, pt F.cp 0, .int .i64 H.br]) :: ((Gs.ent 89 9 H.s (H.objs.flatMap ObjL.cells)) ++ ((H.objs.flatMap ObjL.ent) ++ ((Gs.ent 9 1 H.ts (H.texts.map encS)) ++ ((F.kb, .map (kvs encS encU H.known)) :: ((TreeV.ent H.V F.T) ++ ((CellsL.ent (CellsL.mk F.cp H.cs H.cl)) ++ ([])))))))) := hσ1.trans (by simp only [HeapV.ent, List.cons_append, List.append_assoc, List.nil_append, List.append_nil])
  refine SL_s1 1 5 (pt (Gs.blk H.s) (n * 9)) (by intro δ w; kernel_rfl) ?_
  refine SL_nil (n_then ?_)
  refine SW_seq ?_
  refine SW_block ?_
  refine SW_seq ?_
  refine SW_region ?_
  refine SL_s3 3 9 (.bool false) 11 (.bool false) 10 (pt (Gs.blk H.s) (n * 9)) (by intro δ w; kernel_rfl) ?_
  refine SL_nil (n_then ?_)
  refine SW_false (fun _ => rfl) ?_
  refine SW_seq ?_
  refine SW_region ?_
  refine SL_s3 3 15 (pt (Gs.blk H.s) (n * 9 + 3)) 14 (pt (Gs.blk H.s) (n * 9)) 13 (pt (Gs.blk H.s) (n * 9)) (by intro δ w; kernel_rfl) ?_
  refine SL_cons ⟨rfl, fun _ => rfl⟩ (O_load (Gs.blk H.s) (n * 9 + 3) (.int .i64 x.shape) (fun _ => rfl) (by kernel_rfl) (Gs.cell hH.row (fun e he => (mem_c (mem_h he))) (flat_cell ObjL.len hx (j := 3) (by decide) rfl)) rfl ?_)
  refine SL_s2 2 12 (.bool (decide (x.shape < 0))) 17 (.bool (decide (x.shape < 0))) (by intro δ w; kernel_rfl) ?_
  refine SL_nil (n_then ?_)
  refine SW_true (fun _ => (congrArg Value.bool (show (decide (x.shape < 0)) = true from (by simp; omega)))) ?_
  refine SW_seq ?_
  refine SW_region ?_
  refine SL_s3 3 20 (pt (Gs.blk H.s) (n * 9 + 4)) 19 (pt (Gs.blk H.s) (n * 9)) 18 (pt (Gs.blk H.s) (n * 9)) (by intro δ w; kernel_rfl) ?_
  refine SL_cons ⟨rfl, fun _ => rfl⟩ (O_load (Gs.blk H.s) (n * 9 + 4) (Gs.val x.ns x.names.length) (fun _ => rfl) (by kernel_rfl) (Gs.cell hH.row (fun e he => (mem_c (mem_h he))) (flat_cell ObjL.len hx (j := 4) (by decide) rfl)) rfl ?_)
  refine SL_sig (((F.p, .cells 83 6 [Gs.val H.s H.objs.length, Gs.val H.ts H.texts.length, .map (some F.kb), pt F.T.p 0, pt F.cp 0, .int .i64 H.br]) :: ((Gs.ent 89 9 H.s (H.objs.flatMap ObjL.cells)) ++ ((H.objs.flatMap ObjL.ent) ++ ((Gs.ent 9 1 H.ts (H.texts.map encS)) ++ ((F.kb, .map (kvs encS encU H.known)) :: ((TreeV.ent H.V F.T) ++ ((CellsL.ent (CellsL.mk F.cp H.cs H.cl)) ++ ([])))))))) ++ []) (by simp only [List.append_nil]) ?_
  refine SL_cons ⟨rfl, fun _ => rfl⟩ (O_call 52 #[Gs.val x.ns x.names.length] rfl (by intro δ w; kernel_rfl) ((texts_Clone (σ := ((F.p, .cells 83 6 [Gs.val H.s H.objs.length, Gs.val H.ts H.texts.length, .map (some F.kb), pt F.T.p 0, pt F.cp 0, .int .i64 H.br]) :: ((Gs.ent 89 9 H.s (H.objs.flatMap ObjL.cells)) ++ ((H.objs.flatMap ObjL.ent) ++ ((Gs.ent 9 1 H.ts (H.texts.map encS)) ++ ((F.kb, .map (kvs encS encU H.known)) :: ((TreeV.ent H.V F.T) ++ ((CellsL.ent (CellsL.mk F.cp H.cs H.cl)) ++ ([]))))))))) (l := x.names) (Gs.src0 (HeapV.ok.at hH hx).ns (fun e he => (mem_c (mem_a (mem_h ((ObjL.mns hx) _ he)))))) (by omega)).use _) ?_)
  rintro _ σ2 ⟨cg1, hσ2, rfl, hcg1⟩
  obtain rfl : σ2 = ((Gs.ent 9 1 cg1 (x.names.map encS)) ++ ((F.p, .cells 83 6 [Gs.val H.s H.objs.length, Gs.val H.ts H.texts.length, .map (some F.kb), pt F.T.p 0, pt F.cp 0, .int .i64 H.br]) :: ((Gs.ent 89 9 H.s (H.objs.flatMap ObjL.cells)) ++ ((H.objs.flatMap ObjL.ent) ++ ((Gs.ent 9 1 H.ts (H.texts.map encS)) ++ ((F.kb, .map (kvs encS encU H.known)) :: ((TreeV.ent H.V F.T) ++ ((CellsL.ent (CellsL.mk F.cp H.cs H.cl)) ++ ([]))))))))) := hσ2.trans (by simp only [List.cons_append, List.append_assoc, List.nil_append, List.append_nil])
  refine SL_segT 1 [(4, Gs.val cg1 x.names.length), (12, .bool (decide (x.shape < 0))), (9, .bool false), (5, pt (Gs.blk H.s) (n * 9)), (0, pt F.p 0), (1, .int .u64 w)] (by intro δ w; kernel_rfl) ?_
  refine SL_nil (n_then ?_)
  refine SW_ret (r_in (r_then ?_))
  refine body_end (Gs.val cg1 x.names.length) (fun _ => rfl) ?_
  rw [show keysOf (H.V.abs F.T) x = x.names from by unfold keysOf; rw [if_pos hsh]]
  exact ⟨cg1, (Own.of_perm (S := ((Gs.ent 9 1 cg1 (x.names.map encS)) ++ ((F.p, .cells 83 6 [Gs.val H.s H.objs.length, Gs.val H.ts H.texts.length, .map (some F.kb), pt F.T.p 0, pt F.cp 0, .int .i64 H.br]) :: ((Gs.ent 89 9 H.s (H.objs.flatMap ObjL.cells)) ++ ((H.objs.flatMap ObjL.ent) ++ ((Gs.ent 9 1 H.ts (H.texts.map encS)) ++ ((F.kb, .map (kvs encS encU H.known)) :: ((TreeV.ent H.V F.T) ++ ((CellsL.ent (CellsL.mk F.cp H.cs H.cl)) ++ ([])))))))))) (List.Perm.refl _)), rfl, hcg1⟩

theorem heap_Keys_fast {W0 : World} {F : HeapF} {H : HeapV} (hH : H.ok F) {w : Int} {n : Nat} {x : ObjL} (h0 : objAt w H.objs.length = some n) (hx : H.objs[n]? = some x) (hsh : ¬ x.shape < 0) : SC Try.prog W0 21 #[.pointer (some ⟨F.p, 0, none⟩), .int .u64 w] (HeapV.ent H F) (Ret (fun g : Gs => g.ent 9 1 ((keysOf (H.V.abs F.T) x).map encS) ++ H.ent F) (fun v g => v = g.val (keysOf (H.V.abs F.T) x).length ∧ g.ok 1 (keysOf (H.V.abs F.T) x).length ((keysOf (H.V.abs F.T) x).map encS))) := by
  refine SC_body (fn := Try.f21) (n := 32) Try.func21 rfl (by kernel_rfl) (ρ := [(0, pt F.p 0), (1, .int .u64 w)]) rfl ?_
  refine SW_sig ((F.p, .cells 83 6 [Gs.val H.s H.objs.length, Gs.val H.ts H.texts.length, .map (some F.kb), pt F.T.p 0, pt F.cp 0, .int .i64 H.br]) :: ((Gs.ent 89 9 H.s (H.objs.flatMap ObjL.cells)) ++ ((H.objs.flatMap ObjL.ent) ++ ((Gs.ent 9 1 H.ts (H.texts.map encS)) ++ ((F.kb, .map (kvs encS encU H.known)) :: ((TreeV.ent H.V F.T) ++ ((CellsL.ent (CellsL.mk F.cp H.cs H.cl)) ++ ([])))))))) rfl ?_
  refine SW_seq ?_
  refine SW_region ?_
  refine SL_s1 1 4 (.slice none 0 0) (by intro δ w; kernel_rfl) ?_
  refine SL_nil (n_then ?_)
  refine SW_seq ?_
  refine SW_region ?_
  refine SL_s2 2 7 (.int .u64 w) 6 (pt F.p 0) (by intro δ w; kernel_rfl) ?_
  refine SL_perm _ (perm_cc (perm_ca (perm_ca (perm_ca (perm_cc (perm_ca perm_cz)))))) ?_
  refine SL_perm _ (perm_ca (perm_cc (perm_ca (perm_ca (perm_ca (perm_cc perm_cz)))))) ?_
  refine SL_perm _ (perm_a (perm_a (perm_c (perm_a (perm_a (perm_a perm_z)))))) ?_
  refine SL_perm _ (perm_cc (perm_ca (perm_ca (perm_cc (perm_ca (perm_ca perm_cz)))))) ?_
  refine SL_perm _ (perm_ca (perm_cc (perm_ca (perm_ca (perm_cc (perm_ca perm_cz)))))) ?_
  refine SL_perm _ (perm_ca (perm_ca (perm_cc (perm_ca (perm_ca (perm_cc perm_cz)))))) ?_
  refine SL_perm _ (perm_a (perm_a (perm_a (perm_c (perm_a (perm_a perm_z)))))) ?_
  refine SL_sig (((F.p, .cells 83 6 [Gs.val H.s H.objs.length, Gs.val H.ts H.texts.length, .map (some F.kb), pt F.T.p 0, pt F.cp 0, .int .i64 H.br]) :: ((Gs.ent 89 9 H.s (H.objs.flatMap ObjL.cells)) ++ ((H.objs.flatMap ObjL.ent) ++ ((Gs.ent 9 1 H.ts (H.texts.map encS)) ++ ((F.kb, .map (kvs encS encU H.known)) :: ((TreeV.ent H.V F.T) ++ ((CellsL.ent (CellsL.mk F.cp H.cs H.cl)) ++ ([])))))))) ++ ([])) (by simp only [List.cons_append, List.append_assoc, List.nil_append, List.append_nil]) ?_
  refine SL_cons ⟨rfl, fun _ => rfl⟩ (O_call 38 #[pt F.p 0, .int .u64 w] rfl (by intro δ w; kernel_rfl) ((heap_at hH w).use _) ?_)
  rintro v1 σ1 ⟨_, hσ1, hv1⟩
  obtain rfl : v1 = pt (Gs.blk H.s) (n * 9) := hv1.trans (by rw [h0])
  obtain rfl : σ1 = ((F.p, .cells 83 6 [Gs.val H.s H.objs.length, Gs.val H.ts H.texts.length, .map (some F.kb), pt F.T.p 0, pt F.cp 0, .int .i64 H.br]) :: ((Gs.ent 89 9 H.s (H.objs.flatMap ObjL.cells)) ++ ((H.objs.flatMap ObjL.ent) ++ ((Gs.ent 9 1 H.ts (H.texts.map encS)) ++ ((F.kb, .map (kvs encS encU H.known)) :: ((TreeV.ent H.V F.T) ++ ((CellsL.ent (CellsL.mk F.cp H.cs H.cl)) ++ ([])))))))) := hσ1.trans (by simp only [HeapV.ent, List.cons_append, List.append_assoc, List.nil_append, List.append_nil])
  refine SL_s1 1 5 (pt (Gs.blk H.s) (n * 9)) (by intro δ w; kernel_rfl) ?_
  refine SL_nil (n_then ?_)
  refine SW_seq ?_
  refine SW_block ?_
  refine SW_seq ?_
  refine SW_region ?_
  refine SL_s3 3 9 (.bool false) 11 (.bool false) 10 (pt (Gs.blk H.s) (n * 9)) (by intro δ w; kernel_rfl) ?_
  refine SL_nil (n_then ?_)
  refine SW_false (fun _ => rfl) ?_
  refine SW_seq ?_
  refine SW_region ?_
  refine SL_s3 3 15 (pt (Gs.blk H.s) (n * 9 + 3)) 14 (pt (Gs.blk H.s) (n * 9)) 13 (pt (Gs.blk H.s) (n * 9)) (by intro δ w; kernel_rfl) ?_
  refine SL_cons ⟨rfl, fun _ => rfl⟩ (O_load (Gs.blk H.s) (n * 9 + 3) (.int .i64 x.shape) (fun _ => rfl) (by kernel_rfl) (Gs.cell hH.row (fun e he => (mem_c (mem_h he))) (flat_cell ObjL.len hx (j := 3) (by decide) rfl)) rfl ?_)
  refine SL_s2 2 12 (.bool (decide (x.shape < 0))) 17 (.bool (decide (x.shape < 0))) (by intro δ w; kernel_rfl) ?_
  refine SL_nil (n_then ?_)
  refine SW_false (fun _ => (congrArg Value.bool (show (decide (x.shape < 0)) = false from (by simp; omega)))) ?_
  refine SW_skip (n_in (n_then ?_))
  refine SW_seq ?_
  refine SW_draw [(F.p, 3, pt F.T.p 0), ((Gs.blk H.s), n * 9 + 3, .int .i64 x.shape)] [0, 1, 2, 3, 4, 5, 6, 7] (by kernel_rfl) (rd_cons (Cell.own mem_z rfl) (rd_cons (Gs.cell hH.row (fun e he => (mem_c (mem_h he))) (flat_cell ObjL.len hx (j := 3) (by decide) rfl)) rd_nil)) ?_
  refine SA_take (li' := #[true, false, false, false, false, false, false, false, false, false]) 0 _ (pt F.p 0) (fun _ _ _ h => h) rfl (by kernel_rfl) rfl (Or.inl ⟨fun _ => rfl, by intro δ w; kernel_rfl⟩) ?_
  refine SA_trim [(23, pt F.p 0), (12, .bool (decide (x.shape < 0))), (9, .bool false), (5, pt (Gs.blk H.s) (n * 9)), (4, .slice none 0 0), (0, pt F.p 0), (1, .int .u64 w)] (fun _ => rfl) ?_
  refine SA_take (li' := #[true, true, false, false, false, false, false, false, false, false]) 1 _ (pt F.p 0) (fun _ _ _ h => h) rfl (by kernel_rfl) rfl (Or.inl ⟨fun _ => rfl, by intro δ w; kernel_rfl⟩) ?_
  refine SA_take (li' := #[true, true, true, false, false, false, false, false, false, false]) 2 _ (pt F.p 3) (fun _ _ _ h => h) rfl (by kernel_rfl) rfl (Or.inl ⟨fun _ => rfl, by intro δ w; kernel_rfl⟩) ?_
  refine SA_read (li' := #[true, true, true, true, false, false, false, false, false, false]) 3 _ (pt F.T.p 0) (fun _ _ _ h => h) rfl (by kernel_rfl) rfl (fun _ => rfl) (fun δ w hr => Rd_load F.p 3 (pt F.T.p 0) rfl (by kernel_rfl) List.mem_cons_self hr) ?_
  refine SA_take (li' := #[true, true, true, true, true, false, false, false, false, false]) 4 _ (pt (Gs.blk H.s) (n * 9)) (fun _ _ _ h => h) rfl (by kernel_rfl) rfl (Or.inl ⟨fun _ => rfl, by intro δ w; kernel_rfl⟩) ?_
  refine SA_take (li' := #[true, true, true, true, true, true, false, false, false, false]) 5 _ (pt (Gs.blk H.s) (n * 9)) (fun _ _ _ h => h) rfl (by kernel_rfl) rfl (Or.inl ⟨fun _ => rfl, by intro δ w; kernel_rfl⟩) ?_
  refine SA_take (li' := #[true, true, true, true, true, true, true, false, false, false]) 6 _ (pt (Gs.blk H.s) (n * 9 + 3)) (fun _ _ _ h => h) rfl (by kernel_rfl) rfl (Or.inl ⟨fun _ => rfl, by intro δ w; kernel_rfl⟩) ?_
  refine SA_read (li' := #[true, true, true, true, true, true, true, true, false, false]) 7 _ (.int .i64 x.shape) (fun _ _ _ h => h) rfl (by kernel_rfl) rfl (fun _ => rfl) (fun δ w hr => Rd_load (Gs.blk H.s) (n * 9 + 3) (.int .i64 x.shape) rfl (by kernel_rfl) (List.mem_cons_of_mem _ List.mem_cons_self) hr) ?_
  refine SA_perm _ (perm_cc (perm_ca (perm_ca (perm_ca (perm_cc perm_cz))))) ?_
  refine SA_one false (li' := #[true, true, true, true, true, true, true, true, true, false]) 8 _ rfl rfl (by kernel_rfl) ⟨rfl, fun _ => rfl⟩ rfl (O_call 53 #[pt F.T.p 0, .int .i64 x.shape] rfl (by intro δ w; kernel_rfl) ((shapes_Keys hH.tree x.shape).use _) ?_)
  rintro _ σ3 ⟨kg1, hσ3, rfl, hkg1⟩
  obtain rfl : σ3 = ((Gs.ent 9 1 kg1 ((keysP (TreeV.abs H.V F.T) x.shape).map encS)) ++ ((TreeV.ent H.V F.T) ++ ((F.p, .cells 83 6 [Gs.val H.s H.objs.length, Gs.val H.ts H.texts.length, .map (some F.kb), pt F.T.p 0, pt F.cp 0, .int .i64 H.br]) :: ((Gs.ent 89 9 H.s (H.objs.flatMap ObjL.cells)) ++ ((H.objs.flatMap ObjL.ent) ++ ((Gs.ent 9 1 H.ts (H.texts.map encS)) ++ ((F.kb, .map (kvs encS encU H.known)) :: ((CellsL.ent (CellsL.mk F.cp H.cs H.cl)) ++ ([]))))))))) := hσ3.trans (by simp only [List.cons_append, List.append_assoc, List.nil_append, List.append_nil])
  refine ⟨fun hnd => (by cases hnd), ?_⟩
  refine SA_trim [(31, Gs.val kg1 ((keysP (TreeV.abs H.V F.T) x.shape).length)), (12, .bool (decide (x.shape < 0))), (9, .bool false), (5, pt (Gs.blk H.s) (n * 9)), (4, .slice none 0 0), (0, pt F.p 0), (1, .int .u64 w)] (fun _ => rfl) ?_
  refine SA_take (li' := #[true, true, true, true, true, true, true, true, true, true]) 9 _ (Gs.val kg1 ((keysP (TreeV.abs H.V F.T) x.shape).length)) (fun _ _ _ h => h) rfl (by kernel_rfl) rfl (Or.inl ⟨fun _ => rfl, by intro δ w; kernel_rfl⟩) ?_
  refine SA_trim [(4, Gs.val kg1 ((keysP (TreeV.abs H.V F.T) x.shape).length)), (12, .bool (decide (x.shape < 0))), (9, .bool false), (5, pt (Gs.blk H.s) (n * 9)), (0, pt F.p 0), (1, .int .u64 w)] (fun _ => rfl) ?_
  refine SA_done (by kernel_rfl) (n_then ?_)
  refine SW_ret ?_
  refine body_end (Gs.val kg1 ((keysP (TreeV.abs H.V F.T) x.shape).length)) (fun _ => rfl) ?_
  rw [show keysOf (H.V.abs F.T) x = (keysP (TreeV.abs H.V F.T) x.shape) from by unfold keysOf; rw [if_neg hsh]]
  exact ⟨kg1, (Own.of_perm (S := ((Gs.ent 9 1 kg1 ((keysP (TreeV.abs H.V F.T) x.shape).map encS)) ++ ((F.p, .cells 83 6 [Gs.val H.s H.objs.length, Gs.val H.ts H.texts.length, .map (some F.kb), pt F.T.p 0, pt F.cp 0, .int .i64 H.br]) :: ((Gs.ent 89 9 H.s (H.objs.flatMap ObjL.cells)) ++ ((H.objs.flatMap ObjL.ent) ++ ((Gs.ent 9 1 H.ts (H.texts.map encS)) ++ ((F.kb, .map (kvs encS encU H.known)) :: ((TreeV.ent H.V F.T) ++ ((CellsL.ent (CellsL.mk F.cp H.cs H.cl)) ++ ([])))))))))) (List.Perm.trans perm_cz (List.Perm.append_left _ (List.Perm.trans (perm_a perm_z) (List.Perm.cons _ (List.Perm.trans (perm_ca perm_cz) (List.Perm.append_left _ (List.Perm.trans (perm_ca perm_cz) (List.Perm.append_left _ (List.Perm.trans (perm_ca perm_cz) (List.Perm.append_left _ (List.Perm.trans (perm_a perm_z) (List.Perm.cons _ (List.Perm.refl _)))))))))))))), rfl, hkg1⟩

end Go.Proofs.Ytdfhbheipagnmaa
