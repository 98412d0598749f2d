/-
  What the functions of numbers as texts do, step by step: each theorem is one function's contract. Conditions: those that each theorem names.
-/
import Derived.Test.YtnhmmjogfkjceaaDoorProg
import Derived.Test.YtnhmmjogfkjceaaDoorM3
import Derived.Test.YtnhmmjogfkjceaaDoorM1
import Derived.Test.YtnhmmjogfkjceaaDoorM2
set_option linter.unusedVariables false
set_option linter.unusedSimpArgs false
set_option maxRecDepth 100000
set_option maxHeartbeats 4000000
namespace Go.Proofs.YtnhmmjogfkjceaaDoor
open Go.Sl

theorem num_Literal {W0 : World} {X : Bytes} (hX : X.length ≤ 1152921504606846976) : SC Tryd.prog W0 24 #[.string (bS X)] [] (Ret (fun _ : Unit => []) (fun v _ => v = .tuple #[.int .u64 ((litP X).1 : Int), .bool (litP X).2])) := by
 refine SC_body (fn := Tryd.f24) (n := 50) Tryd.func24 rfl (by kernel_rfl) (ρ := [(0, .string (bS X))]) rfl ?_
 refine sr ?_
 refine os 2 ?_
 refine nq ?_
 refine sr ?_
 refine os 1 ?_
 refine L (cl (str_HasPrefix X [48, 120]) ?_)
 rintro _ _ rfl
 refine un ?_
 refine nt ?_
 refine cd (fun hc1 : (Lib.hasPrefix X [48, 120]) = true => ?_) (fun hc1 => ?_)
 ·refine SW_seq ?_
  have hpl_ : 2 ≤ X.length := pre_len hc1
  refine SW_region ?_
  refine os 1 ?_
  refine L (O_val (.string (bS (X.drop 2))) rfl (fun δ w _ => run_strFrom (l := X) 2 .i64 Tryd.underlying9 rfl rfl (by omega) (by omega)) ?_)
  refine L (cl (num_hex (X := (X.drop 2)) (by first | omega | (simp; omega))) ?_)
  rintro _ _ rfl
  refine un ?_
  refine os 4 ?_
  refine kp [3, 2, 8, 0] ?_
  refine nt ?_
  refine SW_ret (r_then ?_)
  refine body_end (.tuple #[.int .u64 ((hexP (X.drop 2)).1 : Int), .bool ((hexP (X.drop 2)).2)]) (fun _ => rfl) ?_
  exact ⟨(), ow, by rw [litP_hex hc1]⟩
 refine SW_skip (n_then ?_)
 refine sr ?_
 refine os 1 ?_
 refine L (cl (num_decimal (X := X) (by omega)) ?_)
 rintro v3 _ hv3
 obtain rfl : v3 = .tuple #[.agg #[.string (bS (decP X).1.ahead), .string (bS (decP X).1.behind), .int .i64 ((decP X).1.power)], .bool ((decP X).2)] := hv3.trans (rfl)
 refine un ?_
 refine os 3 ?_
 refine L (nw 56 3 [.string (bS []), .string (bS []), .int .i64 0] ?_)
 intro b2
 refine L (st [.string (bS (decP X).1.ahead), .string (bS (decP X).1.behind), .int .i64 ((decP X).1.power)] ?_)
 refine os 1 ?_
 refine kp [5, 4, 8, 3, 2, 0] ?_
 refine nsr ?_
 refine os 1 ?_
 refine L (cl (str_Contains1 X 46) ?_)
 rintro v4 _ hv4
 obtain rfl : v4 = .bool (decide (46 ∈ X)) := hv4.trans (by rw [has_dot])
 refine un ?_
 refine os 1 ?_
 refine nq ?_
 refine SW_seq ?_
 refine SW_cut3 (fun ρ_ σ_ => Fits ρ_ σ_ [(4, pt b2 0)] ((b2, .cells 56 3 [.string (bS (decP X).1.ahead), .string (bS (decP X).1.behind), .int .i64 ((decP X).1.power)]) :: ([])) ∧ (¬ litBad X)) ?_ ?_
 ·refine SW_region ?_
  refine os 3 ?_
  refine tb 23 (fun hg3 => ?_) (fun hg3 => ?_)
  ·replace hg3 : (!((decP X).2)) = true := hg3
   replace hg3 := bnot_t hg3
   refine os 24 ?_
   refine kp [47, 6, 5, 4, 8, 3, 2, 0] ?_
   refine nt ?_
   refine ct ?_
   refine sr ?_
   refine os 2 ?_
   refine nt ?_
   refine SW_ret (r_then ?_)
   refine body_end (.tuple #[.int .u64 0, .bool false]) (fun _ => rfl) ?_
   exact ⟨(), ow, by rw [litP_bad (by simpa using hc1) (by unfold litBad; first | exact .inl (by assumption) | exact .inr (.inl (by assumption)) | exact .inr (.inr (.inl ⟨by assumption, by assumption⟩)) | exact .inr (.inr (.inr ⟨by omega, head_c (by assumption) (by omega)⟩)))]; rfl⟩
  replace hg3 : (!((decP X).2)) = false := hg3
  replace hg3 := bnot_f hg3
  refine os 1 ?_
  refine L (ld ?_)
  refine oX (.bool ((bS (decP X).1.ahead).toList == (bS []).toList)) (.bool (decide ((decP X).1.ahead = []))) (congrArg Value.bool (by rw [strB_eq])) ?_
  refine os 2 ?_
  refine kp [28, 6, 5, 4, 8, 3, 2, 0] ?_
  refine tbp 28 (fun hg4 => ?_) (fun hg4 => ?_)
  ·replace hg4 : (decP X).1.ahead = [] := hg4
   refine os 19 ?_
   refine kp [47, 6, 5, 4, 8, 3, 2, 0] ?_
   refine nt ?_
   refine ct ?_
   refine sr ?_
   refine os 2 ?_
   refine nt ?_
   refine SW_ret (r_then ?_)
   refine body_end (.tuple #[.int .u64 0, .bool false]) (fun _ => rfl) ?_
   exact ⟨(), ow, by rw [litP_bad (by simpa using hc1) (by unfold litBad; first | exact .inl (by assumption) | exact .inr (.inl (by assumption)) | exact .inr (.inr (.inl ⟨by assumption, by assumption⟩)) | exact .inr (.inr (.inr ⟨by omega, head_c (by assumption) (by omega)⟩)))]; rfl⟩
  replace hg4 : ¬ ((decP X).1.ahead = []) := hg4
  refine os 2 ?_
  refine tbp 30 (fun hg5 => ?_) (fun hg5 => ?_)
  ·replace hg5 : 46 ∈ X := hg5
   refine os 1 ?_
   refine L (ld ?_)
   refine oX (.bool ((bS (decP X).1.behind).toList == (bS []).toList)) (.bool (decide ((decP X).1.behind = []))) (congrArg Value.bool (by rw [strB_eq])) ?_
   refine os 3 ?_
   refine kp [36, 6, 5, 4, 8, 3, 2, 0] ?_
   refine tbp 36 (fun hg6 => ?_) (fun hg6 => ?_)
   ·replace hg6 : (decP X).1.behind = [] := hg6
    refine os 11 ?_
    refine kp [47, 6, 5, 4, 8, 3, 2, 0] ?_
    refine nt ?_
    refine ct ?_
    refine sr ?_
    refine os 2 ?_
    refine nt ?_
    refine SW_ret (r_then ?_)
    refine body_end (.tuple #[.int .u64 0, .bool false]) (fun _ => rfl) ?_
    exact ⟨(), ow, by rw [litP_bad (by simpa using hc1) (by unfold litBad; first | exact .inl (by assumption) | exact .inr (.inl (by assumption)) | exact .inr (.inr (.inl ⟨by assumption, by assumption⟩)) | exact .inr (.inr (.inr ⟨by omega, head_c (by assumption) (by omega)⟩)))]; rfl⟩
   replace hg6 : ¬ ((decP X).1.behind = []) := hg6
   refine os 1 ?_
   refine L (ld ?_)
   refine oX (.int .i64 ((bS (decP X).1.ahead).size : Int)) (.int .i64 (((decP X).1.ahead).length : Int)) (congrArg (fun n_ : Nat => Value.int .i64 (n_ : Int)) (bS_size _)) ?_
   refine os 2 ?_
   refine tbp 41 (fun hg7 => ?_) (fun hg7 => ?_)
   ·replace hg7 : (((decP X).1.ahead).length : Int) > 1 := hg7
    refine os 1 ?_
    refine L (ld ?_)
    obtain ⟨e1, he1⟩ : ∃ y_, ((decP X).1.ahead)[0]? = some y_ := ⟨_, List.getElem?_eq_getElem (by omega)⟩
    refine ixb 0 ((decP X).1.ahead) .i64 e1 Tryd.underlying9 he1 ?_
    refine os 3 ?_
    refine kp [47, 6, 5, 4, 8, 3, 2, 0] ?_
    refine nt ?_
    refine cd (fun hc8 : ((e1.toNat : Int) == 48) = true => ?_) (fun hc8 => ?_)
    ·simp only [beq_iff_eq, bne_iff_ne, ne_eq, beq_eq_false_iff_ne, bne_eq_false_iff_eq, Classical.not_not] at hc8
     refine sr ?_
     refine os 2 ?_
     refine nt ?_
     refine SW_ret (r_then ?_)
     refine body_end (.tuple #[.int .u64 0, .bool false]) (fun _ => rfl) ?_
     exact ⟨(), ow, by rw [litP_bad (by simpa using hc1) (by unfold litBad; first | exact .inl (by assumption) | exact .inr (.inl (by assumption)) | exact .inr (.inr (.inl ⟨by assumption, by assumption⟩)) | exact .inr (.inr (.inr ⟨by omega, head_c (by assumption) (by omega)⟩)))]; rfl⟩
    simp only [beq_iff_eq, bne_iff_ne, ne_eq, beq_eq_false_iff_ne, bne_eq_false_iff_eq, Classical.not_not] at hc8
    refine SW_skip (n_then ?_)
    exact ⟨⟨fun _ => rfl, ow⟩, by unfold litBad; rintro (q | q | ⟨q1, q2⟩ | ⟨q1, q2⟩) <;> first | (have hq_ := head_n (by assumption) q2; omega) | omega | simp_all⟩
   replace hg7 : ¬ ((((decP X).1.ahead).length : Int) > 1) := hg7
   refine os 6 ?_
   refine kp [47, 6, 5, 4, 8, 3, 2, 0] ?_
   refine nt ?_
   refine cf ?_
   refine SW_skip (n_then ?_)
   exact ⟨⟨fun _ => rfl, ow⟩, by unfold litBad; rintro (q | q | ⟨q1, q2⟩ | ⟨q1, q2⟩) <;> first | (have hq_ := head_n (by assumption) q2; omega) | omega | simp_all⟩
  replace hg5 : ¬ (46 ∈ X) := hg5
  refine os 7 ?_
  refine kp [37, 36, 6, 5, 4, 8, 3, 2, 0] ?_
  refine L (ld ?_)
  refine oX (.int .i64 ((bS (decP X).1.ahead).size : Int)) (.int .i64 (((decP X).1.ahead).length : Int)) (congrArg (fun n_ : Nat => Value.int .i64 (n_ : Int)) (bS_size _)) ?_
  refine os 2 ?_
  refine tbp 41 (fun hg9 => ?_) (fun hg9 => ?_)
  ·replace hg9 : (((decP X).1.ahead).length : Int) > 1 := hg9
   refine os 1 ?_
   refine L (ld ?_)
   obtain ⟨e2, he2⟩ : ∃ y_, ((decP X).1.ahead)[0]? = some y_ := ⟨_, List.getElem?_eq_getElem (by omega)⟩
   refine ixb 0 ((decP X).1.ahead) .i64 e2 Tryd.underlying9 he2 ?_
   refine os 3 ?_
   refine kp [47, 6, 5, 4, 8, 3, 2, 0] ?_
   refine nt ?_
   refine cd (fun hc10 : ((e2.toNat : Int) == 48) = true => ?_) (fun hc10 => ?_)
   ·simp only [beq_iff_eq, bne_iff_ne, ne_eq, beq_eq_false_iff_ne, bne_eq_false_iff_eq, Classical.not_not] at hc10
    refine sr ?_
    refine os 2 ?_
    refine nt ?_
    refine SW_ret (r_then ?_)
    refine body_end (.tuple #[.int .u64 0, .bool false]) (fun _ => rfl) ?_
    exact ⟨(), ow, by rw [litP_bad (by simpa using hc1) (by unfold litBad; first | exact .inl (by assumption) | exact .inr (.inl (by assumption)) | exact .inr (.inr (.inl ⟨by assumption, by assumption⟩)) | exact .inr (.inr (.inr ⟨by omega, head_c (by assumption) (by omega)⟩)))]; rfl⟩
   simp only [beq_iff_eq, bne_iff_ne, ne_eq, beq_eq_false_iff_ne, bne_eq_false_iff_eq, Classical.not_not] at hc10
   refine SW_skip (n_then ?_)
   exact ⟨⟨fun _ => rfl, ow⟩, by unfold litBad; rintro (q | q | ⟨q1, q2⟩ | ⟨q1, q2⟩) <;> first | (have hq_ := head_n (by assumption) q2; omega) | omega | simp_all⟩
  replace hg9 : ¬ ((((decP X).1.ahead).length : Int) > 1) := hg9
  refine os 6 ?_
  refine kp [47, 6, 5, 4, 8, 3, 2, 0] ?_
  refine nt ?_
  refine cf ?_
  refine SW_skip (n_then ?_)
  exact ⟨⟨fun _ => rfl, ow⟩, by unfold litBad; rintro (q | q | ⟨q1, q2⟩ | ⟨q1, q2⟩) <;> first | (have hq_ := head_n (by assumption) q2; omega) | omega | simp_all⟩
 ·rintro ρ_ σ_ ⟨hfit, hlg_⟩
  refine SW_fits hfit ?_
  clear hfit
  refine sr ?_
  refine L (lds 3 ?_)
  obtain ⟨hnd_, hnl_, hnq_⟩ := decP_facts X
  refine L (cl (num_nearest (A := (decP X).1.ahead) (B := (decP X).1.behind) (p := (decP X).1.power) (by omega) hnd_ hnq_) ?_)
  rintro v5 _ hv5
  obtain rfl : v5 = .int .u64 (nearestP (decP X).1 : Int) := hv5.trans (rfl)
  refine un ?_
  refine os 2 ?_
  refine nt ?_
  refine SW_ret ?_
  refine body_end (.tuple #[.int .u64 (nearestP (decP X).1 : Int), .bool true]) (fun _ => rfl) ?_
  exact ⟨(), ow, by rw [litP_good (by simpa using hc1) hlg_]⟩

end Go.Proofs.YtnhmmjogfkjceaaDoor
namespace Go.Proofs.YtnhmmjogfkjceaaDoor
open Go.Sl

theorem lex_digit {W0 : World} {c : UInt8} : SC Tryd.prog W0 37 #[.int .u8 (c.toNat : Int)] [] (Ret (fun _ : Unit => []) (fun v _ => v = .bool (isDig c))) := by
 refine SC_body (fn := Tryd.f37) (n := 9) Tryd.func37 rfl (by kernel_rfl) (ρ := [(0, .int .u8 (c.toNat : Int))]) rfl ?_
 refine sr ?_
 refine os 1 ?_
 refine nsr ?_
 refine os 3 ?_
 refine tbp 5 (fun hg1 => ?_) (fun hg1 => ?_)
 ·replace hg1 : (c.toNat : Int) ≥ 48 := hg1
  refine os 4 ?_
  refine kp [2, 0] ?_
  refine nt ?_
  refine SW_ret ?_
  refine body_end (.bool (decide ((c.toNat : Int) ≤ 57))) (fun _ => rfl) ?_
  exact ⟨(), ow, congrArg Value.bool (by unfold isDig; (try split at ho_); all_goals first | exact (decide_eq_true (by omega)).symm | exact (decide_eq_false (by omega)).symm | exact decide_eq_decide.2 (by omega) | (rw [Bool.eq_iff_iff]; simp; omega))⟩
 replace hg1 : ¬ ((c.toNat : Int) ≥ 48) := hg1
 refine os 4 ?_
 refine kp [2, 0] ?_
 refine nt ?_
 refine SW_ret ?_
 refine body_end (.bool false) (fun _ => rfl) ?_
 exact ⟨(), ow, congrArg Value.bool (by unfold isDig; (try split at ho_); all_goals first | exact (decide_eq_true (by omega)).symm | exact (decide_eq_false (by omega)).symm | exact decide_eq_decide.2 (by omega) | (rw [Bool.eq_iff_iff]; simp; omega))⟩

theorem lex_small {W0 : World} {c : UInt8} : SC Tryd.prog W0 39 #[.int .u8 (c.toNat : Int)] [] (Ret (fun _ : Unit => []) (fun v _ => v = .bool (isSm c))) := by
 refine SC_body (fn := Tryd.f39) (n := 29) Tryd.func39 rfl (by kernel_rfl) (ρ := [(0, .int .u8 (c.toNat : Int))]) rfl ?_
 refine sr ?_
 refine os 1 ?_
 refine nsr ?_
 refine os 3 ?_
 refine tbp 5 (fun hg1 => ?_) (fun hg1 => ?_)
 ·replace hg1 : (c.toNat : Int) ≥ 97 := hg1
  refine os 4 ?_
  refine kp [9, 2, 0] ?_
  refine tbp 9 (fun hg2 => ?_) (fun hg2 => ?_)
  ·replace hg2 : (c.toNat : Int) ≤ 122 := hg2
   refine os 20 ?_
   refine kp [2, 0] ?_
   refine nt ?_
   refine SW_ret ?_
   refine body_end (.bool true) (fun _ => rfl) ?_
   exact ⟨(), ow, congrArg Value.bool (by unfold isSm; (try split at ho_); all_goals first | exact (decide_eq_true (by omega)).symm | exact (decide_eq_false (by omega)).symm | exact decide_eq_decide.2 (by omega) | (rw [Bool.eq_iff_iff]; simp; omega))⟩
  replace hg2 : ¬ ((c.toNat : Int) ≤ 122) := hg2
  refine os 3 ?_
  refine tbp 12 (fun hg3 => ?_) (fun hg3 => ?_)
  ·replace hg3 : (c.toNat : Int) ≥ 65 := hg3
   refine os 5 ?_
   refine kp [17, 2, 0] ?_
   refine tbp 17 (fun hg4 => ?_) (fun hg4 => ?_)
   ·replace hg4 : (c.toNat : Int) ≤ 90 := hg4
    refine os 12 ?_
    refine kp [2, 0] ?_
    refine nt ?_
    refine SW_ret ?_
    refine body_end (.bool true) (fun _ => rfl) ?_
    exact ⟨(), ow, congrArg Value.bool (by unfold isSm; (try split at ho_); all_goals first | exact (decide_eq_true (by omega)).symm | exact (decide_eq_false (by omega)).symm | exact decide_eq_decide.2 (by omega) | (rw [Bool.eq_iff_iff]; simp; omega))⟩
   replace hg4 : ¬ ((c.toNat : Int) ≤ 90) := hg4
   refine os 4 ?_
   refine tb 21 (fun hg5 => ?_) (fun hg5 => ?_)
   ·replace hg5 : ((c.toNat : Int) == 95) = true := hg5
    simp only [beq_iff_eq, bne_iff_ne, ne_eq, beq_eq_false_iff_ne, bne_eq_false_iff_eq, Classical.not_not] at hg5
    refine os 8 ?_
    refine kp [2, 0] ?_
    refine nt ?_
    refine SW_ret ?_
    refine body_end (.bool true) (fun _ => rfl) ?_
    exact ⟨(), ow, congrArg Value.bool (by unfold isSm; (try split at ho_); all_goals first | exact (decide_eq_true (by omega)).symm | exact (decide_eq_false (by omega)).symm | exact decide_eq_decide.2 (by omega) | (rw [Bool.eq_iff_iff]; simp; omega))⟩
   replace hg5 : ((c.toNat : Int) == 95) = false := hg5
   simp only [beq_iff_eq, bne_iff_ne, ne_eq, beq_eq_false_iff_ne, bne_eq_false_iff_eq, Classical.not_not] at hg5
   refine os 4 ?_
   refine kp [25, 2, 0] ?_
   refine tb 25 (fun hg6 => ?_) (fun hg6 => ?_)
   ·replace hg6 : ((c.toNat : Int) == 36) = true := hg6
    simp only [beq_iff_eq, bne_iff_ne, ne_eq, beq_eq_false_iff_ne, bne_eq_false_iff_eq, Classical.not_not] at hg6
    refine os 4 ?_
    refine kp [2, 0] ?_
    refine nt ?_
    refine SW_ret ?_
    refine body_end (.bool true) (fun _ => rfl) ?_
    exact ⟨(), ow, congrArg Value.bool (by unfold isSm; (try split at ho_); all_goals first | exact (decide_eq_true (by omega)).symm | exact (decide_eq_false (by omega)).symm | exact decide_eq_decide.2 (by omega) | (rw [Bool.eq_iff_iff]; simp; omega))⟩
   replace hg6 : ((c.toNat : Int) == 36) = false := hg6
   simp only [beq_iff_eq, bne_iff_ne, ne_eq, beq_eq_false_iff_ne, bne_eq_false_iff_eq, Classical.not_not] at hg6
   refine os 1 ?_
   refine L (cl (lex_digit (c := c)) ?_)
   rintro v1 _ hv1
   obtain rfl : v1 = .bool (decide (48 ≤ (c.toNat : Int) ∧ (c.toNat : Int) ≤ 57)) := hv1.trans (by rw [dig_at])
   refine un ?_
   refine os 2 ?_
   refine kp [2, 0] ?_
   refine nt ?_
   refine SW_ret ?_
   refine body_end (.bool (decide (48 ≤ (c.toNat : Int) ∧ (c.toNat : Int) ≤ 57))) (fun _ => rfl) ?_
   exact ⟨(), ow, congrArg Value.bool (by unfold isSm; (try split at ho_); all_goals first | exact (decide_eq_true (by omega)).symm | exact (decide_eq_false (by omega)).symm | exact decide_eq_decide.2 (by omega) | (rw [Bool.eq_iff_iff]; simp; omega))⟩
  replace hg3 : ¬ ((c.toNat : Int) ≥ 65) := hg3
  refine os 9 ?_
  refine kp [21, 2, 0] ?_
  refine tb 21 (fun hg7 => ?_) (fun hg7 => ?_)
  ·replace hg7 : ((c.toNat : Int) == 95) = true := hg7
   simp only [beq_iff_eq, bne_iff_ne, ne_eq, beq_eq_false_iff_ne, bne_eq_false_iff_eq, Classical.not_not] at hg7
   refine os 8 ?_
   refine kp [2, 0] ?_
   refine nt ?_
   refine SW_ret ?_
   refine body_end (.bool true) (fun _ => rfl) ?_
   exact ⟨(), ow, congrArg Value.bool (by unfold isSm; (try split at ho_); all_goals first | exact (decide_eq_true (by omega)).symm | exact (decide_eq_false (by omega)).symm | exact decide_eq_decide.2 (by omega) | (rw [Bool.eq_iff_iff]; simp; omega))⟩
  replace hg7 : ((c.toNat : Int) == 95) = false := hg7
  simp only [beq_iff_eq, bne_iff_ne, ne_eq, beq_eq_false_iff_ne, bne_eq_false_iff_eq, Classical.not_not] at hg7
  refine os 4 ?_
  refine tb 25 (fun hg8 => ?_) (fun hg8 => ?_)
  ·replace hg8 : ((c.toNat : Int) == 36) = true := hg8
   simp only [beq_iff_eq, bne_iff_ne, ne_eq, beq_eq_false_iff_ne, bne_eq_false_iff_eq, Classical.not_not] at hg8
   refine os 4 ?_
   refine kp [2, 0] ?_
   refine nt ?_
   refine SW_ret ?_
   refine body_end (.bool true) (fun _ => rfl) ?_
   exact ⟨(), ow, congrArg Value.bool (by unfold isSm; (try split at ho_); all_goals first | exact (decide_eq_true (by omega)).symm | exact (decide_eq_false (by omega)).symm | exact decide_eq_decide.2 (by omega) | (rw [Bool.eq_iff_iff]; simp; omega))⟩
  replace hg8 : ((c.toNat : Int) == 36) = false := hg8
  simp only [beq_iff_eq, bne_iff_ne, ne_eq, beq_eq_false_iff_ne, bne_eq_false_iff_eq, Classical.not_not] at hg8
  refine os 1 ?_
  refine L (cl (lex_digit (c := c)) ?_)
  rintro v2 _ hv2
  obtain rfl : v2 = .bool (decide (48 ≤ (c.toNat : Int) ∧ (c.toNat : Int) ≤ 57)) := hv2.trans (by rw [dig_at])
  refine un ?_
  refine os 2 ?_
  refine kp [2, 0] ?_
  refine nt ?_
  refine SW_ret ?_
  refine body_end (.bool (decide (48 ≤ (c.toNat : Int) ∧ (c.toNat : Int) ≤ 57))) (fun _ => rfl) ?_
  exact ⟨(), ow, congrArg Value.bool (by unfold isSm; (try split at ho_); all_goals first | exact (decide_eq_true (by omega)).symm | exact (decide_eq_false (by omega)).symm | exact decide_eq_decide.2 (by omega) | (rw [Bool.eq_iff_iff]; simp; omega))⟩
 replace hg1 : ¬ ((c.toNat : Int) ≥ 97) := hg1
 refine os 7 ?_
 refine kp [12, 9, 2, 0] ?_
 refine tbp 12 (fun hg9 => ?_) (fun hg9 => ?_)
 ·replace hg9 : (c.toNat : Int) ≥ 65 := hg9
  refine os 5 ?_
  refine kp [17, 2, 0] ?_
  refine tbp 17 (fun hg10 => ?_) (fun hg10 => ?_)
  ·replace hg10 : (c.toNat : Int) ≤ 90 := hg10
   refine os 12 ?_
   refine kp [2, 0] ?_
   refine nt ?_
   refine SW_ret ?_
   refine body_end (.bool true) (fun _ => rfl) ?_
   exact ⟨(), ow, congrArg Value.bool (by unfold isSm; (try split at ho_); all_goals first | exact (decide_eq_true (by omega)).symm | exact (decide_eq_false (by omega)).symm | exact decide_eq_decide.2 (by omega) | (rw [Bool.eq_iff_iff]; simp; omega))⟩
  replace hg10 : ¬ ((c.toNat : Int) ≤ 90) := hg10
  refine os 4 ?_
  refine tb 21 (fun hg11 => ?_) (fun hg11 => ?_)
  ·replace hg11 : ((c.toNat : Int) == 95) = true := hg11
   simp only [beq_iff_eq, bne_iff_ne, ne_eq, beq_eq_false_iff_ne, bne_eq_false_iff_eq, Classical.not_not] at hg11
   refine os 8 ?_
   refine kp [2, 0] ?_
   refine nt ?_
   refine SW_ret ?_
   refine body_end (.bool true) (fun _ => rfl) ?_
   exact ⟨(), ow, congrArg Value.bool (by unfold isSm; (try split at ho_); all_goals first | exact (decide_eq_true (by omega)).symm | exact (decide_eq_false (by omega)).symm | exact decide_eq_decide.2 (by omega) | (rw [Bool.eq_iff_iff]; simp; omega))⟩
  replace hg11 : ((c.toNat : Int) == 95) = false := hg11
  simp only [beq_iff_eq, bne_iff_ne, ne_eq, beq_eq_false_iff_ne, bne_eq_false_iff_eq, Classical.not_not] at hg11
  refine os 4 ?_
  refine kp [25, 2, 0] ?_
  refine tb 25 (fun hg12 => ?_) (fun hg12 => ?_)
  ·replace hg12 : ((c.toNat : Int) == 36) = true := hg12
   simp only [beq_iff_eq, bne_iff_ne, ne_eq, beq_eq_false_iff_ne, bne_eq_false_iff_eq, Classical.not_not] at hg12
   refine os 4 ?_
   refine kp [2, 0] ?_
   refine nt ?_
   refine SW_ret ?_
   refine body_end (.bool true) (fun _ => rfl) ?_
   exact ⟨(), ow, congrArg Value.bool (by unfold isSm; (try split at ho_); all_goals first | exact (decide_eq_true (by omega)).symm | exact (decide_eq_false (by omega)).symm | exact decide_eq_decide.2 (by omega) | (rw [Bool.eq_iff_iff]; simp; omega))⟩
  replace hg12 : ((c.toNat : Int) == 36) = false := hg12
  simp only [beq_iff_eq, bne_iff_ne, ne_eq, beq_eq_false_iff_ne, bne_eq_false_iff_eq, Classical.not_not] at hg12
  refine os 1 ?_
  refine L (cl (lex_digit (c := c)) ?_)
  rintro v3 _ hv3
  obtain rfl : v3 = .bool (decide (48 ≤ (c.toNat : Int) ∧ (c.toNat : Int) ≤ 57)) := hv3.trans (by rw [dig_at])
  refine un ?_
  refine os 2 ?_
  refine kp [2, 0] ?_
  refine nt ?_
  refine SW_ret ?_
  refine body_end (.bool (decide (48 ≤ (c.toNat : Int) ∧ (c.toNat : Int) ≤ 57))) (fun _ => rfl) ?_
  exact ⟨(), ow, congrArg Value.bool (by unfold isSm; (try split at ho_); all_goals first | exact (decide_eq_true (by omega)).symm | exact (decide_eq_false (by omega)).symm | exact decide_eq_decide.2 (by omega) | (rw [Bool.eq_iff_iff]; simp; omega))⟩
 replace hg9 : ¬ ((c.toNat : Int) ≥ 65) := hg9
 refine os 9 ?_
 refine kp [21, 2, 0] ?_
 refine tb 21 (fun hg13 => ?_) (fun hg13 => ?_)
 ·replace hg13 : ((c.toNat : Int) == 95) = true := hg13
  simp only [beq_iff_eq, bne_iff_ne, ne_eq, beq_eq_false_iff_ne, bne_eq_false_iff_eq, Classical.not_not] at hg13
  refine os 8 ?_
  refine kp [2, 0] ?_
  refine nt ?_
  refine SW_ret ?_
  refine body_end (.bool true) (fun _ => rfl) ?_
  exact ⟨(), ow, congrArg Value.bool (by unfold isSm; (try split at ho_); all_goals first | exact (decide_eq_true (by omega)).symm | exact (decide_eq_false (by omega)).symm | exact decide_eq_decide.2 (by omega) | (rw [Bool.eq_iff_iff]; simp; omega))⟩
 replace hg13 : ((c.toNat : Int) == 95) = false := hg13
 simp only [beq_iff_eq, bne_iff_ne, ne_eq, beq_eq_false_iff_ne, bne_eq_false_iff_eq, Classical.not_not] at hg13
 refine os 4 ?_
 refine tb 25 (fun hg14 => ?_) (fun hg14 => ?_)
 ·replace hg14 : ((c.toNat : Int) == 36) = true := hg14
  simp only [beq_iff_eq, bne_iff_ne, ne_eq, beq_eq_false_iff_ne, bne_eq_false_iff_eq, Classical.not_not] at hg14
  refine os 4 ?_
  refine kp [2, 0] ?_
  refine nt ?_
  refine SW_ret ?_
  refine body_end (.bool true) (fun _ => rfl) ?_
  exact ⟨(), ow, congrArg Value.bool (by unfold isSm; (try split at ho_); all_goals first | exact (decide_eq_true (by omega)).symm | exact (decide_eq_false (by omega)).symm | exact decide_eq_decide.2 (by omega) | (rw [Bool.eq_iff_iff]; simp; omega))⟩
 replace hg14 : ((c.toNat : Int) == 36) = false := hg14
 simp only [beq_iff_eq, bne_iff_ne, ne_eq, beq_eq_false_iff_ne, bne_eq_false_iff_eq, Classical.not_not] at hg14
 refine os 1 ?_
 refine L (cl (lex_digit (c := c)) ?_)
 rintro v4 _ hv4
 obtain rfl : v4 = .bool (decide (48 ≤ (c.toNat : Int) ∧ (c.toNat : Int) ≤ 57)) := hv4.trans (by rw [dig_at])
 refine un ?_
 refine os 2 ?_
 refine kp [2, 0] ?_
 refine nt ?_
 refine SW_ret ?_
 refine body_end (.bool (decide (48 ≤ (c.toNat : Int) ∧ (c.toNat : Int) ≤ 57))) (fun _ => rfl) ?_
 exact ⟨(), ow, congrArg Value.bool (by unfold isSm; (try split at ho_); all_goals first | exact (decide_eq_true (by omega)).symm | exact (decide_eq_false (by omega)).symm | exact decide_eq_decide.2 (by omega) | (rw [Bool.eq_iff_iff]; simp; omega))⟩

theorem lex_base {W0 : World} {c : UInt8} : SC Tryd.prog W0 71 #[.int .u8 (c.toNat : Int)] [] (Ret (fun _ : Unit => []) (fun v _ => v = .bool (isHx c))) := by
 refine SC_body (fn := Tryd.f71) (n := 19) Tryd.func71 rfl (by kernel_rfl) (ρ := [(0, .int .u8 (c.toNat : Int))]) rfl ?_
 have ho_ := or32 c
 refine sr ?_
 refine os 1 ?_
 refine nsr ?_
 refine os 1 ?_
 refine L (cl (lex_digit (c := c)) ?_)
 rintro v1 _ hv1
 obtain rfl : v1 = .bool (decide (48 ≤ (c.toNat : Int) ∧ (c.toNat : Int) ≤ 57)) := hv1.trans (by rw [dig_at])
 refine un ?_
 refine os 1 ?_
 refine tbp 5 (fun hg1 => ?_) (fun hg1 => ?_)
 ·replace hg1 : 48 ≤ (c.toNat : Int) ∧ (c.toNat : Int) ≤ 57 := hg1
  refine os 14 ?_
  refine kp [2, 0] ?_
  refine nt ?_
  refine SW_ret ?_
  refine body_end (.bool true) (fun _ => rfl) ?_
  exact ⟨(), ow, congrArg Value.bool (by unfold isHx; (try split at ho_); all_goals first | exact (decide_eq_true (by omega)).symm | exact (decide_eq_false (by omega)).symm | exact decide_eq_decide.2 (by omega) | (rw [Bool.eq_iff_iff]; simp; omega))⟩
 replace hg1 : ¬ (48 ≤ (c.toNat : Int) ∧ (c.toNat : Int) ≤ 57) := hg1
 refine os 1 ?_
 refine oV (.int .u8 ((c ||| 32).toNat : Int)) ?_ (hs := or8R (m := (c.toNat : Int)) (c := 32) _ (or8 c))
 refine os 2 ?_
 refine tbp 9 (fun hg2 => ?_) (fun hg2 => ?_)
 ·replace hg2 : ((c ||| 32).toNat : Int) ≥ 97 := hg2
  refine os 1 ?_
  refine oV (.int .u8 ((c ||| 32).toNat : Int)) ?_ (hs := or8R (m := (c.toNat : Int)) (c := 32) _ (or8 c))
  refine os 3 ?_
  refine kp [14, 5, 2, 0] ?_
  refine tbp 14 (fun hg3 => ?_) (fun hg3 => ?_)
  ·replace hg3 : ((c ||| 32).toNat : Int) ≤ 102 := hg3
   refine os 5 ?_
   refine kp [2, 0] ?_
   refine nt ?_
   refine SW_ret ?_
   refine body_end (.bool (decide ((c.toNat : Int) ≥ 65))) (fun _ => rfl) ?_
   exact ⟨(), ow, congrArg Value.bool (by unfold isHx; (try split at ho_); all_goals first | exact (decide_eq_true (by omega)).symm | exact (decide_eq_false (by omega)).symm | exact decide_eq_decide.2 (by omega) | (rw [Bool.eq_iff_iff]; simp; omega))⟩
  replace hg3 : ¬ (((c ||| 32).toNat : Int) ≤ 102) := hg3
  refine os 5 ?_
  refine kp [2, 0] ?_
  refine nt ?_
  refine SW_ret ?_
  refine body_end (.bool false) (fun _ => rfl) ?_
  exact ⟨(), ow, congrArg Value.bool (by unfold isHx; (try split at ho_); all_goals first | exact (decide_eq_true (by omega)).symm | exact (decide_eq_false (by omega)).symm | exact decide_eq_decide.2 (by omega) | (rw [Bool.eq_iff_iff]; simp; omega))⟩
 replace hg2 : ¬ (((c ||| 32).toNat : Int) ≥ 97) := hg2
 refine os 10 ?_
 refine kp [2, 0] ?_
 refine nt ?_
 refine SW_ret ?_
 refine body_end (.bool false) (fun _ => rfl) ?_
 exact ⟨(), ow, congrArg Value.bool (by unfold isHx; (try split at ho_); all_goals first | exact (decide_eq_true (by omega)).symm | exact (decide_eq_false (by omega)).symm | exact decide_eq_decide.2 (by omega) | (rw [Bool.eq_iff_iff]; simp; omega))⟩

theorem lex_notNl {W0 : World} {c : UInt8} : SC Tryd.prog W0 35 #[.int .u8 (c.toNat : Int)] [] (Ret (fun _ : Unit => []) (fun v _ => v = .bool (notNl c))) := by
 refine SC_body (fn := Tryd.f35) (n := 5) Tryd.func35 rfl (by kernel_rfl) (ρ := [(0, .int .u8 (c.toNat : Int))]) rfl ?_
 refine sr ?_
 refine os 1 ?_
 refine nsr ?_
 refine os 3 ?_
 refine nt ?_
 refine SW_ret ?_
 refine body_end (.bool ((c.toNat : Int) != 10)) (fun _ => rfl) ?_
 exact ⟨(), ow, congrArg Value.bool (by unfold notNl; (try split at ho_); all_goals first | exact (decide_eq_true (by omega)).symm | exact (decide_eq_false (by omega)).symm | exact decide_eq_decide.2 (by omega) | (rw [Bool.eq_iff_iff]; simp; omega))⟩

theorem lex_allowed {W0 : World} {z : Int} : SC Tryd.prog W0 19 #[.int .i32 z] [] (Ret (fun _ : Unit => []) (fun v _ => v = .bool (okR z))) := by
 refine SC_body (fn := Tryd.f19) (n := 17) Tryd.func19 rfl (by kernel_rfl) (ρ := [(0, .int .i32 z)]) rfl ?_
 refine sr ?_
 refine os 1 ?_
 refine nsr ?_
 refine os 3 ?_
 refine tb 5 (fun hg1 => ?_) (fun hg1 => ?_)
 ·replace hg1 : (z == 9) = true := hg1
  simp only [beq_iff_eq, bne_iff_ne, ne_eq, beq_eq_false_iff_ne, bne_eq_false_iff_eq, Classical.not_not] at hg1
  refine os 12 ?_
  refine kp [2, 0] ?_
  refine nt ?_
  refine SW_ret ?_
  refine body_end (.bool true) (fun _ => rfl) ?_
  exact ⟨(), ow, congrArg Value.bool (by unfold okR; (try split at ho_); all_goals first | exact (decide_eq_true (by omega)).symm | exact (decide_eq_false (by omega)).symm | exact decide_eq_decide.2 (by omega) | (rw [Bool.eq_iff_iff]; simp; omega))⟩
 replace hg1 : (z == 9) = false := hg1
 simp only [beq_iff_eq, bne_iff_ne, ne_eq, beq_eq_false_iff_ne, bne_eq_false_iff_eq, Classical.not_not] at hg1
 refine os 4 ?_
 refine kp [9, 2, 0] ?_
 refine tb 9 (fun hg2 => ?_) (fun hg2 => ?_)
 ·replace hg2 : (z == 10) = true := hg2
  simp only [beq_iff_eq, bne_iff_ne, ne_eq, beq_eq_false_iff_ne, bne_eq_false_iff_eq, Classical.not_not] at hg2
  refine os 8 ?_
  refine kp [2, 0] ?_
  refine nt ?_
  refine SW_ret ?_
  refine body_end (.bool true) (fun _ => rfl) ?_
  exact ⟨(), ow, congrArg Value.bool (by unfold okR; (try split at ho_); all_goals first | exact (decide_eq_true (by omega)).symm | exact (decide_eq_false (by omega)).symm | exact decide_eq_decide.2 (by omega) | (rw [Bool.eq_iff_iff]; simp; omega))⟩
 replace hg2 : (z == 10) = false := hg2
 simp only [beq_iff_eq, bne_iff_ne, ne_eq, beq_eq_false_iff_ne, bne_eq_false_iff_eq, Classical.not_not] at hg2
 refine os 3 ?_
 refine tbp 12 (fun hg3 => ?_) (fun hg3 => ?_)
 ·replace hg3 : z ≥ 32 := hg3
  refine os 5 ?_
  refine kp [2, 0] ?_
  refine nt ?_
  refine SW_ret ?_
  refine body_end (.bool (decide (z ≤ 126))) (fun _ => rfl) ?_
  exact ⟨(), ow, congrArg Value.bool (by unfold okR; (try split at ho_); all_goals first | exact (decide_eq_true (by omega)).symm | exact (decide_eq_false (by omega)).symm | exact decide_eq_decide.2 (by omega) | (rw [Bool.eq_iff_iff]; simp; omega))⟩
 replace hg3 : ¬ (z ≥ 32) := hg3
 refine os 5 ?_
 refine kp [2, 0] ?_
 refine nt ?_
 refine SW_ret ?_
 refine body_end (.bool false) (fun _ => rfl) ?_
 exact ⟨(), ow, congrArg Value.bool (by unfold okR; (try split at ho_); all_goals first | exact (decide_eq_true (by omega)).symm | exact (decide_eq_false (by omega)).symm | exact decide_eq_decide.2 (by omega) | (rw [Bool.eq_iff_iff]; simp; omega))⟩

theorem lex_nibble {W0 : World} {c : UInt8} (hc : isHx c = true) : SC Tryd.prog W0 110 #[.int .u8 (c.toNat : Int)] [] (Ret (fun _ : Unit => []) (fun v _ => v = .int .u8 (nibV c : Int))) := by
 refine SC_body (fn := Tryd.f110) (n := 11) Tryd.func110 rfl (by kernel_rfl) (ρ := [(0, .int .u8 (c.toNat : Int))]) rfl ?_
 have ho_ := or32 c
 have hc_ : (48 ≤ c.toNat ∧ c.toNat ≤ 57) ∨ (97 ≤ c.toNat ∧ c.toNat ≤ 102) ∨ (65 ≤ c.toNat ∧ c.toNat ≤ 70) := by simpa [isHx] using hc
 have ho2_ : c.toNat ≤ 57 ∨ (97 ≤ (c ||| 32).toNat ∧ (c ||| 32).toNat ≤ 102) := by split at ho_ <;> omega
 refine sr ?_
 refine os 1 ?_
 refine nq ?_
 refine sr ?_
 refine os 1 ?_
 refine L (cl (lex_digit (c := c)) ?_)
 rintro v1 _ hv1
 obtain rfl : v1 = .bool (decide (48 ≤ (c.toNat : Int) ∧ (c.toNat : Int) ≤ 57)) := hv1.trans (by rw [dig_at])
 refine un ?_
 refine nt ?_
 refine cdp (fun hc1 : 48 ≤ (c.toNat : Int) ∧ (c.toNat : Int) ≤ 57 => ?_) (fun hc1 => ?_)
 ·refine sr ?_
  refine os 3 ?_
  refine kp [2, 4, 0] ?_
  refine nt ?_
  refine SW_ret (r_then ?_)
  refine body_end (.int .u8 ((c.toNat : Int) - 48)) (fun _ => rfl) ?_
  exact ⟨(), ow, congrArg (Value.int .u8) (by unfold nibV; split <;> omega)⟩
 refine SW_skip (n_then ?_)
 refine sr ?_
 refine os 1 ?_
 refine oV (.int .u8 ((c ||| 32).toNat : Int)) ?_ (hs := or8R (m := (c.toNat : Int)) (c := 32) _ (or8 c))
 refine os 3 ?_
 refine kp [2, 4, 0] ?_
 refine nt ?_
 refine SW_ret ?_
 refine body_end (.int .u8 ((((c ||| 32).toNat : Int) - 97) + 10)) (fun _ => rfl) ?_
 exact ⟨(), ow, congrArg (Value.int .u8) (by unfold nibV; split <;> omega)⟩

theorem lex_peek {W0 : World} {X : Bytes} {a k b : Nat} {g : Gs} {l : List Tok} (hk : Gs.ok 4 l.length g (l.flatMap Tok.cells)) (hX : X.length ≤ 1048576) (ha : a ≤ X.length) (hq : k ≤ 2) : SC Tryd.prog W0 33 #[pt b 0, .int .i64 (k : Int)] ((b, .cells 45 3 [.string (bS X), .int .i64 (a : Int), Gs.val g l.length]) :: (Gs.ent 29 4 g (l.flatMap Tok.cells))) (Ret (fun _ : Unit => (b, .cells 45 3 [.string (bS X), .int .i64 (a : Int), Gs.val g l.length]) :: (Gs.ent 29 4 g (l.flatMap Tok.cells))) (fun v _ => v = .int .u8 ((atB X (a + k)).toNat : Int))) := by
 refine SC_body (fn := Tryd.f33) (n := 28) Tryd.func33 rfl (by kernel_rfl) (ρ := [(0, pt b 0), (1, .int .i64 (k : Int))]) rfl ?_
 refine SW_sig ((b, .cells 45 3 [.string (bS X), .int .i64 (a : Int), Gs.val g l.length]) :: ((Gs.ent 29 4 g (l.flatMap Tok.cells)) ++ ([]))) (by simp only [List.append_nil, List.append_assoc]) ?_
 refine sr ?_
 refine os 1 ?_
 refine nq ?_
 refine SW_seq ?_
 refine SW_draw [(b, 1, .int .i64 (a : Int)), (b, 0, .string (bS X))] [0, 1, 2, 3, 4, 5, 6, 7, 8, 9, 10] (by kernel_rfl) (rd_cons (Cell.own mem_z rfl) (rd_cons (Cell.own mem_z rfl) rd_nil)) ?_
 refine aS 0 ?_
 refine aS 1 ?_
 refine aF 2 ?_
 refine aL 3 ?_
 refine aS 4 ?_
 refine tk 5 (.int .i64 (IntKind.wrap .i64 ((a : Int) + (k : Int)))) ?_
 rw [show IntKind.wrap .i64 ((a : Int) + (k : Int)) = (a : Int) + (k : Int) from IntWalk.i64_in _ (by omega)]
 refine aS 6 ?_
 refine aS 7 ?_
 refine aF 8 ?_
 refine aL 9 ?_
 refine kpA [14, 10, 4, 0, 1] ?_
 refine tk 10 (.int .i64 ((bS X).size : Int)) ?_
 rw [bS_size]
 refine aS 11 ?_
 refine SA_done (by kernel_rfl) (n_then ?_)
 refine cdp (fun hc1 : ((a : Int) + (k : Int)) ≥ (X.length : Int) => ?_) (fun hc1 => ?_)
 ·refine sr ?_
  refine os 1 ?_
  refine kp [4, 16, 0, 1] ?_
  refine nt ?_
  refine SW_ret (r_then ?_)
  refine body_end (.int .u8 0) (fun _ => rfl) ?_
  exact ⟨(), ow, by rw [atB_none (by omega)]; rfl⟩
 refine SW_skip (n_then ?_)
 refine SW_seq ?_
 obtain ⟨e1, he1⟩ : ∃ y_, X[(a + k)]? = some y_ := ⟨_, List.getElem?_eq_getElem (by omega)⟩
 refine SW_draw [(b, 0, .string (bS X)), (b, 1, .int .i64 (a : Int))] [0, 1, 2, 3, 4, 5, 6, 7, 8, 9] (by kernel_rfl) (rd_cons (Cell.own mem_z rfl) (rd_cons (Cell.own mem_z rfl) rd_nil)) ?_
 refine aS 0 ?_
 refine aS 1 ?_
 refine aF 2 ?_
 refine aL 3 ?_
 refine aS 4 ?_
 refine aS 5 ?_
 refine aF 6 ?_
 refine kpA [23, 20, 16, 4, 0, 1] ?_
 refine aL 7 ?_
 refine aS 8 ?_
 refine tk 9 (.int .i64 (IntKind.wrap .i64 ((a : Int) + (k : Int)))) ?_
 rw [show IntKind.wrap .i64 ((a : Int) + (k : Int)) = (a : Int) + (k : Int) from IntWalk.i64_in _ (by omega)]
 refine tk 10 (.int .u8 (e1.toNat : Int)) ?_ (hy := fun δ w => run_indexB ((a : Int) + (k : Int)) X .i64 e1 Tryd.underlying9 rfl rfl (by omega) (by rw [show ((a : Int) + (k : Int)).toNat = (a + k) from by omega]; exact he1))
 refine aS 11 ?_
 refine SA_done (by kernel_rfl) (n_then ?_)
 refine SW_ret ?_
 refine body_end (.int .u8 (e1.toNat : Int)) (fun _ => rfl) ?_
 exact ⟨(), ow, by rw [atB_some he1]⟩

end Go.Proofs.YtnhmmjogfkjceaaDoor
namespace Go.Proofs.YtnhmmjogfkjceaaDoor
open Go.Sl

theorem lex_run_digit {W0 : World} {X : Bytes} {a m b : Nat} {g : Gs} {l : List Tok} (hk : Gs.ok 4 l.length g (l.flatMap Tok.cells)) (hX : X.length ≤ 1048576) (hm : m ≤ X.length) : SC Tryd.prog W0 34 #[pt b 0, .int .i64 (m : Int), .func (.func 37) #[] #[]] ((b, .cells 45 3 [.string (bS X), .int .i64 (a : Int), Gs.val g l.length]) :: (Gs.ent 29 4 g (l.flatMap Tok.cells))) (Ret (fun _ : Unit => (b, .cells 45 3 [.string (bS X), .int .i64 (a : Int), Gs.val g l.length]) :: (Gs.ent 29 4 g (l.flatMap Tok.cells))) (fun v _ => v = .int .i64 (runL isDig X m : Int))) := by
 refine SC_body (fn := Tryd.f34) (n := 27) Tryd.func34 rfl (by kernel_rfl) (ρ := [(0, pt b 0), (1, .int .i64 (m : Int)), (2, .func (.func 37) #[] #[])]) rfl ?_
 refine SW_sig ((b, .cells 45 3 [.string (bS X), .int .i64 (a : Int), Gs.val g l.length]) :: ((Gs.ent 29 4 g (l.flatMap Tok.cells)) ++ ([]))) (by simp only [List.append_nil, List.append_assoc]) ?_
 refine sr ?_
 refine os 1 ?_
 refine nq ?_
 refine SW_block ?_
 refine SW_loop (α := Nat) (fun z_ ρ_ σ_ => Fits ρ_ σ_ [(0, pt b 0), (1, .int .i64 (z_ : Int)), (2, .func (.func 37) #[] #[])] ((b, .cells 45 3 [.string (bS X), .int .i64 (a : Int), Gs.val g l.length]) :: ((Gs.ent 29 4 g (l.flatMap Tok.cells)) ++ ([]))) ∧ z_ ≤ X.length ∧ runL isDig X z_ = runL isDig X m) (fun z_ => X.length - z_) m ⟨⟨fun _ => rfl, ow⟩, hm, rfl⟩ ?_
 rintro n ρ_ σ_ ⟨hfit, hi0, hi1⟩
 refine SW_fits hfit ?_
 clear hfit
 refine SW_seq ?_
 refine sr ?_
 refine os 4 ?_
 refine L (ld ?_)
 refine oX (.int .i64 ((bS X).size : Int)) (.int .i64 (X.length : Int)) (congrArg (fun n_ : Nat => Value.int .i64 (n_ : Int)) (bS_size _)) ?_
 refine os 2 ?_
 refine kp [14, 0, 1, 2] ?_
 refine tbp 14 (fun hg1 => ?_) (fun hg1 => ?_)
 ·replace hg1 : (n : Int) < (X.length : Int) := hg1
  refine os 4 ?_
  refine L (ld ?_)
  refine os 1 ?_
  obtain ⟨e1, he1⟩ : ∃ y_, X[n]? = some y_ := ⟨_, List.getElem?_eq_getElem (by omega)⟩
  refine ixb (n : Int) X .i64 e1 Tryd.underlying9 he1 ?_
  refine L (cl (lex_digit (c := e1)) ?_)
  rintro _ _ rfl
  refine un ?_
  refine os 1 ?_
  refine kp [23, 0, 1, 2] ?_
  refine nt ?_
  refine cd (fun hc2 : (isDig e1) = true => ?_) (fun hc2 => ?_)
  ·replace hc2 : isDig e1 = true := by simpa using hc2
   refine SW_skip (n_then ?_)
   refine SW_block ?_
   refine SW_region ?_
   refine os 3 ?_
   refine SL_nil (n_in (n_then ?_))
   exact ⟨n + 1, by omega, ⟨fun _ => rfl, ow⟩, by omega, (runL_step he1 hc2).symm.trans hi1⟩
  replace hc2 : isDig e1 = false := by simpa using hc2
  refine SW_exit (x_then (x_then (x_in (n_then ?_))))
  refine sr ?_
  refine os 2 ?_
  refine nt ?_
  refine SW_ret ?_
  refine body_end (.int .i64 (n : Int)) (fun _ => rfl) ?_
  exact ⟨(), ow, by rw [← hi1, runL_stop he1 hc2]⟩
 replace hg1 : ¬ ((n : Int) < (X.length : Int)) := hg1
 refine os 9 ?_
 refine kp [23, 0, 1, 2] ?_
 refine nt ?_
 refine cf ?_
 refine SW_exit (x_then (x_then (x_in (n_then ?_))))
 refine sr ?_
 refine os 2 ?_
 refine nt ?_
 refine SW_ret ?_
 refine body_end (.int .i64 (n : Int)) (fun _ => rfl) ?_
 exact ⟨(), ow, by rw [← hi1, runL_end (by omega)]⟩

theorem lex_run_digitZ {W0 : World} {X : Bytes} {a m b : Nat} {z : Int} {g : Gs} {l : List Tok} (hz : z = (m : Int)) (hk : Gs.ok 4 l.length g (l.flatMap Tok.cells)) (hX : X.length ≤ 1048576) (hm : m ≤ X.length) : SC Tryd.prog W0 34 #[pt b 0, .int .i64 z, .func (.func 37) #[] #[]] ((b, .cells 45 3 [.string (bS X), .int .i64 (a : Int), Gs.val g l.length]) :: (Gs.ent 29 4 g (l.flatMap Tok.cells))) (Ret (fun _ : Unit => (b, .cells 45 3 [.string (bS X), .int .i64 (a : Int), Gs.val g l.length]) :: (Gs.ent 29 4 g (l.flatMap Tok.cells))) (fun v _ => v = .int .i64 (runL isDig X m : Int))) := by
 subst hz; exact lex_run_digit hk hX hm

theorem lex_run_small {W0 : World} {X : Bytes} {a m b : Nat} {g : Gs} {l : List Tok} (hk : Gs.ok 4 l.length g (l.flatMap Tok.cells)) (hX : X.length ≤ 1048576) (hm : m ≤ X.length) : SC Tryd.prog W0 34 #[pt b 0, .int .i64 (m : Int), .func (.func 39) #[] #[]] ((b, .cells 45 3 [.string (bS X), .int .i64 (a : Int), Gs.val g l.length]) :: (Gs.ent 29 4 g (l.flatMap Tok.cells))) (Ret (fun _ : Unit => (b, .cells 45 3 [.string (bS X), .int .i64 (a : Int), Gs.val g l.length]) :: (Gs.ent 29 4 g (l.flatMap Tok.cells))) (fun v _ => v = .int .i64 (runL isSm X m : Int))) := by
 refine SC_body (fn := Tryd.f34) (n := 27) Tryd.func34 rfl (by kernel_rfl) (ρ := [(0, pt b 0), (1, .int .i64 (m : Int)), (2, .func (.func 39) #[] #[])]) rfl ?_
 refine SW_sig ((b, .cells 45 3 [.string (bS X), .int .i64 (a : Int), Gs.val g l.length]) :: ((Gs.ent 29 4 g (l.flatMap Tok.cells)) ++ ([]))) (by simp only [List.append_nil, List.append_assoc]) ?_
 refine sr ?_
 refine os 1 ?_
 refine nq ?_
 refine SW_block ?_
 refine SW_loop (α := Nat) (fun z_ ρ_ σ_ => Fits ρ_ σ_ [(0, pt b 0), (1, .int .i64 (z_ : Int)), (2, .func (.func 39) #[] #[])] ((b, .cells 45 3 [.string (bS X), .int .i64 (a : Int), Gs.val g l.length]) :: ((Gs.ent 29 4 g (l.flatMap Tok.cells)) ++ ([]))) ∧ z_ ≤ X.length ∧ runL isSm X z_ = runL isSm X m) (fun z_ => X.length - z_) m ⟨⟨fun _ => rfl, ow⟩, hm, rfl⟩ ?_
 rintro n ρ_ σ_ ⟨hfit, hi0, hi1⟩
 refine SW_fits hfit ?_
 clear hfit
 refine SW_seq ?_
 refine sr ?_
 refine os 4 ?_
 refine L (ld ?_)
 refine oX (.int .i64 ((bS X).size : Int)) (.int .i64 (X.length : Int)) (congrArg (fun n_ : Nat => Value.int .i64 (n_ : Int)) (bS_size _)) ?_
 refine os 2 ?_
 refine kp [14, 0, 1, 2] ?_
 refine tbp 14 (fun hg1 => ?_) (fun hg1 => ?_)
 ·replace hg1 : (n : Int) < (X.length : Int) := hg1
  refine os 4 ?_
  refine L (ld ?_)
  refine os 1 ?_
  obtain ⟨e1, he1⟩ : ∃ y_, X[n]? = some y_ := ⟨_, List.getElem?_eq_getElem (by omega)⟩
  refine ixb (n : Int) X .i64 e1 Tryd.underlying9 he1 ?_
  refine L (cl (lex_small (c := e1)) ?_)
  rintro _ _ rfl
  refine un ?_
  refine os 1 ?_
  refine kp [23, 0, 1, 2] ?_
  refine nt ?_
  refine cd (fun hc2 : (isSm e1) = true => ?_) (fun hc2 => ?_)
  ·replace hc2 : isSm e1 = true := by simpa using hc2
   refine SW_skip (n_then ?_)
   refine SW_block ?_
   refine SW_region ?_
   refine os 3 ?_
   refine SL_nil (n_in (n_then ?_))
   exact ⟨n + 1, by omega, ⟨fun _ => rfl, ow⟩, by omega, (runL_step he1 hc2).symm.trans hi1⟩
  replace hc2 : isSm e1 = false := by simpa using hc2
  refine SW_exit (x_then (x_then (x_in (n_then ?_))))
  refine sr ?_
  refine os 2 ?_
  refine nt ?_
  refine SW_ret ?_
  refine body_end (.int .i64 (n : Int)) (fun _ => rfl) ?_
  exact ⟨(), ow, by rw [← hi1, runL_stop he1 hc2]⟩
 replace hg1 : ¬ ((n : Int) < (X.length : Int)) := hg1
 refine os 9 ?_
 refine kp [23, 0, 1, 2] ?_
 refine nt ?_
 refine cf ?_
 refine SW_exit (x_then (x_then (x_in (n_then ?_))))
 refine sr ?_
 refine os 2 ?_
 refine nt ?_
 refine SW_ret ?_
 refine body_end (.int .i64 (n : Int)) (fun _ => rfl) ?_
 exact ⟨(), ow, by rw [← hi1, runL_end (by omega)]⟩

theorem lex_run_smallZ {W0 : World} {X : Bytes} {a m b : Nat} {z : Int} {g : Gs} {l : List Tok} (hz : z = (m : Int)) (hk : Gs.ok 4 l.length g (l.flatMap Tok.cells)) (hX : X.length ≤ 1048576) (hm : m ≤ X.length) : SC Tryd.prog W0 34 #[pt b 0, .int .i64 z, .func (.func 39) #[] #[]] ((b, .cells 45 3 [.string (bS X), .int .i64 (a : Int), Gs.val g l.length]) :: (Gs.ent 29 4 g (l.flatMap Tok.cells))) (Ret (fun _ : Unit => (b, .cells 45 3 [.string (bS X), .int .i64 (a : Int), Gs.val g l.length]) :: (Gs.ent 29 4 g (l.flatMap Tok.cells))) (fun v _ => v = .int .i64 (runL isSm X m : Int))) := by
 subst hz; exact lex_run_small hk hX hm

theorem lex_run_base {W0 : World} {X : Bytes} {a m b : Nat} {g : Gs} {l : List Tok} (hk : Gs.ok 4 l.length g (l.flatMap Tok.cells)) (hX : X.length ≤ 1048576) (hm : m ≤ X.length) : SC Tryd.prog W0 34 #[pt b 0, .int .i64 (m : Int), .func (.func 71) #[] #[]] ((b, .cells 45 3 [.string (bS X), .int .i64 (a : Int), Gs.val g l.length]) :: (Gs.ent 29 4 g (l.flatMap Tok.cells))) (Ret (fun _ : Unit => (b, .cells 45 3 [.string (bS X), .int .i64 (a : Int), Gs.val g l.length]) :: (Gs.ent 29 4 g (l.flatMap Tok.cells))) (fun v _ => v = .int .i64 (runL isHx X m : Int))) := by
 refine SC_body (fn := Tryd.f34) (n := 27) Tryd.func34 rfl (by kernel_rfl) (ρ := [(0, pt b 0), (1, .int .i64 (m : Int)), (2, .func (.func 71) #[] #[])]) rfl ?_
 refine SW_sig ((b, .cells 45 3 [.string (bS X), .int .i64 (a : Int), Gs.val g l.length]) :: ((Gs.ent 29 4 g (l.flatMap Tok.cells)) ++ ([]))) (by simp only [List.append_nil, List.append_assoc]) ?_
 refine sr ?_
 refine os 1 ?_
 refine nq ?_
 refine SW_block ?_
 refine SW_loop (α := Nat) (fun z_ ρ_ σ_ => Fits ρ_ σ_ [(0, pt b 0), (1, .int .i64 (z_ : Int)), (2, .func (.func 71) #[] #[])] ((b, .cells 45 3 [.string (bS X), .int .i64 (a : Int), Gs.val g l.length]) :: ((Gs.ent 29 4 g (l.flatMap Tok.cells)) ++ ([]))) ∧ z_ ≤ X.length ∧ runL isHx X z_ = runL isHx X m) (fun z_ => X.length - z_) m ⟨⟨fun _ => rfl, ow⟩, hm, rfl⟩ ?_
 rintro n ρ_ σ_ ⟨hfit, hi0, hi1⟩
 refine SW_fits hfit ?_
 clear hfit
 refine SW_seq ?_
 refine sr ?_
 refine os 4 ?_
 refine L (ld ?_)
 refine oX (.int .i64 ((bS X).size : Int)) (.int .i64 (X.length : Int)) (congrArg (fun n_ : Nat => Value.int .i64 (n_ : Int)) (bS_size _)) ?_
 refine os 2 ?_
 refine kp [14, 0, 1, 2] ?_
 refine tbp 14 (fun hg1 => ?_) (fun hg1 => ?_)
 ·replace hg1 : (n : Int) < (X.length : Int) := hg1
  refine os 4 ?_
  refine L (ld ?_)
  refine os 1 ?_
  obtain ⟨e1, he1⟩ : ∃ y_, X[n]? = some y_ := ⟨_, List.getElem?_eq_getElem (by omega)⟩
  refine ixb (n : Int) X .i64 e1 Tryd.underlying9 he1 ?_
  refine L (cl (lex_base (c := e1)) ?_)
  rintro _ _ rfl
  refine un ?_
  refine os 1 ?_
  refine kp [23, 0, 1, 2] ?_
  refine nt ?_
  refine cd (fun hc2 : (isHx e1) = true => ?_) (fun hc2 => ?_)
  ·replace hc2 : isHx e1 = true := by simpa using hc2
   refine SW_skip (n_then ?_)
   refine SW_block ?_
   refine SW_region ?_
   refine os 3 ?_
   refine SL_nil (n_in (n_then ?_))
   exact ⟨n + 1, by omega, ⟨fun _ => rfl, ow⟩, by omega, (runL_step he1 hc2).symm.trans hi1⟩
  replace hc2 : isHx e1 = false := by simpa using hc2
  refine SW_exit (x_then (x_then (x_in (n_then ?_))))
  refine sr ?_
  refine os 2 ?_
  refine nt ?_
  refine SW_ret ?_
  refine body_end (.int .i64 (n : Int)) (fun _ => rfl) ?_
  exact ⟨(), ow, by rw [← hi1, runL_stop he1 hc2]⟩
 replace hg1 : ¬ ((n : Int) < (X.length : Int)) := hg1
 refine os 9 ?_
 refine kp [23, 0, 1, 2] ?_
 refine nt ?_
 refine cf ?_
 refine SW_exit (x_then (x_then (x_in (n_then ?_))))
 refine sr ?_
 refine os 2 ?_
 refine nt ?_
 refine SW_ret ?_
 refine body_end (.int .i64 (n : Int)) (fun _ => rfl) ?_
 exact ⟨(), ow, by rw [← hi1, runL_end (by omega)]⟩

theorem lex_run_baseZ {W0 : World} {X : Bytes} {a m b : Nat} {z : Int} {g : Gs} {l : List Tok} (hz : z = (m : Int)) (hk : Gs.ok 4 l.length g (l.flatMap Tok.cells)) (hX : X.length ≤ 1048576) (hm : m ≤ X.length) : SC Tryd.prog W0 34 #[pt b 0, .int .i64 z, .func (.func 71) #[] #[]] ((b, .cells 45 3 [.string (bS X), .int .i64 (a : Int), Gs.val g l.length]) :: (Gs.ent 29 4 g (l.flatMap Tok.cells))) (Ret (fun _ : Unit => (b, .cells 45 3 [.string (bS X), .int .i64 (a : Int), Gs.val g l.length]) :: (Gs.ent 29 4 g (l.flatMap Tok.cells))) (fun v _ => v = .int .i64 (runL isHx X m : Int))) := by
 subst hz; exact lex_run_base hk hX hm

theorem lex_run_nl {W0 : World} {X : Bytes} {a m b : Nat} {g : Gs} {l : List Tok} (hk : Gs.ok 4 l.length g (l.flatMap Tok.cells)) (hX : X.length ≤ 1048576) (hm : m ≤ X.length) : SC Tryd.prog W0 34 #[pt b 0, .int .i64 (m : Int), .func (.func 35) #[] #[]] ((b, .cells 45 3 [.string (bS X), .int .i64 (a : Int), Gs.val g l.length]) :: (Gs.ent 29 4 g (l.flatMap Tok.cells))) (Ret (fun _ : Unit => (b, .cells 45 3 [.string (bS X), .int .i64 (a : Int), Gs.val g l.length]) :: (Gs.ent 29 4 g (l.flatMap Tok.cells))) (fun v _ => v = .int .i64 (runL notNl X m : Int))) := by
 refine SC_body (fn := Tryd.f34) (n := 27) Tryd.func34 rfl (by kernel_rfl) (ρ := [(0, pt b 0), (1, .int .i64 (m : Int)), (2, .func (.func 35) #[] #[])]) rfl ?_
 refine SW_sig ((b, .cells 45 3 [.string (bS X), .int .i64 (a : Int), Gs.val g l.length]) :: ((Gs.ent 29 4 g (l.flatMap Tok.cells)) ++ ([]))) (by simp only [List.append_nil, List.append_assoc]) ?_
 refine sr ?_
 refine os 1 ?_
 refine nq ?_
 refine SW_block ?_
 refine SW_loop (α := Nat) (fun z_ ρ_ σ_ => Fits ρ_ σ_ [(0, pt b 0), (1, .int .i64 (z_ : Int)), (2, .func (.func 35) #[] #[])] ((b, .cells 45 3 [.string (bS X), .int .i64 (a : Int), Gs.val g l.length]) :: ((Gs.ent 29 4 g (l.flatMap Tok.cells)) ++ ([]))) ∧ z_ ≤ X.length ∧ runL notNl X z_ = runL notNl X m) (fun z_ => X.length - z_) m ⟨⟨fun _ => rfl, ow⟩, hm, rfl⟩ ?_
 rintro n ρ_ σ_ ⟨hfit, hi0, hi1⟩
 refine SW_fits hfit ?_
 clear hfit
 refine SW_seq ?_
 refine sr ?_
 refine os 4 ?_
 refine L (ld ?_)
 refine oX (.int .i64 ((bS X).size : Int)) (.int .i64 (X.length : Int)) (congrArg (fun n_ : Nat => Value.int .i64 (n_ : Int)) (bS_size _)) ?_
 refine os 2 ?_
 refine kp [14, 0, 1, 2] ?_
 refine tbp 14 (fun hg1 => ?_) (fun hg1 => ?_)
 ·replace hg1 : (n : Int) < (X.length : Int) := hg1
  refine os 4 ?_
  refine L (ld ?_)
  refine os 1 ?_
  obtain ⟨e1, he1⟩ : ∃ y_, X[n]? = some y_ := ⟨_, List.getElem?_eq_getElem (by omega)⟩
  refine ixb (n : Int) X .i64 e1 Tryd.underlying9 he1 ?_
  refine L (cl (lex_notNl (c := e1)) ?_)
  rintro _ _ rfl
  refine un ?_
  refine os 1 ?_
  refine kp [23, 0, 1, 2] ?_
  refine nt ?_
  refine cd (fun hc2 : (notNl e1) = true => ?_) (fun hc2 => ?_)
  ·replace hc2 : notNl e1 = true := by simpa using hc2
   refine SW_skip (n_then ?_)
   refine SW_block ?_
   refine SW_region ?_
   refine os 3 ?_
   refine SL_nil (n_in (n_then ?_))
   exact ⟨n + 1, by omega, ⟨fun _ => rfl, ow⟩, by omega, (runL_step he1 hc2).symm.trans hi1⟩
  replace hc2 : notNl e1 = false := by simpa using hc2
  refine SW_exit (x_then (x_then (x_in (n_then ?_))))
  refine sr ?_
  refine os 2 ?_
  refine nt ?_
  refine SW_ret ?_
  refine body_end (.int .i64 (n : Int)) (fun _ => rfl) ?_
  exact ⟨(), ow, by rw [← hi1, runL_stop he1 hc2]⟩
 replace hg1 : ¬ ((n : Int) < (X.length : Int)) := hg1
 refine os 9 ?_
 refine kp [23, 0, 1, 2] ?_
 refine nt ?_
 refine cf ?_
 refine SW_exit (x_then (x_then (x_in (n_then ?_))))
 refine sr ?_
 refine os 2 ?_
 refine nt ?_
 refine SW_ret ?_
 refine body_end (.int .i64 (n : Int)) (fun _ => rfl) ?_
 exact ⟨(), ow, by rw [← hi1, runL_end (by omega)]⟩

theorem lex_run_nlZ {W0 : World} {X : Bytes} {a m b : Nat} {z : Int} {g : Gs} {l : List Tok} (hz : z = (m : Int)) (hk : Gs.ok 4 l.length g (l.flatMap Tok.cells)) (hX : X.length ≤ 1048576) (hm : m ≤ X.length) : SC Tryd.prog W0 34 #[pt b 0, .int .i64 z, .func (.func 35) #[] #[]] ((b, .cells 45 3 [.string (bS X), .int .i64 (a : Int), Gs.val g l.length]) :: (Gs.ent 29 4 g (l.flatMap Tok.cells))) (Ret (fun _ : Unit => (b, .cells 45 3 [.string (bS X), .int .i64 (a : Int), Gs.val g l.length]) :: (Gs.ent 29 4 g (l.flatMap Tok.cells))) (fun v _ => v = .int .i64 (runL notNl X m : Int))) := by
 subst hz; exact lex_run_nl hk hX hm

theorem lex_put {W0 : World} {X T : Bytes} {a b num too : Nat} {kind : Int} {g : Gs} {l : List Tok} (hk : Gs.ok 4 l.length g (l.flatMap Tok.cells)) (hl : l.length ≤ 2097152) : SC Tryd.prog W0 22 #[pt b 0, .int .i64 kind, .string (bS T), .int .u64 (num : Int), .int .i64 (too : Int)] ((b, .cells 45 3 [.string (bS X), .int .i64 (a : Int), Gs.val g l.length]) :: (Gs.ent 29 4 g (l.flatMap Tok.cells))) (Ret (fun q : Gs => (b, .cells 45 3 [.string (bS X), .int .i64 (too : Int), Gs.val q (l ++ [(⟨kind, a, T, num⟩ : Tok)]).length]) :: (Gs.ent 29 4 q ((l ++ [(⟨kind, a, T, num⟩ : Tok)]).flatMap Tok.cells))) (fun v q => v = .tuple #[] ∧ Gs.ok 4 (l ++ [(⟨kind, a, T, num⟩ : Tok)]).length q ((l ++ [(⟨kind, a, T, num⟩ : Tok)]).flatMap Tok.cells))) := by
 refine SC_body (fn := Tryd.f22) (n := 31) Tryd.func22 rfl (by kernel_rfl) (ρ := [(0, pt b 0), (1, .int .i64 kind), (2, .string (bS T)), (3, .int .u64 (num : Int)), (4, .int .i64 (too : Int))]) rfl ?_
 refine SW_sig ((b, .cells 45 3 [.string (bS X), .int .i64 (a : Int), Gs.val g l.length]) :: ((Gs.ent 29 4 g (l.flatMap Tok.cells)) ++ ([]))) (by simp only [List.append_nil, List.append_assoc]) ?_
 refine SW_seq ?_
 refine SW_draw [(b, 2, Gs.val g l.length), (b, 1, .int .i64 (a : Int))] [0, 1, 2, 3, 4, 5, 6, 7, 8, 9, 10, 11, 12, 13] (by kernel_rfl) (rd_cons (Cell.own mem_z rfl) (rd_cons (Cell.own mem_z rfl) rd_nil)) ?_
 refine aS 0 ?_
 refine aS 1 ?_
 refine aS 2 ?_
 refine aF 3 ?_
 refine aL 4 ?_
 refine aS 5 ?_
 refine aS 6 ?_
 refine aS 7 ?_
 refine aF 8 ?_
 refine aL 9 ?_
 refine aS 10 ?_
 refine aS 11 ?_
 refine tk 12 (.agg #[.int .i64 kind, .int .i64 (a : Int), .string (bS T), .int .u64 (num : Int)]) ?_
 refine kpA [22, 14, 10, 0, 1, 2, 3, 4] ?_
 refine sa1 true 13 (h := nws 29 4 1 [.int .i64 kind, .int .i64 (a : Int), .string (bS T), .int .u64 (num : Int)] ?_)
 intro b1
 refine ⟨fun hnd => (rd_cons (Cell.own (mem_c mem_z) rfl) (rd_cons (Cell.own (mem_c mem_z) rfl) rd_nil)), ?_⟩
 refine SA_perm _ (perm_cc (perm_cc perm_cz)) ?_
 refine sa1 false 14 (h := O_append (size := 4) (bytes := 40) (z := .agg #[.int .i64 0, .int .i64 0, .string (bS []), .int .u64 0]) g l.length 1 (some ⟨b1, 0, none⟩) 1 (l.flatMap Tok.cells) ([.int .i64 kind, .int .i64 (a : Int), .string (bS T), .int .u64 (num : Int)]) ((l ++ [(⟨kind, a, T, num⟩ : Tok)]).flatMap Tok.cells) (flat_snoc _ (⟨kind, a, T, num⟩ : Tok) rfl) (fun _ => rfl) (fun _ => rfl) Tryd.underlying23 (by kernel_rfl) rfl (by decide) hk rfl (.inr ⟨b1, 0, rfl, Cells.own (mem_a mem_z) rfl⟩) rfl (by omega) (by decide) rfl ?_)
 intro s2 hks2 hfs2
 rw [show l.length + 1 = (l ++ [(⟨kind, a, T, num⟩ : Tok)]).length from by first | (simp; done) | (simp; omega)]
 rw [show l.length + 1 = (l ++ [(⟨kind, a, T, num⟩ : Tok)]).length from by first | (simp; done) | (simp; omega)] at hks2
 have hls2 : (l ++ [(⟨kind, a, T, num⟩ : Tok)]).length = l.length + 1 := by first | (simp; done) | (simp; omega)
 refine ⟨fun hnd => (by cases hnd), ?_⟩
 refine aS 15 ?_
 refine aF 16 ?_
 refine sa1 false 17 (h := st [.string (bS X), .int .i64 (a : Int), Gs.val s2 ((l ++ [(⟨kind, a, T, num⟩ : Tok)]).length)] ?_)
 refine ⟨fun hnd => (by cases hnd), ?_⟩
 refine SA_done (by kernel_rfl) (n_then ?_)
 refine SW_region ?_
 refine os 4 ?_
 refine kp [30, 28, 0, 1, 2, 3, 4] ?_
 refine L (st [.string (bS X), .int .i64 (too : Int), Gs.val s2 ((l ++ [(⟨kind, a, T, num⟩ : Tok)]).length)] ?_)
 refine SL_nil ?_
 refine body_end' (.tuple #[]) (fun _ => rfl) ?_
 exact ⟨s2, ow, rfl, hks2⟩

theorem lex_blanks {W0 : World} (hL : LaidL W0) {X : Bytes} {a b : Nat} {g : Gs} {l : List Tok} (hk : Gs.ok 4 l.length g (l.flatMap Tok.cells)) (hX : X.length ≤ 1048576) (ha : a ≤ X.length) : SC Tryd.prog W0 20 #[pt b 0] ((b, .cells 45 3 [.string (bS X), .int .i64 (a : Int), Gs.val g l.length]) :: (Gs.ent 29 4 g (l.flatMap Tok.cells))) (Ret (fun _ : Unit => (b, .cells 45 3 [.string (bS X), .int .i64 ((blP X a).1 : Int), Gs.val g l.length]) :: (Gs.ent 29 4 g (l.flatMap Tok.cells))) (fun v _ => v = .int .i64 (if (blP X a).2 = true then 0 else 52))) := by
 refine SC_body (fn := Tryd.f20) (n := 82) Tryd.func20 rfl (by kernel_rfl) (ρ := [(0, pt b 0)]) rfl ?_
 refine SW_sig ((b, .cells 45 3 [.string (bS X), .int .i64 (a : Int), Gs.val g l.length]) :: ((Gs.ent 29 4 g (l.flatMap Tok.cells)) ++ ([]))) (by simp only [List.append_nil, List.append_assoc]) ?_
 refine sr ?_
 refine os 1 ?_
 refine nq ?_
 refine SW_block ?_
 refine SW_loop (α := Nat × Nat) (fun z_ ρ_ σ_ => Fits ρ_ σ_ [(0, pt b 0)] ((b, .cells 45 3 [.string (bS X), .int .i64 (z_.2 : Int), Gs.val g l.length]) :: ((Gs.ent 29 4 g (l.flatMap Tok.cells)) ++ ([]))) ∧ z_.2 ≤ X.length ∧ X.length - z_.2 < z_.1 ∧ blE z_.1 X z_.2 = blP X a) (fun z_ => X.length - z_.2) ((X.length + 1), a) ⟨⟨fun _ => rfl, ow⟩, ha, (show X.length - a < X.length + 1 by omega), rfl⟩ ?_
 rintro ⟨f, n⟩ ρ_ σ_ ⟨hfit, hi0, hi1, hi2⟩
 refine SW_fits hfit ?_
 clear hfit
 simp only [] at hi0 hi1 hi2 ⊢
 obtain ⟨f, rfl⟩ : ∃ q_, f = q_ + 1 := ⟨f - 1, by omega⟩
 refine SW_seq ?_
 refine SW_seq ?_
 refine SW_draw [(b, 1, .int .i64 (n : Int)), (b, 0, .string (bS X))] [0, 1, 2, 3, 4, 5, 6, 7, 8] (by kernel_rfl) (rd_cons (Cell.own mem_z rfl) (rd_cons (Cell.own mem_z rfl) rd_nil)) ?_
 refine aS 0 ?_
 refine aS 1 ?_
 refine aF 2 ?_
 refine aL 3 ?_
 refine aS 4 ?_
 refine aS 5 ?_
 refine aF 6 ?_
 refine aL 7 ?_
 refine tk 8 (.int .i64 ((bS X).size : Int)) ?_
 rw [bS_size]
 refine aS 9 ?_
 refine kpA [14, 0] ?_
 refine SA_done (by kernel_rfl) (n_then ?_)
 refine cdp (fun hc1 : (n : Int) < (X.length : Int) => ?_) (fun hc1 => ?_)
 ·refine SW_skip (n_then ?_)
  refine SW_block ?_
  refine sr ?_
  refine os 1 ?_
  refine L (cl (lex_peek (X := X) (a := n) (k := 0) (l := l) hk hX (by omega) (by decide)) ?_)
  rintro v1 _ hv1
  obtain rfl : v1 = .int .u8 ((atB X n).toNat : Int) := hv1.trans (rfl)
  refine un ?_
  refine os 1 ?_
  refine nt ?_
  refine SW_block ?_
  refine sr ?_
  refine os 3 ?_
  refine tb 20 (fun hg2 => ?_) (fun hg2 => ?_)
  ·replace hg2 : (((atB X n).toNat : Int) == 32) = true := hg2
   simp only [beq_iff_eq, bne_iff_ne, ne_eq, beq_eq_false_iff_ne, bne_eq_false_iff_eq, Classical.not_not] at hg2
   refine os 8 ?_
   refine kp [17, 3, 14, 0] ?_
   refine nt ?_
   refine ct ?_
   refine SW_region ?_
   refine os 3 ?_
   refine L (ld ?_)
   refine os 3 ?_
   refine L (st [.string (bS X), .int .i64 ((n : Int) + 1), Gs.val g l.length] ?_)
   refine SL_nil (n_in (n_in (n_then ?_)))
   rw [show (n : Int) + 1 = (((n + 1) : Nat) : Int) from by omega]
   rw [blE_sp (by omega) (by omega)] at hi2
   exact ⟨(f, (n + 1)), by simp only []; omega, ⟨fun _ => rfl, ow⟩, by simp only []; omega, by simp only []; omega, hi2⟩
  replace hg2 : (((atB X n).toNat : Int) == 32) = false := hg2
  simp only [beq_iff_eq, bne_iff_ne, ne_eq, beq_eq_false_iff_ne, bne_eq_false_iff_eq, Classical.not_not] at hg2
  refine os 4 ?_
  refine kp [24, 3, 14, 0] ?_
  refine tb 24 (fun hg3 => ?_) (fun hg3 => ?_)
  ·replace hg3 : (((atB X n).toNat : Int) == 10) = true := hg3
   simp only [beq_iff_eq, bne_iff_ne, ne_eq, beq_eq_false_iff_ne, bne_eq_false_iff_eq, Classical.not_not] at hg3
   refine os 4 ?_
   refine kp [17, 3, 14, 0] ?_
   refine nt ?_
   refine ct ?_
   refine SW_region ?_
   refine os 3 ?_
   refine L (ld ?_)
   refine os 3 ?_
   refine L (st [.string (bS X), .int .i64 ((n : Int) + 1), Gs.val g l.length] ?_)
   refine SL_nil (n_in (n_in (n_then ?_)))
   rw [show (n : Int) + 1 = (((n + 1) : Nat) : Int) from by omega]
   rw [blE_sp (by omega) (by omega)] at hi2
   exact ⟨(f, (n + 1)), by simp only []; omega, ⟨fun _ => rfl, ow⟩, by simp only []; omega, by simp only []; omega, hi2⟩
  replace hg3 : (((atB X n).toNat : Int) == 10) = false := hg3
  simp only [beq_iff_eq, bne_iff_ne, ne_eq, beq_eq_false_iff_ne, bne_eq_false_iff_eq, Classical.not_not] at hg3
  refine os 4 ?_
  refine kp [17, 3, 14, 0] ?_
  refine nt ?_
  refine cd (fun hc4 : (((atB X n).toNat : Int) == 9) = true => ?_) (fun hc4 => ?_)
  ·simp only [beq_iff_eq, bne_iff_ne, ne_eq, beq_eq_false_iff_ne, bne_eq_false_iff_eq, Classical.not_not] at hc4
   refine SW_region ?_
   refine os 3 ?_
   refine L (ld ?_)
   refine os 3 ?_
   refine L (st [.string (bS X), .int .i64 ((n : Int) + 1), Gs.val g l.length] ?_)
   refine SL_nil (n_in (n_in (n_then ?_)))
   rw [show (n : Int) + 1 = (((n + 1) : Nat) : Int) from by omega]
   rw [blE_sp (by omega) (by omega)] at hi2
   exact ⟨(f, (n + 1)), by simp only []; omega, ⟨fun _ => rfl, ow⟩, by simp only []; omega, by simp only []; omega, hi2⟩
  simp only [beq_iff_eq, bne_iff_ne, ne_eq, beq_eq_false_iff_ne, bne_eq_false_iff_eq, Classical.not_not] at hc4
  refine sr ?_
  refine os 3 ?_
  refine tb 38 (fun hg5 => ?_) (fun hg5 => ?_)
  ·replace hg5 : (((atB X n).toNat : Int) == 47) = true := hg5
   simp only [beq_iff_eq, bne_iff_ne, ne_eq, beq_eq_false_iff_ne, bne_eq_false_iff_eq, Classical.not_not] at hg5
   refine os 1 ?_
   refine L (cl (lex_peek (X := X) (a := n) (k := 1) (l := l) hk hX (by omega) (by decide)) ?_)
   rintro v2 _ hv2
   obtain rfl : v2 = .int .u8 ((atB X (n + 1)).toNat : Int) := hv2.trans (rfl)
   refine un ?_
   refine os 3 ?_
   refine kp [35, 17, 3, 14, 0] ?_
   refine nt ?_
   refine cd (fun hc6 : (((atB X (n + 1)).toNat : Int) == 47) = true => ?_) (fun hc6 => ?_)
   ·simp only [beq_iff_eq, bne_iff_ne, ne_eq, beq_eq_false_iff_ne, bne_eq_false_iff_eq, Classical.not_not] at hc6
    refine SW_region ?_
    refine os 5 ?_
    refine L (ld ?_)
    refine L (cl (lex_run_nlZ (X := X) (a := n) (m := n) (z := (n : Int)) (l := l) (by omega) hk hX (by omega)) ?_)
    rintro v3 _ hv3
    obtain rfl : v3 = .int .i64 (runL notNl X n : Int) := hv3.trans (rfl)
    refine un ?_
    refine os 2 ?_
    refine kp [51, 49, 35, 17, 3, 14, 0] ?_
    refine L (st [.string (bS X), .int .i64 (runL notNl X n : Int), Gs.val g l.length] ?_)
    refine SL_nil (n_in (n_in (n_then ?_)))
    have hlg_ := line_gt (X := X) (a := n) (by omega) (by omega)
    have hll_ := runL_le (p := notNl) hi0
    rw [blE_line (by omega) (by omega) (by omega)] at hi2
    exact ⟨(f, (runL notNl X n)), by simp only []; omega, ⟨fun _ => rfl, ow⟩, by simp only []; omega, by simp only []; omega, hi2⟩
   simp only [beq_iff_eq, bne_iff_ne, ne_eq, beq_eq_false_iff_ne, bne_eq_false_iff_eq, Classical.not_not] at hc6
   refine sr ?_
   refine os 3 ?_
   refine tb 55 (fun hg7 => ?_) (fun hg7 => ?_)
   ·replace hg7 : (((atB X n).toNat : Int) == 47) = true := hg7
    simp only [beq_iff_eq, bne_iff_ne, ne_eq, beq_eq_false_iff_ne, bne_eq_false_iff_eq, Classical.not_not] at hg7
    refine os 1 ?_
    refine L (cl (lex_peek (X := X) (a := n) (k := 1) (l := l) hk hX (by omega) (by decide)) ?_)
    rintro v4 _ hv4
    obtain rfl : v4 = .int .u8 ((atB X (n + 1)).toNat : Int) := hv4.trans (rfl)
    refine un ?_
    refine os 3 ?_
    refine kp [52, 35, 17, 3, 14, 0] ?_
    refine nt ?_
    refine cd (fun hc8 : (((atB X (n + 1)).toNat : Int) == 42) = true => ?_) (fun hc8 => ?_)
    ·simp only [beq_iff_eq, bne_iff_ne, ne_eq, beq_eq_false_iff_ne, bne_eq_false_iff_eq, Classical.not_not] at hc8
     have h2_ : n + 1 < X.length := atB_lt (by omega)
     refine SW_seq ?_
     refine SW_draw [(b, 0, .string (bS X)), (b, 1, .int .i64 (n : Int))] [0, 1, 2, 3, 4, 5, 6, 7, 8] (by kernel_rfl) (rd_cons (Cell.own mem_z rfl) (rd_cons (Cell.own mem_z rfl) rd_nil)) ?_
     refine aS 0 ?_
     refine aS 1 ?_
     refine aF 2 ?_
     refine aL 3 ?_
     refine aS 4 ?_
     refine aS 5 ?_
     refine aF 6 ?_
     refine aL 7 ?_
     refine tk 8 (.int .i64 (IntKind.wrap .i64 ((n : Int) + 2))) ?_
     rw [show IntKind.wrap .i64 ((n : Int) + 2) = (n : Int) + 2 from IntWalk.i64_in _ (by omega)]
     refine tk 9 (.string (bS (X.drop ((n : Int) + 2).toNat))) ?_ (hy := fun δ w => run_strFrom (l := X) ((n : Int) + 2) .i64 Tryd.underlying9 rfl rfl (by omega) (by omega))
     rw [show ((n : Int) + 2).toNat = (n + 2) from by omega]
     refine kpA [69, 52, 35, 17, 3, 14, 0] ?_
     refine sa1 false 10 (h := cl (str_Index hL (X.drop (n + 2)) [42, 47] (by first | omega | (simp; omega))) ?_)
     rintro _ _ rfl
     try simp only [List.cons_append, List.append_assoc, List.nil_append]
     refine ⟨fun hnd => (by cases hnd), ?_⟩
     refine aS 11 ?_
     refine SA_done (by kernel_rfl) (n_then ?_)
     refine SW_seq ?_
     refine sr ?_
     refine os 2 ?_
     refine kp [72, 4, 52, 35, 17, 3, 14, 0] ?_
     refine nt ?_
     refine cdp (fun hc9 : (Lib.index (X.drop (n + 2)) [42, 47]) < 0 => ?_) (fun hc9 => ?_)
     ·refine sr ?_
      refine os 1 ?_
      refine nt ?_
      refine SW_ret (r_then (r_in (r_in (r_then (r_in (r_then ?_))))))
      refine body_end (.int .i64 52) (fun _ => rfl) ?_
      have hr_ : blP X a = (n, false) := hi2.symm.trans (blE_bad (by omega) (by omega) (by omega) (by omega))
      rw [hr_]
      exact ⟨(), ow, rfl⟩
     obtain ⟨j, hj_⟩ := Int.eq_ofNat_of_zero_le (show 0 ≤ Lib.index (X.drop (n + 2)) [42, 47] by omega)
     have hjr_ : j + 2 ≤ (X.drop (n + 2)).length := index_room hj_
     rw [List.length_drop] at hjr_
     rw [hj_]
     refine SW_skip (n_then ?_)
     refine SW_region ?_
     refine os 3 ?_
     refine L (ld ?_)
     refine os 5 ?_
     refine kp [81, 79, 72, 4, 52, 35, 17, 3, 14, 0] ?_
     refine L (st [.string (bS X), .int .i64 ((n : Int) + ((j : Int) + 4)), Gs.val g l.length] ?_)
     refine SL_nil (n_in (n_in (n_then ?_)))
     rw [show (n : Int) + ((j : Int) + 4) = (((n + (j + 4)) : Nat) : Int) from by omega]
     rw [blE_rem (by omega) (by omega) (by omega) (by omega), hj_, Int.toNat_natCast] at hi2
     exact ⟨(f, (n + (j + 4))), by simp only []; omega, ⟨fun _ => rfl, ow⟩, by simp only []; omega, by simp only []; omega, hi2⟩
    simp only [beq_iff_eq, bne_iff_ne, ne_eq, beq_eq_false_iff_ne, bne_eq_false_iff_eq, Classical.not_not] at hc8
    refine sr ?_
    refine os 1 ?_
    refine nt ?_
    refine SW_ret (r_in (r_in (r_then (r_in (r_then ?_)))))
    refine body_end (.int .i64 0) (fun _ => rfl) ?_
    have hr_ : blP X a = (n, true) := hi2.symm.trans (blE_other (by omega) (by omega) (by omega) (by omega))
    rw [hr_]
    exact ⟨(), ow, rfl⟩
   replace hg7 : (((atB X n).toNat : Int) == 47) = false := hg7
   simp only [beq_iff_eq, bne_iff_ne, ne_eq, beq_eq_false_iff_ne, bne_eq_false_iff_eq, Classical.not_not] at hg7
   refine os 5 ?_
   refine kp [52, 35, 17, 3, 14, 0] ?_
   refine nt ?_
   refine cf ?_
   refine sr ?_
   refine os 1 ?_
   refine nt ?_
   refine SW_ret (r_in (r_in (r_then (r_in (r_then ?_)))))
   refine body_end (.int .i64 0) (fun _ => rfl) ?_
   have hr_ : blP X a = (n, true) := hi2.symm.trans (blE_other (by omega) (by omega) (by omega) (by omega))
   rw [hr_]
   exact ⟨(), ow, rfl⟩
  replace hg5 : (((atB X n).toNat : Int) == 47) = false := hg5
  simp only [beq_iff_eq, bne_iff_ne, ne_eq, beq_eq_false_iff_ne, bne_eq_false_iff_eq, Classical.not_not] at hg5
  refine os 5 ?_
  refine kp [35, 17, 3, 14, 0] ?_
  refine nt ?_
  refine cf ?_
  refine sr ?_
  refine os 3 ?_
  refine tb 55 (fun hg10 => ?_) (fun hg10 => ?_)
  ·replace hg10 : (((atB X n).toNat : Int) == 47) = true := hg10
   simp only [beq_iff_eq, bne_iff_ne, ne_eq, beq_eq_false_iff_ne, bne_eq_false_iff_eq, Classical.not_not] at hg10
   refine os 1 ?_
   refine L (cl (lex_peek (X := X) (a := n) (k := 1) (l := l) hk hX (by omega) (by decide)) ?_)
   rintro v7 _ hv7
   obtain rfl : v7 = .int .u8 ((atB X (n + 1)).toNat : Int) := hv7.trans (rfl)
   refine un ?_
   refine os 3 ?_
   refine kp [52, 35, 17, 3, 14, 0] ?_
   refine nt ?_
   refine cd (fun hc11 : (((atB X (n + 1)).toNat : Int) == 42) = true => ?_) (fun hc11 => ?_)
   ·simp only [beq_iff_eq, bne_iff_ne, ne_eq, beq_eq_false_iff_ne, bne_eq_false_iff_eq, Classical.not_not] at hc11
    have h2_ : n + 1 < X.length := atB_lt (by omega)
    refine SW_seq ?_
    refine SW_draw [(b, 0, .string (bS X)), (b, 1, .int .i64 (n : Int))] [0, 1, 2, 3, 4, 5, 6, 7, 8] (by kernel_rfl) (rd_cons (Cell.own mem_z rfl) (rd_cons (Cell.own mem_z rfl) rd_nil)) ?_
    refine aS 0 ?_
    refine aS 1 ?_
    refine aF 2 ?_
    refine aL 3 ?_
    refine aS 4 ?_
    refine aS 5 ?_
    refine aF 6 ?_
    refine aL 7 ?_
    refine tk 8 (.int .i64 (IntKind.wrap .i64 ((n : Int) + 2))) ?_
    rw [show IntKind.wrap .i64 ((n : Int) + 2) = (n : Int) + 2 from IntWalk.i64_in _ (by omega)]
    refine tk 9 (.string (bS (X.drop ((n : Int) + 2).toNat))) ?_ (hy := fun δ w => run_strFrom (l := X) ((n : Int) + 2) .i64 Tryd.underlying9 rfl rfl (by omega) (by omega))
    rw [show ((n : Int) + 2).toNat = (n + 2) from by omega]
    refine kpA [69, 52, 35, 17, 3, 14, 0] ?_
    refine sa1 false 10 (h := cl (str_Index hL (X.drop (n + 2)) [42, 47] (by first | omega | (simp; omega))) ?_)
    rintro _ _ rfl
    try simp only [List.cons_append, List.append_assoc, List.nil_append]
    refine ⟨fun hnd => (by cases hnd), ?_⟩
    refine aS 11 ?_
    refine SA_done (by kernel_rfl) (n_then ?_)
    refine SW_seq ?_
    refine sr ?_
    refine os 2 ?_
    refine kp [72, 4, 52, 35, 17, 3, 14, 0] ?_
    refine nt ?_
    refine cdp (fun hc12 : (Lib.index (X.drop (n + 2)) [42, 47]) < 0 => ?_) (fun hc12 => ?_)
    ·refine sr ?_
     refine os 1 ?_
     refine nt ?_
     refine SW_ret (r_then (r_in (r_in (r_then (r_in (r_then ?_))))))
     refine body_end (.int .i64 52) (fun _ => rfl) ?_
     have hr_ : blP X a = (n, false) := hi2.symm.trans (blE_bad (by omega) (by omega) (by omega) (by omega))
     rw [hr_]
     exact ⟨(), ow, rfl⟩
    obtain ⟨j, hj_⟩ := Int.eq_ofNat_of_zero_le (show 0 ≤ Lib.index (X.drop (n + 2)) [42, 47] by omega)
    have hjr_ : j + 2 ≤ (X.drop (n + 2)).length := index_room hj_
    rw [List.length_drop] at hjr_
    rw [hj_]
    refine SW_skip (n_then ?_)
    refine SW_region ?_
    refine os 3 ?_
    refine L (ld ?_)
    refine os 5 ?_
    refine kp [81, 79, 72, 4, 52, 35, 17, 3, 14, 0] ?_
    refine L (st [.string (bS X), .int .i64 ((n : Int) + ((j : Int) + 4)), Gs.val g l.length] ?_)
    refine SL_nil (n_in (n_in (n_then ?_)))
    rw [show (n : Int) + ((j : Int) + 4) = (((n + (j + 4)) : Nat) : Int) from by omega]
    rw [blE_rem (by omega) (by omega) (by omega) (by omega), hj_, Int.toNat_natCast] at hi2
    exact ⟨(f, (n + (j + 4))), by simp only []; omega, ⟨fun _ => rfl, ow⟩, by simp only []; omega, by simp only []; omega, hi2⟩
   simp only [beq_iff_eq, bne_iff_ne, ne_eq, beq_eq_false_iff_ne, bne_eq_false_iff_eq, Classical.not_not] at hc11
   refine sr ?_
   refine os 1 ?_
   refine nt ?_
   refine SW_ret (r_in (r_in (r_then (r_in (r_then ?_)))))
   refine body_end (.int .i64 0) (fun _ => rfl) ?_
   have hr_ : blP X a = (n, true) := hi2.symm.trans (blE_other (by omega) (by omega) (by omega) (by omega))
   rw [hr_]
   exact ⟨(), ow, rfl⟩
  replace hg10 : (((atB X n).toNat : Int) == 47) = false := hg10
  simp only [beq_iff_eq, bne_iff_ne, ne_eq, beq_eq_false_iff_ne, bne_eq_false_iff_eq, Classical.not_not] at hg10
  refine os 5 ?_
  refine kp [52, 35, 17, 3, 14, 0] ?_
  refine nt ?_
  refine cf ?_
  refine sr ?_
  refine os 1 ?_
  refine nt ?_
  refine SW_ret (r_in (r_in (r_then (r_in (r_then ?_)))))
  refine body_end (.int .i64 0) (fun _ => rfl) ?_
  have hr_ : blP X a = (n, true) := hi2.symm.trans (blE_other (by omega) (by omega) (by omega) (by omega))
  rw [hr_]
  exact ⟨(), ow, rfl⟩
 refine SW_exit (x_then (x_then (x_in (n_then ?_))))
 refine sr ?_
 refine os 1 ?_
 refine nt ?_
 refine SW_ret ?_
 refine body_end (.int .i64 0) (fun _ => rfl) ?_
 have hr_ : blP X a = (n, true) := hi2.symm.trans (blE_end (by omega))
 rw [hr_]
 exact ⟨(), ow, rfl⟩

end Go.Proofs.YtnhmmjogfkjceaaDoor
namespace Go.Proofs.YtnhmmjogfkjceaaDoor
open Go.Sl

theorem lex_copy_fresh {W0 : World} {q : Nat} {v : Value} : SC Tryd.prog W0 111 #[pt q 0] [(q, .cells 94 2 [.pointer none, v])] (Ret (fun _ : Unit => [(q, .cells 94 2 [pt q 0, v])]) (fun v _ => v = .tuple #[])) := by
 refine SC_body (fn := Tryd.f111) (n := 20) Tryd.func111 rfl (by kernel_rfl) (ρ := [(0, pt q 0)]) rfl ?_
 refine sr ?_
 refine os 3 ?_
 refine L (ld ?_)
 refine oV (.bool true) ?_
 refine kp [6, 0] ?_
 refine nt ?_
 refine ct ?_
 refine SW_region ?_
 refine os 2 ?_
 refine L (O_toU (sz := 2) (b := q) Tryd.underlying92 (by kernel_rfl) (by kernel_rfl) (by decide) (by decide) (fun _ => rfl) mem_z rfl ?_)
 refine L (O_val (pt q 0) rfl (fun δ w _ => by kernel_rfl) ?_)
 refine L (O_fromU (b := q) (by kernel_rfl) Tryd.underlying92 (by kernel_rfl) (by kernel_rfl) (fun _ => rfl) mem_z rfl ?_)
 refine os 2 ?_
 refine L (st [pt q 0, v] ?_)
 refine SL_nil ?_
 refine body_end' (.tuple #[]) (fun _ => rfl) ?_
 exact ⟨(), ow, rfl⟩

theorem lex_WriteByte_fresh {W0 : World} {q : Nat} {c : UInt8} {h : Gs} {m : Bytes} (hk : Gs.ok 1 m.length h (m.map u8V)) (hm : m.length ≤ 2097152) : SC Tryd.prog W0 73 #[pt q 0, .int .u8 (c.toNat : Int)] ((q, .cells 94 2 [.pointer none, Gs.val h m.length]) :: (Gs.ent 5 1 h (m.map u8V))) (Ret (fun r : Gs => (q, .cells 94 2 [pt q 0, Gs.val r (m ++ [c]).length]) :: (Gs.ent 5 1 r ((m ++ [c]).map u8V))) (fun v r => v = .nilIface ∧ Gs.ok 1 (m ++ [c]).length r ((m ++ [c]).map u8V))) := by
 refine SC_body (fn := Tryd.f73) (n := 17) Tryd.func73 rfl (by kernel_rfl) (ρ := [(0, pt q 0), (1, .int .u8 (c.toNat : Int))]) rfl ?_
 refine SW_sig ((q, .cells 94 2 [.pointer none, Gs.val h m.length]) :: ((Gs.ent 5 1 h (m.map u8V)) ++ ([]))) (by simp only [List.append_nil, List.append_assoc]) ?_
 refine sr ?_
 refine os 1 ?_
 refine nsr ?_
 refine os 1 ?_
 refine L (cl (lex_copy_fresh (q := q)) ?_)
 rintro _ _ rfl
 refine un ?_
 refine nsr ?_
 refine os 4 ?_
 refine L (ld ?_)
 refine os 1 ?_
 refine L (nws 5 1 1 [.int .u8 (c.toNat : Int)] ?_)
 intro b1
 refine SL_perm _ (perm_cc (perm_cc perm_cz)) ?_
 refine L (O_append (size := 1) (bytes := 1) (z := .int .u8 0) h m.length 1 (some ⟨b1, 0, none⟩) 1 (m.map u8V) ([.int .u8 (c.toNat : Int)]) ((m ++ [c]).map u8V) (map_snoc _ c rfl) (fun _ => rfl) (fun _ => rfl) Tryd.underlying31 (by kernel_rfl) rfl (by decide) hk rfl (.inr ⟨b1, 0, rfl, Cells.own (mem_a mem_z) rfl⟩) rfl (by omega) (by decide) rfl ?_)
 intro s2 hks2 hfs2
 rw [show m.length + 1 = (m ++ [c]).length from by first | (simp; done) | (simp; omega)]
 rw [show m.length + 1 = (m ++ [c]).length from by first | (simp; done) | (simp; omega)] at hks2
 have hls2 : (m ++ [c]).length = m.length + 1 := by first | (simp; done) | (simp; omega)
 refine os 2 ?_
 refine kp [16, 14, 4, 0, 1] ?_
 refine L (st [pt q 0, Gs.val s2 ((m ++ [c]).length)] ?_)
 refine nsr ?_
 refine os 1 ?_
 refine nt ?_
 refine SW_ret ?_
 refine body_end (.nilIface) (fun _ => rfl) ?_
 exact ⟨s2, ow, rfl, hks2⟩

theorem lex_copy_used {W0 : World} {q : Nat} {v : Value} : SC Tryd.prog W0 111 #[pt q 0] [(q, .cells 94 2 [pt q 0, v])] (Ret (fun _ : Unit => [(q, .cells 94 2 [pt q 0, v])]) (fun v _ => v = .tuple #[])) := by
 refine SC_body (fn := Tryd.f111) (n := 20) Tryd.func111 rfl (by kernel_rfl) (ρ := [(0, pt q 0)]) rfl ?_
 refine sr ?_
 refine os 3 ?_
 refine L (ld ?_)
 refine oV (.bool false) ?_
 refine kp [6, 0] ?_
 refine nt ?_
 refine cf ?_
 refine sr ?_
 refine os 3 ?_
 refine L (ld ?_)
 refine os 1 ?_
 refine oV (.bool false) ?_ (hs := (fun δ w_ => run_neqP Tryd.underlying92 (by kernel_rfl) rfl rfl))
 refine kp [19, 6, 0] ?_
 refine nt ?_
 refine cf ?_
 refine SW_skip ?_
 refine body_end' (.tuple #[]) (fun _ => rfl) ?_
 exact ⟨(), ow, rfl⟩

theorem lex_WriteByte_used {W0 : World} {q : Nat} {c : UInt8} {h : Gs} {m : Bytes} (hk : Gs.ok 1 m.length h (m.map u8V)) (hm : m.length ≤ 2097152) : SC Tryd.prog W0 73 #[pt q 0, .int .u8 (c.toNat : Int)] ((q, .cells 94 2 [pt q 0, Gs.val h m.length]) :: (Gs.ent 5 1 h (m.map u8V))) (Ret (fun r : Gs => (q, .cells 94 2 [pt q 0, Gs.val r (m ++ [c]).length]) :: (Gs.ent 5 1 r ((m ++ [c]).map u8V))) (fun v r => v = .nilIface ∧ Gs.ok 1 (m ++ [c]).length r ((m ++ [c]).map u8V))) := by
 refine SC_body (fn := Tryd.f73) (n := 17) Tryd.func73 rfl (by kernel_rfl) (ρ := [(0, pt q 0), (1, .int .u8 (c.toNat : Int))]) rfl ?_
 refine SW_sig ((q, .cells 94 2 [pt q 0, Gs.val h m.length]) :: ((Gs.ent 5 1 h (m.map u8V)) ++ ([]))) (by simp only [List.append_nil, List.append_assoc]) ?_
 refine sr ?_
 refine os 1 ?_
 refine nsr ?_
 refine os 1 ?_
 refine L (cl (lex_copy_used (q := q)) ?_)
 rintro _ _ rfl
 refine un ?_
 refine nsr ?_
 refine os 4 ?_
 refine L (ld ?_)
 refine os 1 ?_
 refine L (nws 5 1 1 [.int .u8 (c.toNat : Int)] ?_)
 intro b1
 refine SL_perm _ (perm_cc (perm_cc perm_cz)) ?_
 refine L (O_append (size := 1) (bytes := 1) (z := .int .u8 0) h m.length 1 (some ⟨b1, 0, none⟩) 1 (m.map u8V) ([.int .u8 (c.toNat : Int)]) ((m ++ [c]).map u8V) (map_snoc _ c rfl) (fun _ => rfl) (fun _ => rfl) Tryd.underlying31 (by kernel_rfl) rfl (by decide) hk rfl (.inr ⟨b1, 0, rfl, Cells.own (mem_a mem_z) rfl⟩) rfl (by omega) (by decide) rfl ?_)
 intro s2 hks2 hfs2
 rw [show m.length + 1 = (m ++ [c]).length from by first | (simp; done) | (simp; omega)]
 rw [show m.length + 1 = (m ++ [c]).length from by first | (simp; done) | (simp; omega)] at hks2
 have hls2 : (m ++ [c]).length = m.length + 1 := by first | (simp; done) | (simp; omega)
 refine os 2 ?_
 refine kp [16, 14, 4, 0, 1] ?_
 refine L (st [pt q 0, Gs.val s2 ((m ++ [c]).length)] ?_)
 refine nsr ?_
 refine os 1 ?_
 refine nt ?_
 refine SW_ret ?_
 refine body_end (.nilIface) (fun _ => rfl) ?_
 exact ⟨s2, ow, rfl, hks2⟩

theorem lex_Len {W0 : World} {q : Nat} {p : Value} {h : Gs} {m : Bytes} (hk : Gs.ok 1 m.length h (m.map u8V)) : SC Tryd.prog W0 74 #[pt q 0] ((q, .cells 94 2 [p, Gs.val h m.length]) :: (Gs.ent 5 1 h (m.map u8V))) (Ret (fun _ : Unit => (q, .cells 94 2 [p, Gs.val h m.length]) :: (Gs.ent 5 1 h (m.map u8V))) (fun v _ => v = .int .i64 (m.length : Int))) := by
 refine SC_body (fn := Tryd.f74) (n := 8) Tryd.func74 rfl (by kernel_rfl) (ρ := [(0, pt q 0)]) rfl ?_
 refine SW_sig ((q, .cells 94 2 [p, Gs.val h m.length]) :: ((Gs.ent 5 1 h (m.map u8V)) ++ ([]))) (by simp only [List.append_nil, List.append_assoc]) ?_
 refine sr ?_
 refine os 1 ?_
 refine nsr ?_
 refine os 3 ?_
 refine L (ld ?_)
 refine os 2 ?_
 refine kp [2, 0] ?_
 refine nt ?_
 refine SW_ret ?_
 refine body_end (.int .i64 (m.length : Int)) (fun _ => rfl) ?_
 exact ⟨(), ow, rfl⟩

theorem lex_String_nil {W0 : World} {q : Nat} {p : Value} : SC Tryd.prog W0 75 #[pt q 0] [(q, .cells 94 2 [p, .slice none 0 0])] (Ret (fun _ : Unit => []) (fun v _ => v = .string (bS []))) := by
 refine SC_body (fn := Tryd.f75) (n := 14) Tryd.func75 rfl (by kernel_rfl) (ρ := [(0, pt q 0)]) rfl ?_
 refine sr ?_
 refine os 1 ?_
 refine nq ?_
 refine SW_draw [(q, 1, .slice none 0 0), (q, 1, .slice none 0 0)] [0, 1, 2, 3, 4, 5, 6, 7, 8, 9] (by kernel_rfl) (rd_cons (Cell.own mem_z rfl) (rd_cons (Cell.own mem_z rfl) rd_nil)) ?_
 refine aS 0 ?_
 refine aS 1 ?_
 refine aF 2 ?_
 refine aL 3 ?_
 refine tk 4 (.pointer none) ?_ (hy := fun δ w_ => run_usd_nil 0 0 rfl)
 refine aS 5 ?_
 refine aS 6 ?_
 refine aF 7 ?_
 refine aL 8 ?_
 refine aS 9 ?_
 refine kpA [12, 7, 2, 0] ?_
 refine tk 10 (.string (bS [])) ?_ (hy := fun δ w_ => run_us_none rfl rfl)
 refine aS 11 ?_
 refine SA_done (by kernel_rfl) (n_then ?_)
 refine SW_ret ?_
 refine body_end (.string (bS [])) (fun _ => rfl) ?_
 exact ⟨(), ow, rfl⟩

theorem lex_String_at {W0 : World} {q x y : Nat} {p : Value} {m : Bytes} (hk : Gs.ok 1 m.length (Gs.at x y) (m.map u8V)) (hm : m ≠ []) : SC Tryd.prog W0 75 #[pt q 0] ((q, .cells 94 2 [p, Gs.val (Gs.at x y) m.length]) :: (Gs.ent 5 1 (Gs.at x y) (m.map u8V))) (Ret (fun _ : Unit => []) (fun v _ => v = .string (bS m))) := by
 refine SC_body (fn := Tryd.f75) (n := 14) Tryd.func75 rfl (by kernel_rfl) (ρ := [(0, pt q 0)]) rfl ?_
 refine SW_sig ((q, .cells 94 2 [p, Gs.val (Gs.at x y) m.length]) :: ((Gs.ent 5 1 (Gs.at x y) (m.map u8V)) ++ ([]))) (by simp only [List.append_nil, List.append_assoc]) ?_
 have hy_ : m.length ≤ y := hk.1
 have hml_ : 0 < m.length := List.length_pos_iff.2 hm
 refine sr ?_
 refine os 1 ?_
 refine nq ?_
 refine SW_draw [(q, 1, Gs.val (Gs.at x y) m.length), (q, 1, Gs.val (Gs.at x y) m.length)] [0, 1, 2, 3, 4, 5, 6, 7, 8, 9] (by kernel_rfl) (rd_cons (Cell.own mem_z rfl) (rd_cons (Cell.own mem_z rfl) rd_nil)) ?_
 refine aS 0 ?_
 refine aS 1 ?_
 refine aF 2 ?_
 refine aL 3 ?_
 refine tk 4 (pt x 0) ?_ (hy := fun δ w_ => run_usd x m.length y (by omega) rfl)
 refine aS 5 ?_
 refine aS 6 ?_
 refine aF 7 ?_
 refine aL 8 ?_
 refine aS 9 ?_
 refine kpA [12, 7, 2, 0] ?_
 refine SA_perm _ (perm_cc perm_cz) ?_
 refine sa1 false 10 (h := O_us x y m Tryd.underlying130 (by kernel_rfl) hm hk (fun _ => rfl) (fun _ => rfl) rfl ?_)
 refine ⟨fun hnd => (by cases hnd), ?_⟩
 refine aS 11 ?_
 refine SA_done (by kernel_rfl) (n_then ?_)
 refine SW_ret ?_
 refine body_end (.string (bS m)) (fun _ => rfl) ?_
 exact ⟨(), ow, rfl⟩

end Go.Proofs.YtnhmmjogfkjceaaDoor
namespace Go.Proofs.YtnhmmjogfkjceaaDoor
open Go.Sl

theorem lex_putZ {W0 : World} {X T : Bytes} {a b num too : Nat} {z kind : Int} {g : Gs} {l : List Tok} (hz : z = (too : Int)) (hk : Gs.ok 4 l.length g (l.flatMap Tok.cells)) (hl : l.length ≤ 2097152) : SC Tryd.prog W0 22 #[pt b 0, .int .i64 kind, .string (bS T), .int .u64 (num : Int), .int .i64 z] ((b, .cells 45 3 [.string (bS X), .int .i64 (a : Int), Gs.val g l.length]) :: (Gs.ent 29 4 g (l.flatMap Tok.cells))) (Ret (fun q : Gs => (b, .cells 45 3 [.string (bS X), .int .i64 (too : Int), Gs.val q (l ++ [(⟨kind, a, T, num⟩ : Tok)]).length]) :: (Gs.ent 29 4 q ((l ++ [(⟨kind, a, T, num⟩ : Tok)]).flatMap Tok.cells))) (fun v q => v = .tuple #[] ∧ Gs.ok 4 (l ++ [(⟨kind, a, T, num⟩ : Tok)]).length q ((l ++ [(⟨kind, a, T, num⟩ : Tok)]).flatMap Tok.cells))) := by
 subst hz; exact lex_put hk hl

theorem lex_name {W0 : World} (hL : LaidL W0) {X : Bytes} {a b : Nat} {g : Gs} {l : List Tok} (hk : Gs.ok 4 l.length g (l.flatMap Tok.cells)) (hX : X.length ≤ 1048576) (hl : l.length ≤ 2097152) (ha : a < X.length) : SC Tryd.prog W0 40 #[pt b 0] ((b, .cells 45 3 [.string (bS X), .int .i64 (a : Int), Gs.val g l.length]) :: (Gs.ent 29 4 g (l.flatMap Tok.cells))) (Ret (fun q : Gs => (b, .cells 45 3 [.string (bS X), .int .i64 ((nameR X a).past a : Int), Gs.val q ((nameR X a).toks a l).length]) :: (Gs.ent 29 4 q (((nameR X a).toks a l).flatMap Tok.cells))) (fun v q => v = .int .i64 (nameR X a).err ∧ Gs.ok 4 ((nameR X a).toks a l).length q (((nameR X a).toks a l).flatMap Tok.cells))) := by
 refine SC_body (fn := Tryd.f40) (n := 36) Tryd.func40 rfl (by kernel_rfl) (ρ := [(0, pt b 0)]) rfl ?_
 refine SW_sig ((b, .cells 45 3 [.string (bS X), .int .i64 (a : Int), Gs.val g l.length]) :: ((Gs.ent 29 4 g (l.flatMap Tok.cells)) ++ ([]))) (by simp only [List.append_nil, List.append_assoc]) ?_
 refine sr ?_
 refine os 1 ?_
 refine nsr ?_
 refine os 4 ?_
 refine L (ld ?_)
 refine L (cl (lex_run_smallZ (X := X) (a := a) (m := a) (z := (a : Int)) (l := l) (by omega) hk hX (by omega)) ?_)
 rintro v1 _ hv1
 obtain rfl : v1 = .int .i64 (runL isSm X a : Int) := hv1.trans (rfl)
 refine un ?_
 refine os 1 ?_
 refine kp [3, 2, 0] ?_
 refine nq ?_
 have hge_ := runL_ge isSm X a
 have hle_ := runL_le (p := isSm) (X := X) (n := a) (by omega)
 refine SW_draw [(b, 0, .string (bS X)), (b, 1, .int .i64 (a : Int))] [0, 1, 2, 3, 4, 5, 6, 7, 8] (by kernel_rfl) (rd_cons (Cell.own mem_z rfl) (rd_cons (Cell.own mem_z rfl) rd_nil)) ?_
 refine aS 0 ?_
 refine aS 1 ?_
 refine aF 2 ?_
 refine aL 3 ?_
 refine aS 4 ?_
 refine aS 5 ?_
 refine aF 6 ?_
 refine aL 7 ?_
 refine aS 8 ?_
 refine tk 9 (.string (bS ((X.take ((runL isSm X a : Int)).toNat).drop ((a : Int)).toNat))) ?_ (hy := fun δ w => run_strMid (l := X) (a : Int) (runL isSm X a : Int) .i64 .i64 Tryd.underlying9 rfl rfl rfl (by omega) (by omega) (by omega))
 rw [show ((runL isSm X a : Int)).toNat = (runL isSm X a) from by omega, show ((a : Int)).toNat = a from by omega]
 refine kpA [20, 3, 2, 0] ?_
 refine aS 10 ?_
 refine SA_done (by kernel_rfl) (n_then ?_)
 refine SW_seq ?_
 refine SW_seq ?_
 generalize hT_ : ((X.take (runL isSm X a)).drop a : Bytes) = T
 have hTl_ : T.length ≤ X.length := by rw [← hT_, List.length_drop, List.length_take]; omega
 have hT'_ : nameT X a = T := hT_
 refine SW_region ?_
 refine os 1 ?_
 refine oX (.int .i64 ((bS T).size : Int)) (.int .i64 (T.length : Int)) (congrArg (fun n_ : Nat => Value.int .i64 (n_ : Int)) (bS_size _)) ?_
 refine os 1 ?_
 refine kp [23, 4, 3, 2, 0] ?_
 refine nt ?_
 refine cdp (fun hc1 : (T.length : Int) > 32 => ?_) (fun hc1 => ?_)
 ·refine sr ?_
  refine os 1 ?_
  refine nt ?_
  refine SW_ret (r_then ?_)
  refine body_end (.int .i64 53) (fun _ => rfl) ?_
  have hr_ : nameR X a = .bad 53 := nameR_bad (by rw [hT'_]; omega)
  rw [hr_]
  exact ⟨g, (ow (S := ((b, .cells 45 3 [.string (bS X), .int .i64 (a : Int), Gs.val g l.length]) :: (Gs.ent 29 4 g (l.flatMap Tok.cells))))), rfl, hk⟩
 refine SW_skip (n_then ?_)
 refine SW_seq ?_
 refine sr ?_
 refine os 1 ?_
 refine oV (.string (bS ([32] ++ T))) ?_ (hs := (fun δ w_ => run_catB [32] T (by simp; omega) rfl rfl))
 refine oV (.string (bS (([32] ++ T) ++ [32]))) ?_ (hs := (fun δ w_ => run_catB ([32] ++ T) [32] (by simp; omega) rfl rfl))
 refine L (cl (str_Contains hL wordsB (([32] ++ T) ++ [32]) (by decide)) ?_)
 rintro _ _ rfl
 refine un ?_
 refine nt ?_
 refine cd (fun hc2 : (Lib.contains wordsB (([32] ++ T) ++ [32])) = true => ?_) (fun hc2 => ?_)
 ·refine SW_region ?_
  refine os 3 ?_
  refine L (cl (lex_putZ (X := X) (T := T) (a := a) (num := 0) (too := (runL isSm X a)) (z := (runL isSm X a : Int)) (kind := 2) (l := l) (by omega) hk (by omega)) ?_)
  rintro _ q3 ⟨rfl, hkq3⟩
  refine un ?_
  refine nsr ?_
  refine os 1 ?_
  refine kp [2, 27, 23, 4, 3, 0] ?_
  refine nt ?_
  refine SW_ret ?_
  refine body_end (.int .i64 0) (fun _ => rfl) ?_
  have hr_ : nameR X a = .tok 2 T 0 (runL isSm X a) := by have := nameR_word (X := X) (a := a) (by rw [hT'_]; omega) (by rw [hT'_]; exact hc2); rwa [hT'_] at this
  rw [hr_]
  exact ⟨q3, (ow (S := ((b, .cells 45 3 [.string (bS X), .int .i64 ((runL isSm X a) : Int), Gs.val q3 (l ++ [(⟨2, a, T, 0⟩ : Tok)]).length]) :: (Gs.ent 29 4 q3 ((l ++ [(⟨2, a, T, 0⟩ : Tok)]).flatMap Tok.cells))))), rfl, hkq3⟩
 refine SW_region ?_
 refine os 3 ?_
 refine L (cl (lex_putZ (X := X) (T := T) (a := a) (num := 0) (too := (runL isSm X a)) (z := (runL isSm X a : Int)) (kind := 1) (l := l) (by omega) hk (by omega)) ?_)
 rintro _ q4 ⟨rfl, hkq4⟩
 refine un ?_
 refine nsr ?_
 refine os 1 ?_
 refine kp [2, 27, 23, 4, 3, 0] ?_
 refine nt ?_
 refine SW_ret ?_
 refine body_end (.int .i64 0) (fun _ => rfl) ?_
 have hr_ : nameR X a = .tok 1 T 0 (runL isSm X a) := by have := nameR_name (X := X) (a := a) (by rw [hT'_]; omega) (by rw [hT'_]; exact hc2); rwa [hT'_] at this
 rw [hr_]
 exact ⟨q4, (ow (S := ((b, .cells 45 3 [.string (bS X), .int .i64 ((runL isSm X a) : Int), Gs.val q4 (l ++ [(⟨1, a, T, 0⟩ : Tok)]).length]) :: (Gs.ent 29 4 q4 ((l ++ [(⟨1, a, T, 0⟩ : Tok)]).flatMap Tok.cells))))), rfl, hkq4⟩

theorem lex_number {W0 : World} (hL : LaidL W0) {X : Bytes} {a b : Nat} {g : Gs} {l : List Tok} (hk : Gs.ok 4 l.length g (l.flatMap Tok.cells)) (hX : X.length ≤ 1048576) (hl : l.length ≤ 2097152) (ha : a < X.length) : SC Tryd.prog W0 38 #[pt b 0] ((b, .cells 45 3 [.string (bS X), .int .i64 (a : Int), Gs.val g l.length]) :: (Gs.ent 29 4 g (l.flatMap Tok.cells))) (Ret (fun q : Gs => (b, .cells 45 3 [.string (bS X), .int .i64 ((numR X a).past a : Int), Gs.val q ((numR X a).toks a l).length]) :: (Gs.ent 29 4 q (((numR X a).toks a l).flatMap Tok.cells))) (fun v q => v = .int .i64 (numR X a).err ∧ Gs.ok 4 ((numR X a).toks a l).length q (((numR X a).toks a l).flatMap Tok.cells))) := by
 refine SC_body (fn := Tryd.f38) (n := 145) Tryd.func38 rfl (by kernel_rfl) (ρ := [(0, pt b 0)]) rfl ?_
 refine SW_sig ((b, .cells 45 3 [.string (bS X), .int .i64 (a : Int), Gs.val g l.length]) :: ((Gs.ent 29 4 g (l.flatMap Tok.cells)) ++ ([]))) (by simp only [List.append_nil, List.append_assoc]) ?_
 refine sr ?_
 refine os 1 ?_
 refine nsr ?_
 refine os 4 ?_
 refine L (ld ?_)
 refine L (cl (lex_run_digitZ (X := X) (a := a) (m := a) (z := (a : Int)) (l := l) (by omega) hk hX (by omega)) ?_)
 rintro v1 _ hv1
 obtain rfl : v1 = .int .i64 (runL isDig X a : Int) := hv1.trans (rfl)
 refine un ?_
 refine os 1 ?_
 refine kp [3, 2, 0] ?_
 refine nq ?_
 refine SW_seq ?_
 refine SW_cut3 (fun ρ_ σ_ => Fits ρ_ σ_ [(0, pt b 0), (3, .int .i64 (numE X a : Int))] ((b, .cells 45 3 [.string (bS X), .int .i64 (a : Int), Gs.val g l.length]) :: ((Gs.ent 29 4 g (l.flatMap Tok.cells)) ++ ([])))) ?_ ?_
 ·refine SW_region ?_
  refine os 1 ?_
  refine L (cl (lex_peek (X := X) (a := a) (k := 0) (l := l) hk hX (by omega) (by decide)) ?_)
  rintro v2 _ hv2
  obtain rfl : v2 = .int .u8 ((atB X a).toNat : Int) := hv2.trans (rfl)
  refine un ?_
  refine os 2 ?_
  refine tb 15 (fun hg1 => ?_) (fun hg1 => ?_)
  ·replace hg1 : (((atB X a).toNat : Int) == 48) = true := hg1
   simp only [beq_iff_eq, bne_iff_ne, ne_eq, beq_eq_false_iff_ne, bne_eq_false_iff_eq, Classical.not_not] at hg1
   refine os 1 ?_
   refine L (cl (lex_peek (X := X) (a := a) (k := 1) (l := l) hk hX (by omega) (by decide)) ?_)
   rintro v3 _ hv3
   obtain rfl : v3 = .int .u8 ((atB X (a + 1)).toNat : Int) := hv3.trans (rfl)
   refine un ?_
   refine os 2 ?_
   refine kp [19, 3, 2, 0] ?_
   refine nt ?_
   refine cd (fun hc2 : (((atB X (a + 1)).toNat : Int) == 120) = true => ?_) (fun hc2 => ?_)
   ·simp only [beq_iff_eq, bne_iff_ne, ne_eq, beq_eq_false_iff_ne, bne_eq_false_iff_eq, Classical.not_not] at hc2
    have hal_ : a + 1 < X.length := atB_lt (by omega)
    refine SW_region ?_
    refine os 4 ?_
    refine L (ld ?_)
    refine os 1 ?_
    refine L (cl (lex_run_baseZ (X := X) (a := a) (m := (a + 2)) (z := ((a : Int) + 2)) (l := l) (by omega) hk hX (by omega)) ?_)
    rintro v4 _ hv4
    obtain rfl : v4 = .int .i64 (runL isHx X (a + 2) : Int) := hv4.trans (rfl)
    refine un ?_
    refine os 1 ?_
    refine kp [3, 19, 2, 0] ?_
    refine nt ?_
    rw [numE_hex (X := X) (a := a) (by omega)]
    exact ⟨fun _ => rfl, ow⟩
   simp only [beq_iff_eq, bne_iff_ne, ne_eq, beq_eq_false_iff_ne, bne_eq_false_iff_eq, Classical.not_not] at hc2
   refine SW_seq ?_
   refine SW_seq ?_
   have hdl_ := runL_le (p := isDig) (X := X) (n := a) (by omega)
   refine SW_cut3 (fun ρ_ σ_ => Fits ρ_ σ_ [(0, pt b 0), (3, .int .i64 (numFr X (runL isDig X a) : Int))] ((b, .cells 45 3 [.string (bS X), .int .i64 (a : Int), Gs.val g l.length]) :: ((Gs.ent 29 4 g (l.flatMap Tok.cells)) ++ ([])))) ?_ ?_
   ·refine SW_region ?_
    refine os 5 ?_
    refine L (ld ?_)
    refine oX (.int .i64 ((bS X).size : Int)) (.int .i64 (X.length : Int)) (congrArg (fun n_ : Nat => Value.int .i64 (n_ : Int)) (bS_size _)) ?_
    refine os 2 ?_
    refine kp [35, 19, 3, 2, 0] ?_
    refine tbp 35 (fun hg3 => ?_) (fun hg3 => ?_)
    ·replace hg3 : ((runL isDig X a : Int) + 1) < (X.length : Int) := hg3
     refine os 3 ?_
     refine L (ld ?_)
     refine os 1 ?_
     obtain ⟨e1, he1⟩ : ∃ y_, X[(runL isDig X a)]? = some y_ := ⟨_, List.getElem?_eq_getElem (by omega)⟩
     refine ixb (runL isDig X a : Int) X .i64 e1 Tryd.underlying9 (by rw [show ((runL isDig X a : Int)).toNat = (runL isDig X a) from by omega]; exact he1) ?_
     refine os 3 ?_
     refine kp [44, 19, 3, 2, 0] ?_
     refine tb 44 (fun hg4 => ?_) (fun hg4 => ?_)
     ·replace hg4 : ((e1.toNat : Int) == 46) = true := hg4
      simp only [beq_iff_eq, bne_iff_ne, ne_eq, beq_eq_false_iff_ne, bne_eq_false_iff_eq, Classical.not_not] at hg4
      refine os 3 ?_
      refine L (ld ?_)
      refine os 2 ?_
      obtain ⟨e2, he2⟩ : ∃ y_, X[(runL isDig X a + 1)]? = some y_ := ⟨_, List.getElem?_eq_getElem (by omega)⟩
      refine ixb ((runL isDig X a : Int) + 1) X .i64 e2 Tryd.underlying9 (by rw [show ((runL isDig X a : Int) + 1).toNat = (runL isDig X a + 1) from by omega]; exact he2) ?_
      refine L (cl (lex_digit (c := e2)) ?_)
      rintro v5 _ hv5
      obtain rfl : v5 = .bool (decide (48 ≤ (e2.toNat : Int) ∧ (e2.toNat : Int) ≤ 57)) := hv5.trans (by rw [dig_at])
      refine un ?_
      refine os 1 ?_
      refine kp [53, 19, 3, 2, 0] ?_
      refine nt ?_
      refine cdp (fun hc5 : 48 ≤ (e2.toNat : Int) ∧ (e2.toNat : Int) ≤ 57 => ?_) (fun hc5 => ?_)
      ·refine SW_region ?_
       refine os 3 ?_
       refine L (cl (lex_run_digitZ (X := X) (a := a) (m := (runL isDig X a + 1)) (z := ((runL isDig X a : Int) + 1)) (l := l) (by omega) hk hX (by omega)) ?_)
       rintro v6 _ hv6
       obtain rfl : v6 = .int .i64 (runL isDig X (runL isDig X a + 1) : Int) := hv6.trans (rfl)
       refine un ?_
       refine os 1 ?_
       refine kp [3, 53, 19, 2, 0] ?_
       refine nt ?_
       rw [numFr_yes he1 he2 (by omega) (by omega)]
       exact ⟨fun _ => rfl, ow⟩
      refine SW_skip (n_then ?_)
      rw [numFr_no3 he2 (by omega)]
      exact ⟨fun _ => rfl, ow⟩
     replace hg4 : ((e1.toNat : Int) == 46) = false := hg4
     simp only [beq_iff_eq, bne_iff_ne, ne_eq, beq_eq_false_iff_ne, bne_eq_false_iff_eq, Classical.not_not] at hg4
     refine os 9 ?_
     refine kp [53, 19, 3, 2, 0] ?_
     refine nt ?_
     refine cf ?_
     refine SW_skip (n_then ?_)
     rw [numFr_no2 he1 (by omega)]
     exact ⟨fun _ => rfl, ow⟩
    replace hg3 : ¬ (((runL isDig X a : Int) + 1) < (X.length : Int)) := hg3
    refine os 18 ?_
    refine kp [53, 19, 3, 2, 0] ?_
    refine nt ?_
    refine cf ?_
    refine SW_skip (n_then ?_)
    rw [numFr_no1 (X := X) (t := (runL isDig X a)) (by omega)]
    exact ⟨fun _ => rfl, ow⟩
   ·rintro ρ_ σ_ hfit
    refine SW_fits hfit ?_
    clear hfit
    refine SW_seq ?_
    have hfl_ := numFr_le (X := X) hdl_
    refine SW_cut3 (fun ρ_ σ_ => Fits ρ_ σ_ [(0, pt b 0), (3, .int .i64 (numEx X (numFr X (runL isDig X a)) : Int))] ((b, .cells 45 3 [.string (bS X), .int .i64 (a : Int), Gs.val g l.length]) :: ((Gs.ent 29 4 g (l.flatMap Tok.cells)) ++ ([])))) ?_ ?_
    ·refine SW_region ?_
     refine os 4 ?_
     refine L (ld ?_)
     refine oX (.int .i64 ((bS X).size : Int)) (.int .i64 (X.length : Int)) (congrArg (fun n_ : Nat => Value.int .i64 (n_ : Int)) (bS_size _)) ?_
     refine os 2 ?_
     refine kp [65, 0, 3] ?_
     refine tbp 65 (fun hg6 => ?_) (fun hg6 => ?_)
     ·replace hg6 : (numFr X (runL isDig X a) : Int) < (X.length : Int) := hg6
      refine os 3 ?_
      refine L (ld ?_)
      refine os 1 ?_
      obtain ⟨e3, he3⟩ : ∃ y_, X[(numFr X (runL isDig X a))]? = some y_ := ⟨_, List.getElem?_eq_getElem (by omega)⟩
      refine ixb (numFr X (runL isDig X a) : Int) X .i64 e3 Tryd.underlying9 (by rw [show ((numFr X (runL isDig X a) : Int)).toNat = (numFr X (runL isDig X a)) from by omega]; exact he3) ?_
      refine oV (.int .u8 ((e3 ||| 32).toNat : Int)) ?_ (hs := or8R (m := (e3.toNat : Int)) (c := 32) _ (or8 e3))
      refine os 2 ?_
      refine kp [74, 0, 3] ?_
      refine nt ?_
      refine cd (fun hc7 : (((e3 ||| 32).toNat : Int) == 101) = true => ?_) (fun hc7 => ?_)
      ·simp only [beq_iff_eq, bne_iff_ne, ne_eq, beq_eq_false_iff_ne, bne_eq_false_iff_eq, Classical.not_not] at hc7
       refine sr ?_
       refine os 3 ?_
       refine nq ?_
       refine SW_seq ?_
       rw [show (numFr X (runL isDig X a) : Int) + 1 = (((numFr X (runL isDig X a) + 1) : Nat) : Int) from by omega]
       refine SW_cut3 (fun ρ_ σ_ => Fits ρ_ σ_ [(0, pt b 0), (3, .int .i64 (numSg X (numFr X (runL isDig X a) + 1) : Int))] ((b, .cells 45 3 [.string (bS X), .int .i64 (a : Int), Gs.val g l.length]) :: ((Gs.ent 29 4 g (l.flatMap Tok.cells)) ++ ([])))) ?_ ?_
       ·refine SW_region ?_
        refine os 4 ?_
        refine L (ld ?_)
        refine oX (.int .i64 ((bS X).size : Int)) (.int .i64 (X.length : Int)) (congrArg (fun n_ : Nat => Value.int .i64 (n_ : Int)) (bS_size _)) ?_
        refine os 2 ?_
        refine kp [84, 3, 74, 0] ?_
        refine tbp 84 (fun hg8 => ?_) (fun hg8 => ?_)
        ·replace hg8 : (((numFr X (runL isDig X a) + 1) : Nat) : Int) < (X.length : Int) := hg8
         refine os 3 ?_
         refine L (ld ?_)
         refine os 1 ?_
         obtain ⟨e4, he4⟩ : ∃ y_, X[(numFr X (runL isDig X a) + 1)]? = some y_ := ⟨_, List.getElem?_eq_getElem (by omega)⟩
         refine ixb (((numFr X (runL isDig X a) + 1) : Nat) : Int) X .i64 e4 Tryd.underlying9 (by rw [show ((((numFr X (runL isDig X a) + 1) : Nat) : Int)).toNat = (numFr X (runL isDig X a) + 1) from by omega]; exact he4) ?_
         refine os 2 ?_
         refine kp [92, 84, 3, 74, 0] ?_
         refine tb 92 (fun hg9 => ?_) (fun hg9 => ?_)
         ·replace hg9 : ((e4.toNat : Int) == 43) = true := hg9
          simp only [beq_iff_eq, bne_iff_ne, ne_eq, beq_eq_false_iff_ne, bne_eq_false_iff_eq, Classical.not_not] at hg9
          refine os 9 ?_
          refine kp [101, 3, 74, 0] ?_
          refine nt ?_
          refine ct ?_
          refine SW_region ?_
          refine os 3 ?_
          refine nt ?_
          rw [numSg_yes he4 (by omega)]
          exact ⟨fun _ => rfl, ow⟩
         replace hg9 : ((e4.toNat : Int) == 43) = false := hg9
         simp only [beq_iff_eq, bne_iff_ne, ne_eq, beq_eq_false_iff_ne, bne_eq_false_iff_eq, Classical.not_not] at hg9
         refine os 3 ?_
         refine L (ld ?_)
         refine os 1 ?_
         refine ixb (((numFr X (runL isDig X a) + 1) : Nat) : Int) X .i64 e4 Tryd.underlying9 (by rw [show ((((numFr X (runL isDig X a) + 1) : Nat) : Int)).toNat = (numFr X (runL isDig X a) + 1) from by omega]; exact he4) ?_
         refine os 3 ?_
         refine kp [101, 3, 74, 0] ?_
         refine nt ?_
         refine cd (fun hc10 : ((e4.toNat : Int) == 45) = true => ?_) (fun hc10 => ?_)
         ·simp only [beq_iff_eq, bne_iff_ne, ne_eq, beq_eq_false_iff_ne, bne_eq_false_iff_eq, Classical.not_not] at hc10
          refine SW_region ?_
          refine os 3 ?_
          refine nt ?_
          rw [numSg_yes he4 (by omega)]
          exact ⟨fun _ => rfl, ow⟩
         simp only [beq_iff_eq, bne_iff_ne, ne_eq, beq_eq_false_iff_ne, bne_eq_false_iff_eq, Classical.not_not] at hc10
         refine SW_skip (n_then ?_)
         rw [numSg_no2 he4 (by omega)]
         exact ⟨fun _ => rfl, ow⟩
        replace hg8 : ¬ ((((numFr X (runL isDig X a) + 1) : Nat) : Int) < (X.length : Int)) := hg8
        refine os 17 ?_
        refine kp [101, 3, 74, 0] ?_
        refine nt ?_
        refine cf ?_
        refine SW_skip (n_then ?_)
        rw [numSg_no1 (X := X) (t := (numFr X (runL isDig X a) + 1)) (by omega)]
        exact ⟨fun _ => rfl, ow⟩
       ·rintro ρ_ σ_ hfit
        refine SW_fits hfit ?_
        clear hfit
        have hsl_ := numSg_le (X := X) (t := (numFr X (runL isDig X a) + 1)) (by omega)
        refine SW_region ?_
        refine os 2 ?_
        refine L (cl (lex_run_digitZ (X := X) (a := a) (m := numSg X (numFr X (runL isDig X a) + 1)) (z := (numSg X (numFr X (runL isDig X a) + 1) : Int)) (l := l) (by omega) hk hX (by omega)) ?_)
        rintro v7 _ hv7
        obtain rfl : v7 = .int .i64 (runL isDig X (numSg X (numFr X (runL isDig X a) + 1)) : Int) := hv7.trans (rfl)
        refine un ?_
        refine os 1 ?_
        refine kp [3, 0] ?_
        refine nt ?_
        rw [numEx_yes he3 (by omega)]
        exact ⟨fun _ => rfl, ow⟩
      simp only [beq_iff_eq, bne_iff_ne, ne_eq, beq_eq_false_iff_ne, bne_eq_false_iff_eq, Classical.not_not] at hc7
      refine SW_skip (n_then ?_)
      rw [numEx_no2 he3 (by omega)]
      exact ⟨fun _ => rfl, ow⟩
     replace hg6 : ¬ ((numFr X (runL isDig X a) : Int) < (X.length : Int)) := hg6
     refine os 9 ?_
     refine kp [74, 0, 3] ?_
     refine nt ?_
     refine cf ?_
     refine SW_skip (n_then ?_)
     rw [numEx_no1 (X := X) (t := (numFr X (runL isDig X a))) (by omega)]
     exact ⟨fun _ => rfl, ow⟩
    ·rintro ρ_ σ_ hfit
     rw [numE_dec (X := X) (a := a) (by omega)]
     exact hfit
  replace hg1 : (((atB X a).toNat : Int) == 48) = false := hg1
  simp only [beq_iff_eq, bne_iff_ne, ne_eq, beq_eq_false_iff_ne, bne_eq_false_iff_eq, Classical.not_not] at hg1
  refine os 4 ?_
  refine kp [19, 3, 2, 0] ?_
  refine nt ?_
  refine cf ?_
  refine SW_seq ?_
  refine SW_seq ?_
  have hdl_ := runL_le (p := isDig) (X := X) (n := a) (by omega)
  refine SW_cut3 (fun ρ_ σ_ => Fits ρ_ σ_ [(0, pt b 0), (3, .int .i64 (numFr X (runL isDig X a) : Int))] ((b, .cells 45 3 [.string (bS X), .int .i64 (a : Int), Gs.val g l.length]) :: ((Gs.ent 29 4 g (l.flatMap Tok.cells)) ++ ([])))) ?_ ?_
  ·refine SW_region ?_
   refine os 5 ?_
   refine L (ld ?_)
   refine oX (.int .i64 ((bS X).size : Int)) (.int .i64 (X.length : Int)) (congrArg (fun n_ : Nat => Value.int .i64 (n_ : Int)) (bS_size _)) ?_
   refine os 2 ?_
   refine kp [35, 19, 3, 2, 0] ?_
   refine tbp 35 (fun hg11 => ?_) (fun hg11 => ?_)
   ·replace hg11 : ((runL isDig X a : Int) + 1) < (X.length : Int) := hg11
    refine os 3 ?_
    refine L (ld ?_)
    refine os 1 ?_
    obtain ⟨e5, he5⟩ : ∃ y_, X[(runL isDig X a)]? = some y_ := ⟨_, List.getElem?_eq_getElem (by omega)⟩
    refine ixb (runL isDig X a : Int) X .i64 e5 Tryd.underlying9 (by rw [show ((runL isDig X a : Int)).toNat = (runL isDig X a) from by omega]; exact he5) ?_
    refine os 3 ?_
    refine kp [44, 19, 3, 2, 0] ?_
    refine tb 44 (fun hg12 => ?_) (fun hg12 => ?_)
    ·replace hg12 : ((e5.toNat : Int) == 46) = true := hg12
     simp only [beq_iff_eq, bne_iff_ne, ne_eq, beq_eq_false_iff_ne, bne_eq_false_iff_eq, Classical.not_not] at hg12
     refine os 3 ?_
     refine L (ld ?_)
     refine os 2 ?_
     obtain ⟨e6, he6⟩ : ∃ y_, X[(runL isDig X a + 1)]? = some y_ := ⟨_, List.getElem?_eq_getElem (by omega)⟩
     refine ixb ((runL isDig X a : Int) + 1) X .i64 e6 Tryd.underlying9 (by rw [show ((runL isDig X a : Int) + 1).toNat = (runL isDig X a + 1) from by omega]; exact he6) ?_
     refine L (cl (lex_digit (c := e6)) ?_)
     rintro v8 _ hv8
     obtain rfl : v8 = .bool (decide (48 ≤ (e6.toNat : Int) ∧ (e6.toNat : Int) ≤ 57)) := hv8.trans (by rw [dig_at])
     refine un ?_
     refine os 1 ?_
     refine kp [53, 19, 3, 2, 0] ?_
     refine nt ?_
     refine cdp (fun hc13 : 48 ≤ (e6.toNat : Int) ∧ (e6.toNat : Int) ≤ 57 => ?_) (fun hc13 => ?_)
     ·refine SW_region ?_
      refine os 3 ?_
      refine L (cl (lex_run_digitZ (X := X) (a := a) (m := (runL isDig X a + 1)) (z := ((runL isDig X a : Int) + 1)) (l := l) (by omega) hk hX (by omega)) ?_)
      rintro v9 _ hv9
      obtain rfl : v9 = .int .i64 (runL isDig X (runL isDig X a + 1) : Int) := hv9.trans (rfl)
      refine un ?_
      refine os 1 ?_
      refine kp [3, 53, 19, 2, 0] ?_
      refine nt ?_
      rw [numFr_yes he5 he6 (by omega) (by omega)]
      exact ⟨fun _ => rfl, ow⟩
     refine SW_skip (n_then ?_)
     rw [numFr_no3 he6 (by omega)]
     exact ⟨fun _ => rfl, ow⟩
    replace hg12 : ((e5.toNat : Int) == 46) = false := hg12
    simp only [beq_iff_eq, bne_iff_ne, ne_eq, beq_eq_false_iff_ne, bne_eq_false_iff_eq, Classical.not_not] at hg12
    refine os 9 ?_
    refine kp [53, 19, 3, 2, 0] ?_
    refine nt ?_
    refine cf ?_
    refine SW_skip (n_then ?_)
    rw [numFr_no2 he5 (by omega)]
    exact ⟨fun _ => rfl, ow⟩
   replace hg11 : ¬ (((runL isDig X a : Int) + 1) < (X.length : Int)) := hg11
   refine os 18 ?_
   refine kp [53, 19, 3, 2, 0] ?_
   refine nt ?_
   refine cf ?_
   refine SW_skip (n_then ?_)
   rw [numFr_no1 (X := X) (t := (runL isDig X a)) (by omega)]
   exact ⟨fun _ => rfl, ow⟩
  ·rintro ρ_ σ_ hfit
   refine SW_fits hfit ?_
   clear hfit
   refine SW_seq ?_
   have hfl_ := numFr_le (X := X) hdl_
   refine SW_cut3 (fun ρ_ σ_ => Fits ρ_ σ_ [(0, pt b 0), (3, .int .i64 (numEx X (numFr X (runL isDig X a)) : Int))] ((b, .cells 45 3 [.string (bS X), .int .i64 (a : Int), Gs.val g l.length]) :: ((Gs.ent 29 4 g (l.flatMap Tok.cells)) ++ ([])))) ?_ ?_
   ·refine SW_region ?_
    refine os 4 ?_
    refine L (ld ?_)
    refine oX (.int .i64 ((bS X).size : Int)) (.int .i64 (X.length : Int)) (congrArg (fun n_ : Nat => Value.int .i64 (n_ : Int)) (bS_size _)) ?_
    refine os 2 ?_
    refine kp [65, 0, 3] ?_
    refine tbp 65 (fun hg14 => ?_) (fun hg14 => ?_)
    ·replace hg14 : (numFr X (runL isDig X a) : Int) < (X.length : Int) := hg14
     refine os 3 ?_
     refine L (ld ?_)
     refine os 1 ?_
     obtain ⟨e7, he7⟩ : ∃ y_, X[(numFr X (runL isDig X a))]? = some y_ := ⟨_, List.getElem?_eq_getElem (by omega)⟩
     refine ixb (numFr X (runL isDig X a) : Int) X .i64 e7 Tryd.underlying9 (by rw [show ((numFr X (runL isDig X a) : Int)).toNat = (numFr X (runL isDig X a)) from by omega]; exact he7) ?_
     refine oV (.int .u8 ((e7 ||| 32).toNat : Int)) ?_ (hs := or8R (m := (e7.toNat : Int)) (c := 32) _ (or8 e7))
     refine os 2 ?_
     refine kp [74, 0, 3] ?_
     refine nt ?_
     refine cd (fun hc15 : (((e7 ||| 32).toNat : Int) == 101) = true => ?_) (fun hc15 => ?_)
     ·simp only [beq_iff_eq, bne_iff_ne, ne_eq, beq_eq_false_iff_ne, bne_eq_false_iff_eq, Classical.not_not] at hc15
      refine sr ?_
      refine os 3 ?_
      refine nq ?_
      refine SW_seq ?_
      rw [show (numFr X (runL isDig X a) : Int) + 1 = (((numFr X (runL isDig X a) + 1) : Nat) : Int) from by omega]
      refine SW_cut3 (fun ρ_ σ_ => Fits ρ_ σ_ [(0, pt b 0), (3, .int .i64 (numSg X (numFr X (runL isDig X a) + 1) : Int))] ((b, .cells 45 3 [.string (bS X), .int .i64 (a : Int), Gs.val g l.length]) :: ((Gs.ent 29 4 g (l.flatMap Tok.cells)) ++ ([])))) ?_ ?_
      ·refine SW_region ?_
       refine os 4 ?_
       refine L (ld ?_)
       refine oX (.int .i64 ((bS X).size : Int)) (.int .i64 (X.length : Int)) (congrArg (fun n_ : Nat => Value.int .i64 (n_ : Int)) (bS_size _)) ?_
       refine os 2 ?_
       refine kp [84, 3, 74, 0] ?_
       refine tbp 84 (fun hg16 => ?_) (fun hg16 => ?_)
       ·replace hg16 : (((numFr X (runL isDig X a) + 1) : Nat) : Int) < (X.length : Int) := hg16
        refine os 3 ?_
        refine L (ld ?_)
        refine os 1 ?_
        obtain ⟨e8, he8⟩ : ∃ y_, X[(numFr X (runL isDig X a) + 1)]? = some y_ := ⟨_, List.getElem?_eq_getElem (by omega)⟩
        refine ixb (((numFr X (runL isDig X a) + 1) : Nat) : Int) X .i64 e8 Tryd.underlying9 (by rw [show ((((numFr X (runL isDig X a) + 1) : Nat) : Int)).toNat = (numFr X (runL isDig X a) + 1) from by omega]; exact he8) ?_
        refine os 2 ?_
        refine kp [92, 84, 3, 74, 0] ?_
        refine tb 92 (fun hg17 => ?_) (fun hg17 => ?_)
        ·replace hg17 : ((e8.toNat : Int) == 43) = true := hg17
         simp only [beq_iff_eq, bne_iff_ne, ne_eq, beq_eq_false_iff_ne, bne_eq_false_iff_eq, Classical.not_not] at hg17
         refine os 9 ?_
         refine kp [101, 3, 74, 0] ?_
         refine nt ?_
         refine ct ?_
         refine SW_region ?_
         refine os 3 ?_
         refine nt ?_
         rw [numSg_yes he8 (by omega)]
         exact ⟨fun _ => rfl, ow⟩
        replace hg17 : ((e8.toNat : Int) == 43) = false := hg17
        simp only [beq_iff_eq, bne_iff_ne, ne_eq, beq_eq_false_iff_ne, bne_eq_false_iff_eq, Classical.not_not] at hg17
        refine os 3 ?_
        refine L (ld ?_)
        refine os 1 ?_
        refine ixb (((numFr X (runL isDig X a) + 1) : Nat) : Int) X .i64 e8 Tryd.underlying9 (by rw [show ((((numFr X (runL isDig X a) + 1) : Nat) : Int)).toNat = (numFr X (runL isDig X a) + 1) from by omega]; exact he8) ?_
        refine os 3 ?_
        refine kp [101, 3, 74, 0] ?_
        refine nt ?_
        refine cd (fun hc18 : ((e8.toNat : Int) == 45) = true => ?_) (fun hc18 => ?_)
        ·simp only [beq_iff_eq, bne_iff_ne, ne_eq, beq_eq_false_iff_ne, bne_eq_false_iff_eq, Classical.not_not] at hc18
         refine SW_region ?_
         refine os 3 ?_
         refine nt ?_
         rw [numSg_yes he8 (by omega)]
         exact ⟨fun _ => rfl, ow⟩
        simp only [beq_iff_eq, bne_iff_ne, ne_eq, beq_eq_false_iff_ne, bne_eq_false_iff_eq, Classical.not_not] at hc18
        refine SW_skip (n_then ?_)
        rw [numSg_no2 he8 (by omega)]
        exact ⟨fun _ => rfl, ow⟩
       replace hg16 : ¬ ((((numFr X (runL isDig X a) + 1) : Nat) : Int) < (X.length : Int)) := hg16
       refine os 17 ?_
       refine kp [101, 3, 74, 0] ?_
       refine nt ?_
       refine cf ?_
       refine SW_skip (n_then ?_)
       rw [numSg_no1 (X := X) (t := (numFr X (runL isDig X a) + 1)) (by omega)]
       exact ⟨fun _ => rfl, ow⟩
      ·rintro ρ_ σ_ hfit
       refine SW_fits hfit ?_
       clear hfit
       have hsl_ := numSg_le (X := X) (t := (numFr X (runL isDig X a) + 1)) (by omega)
       refine SW_region ?_
       refine os 2 ?_
       refine L (cl (lex_run_digitZ (X := X) (a := a) (m := numSg X (numFr X (runL isDig X a) + 1)) (z := (numSg X (numFr X (runL isDig X a) + 1) : Int)) (l := l) (by omega) hk hX (by omega)) ?_)
       rintro v10 _ hv10
       obtain rfl : v10 = .int .i64 (runL isDig X (numSg X (numFr X (runL isDig X a) + 1)) : Int) := hv10.trans (rfl)
       refine un ?_
       refine os 1 ?_
       refine kp [3, 0] ?_
       refine nt ?_
       rw [numEx_yes he7 (by omega)]
       exact ⟨fun _ => rfl, ow⟩
     simp only [beq_iff_eq, bne_iff_ne, ne_eq, beq_eq_false_iff_ne, bne_eq_false_iff_eq, Classical.not_not] at hc15
     refine SW_skip (n_then ?_)
     rw [numEx_no2 he7 (by omega)]
     exact ⟨fun _ => rfl, ow⟩
    replace hg14 : ¬ ((numFr X (runL isDig X a) : Int) < (X.length : Int)) := hg14
    refine os 9 ?_
    refine kp [74, 0, 3] ?_
    refine nt ?_
    refine cf ?_
    refine SW_skip (n_then ?_)
    rw [numEx_no1 (X := X) (t := (numFr X (runL isDig X a))) (by omega)]
    exact ⟨fun _ => rfl, ow⟩
   ·rintro ρ_ σ_ hfit
    rw [numE_dec (X := X) (a := a) (by omega)]
    exact hfit
 ·rintro ρ_ σ_ hfit
  refine SW_fits hfit ?_
  clear hfit
  refine SW_seq ?_
  have hel_ := numE_le (X := X) (a := a) (by omega)
  have heg_ := numE_ge X a
  refine SW_draw [(b, 0, .string (bS X)), (b, 1, .int .i64 (a : Int))] [0, 1, 2, 3, 4, 5, 6, 7, 8] (by kernel_rfl) (rd_cons (Cell.own mem_z rfl) (rd_cons (Cell.own mem_z rfl) rd_nil)) ?_
  refine aS 0 ?_
  refine aS 1 ?_
  refine aF 2 ?_
  refine aL 3 ?_
  refine aS 4 ?_
  refine aS 5 ?_
  refine aF 6 ?_
  refine aL 7 ?_
  refine aS 8 ?_
  refine tk 9 (.string (bS ((X.take ((numE X a : Int)).toNat).drop ((a : Int)).toNat))) ?_ (hy := fun δ w => run_strMid (l := X) (a : Int) (numE X a : Int) .i64 .i64 Tryd.underlying9 rfl rfl rfl (by omega) (by omega) (by omega))
  rw [show ((numE X a : Int)).toNat = (numE X a) from by omega, show ((a : Int)).toNat = a from by omega]
  refine kpA [117, 0, 3] ?_
  refine sa1 false 10 (h := cl (num_Literal (X := ((X.take (numE X a)).drop a)) (by simp; omega)) ?_)
  rintro v12 _ hv12
  obtain rfl : v12 = .tuple #[.int .u64 ((litP ((X.take (numE X a)).drop a)).1 : Int), .bool ((litP ((X.take (numE X a)).drop a)).2)] := hv12.trans (rfl)
  try simp only [List.cons_append, List.append_assoc, List.nil_append]
  refine ⟨fun hnd => (by cases hnd), ?_⟩
  refine aS 11 ?_
  refine aS 12 ?_
  refine aS 13 ?_
  refine aS 14 ?_
  refine aS 15 ?_
  refine SA_done (by kernel_rfl) (n_then ?_)
  refine SW_seq ?_
  refine sr ?_
  refine os 3 ?_
  refine kp [123, 5, 4, 0, 3] ?_
  refine tb 123 (fun hg19 => ?_) (fun hg19 => ?_)
  ·replace hg19 : (!((litP ((X.take (numE X a)).drop a)).2)) = true := hg19
   replace hg19 := bnot_t hg19
   refine os 17 ?_
   refine kp [140, 5, 4, 0, 3] ?_
   refine nt ?_
   refine ct ?_
   refine sr ?_
   refine os 1 ?_
   refine nt ?_
   refine SW_ret (r_then ?_)
   refine body_end (.int .i64 54) (fun _ => rfl) ?_
   have hr_ : numR X a = .bad 54 := numR_bad1 hg19
   rw [hr_]
   exact ⟨g, (ow (S := ((b, .cells 45 3 [.string (bS X), .int .i64 (a : Int), Gs.val g l.length]) :: (Gs.ent 29 4 g (l.flatMap Tok.cells))))), rfl, hk⟩
  replace hg19 : (!((litP ((X.take (numE X a)).drop a)).2)) = false := hg19
  replace hg19 := bnot_f hg19
  refine os 4 ?_
  refine L (ld ?_)
  refine oX (.int .i64 ((bS X).size : Int)) (.int .i64 (X.length : Int)) (congrArg (fun n_ : Nat => Value.int .i64 (n_ : Int)) (bS_size _)) ?_
  refine os 2 ?_
  refine kp [131, 123, 5, 4, 0, 3] ?_
  refine tbp 131 (fun hg20 => ?_) (fun hg20 => ?_)
  ·replace hg20 : (numE X a : Int) < (X.length : Int) := hg20
   refine os 3 ?_
   refine L (ld ?_)
   refine os 1 ?_
   obtain ⟨e9, he9⟩ : ∃ y_, X[(numE X a)]? = some y_ := ⟨_, List.getElem?_eq_getElem (by omega)⟩
   refine ixb (numE X a : Int) X .i64 e9 Tryd.underlying9 (by rw [show ((numE X a : Int)).toNat = (numE X a) from by omega]; exact he9) ?_
   refine L (cl (lex_small (c := e9)) ?_)
   rintro _ _ rfl
   refine un ?_
   refine os 2 ?_
   refine kp [140, 5, 4, 0, 3] ?_
   refine nt ?_
   refine cd (fun hc21 : (isSm e9) = true => ?_) (fun hc21 => ?_)
   ·refine sr ?_
    refine os 1 ?_
    refine nt ?_
    refine SW_ret (r_then ?_)
    refine body_end (.int .i64 54) (fun _ => rfl) ?_
    have hr_ : numR X a = .bad 54 := numR_bad2 he9 hc21
    rw [hr_]
    exact ⟨g, (ow (S := ((b, .cells 45 3 [.string (bS X), .int .i64 (a : Int), Gs.val g l.length]) :: (Gs.ent 29 4 g (l.flatMap Tok.cells))))), rfl, hk⟩
   refine SW_skip (n_then ?_)
   refine sr ?_
   refine os 3 ?_
   refine L (cl (lex_putZ (X := X) (T := []) (a := a) (num := ((litP ((X.take (numE X a)).drop a)).1)) (too := (numE X a)) (z := (numE X a : Int)) (kind := 3) (l := l) (by omega) hk (by omega)) ?_)
   rintro _ q22 ⟨rfl, hkq22⟩
   refine un ?_
   refine nsr ?_
   refine os 1 ?_
   refine kp [2, 140, 5, 4, 0, 3] ?_
   refine nt ?_
   refine SW_ret ?_
   refine body_end (.int .i64 0) (fun _ => rfl) ?_
   have hr_ : numR X a = .tok 3 [] (litP ((X.take (numE X a)).drop a)).1 (numE X a) := numR_ok2 hg19 he9 hc21
   rw [hr_]
   exact ⟨q22, (ow (S := ((b, .cells 45 3 [.string (bS X), .int .i64 ((numE X a) : Int), Gs.val q22 (l ++ [(⟨3, a, [], (litP ((X.take (numE X a)).drop a)).1⟩ : Tok)]).length]) :: (Gs.ent 29 4 q22 ((l ++ [(⟨3, a, [], (litP ((X.take (numE X a)).drop a)).1⟩ : Tok)]).flatMap Tok.cells))))), rfl, hkq22⟩
  replace hg20 : ¬ ((numE X a : Int) < (X.length : Int)) := hg20
  refine os 9 ?_
  refine kp [140, 5, 4, 0, 3] ?_
  refine nt ?_
  refine cf ?_
  refine SW_skip (n_then ?_)
  refine sr ?_
  refine os 3 ?_
  refine L (cl (lex_putZ (X := X) (T := []) (a := a) (num := ((litP ((X.take (numE X a)).drop a)).1)) (too := (numE X a)) (z := (numE X a : Int)) (kind := 3) (l := l) (by omega) hk (by omega)) ?_)
  rintro _ q23 ⟨rfl, hkq23⟩
  refine un ?_
  refine nsr ?_
  refine os 1 ?_
  refine kp [2, 140, 5, 4, 0, 3] ?_
  refine nt ?_
  refine SW_ret ?_
  refine body_end (.int .i64 0) (fun _ => rfl) ?_
  have hr_ : numR X a = .tok 3 [] (litP ((X.take (numE X a)).drop a)).1 (numE X a) := numR_ok1 hg19 (by omega)
  rw [hr_]
  exact ⟨q23, (ow (S := ((b, .cells 45 3 [.string (bS X), .int .i64 ((numE X a) : Int), Gs.val q23 (l ++ [(⟨3, a, [], (litP ((X.take (numE X a)).drop a)).1⟩ : Tok)]).length]) :: (Gs.ent 29 4 q23 ((l ++ [(⟨3, a, [], (litP ((X.take (numE X a)).drop a)).1⟩ : Tok)]).flatMap Tok.cells))))), rfl, hkq23⟩

end Go.Proofs.YtnhmmjogfkjceaaDoor
