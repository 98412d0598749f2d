/-
  What the functions of numbers as texts do, step by step: each theorem is one function's contract. Conditions: those that each theorem names.
-/
import Derived.Test.YtnhmmjogfkjceaaGreatDoorProg
import Derived.Test.YtnhmmjogfkjceaaGreatDoorM3
import Derived.Test.YtnhmmjogfkjceaaGreatDoorM2
import Derived.Test.YtnhmmjogfkjceaaGreatDoorM1
set_option linter.unusedVariables false
set_option linter.unusedSimpArgs false
set_option maxRecDepth 100000
set_option maxHeartbeats 4000000
namespace Go.Proofs.YtnhmmjogfkjceaaGreatDoor
open Go.Sl

theorem num_Literal {W0 : World} {X : Bytes} (hX : X.length ≤ 1152921504606846976) : SC Tryz.prog W0 15 #[.string (bS X)] [] (Ret (fun _ : Unit => []) (fun v _ => v = .tuple #[.int .u64 ((litP X).1 : Int), .bool (litP X).2])) := by
 refine SC_body (fn := Tryz.f15) (n := 50) Tryz.func15 rfl (by kernel_rfl) (ρ := [(0, .string (bS X))]) rfl ?_
 refine sr ?_
 refine os 2 ?_
 refine nq ?_
 refine sr ?_
 refine os 1 ?_
 refine L (cl (str_HasPrefix X [48, 120]) ?_)
 rintro _ _ rfl
 refine un ?_
 refine nt ?_
 refine cd (fun hc1 : (Lib.hasPrefix X [48, 120]) = true => ?_) (fun hc1 => ?_)
 ·refine SW_seq ?_
  have hpl_ : 2 ≤ X.length := pre_len hc1
  refine SW_region ?_
  refine os 1 ?_
  refine L (O_val (.string (bS (X.drop 2))) rfl (fun δ w _ => run_strFrom (l := X) 2 .i64 Tryz.underlying9 rfl rfl (by omega) (by omega)) ?_)
  refine L (cl (num_hex (X := (X.drop 2)) (by first | omega | (simp; omega))) ?_)
  rintro _ _ rfl
  refine un ?_
  refine os 4 ?_
  refine kp [3, 2, 8, 0] ?_
  refine nt ?_
  refine SW_ret (r_then ?_)
  refine body_end (.tuple #[.int .u64 ((hexP (X.drop 2)).1 : Int), .bool ((hexP (X.drop 2)).2)]) (fun _ => rfl) ?_
  exact ⟨(), ow, by rw [litP_hex hc1]⟩
 refine SW_skip (n_then ?_)
 refine sr ?_
 refine os 1 ?_
 refine L (cl (num_decimal (X := X) (by omega)) ?_)
 rintro v3 _ hv3
 obtain rfl : v3 = .tuple #[.agg #[.string (bS (decP X).1.ahead), .string (bS (decP X).1.behind), .int .i64 ((decP X).1.power)], .bool ((decP X).2)] := hv3.trans (rfl)
 refine un ?_
 refine os 3 ?_
 refine L (nw 62 3 [.string (bS []), .string (bS []), .int .i64 0] ?_)
 intro b2
 refine L (st [.string (bS (decP X).1.ahead), .string (bS (decP X).1.behind), .int .i64 ((decP X).1.power)] ?_)
 refine os 1 ?_
 refine kp [5, 4, 8, 3, 2, 0] ?_
 refine nsr ?_
 refine os 1 ?_
 refine L (cl (str_Contains1 X 46) ?_)
 rintro v4 _ hv4
 obtain rfl : v4 = .bool (decide (46 ∈ X)) := hv4.trans (by rw [has_dot])
 refine un ?_
 refine os 1 ?_
 refine nq ?_
 refine SW_seq ?_
 refine SW_cut3 (fun ρ_ σ_ => Fits ρ_ σ_ [(4, pt b2 0)] ((b2, .cells 62 3 [.string (bS (decP X).1.ahead), .string (bS (decP X).1.behind), .int .i64 ((decP X).1.power)]) :: ([])) ∧ (¬ litBad X)) ?_ ?_
 ·refine SW_region ?_
  refine os 3 ?_
  refine tb 23 (fun hg3 => ?_) (fun hg3 => ?_)
  ·replace hg3 : (!((decP X).2)) = true := hg3
   replace hg3 := bnot_t hg3
   refine os 24 ?_
   refine kp [47, 6, 5, 4, 8, 3, 2, 0] ?_
   refine nt ?_
   refine ct ?_
   refine sr ?_
   refine os 2 ?_
   refine nt ?_
   refine SW_ret (r_then ?_)
   refine body_end (.tuple #[.int .u64 0, .bool false]) (fun _ => rfl) ?_
   exact ⟨(), ow, by rw [litP_bad (by simpa using hc1) (by unfold litBad; first | exact .inl (by assumption) | exact .inr (.inl (by assumption)) | exact .inr (.inr (.inl ⟨by assumption, by assumption⟩)) | exact .inr (.inr (.inr ⟨by omega, head_c (by assumption) (by omega)⟩)))]; rfl⟩
  replace hg3 : (!((decP X).2)) = false := hg3
  replace hg3 := bnot_f hg3
  refine os 1 ?_
  refine L (ld ?_)
  refine oX (.bool ((bS (decP X).1.ahead).toList == (bS []).toList)) (.bool (decide ((decP X).1.ahead = []))) (congrArg Value.bool (by rw [strB_eq])) ?_
  refine os 2 ?_
  refine kp [28, 6, 5, 4, 8, 3, 2, 0] ?_
  refine tbp 28 (fun hg4 => ?_) (fun hg4 => ?_)
  ·replace hg4 : (decP X).1.ahead = [] := hg4
   refine os 19 ?_
   refine kp [47, 6, 5, 4, 8, 3, 2, 0] ?_
   refine nt ?_
   refine ct ?_
   refine sr ?_
   refine os 2 ?_
   refine nt ?_
   refine SW_ret (r_then ?_)
   refine body_end (.tuple #[.int .u64 0, .bool false]) (fun _ => rfl) ?_
   exact ⟨(), ow, by rw [litP_bad (by simpa using hc1) (by unfold litBad; first | exact .inl (by assumption) | exact .inr (.inl (by assumption)) | exact .inr (.inr (.inl ⟨by assumption, by assumption⟩)) | exact .inr (.inr (.inr ⟨by omega, head_c (by assumption) (by omega)⟩)))]; rfl⟩
  replace hg4 : ¬ ((decP X).1.ahead = []) := hg4
  refine os 2 ?_
  refine tbp 30 (fun hg5 => ?_) (fun hg5 => ?_)
  ·replace hg5 : 46 ∈ X := hg5
   refine os 1 ?_
   refine L (ld ?_)
   refine oX (.bool ((bS (decP X).1.behind).toList == (bS []).toList)) (.bool (decide ((decP X).1.behind = []))) (congrArg Value.bool (by rw [strB_eq])) ?_
   refine os 3 ?_
   refine kp [36, 6, 5, 4, 8, 3, 2, 0] ?_
   refine tbp 36 (fun hg6 => ?_) (fun hg6 => ?_)
   ·replace hg6 : (decP X).1.behind = [] := hg6
    refine os 11 ?_
    refine kp [47, 6, 5, 4, 8, 3, 2, 0] ?_
    refine nt ?_
    refine ct ?_
    refine sr ?_
    refine os 2 ?_
    refine nt ?_
    refine SW_ret (r_then ?_)
    refine body_end (.tuple #[.int .u64 0, .bool false]) (fun _ => rfl) ?_
    exact ⟨(), ow, by rw [litP_bad (by simpa using hc1) (by unfold litBad; first | exact .inl (by assumption) | exact .inr (.inl (by assumption)) | exact .inr (.inr (.inl ⟨by assumption, by assumption⟩)) | exact .inr (.inr (.inr ⟨by omega, head_c (by assumption) (by omega)⟩)))]; rfl⟩
   replace hg6 : ¬ ((decP X).1.behind = []) := hg6
   refine os 1 ?_
   refine L (ld ?_)
   refine oX (.int .i64 ((bS (decP X).1.ahead).size : Int)) (.int .i64 (((decP X).1.ahead).length : Int)) (congrArg (fun n_ : Nat => Value.int .i64 (n_ : Int)) (bS_size _)) ?_
   refine os 2 ?_
   refine tbp 41 (fun hg7 => ?_) (fun hg7 => ?_)
   ·replace hg7 : (((decP X).1.ahead).length : Int) > 1 := hg7
    refine os 1 ?_
    refine L (ld ?_)
    obtain ⟨e1, he1⟩ : ∃ y_, ((decP X).1.ahead)[0]? = some y_ := ⟨_, List.getElem?_eq_getElem (by omega)⟩
    refine ixb 0 ((decP X).1.ahead) .i64 e1 Tryz.underlying9 he1 ?_
    refine os 3 ?_
    refine kp [47, 6, 5, 4, 8, 3, 2, 0] ?_
    refine nt ?_
    refine cd (fun hc8 : ((e1.toNat : Int) == 48) = true => ?_) (fun hc8 => ?_)
    ·simp only [beq_iff_eq, bne_iff_ne, ne_eq, beq_eq_false_iff_ne, bne_eq_false_iff_eq, Classical.not_not] at hc8
     refine sr ?_
     refine os 2 ?_
     refine nt ?_
     refine SW_ret (r_then ?_)
     refine body_end (.tuple #[.int .u64 0, .bool false]) (fun _ => rfl) ?_
     exact ⟨(), ow, by rw [litP_bad (by simpa using hc1) (by unfold litBad; first | exact .inl (by assumption) | exact .inr (.inl (by assumption)) | exact .inr (.inr (.inl ⟨by assumption, by assumption⟩)) | exact .inr (.inr (.inr ⟨by omega, head_c (by assumption) (by omega)⟩)))]; rfl⟩
    simp only [beq_iff_eq, bne_iff_ne, ne_eq, beq_eq_false_iff_ne, bne_eq_false_iff_eq, Classical.not_not] at hc8
    refine SW_skip (n_then ?_)
    exact ⟨⟨fun _ => rfl, ow⟩, by unfold litBad; rintro (q | q | ⟨q1, q2⟩ | ⟨q1, q2⟩) <;> first | (have hq_ := head_n (by assumption) q2; omega) | omega | simp_all⟩
   replace hg7 : ¬ ((((decP X).1.ahead).length : Int) > 1) := hg7
   refine os 6 ?_
   refine kp [47, 6, 5, 4, 8, 3, 2, 0] ?_
   refine nt ?_
   refine cf ?_
   refine SW_skip (n_then ?_)
   exact ⟨⟨fun _ => rfl, ow⟩, by unfold litBad; rintro (q | q | ⟨q1, q2⟩ | ⟨q1, q2⟩) <;> first | (have hq_ := head_n (by assumption) q2; omega) | omega | simp_all⟩
  replace hg5 : ¬ (46 ∈ X) := hg5
  refine os 7 ?_
  refine kp [37, 36, 6, 5, 4, 8, 3, 2, 0] ?_
  refine L (ld ?_)
  refine oX (.int .i64 ((bS (decP X).1.ahead).size : Int)) (.int .i64 (((decP X).1.ahead).length : Int)) (congrArg (fun n_ : Nat => Value.int .i64 (n_ : Int)) (bS_size _)) ?_
  refine os 2 ?_
  refine tbp 41 (fun hg9 => ?_) (fun hg9 => ?_)
  ·replace hg9 : (((decP X).1.ahead).length : Int) > 1 := hg9
   refine os 1 ?_
   refine L (ld ?_)
   obtain ⟨e2, he2⟩ : ∃ y_, ((decP X).1.ahead)[0]? = some y_ := ⟨_, List.getElem?_eq_getElem (by omega)⟩
   refine ixb 0 ((decP X).1.ahead) .i64 e2 Tryz.underlying9 he2 ?_
   refine os 3 ?_
   refine kp [47, 6, 5, 4, 8, 3, 2, 0] ?_
   refine nt ?_
   refine cd (fun hc10 : ((e2.toNat : Int) == 48) = true => ?_) (fun hc10 => ?_)
   ·simp only [beq_iff_eq, bne_iff_ne, ne_eq, beq_eq_false_iff_ne, bne_eq_false_iff_eq, Classical.not_not] at hc10
    refine sr ?_
    refine os 2 ?_
    refine nt ?_
    refine SW_ret (r_then ?_)
    refine body_end (.tuple #[.int .u64 0, .bool false]) (fun _ => rfl) ?_
    exact ⟨(), ow, by rw [litP_bad (by simpa using hc1) (by unfold litBad; first | exact .inl (by assumption) | exact .inr (.inl (by assumption)) | exact .inr (.inr (.inl ⟨by assumption, by assumption⟩)) | exact .inr (.inr (.inr ⟨by omega, head_c (by assumption) (by omega)⟩)))]; rfl⟩
   simp only [beq_iff_eq, bne_iff_ne, ne_eq, beq_eq_false_iff_ne, bne_eq_false_iff_eq, Classical.not_not] at hc10
   refine SW_skip (n_then ?_)
   exact ⟨⟨fun _ => rfl, ow⟩, by unfold litBad; rintro (q | q | ⟨q1, q2⟩ | ⟨q1, q2⟩) <;> first | (have hq_ := head_n (by assumption) q2; omega) | omega | simp_all⟩
  replace hg9 : ¬ ((((decP X).1.ahead).length : Int) > 1) := hg9
  refine os 6 ?_
  refine kp [47, 6, 5, 4, 8, 3, 2, 0] ?_
  refine nt ?_
  refine cf ?_
  refine SW_skip (n_then ?_)
  exact ⟨⟨fun _ => rfl, ow⟩, by unfold litBad; rintro (q | q | ⟨q1, q2⟩ | ⟨q1, q2⟩) <;> first | (have hq_ := head_n (by assumption) q2; omega) | omega | simp_all⟩
 ·rintro ρ_ σ_ ⟨hfit, hlg_⟩
  refine SW_fits hfit ?_
  clear hfit
  refine sr ?_
  refine L (lds 3 ?_)
  obtain ⟨hnd_, hnl_, hnq_⟩ := decP_facts X
  refine L (cl (num_nearest (A := (decP X).1.ahead) (B := (decP X).1.behind) (p := (decP X).1.power) (by omega) hnd_ hnq_) ?_)
  rintro v5 _ hv5
  obtain rfl : v5 = .int .u64 (nearestP (decP X).1 : Int) := hv5.trans (rfl)
  refine un ?_
  refine os 2 ?_
  refine nt ?_
  refine SW_ret ?_
  refine body_end (.tuple #[.int .u64 (nearestP (decP X).1 : Int), .bool true]) (fun _ => rfl) ?_
  exact ⟨(), ow, by rw [litP_good (by simpa using hc1) hlg_]⟩

theorem num_Read {W0 : World} {X : Bytes} (hX : X.length ≤ 1152921504606846976) : SC Tryz.prog W0 17 #[.string (bS X)] [] (Ret (fun _ : Unit => []) (fun v _ => v = .int .u64 (readP X : Int))) := by
 refine SC_body (fn := Tryz.f17) (n := 57) Tryz.func17 rfl (by kernel_rfl) (ρ := [(0, .string (bS X))]) rfl ?_
 refine sr ?_
 refine os 1 ?_
 refine nsr ?_
 refine os 1 ?_
 refine L (cl (str_Trim X [9, 10, 32] (by first | omega | (simp; omega)) (by decide) (by decide)) ?_)
 rintro _ _ rfl
 refine un ?_
 refine os 1 ?_
 refine nq ?_
 refine SW_seq ?_
 have htl_ := trimS_len X [9, 10, 32]
 generalize hT_ : Lib.trimS X [9, 10, 32] = T at htl_ ⊢
 refine SW_region ?_
 refine os 1 ?_
 refine oX (.bool ((bS T).toList == (bS []).toList)) (.bool (decide (T = []))) (congrArg Value.bool (by rw [strB_eq])) ?_
 refine kp [11, 0, 2] ?_
 refine nt ?_
 refine cdp (fun hc1 : T = [] => ?_) (fun hc1 => ?_)
 ·refine sr ?_
  refine os 1 ?_
  refine nt ?_
  refine SW_ret (r_then ?_)
  refine body_end (.int .u64 0) (fun _ => rfl) ?_
  exact ⟨(), ow, by rw [readP_nil hT_ (by assumption)]; rfl⟩
 have htp_ : 0 < T.length := List.length_pos_iff.2 hc1
 refine SW_skip (n_then ?_)
 refine SW_seq ?_
 refine sr ?_
 refine os 1 ?_
 refine L (cl (str_HasPrefix T [48, 120]) ?_)
 rintro _ _ rfl
 refine un ?_
 refine os 1 ?_
 refine tb 14 (fun hg2 => ?_) (fun hg2 => ?_)
 ·replace hg2 : (Lib.hasPrefix T [48, 120]) = true := hg2
  refine os 3 ?_
  refine kp [17, 11, 0, 2] ?_
  refine nt ?_
  refine ct ?_
  refine SW_seq ?_
  have hpl_ : 2 ≤ T.length := pre_len hg2
  refine SW_region ?_
  refine os 1 ?_
  refine L (O_val (.string (bS (T.drop 2))) rfl (fun δ w _ => run_strFrom (l := T) 2 .i64 Tryz.underlying9 rfl rfl (by omega) (by omega)) ?_)
  refine L (cl (num_hex (X := (T.drop 2)) (by first | omega | (simp; omega))) ?_)
  rintro _ _ rfl
  refine un ?_
  refine os 5 ?_
  refine kp [4, 3, 17, 11, 0, 2] ?_
  refine nq ?_
  refine sr ?_
  refine os 2 ?_
  refine nt ?_
  refine cd (fun hc3 : (!((hexP (T.drop 2)).2)) = true => ?_) (fun hc3 => ?_)
  ·replace hc3 := bnot_t hc3
   refine sr ?_
   refine os 1 ?_
   refine nt ?_
   refine SW_ret (r_then (r_then ?_))
   refine body_end (.int .u64 9221120237041090560) (fun _ => rfl) ?_
   exact ⟨(), ow, by rw [readP_hex hT_ hc1 (by first | exact .inl (by assumption) | exact .inr (by assumption)), if_neg (by rw [hc3]; decide)]; rfl⟩
  replace hc3 := bnot_f hc3
  refine SW_skip (n_then ?_)
  refine sr ?_
  refine os 2 ?_
  refine nt ?_
  refine SW_ret (r_then ?_)
  refine body_end (.int .u64 ((hexP (T.drop 2)).1 : Int)) (fun _ => rfl) ?_
  exact ⟨(), ow, by rw [readP_hex hT_ hc1 (by first | exact .inl (by assumption) | exact .inr (by assumption)), if_pos hc3]⟩
 replace hg2 : (Lib.hasPrefix T [48, 120]) = false := hg2
 refine os 1 ?_
 refine L (cl (str_HasPrefix T [48, 88]) ?_)
 rintro _ _ rfl
 refine un ?_
 refine os 1 ?_
 refine kp [17, 11, 0, 2] ?_
 refine nt ?_
 refine cd (fun hc4 : (Lib.hasPrefix T [48, 88]) = true => ?_) (fun hc4 => ?_)
 ·refine SW_seq ?_
  have hpl_ : 2 ≤ T.length := pre_len hc4
  refine SW_region ?_
  refine os 1 ?_
  refine L (O_val (.string (bS (T.drop 2))) rfl (fun δ w _ => run_strFrom (l := T) 2 .i64 Tryz.underlying9 rfl rfl (by omega) (by omega)) ?_)
  refine L (cl (num_hex (X := (T.drop 2)) (by first | omega | (simp; omega))) ?_)
  rintro _ _ rfl
  refine un ?_
  refine os 5 ?_
  refine kp [4, 3, 17, 11, 0, 2] ?_
  refine nq ?_
  refine sr ?_
  refine os 2 ?_
  refine nt ?_
  refine cd (fun hc5 : (!((hexP (T.drop 2)).2)) = true => ?_) (fun hc5 => ?_)
  ·replace hc5 := bnot_t hc5
   refine sr ?_
   refine os 1 ?_
   refine nt ?_
   refine SW_ret (r_then (r_then ?_))
   refine body_end (.int .u64 9221120237041090560) (fun _ => rfl) ?_
   exact ⟨(), ow, by rw [readP_hex hT_ hc1 (by first | exact .inl (by assumption) | exact .inr (by assumption)), if_neg (by rw [hc5]; decide)]; rfl⟩
  replace hc5 := bnot_f hc5
  refine SW_skip (n_then ?_)
  refine sr ?_
  refine os 2 ?_
  refine nt ?_
  refine SW_ret (r_then ?_)
  refine body_end (.int .u64 ((hexP (T.drop 2)).1 : Int)) (fun _ => rfl) ?_
  exact ⟨(), ow, by rw [readP_hex hT_ hc1 (by first | exact .inl (by assumption) | exact .inr (by assumption)), if_pos hc5]⟩
 refine SW_skip (n_then ?_)
 refine SW_seq ?_
 have hnp_ : ¬ (Lib.hasPrefix T [48, 120] = true ∨ Lib.hasPrefix T [48, 88] = true) := by rintro (q | q) <;> simp_all
 refine SW_region ?_
 refine os 1 ?_
 refine nq ?_
 refine SW_seq ?_
 refine SW_cut3 (fun ρ_ σ_ => Fits ρ_ σ_ [(0, .string (bS (wayR T).2)), (5, .int .u64 ((wayR T).1 : Int))] ([])) ?_ ?_
 ·refine SW_region ?_
  refine os 1 ?_
  obtain ⟨e1, he1⟩ : ∃ y_, T[0]? = some y_ := ⟨_, List.getElem?_eq_getElem (by omega)⟩
  refine ixb 0 T .i64 e1 Tryz.underlying9 he1 ?_
  refine os 2 ?_
  refine tb 30 (fun hg6 => ?_) (fun hg6 => ?_)
  ·replace hg6 : ((e1.toNat : Int) == 43) = true := hg6
   simp only [beq_iff_eq, bne_iff_ne, ne_eq, beq_eq_false_iff_ne, bne_eq_false_iff_eq, Classical.not_not] at hg6
   refine os 4 ?_
   refine kp [34, 5, 17, 11, 0, 2] ?_
   refine nt ?_
   refine ct ?_
   refine sr ?_
   refine os 1 ?_
   refine ixb 0 T .i64 e1 Tryz.underlying9 he1 ?_
   refine os 2 ?_
   refine oX (.int .u64 (IntKind.wrap .u64 (((e1.toNat : Int) - 43) * 4611686018427387904))) (.int .u64 (((e1.toNat : Int) - 43) * 4611686018427387904)) (congrArg (Value.int .u64) (IntWalk.u64_in _ (by omega))) ?_
   refine os 1 ?_
   refine kp [5, 34, 17, 11, 0, 2] ?_
   refine nr ?_
   refine os 1 ?_
   refine L (O_val (.string (bS (T.drop 1))) rfl (fun δ w _ => run_strFrom (l := T) 1 .i64 Tryz.underlying9 rfl rfl (by omega) (by omega)) ?_)
   refine os 1 ?_
   refine nt ?_
   have hsg_ : e1 = 43 := (u8_eq (n := 43) (by decide)).1 (by omega)
   subst hsg_
   rw [wayR_plus he1 rfl]
   exact ⟨fun _ => rfl, ow⟩
  replace hg6 : ((e1.toNat : Int) == 43) = false := hg6
  simp only [beq_iff_eq, bne_iff_ne, ne_eq, beq_eq_false_iff_ne, bne_eq_false_iff_eq, Classical.not_not] at hg6
  refine os 1 ?_
  refine ixb 0 T .i64 e1 Tryz.underlying9 he1 ?_
  refine os 2 ?_
  refine kp [34, 5, 17, 11, 0, 2] ?_
  refine nt ?_
  refine cd (fun hc7 : ((e1.toNat : Int) == 45) = true => ?_) (fun hc7 => ?_)
  ·simp only [beq_iff_eq, bne_iff_ne, ne_eq, beq_eq_false_iff_ne, bne_eq_false_iff_eq, Classical.not_not] at hc7
   refine sr ?_
   refine os 1 ?_
   refine ixb 0 T .i64 e1 Tryz.underlying9 he1 ?_
   refine os 2 ?_
   refine oX (.int .u64 (IntKind.wrap .u64 (((e1.toNat : Int) - 43) * 4611686018427387904))) (.int .u64 (((e1.toNat : Int) - 43) * 4611686018427387904)) (congrArg (Value.int .u64) (IntWalk.u64_in _ (by omega))) ?_
   refine os 1 ?_
   refine kp [5, 34, 17, 11, 0, 2] ?_
   refine nr ?_
   refine os 1 ?_
   refine L (O_val (.string (bS (T.drop 1))) rfl (fun δ w _ => run_strFrom (l := T) 1 .i64 Tryz.underlying9 rfl rfl (by omega) (by omega)) ?_)
   refine os 1 ?_
   refine nt ?_
   have hsg_ : e1 = 45 := (u8_eq (n := 45) (by decide)).1 (by omega)
   subst hsg_
   rw [wayR_minus he1 rfl]
   exact ⟨fun _ => rfl, ow⟩
  simp only [beq_iff_eq, bne_iff_ne, ne_eq, beq_eq_false_iff_ne, bne_eq_false_iff_eq, Classical.not_not] at hc7
  refine SW_skip (n_then ?_)
  rw [wayR_no he1 (fun q => absurd ((u8_eq (n := 43) (by decide)).2 q) (by omega)) (fun q => absurd ((u8_eq (n := 45) (by decide)).2 q) (by omega))]
  exact ⟨fun _ => rfl, ow⟩
 ·rintro ρ_ σ_ hfit
  refine SW_fits hfit ?_
  clear hfit
  refine SW_seq ?_
  refine SW_seq ?_
  obtain ⟨hw1_, hw2_⟩ := wayR_facts T
  generalize hws_ : (wayR T).2 = Q at hw2_ ⊢
  generalize hwn_ : (wayR T).1 = V at hw1_ ⊢
  refine SW_region ?_
  refine os 1 ?_
  refine oX (.bool ((bS Q).toList == (bS [73, 110, 102, 105, 110, 105, 116, 121]).toList)) (.bool (decide (Q = [73, 110, 102, 105, 110, 105, 116, 121]))) (congrArg Value.bool (by rw [strB_eq])) ?_
  refine nt ?_
  refine cdp (fun hc8 : Q = [73, 110, 102, 105, 110, 105, 116, 121] => ?_) (fun hc8 => ?_)
  ·refine sr ?_
   refine os 1 ?_
   refine oV (.int .u64 ((V + 9218868437227405312 : Nat) : Int)) ?_ (hs := orR (m := (V : Int)) (c := 9218868437227405312) _ (or_way (x := 9218868437227405312) hw1_ (by decide)))
   refine os 1 ?_
   refine kp [2, 43, 0, 5] ?_
   refine nt ?_
   refine SW_ret (r_then ?_)
   refine body_end (.int .u64 ((V + 9218868437227405312 : Nat) : Int)) (fun _ => rfl) ?_
   subst hws_
   exact ⟨(), ow, by rw [readP_inf hT_ hc1 hnp_ (by assumption), hwn_]⟩
  refine SW_skip (n_then ?_)
  refine sr ?_
  refine os 1 ?_
  refine L (cl (num_decimal (X := Q) (by omega)) ?_)
  rintro v6 _ hv6
  obtain rfl : v6 = .tuple #[.agg #[.string (bS (decP Q).1.ahead), .string (bS (decP Q).1.behind), .int .i64 ((decP Q).1.power)], .bool ((decP Q).2)] := hv6.trans (rfl)
  refine un ?_
  refine os 3 ?_
  refine L (nw 62 3 [.string (bS []), .string (bS []), .int .i64 0] ?_)
  intro b9
  refine L (st [.string (bS (decP Q).1.ahead), .string (bS (decP Q).1.behind), .int .i64 ((decP Q).1.power)] ?_)
  refine os 1 ?_
  refine kp [7, 6, 43, 0, 5] ?_
  refine nq ?_
  refine sr ?_
  refine os 2 ?_
  refine nt ?_
  refine cd (fun hc10 : (!((decP Q).2)) = true => ?_) (fun hc10 => ?_)
  ·replace hc10 := bnot_t hc10
   refine sr ?_
   refine os 1 ?_
   refine nt ?_
   refine SW_ret (r_then ?_)
   refine body_end (.int .u64 9221120237041090560) (fun _ => rfl) ?_
   subst hws_
   exact ⟨(), ow, by rw [readP_dec hT_ hc1 hnp_ (by assumption), if_neg (by rw [hc10]; decide)]; rfl⟩
  replace hc10 := bnot_f hc10
  refine SW_skip (n_then ?_)
  refine sr ?_
  refine os 1 ?_
  refine L (lds 3 ?_)
  obtain ⟨hnd_, hnl_, hnq_⟩ := decP_facts Q
  refine L (cl (num_nearest (A := (decP Q).1.ahead) (B := (decP Q).1.behind) (p := (decP Q).1.power) (by omega) hnd_ hnq_) ?_)
  rintro v7 _ hv7
  obtain rfl : v7 = .int .u64 (nearestP (decP Q).1 : Int) := hv7.trans (rfl)
  refine un ?_
  refine oV (.int .u64 ((V + nearestP (decP Q).1 : Nat) : Int)) ?_ (hs := orR (m := (V : Int)) (c := (nearestP (decP Q).1 : Int)) _ (or_way hw1_ (nearestP_lt _)))
  refine os 1 ?_
  refine kp [2, 52, 7, 6, 43, 0, 5] ?_
  refine nt ?_
  refine SW_ret ?_
  refine body_end (.int .u64 ((V + nearestP (decP Q).1 : Nat) : Int)) (fun _ => rfl) ?_
  subst hws_
  exact ⟨(), ow, by rw [readP_dec hT_ hc1 hnp_ (by assumption), if_pos hc10, hwn_]⟩

end Go.Proofs.YtnhmmjogfkjceaaGreatDoor
namespace Go.Proofs.YtnhmmjogfkjceaaGreatDoor
open Go.Sl

theorem num_sized {W0 : World} {a : Nat} (ha : a < 18446744073709551616) : SC Tryz.prog W0 119 #[.int .u64 (a : Int)] [] (Ret (fun _ : Unit => []) (fun v _ => v = .int .u64 ((a % 9223372036854775808 : Nat) : Int))) := by
 refine SC_body (fn := Tryz.f119) (n := 5) Tryz.func119 rfl (by kernel_rfl) (ρ := [(0, .int .u64 (a : Int))]) rfl ?_
 refine sr ?_
 refine os 1 ?_
 refine nsr ?_
 refine os 1 ?_
 refine oV (.int .u64 ((a % 9223372036854775808 : Nat) : Int)) ?_ (hs := andNotR (m := (a : Int)) (c := 9223372036854775808) _ (sized64 a ha))
 refine os 1 ?_
 refine nt ?_
 refine SW_ret ?_
 refine body_end (.int .u64 ((a % 9223372036854775808 : Nat) : Int)) (fun _ => rfl) ?_
 exact ⟨(), ow, rfl⟩

theorem num_kind {W0 : World} {a : Nat} (ha : a < 18446744073709551616) : SC Tryz.prog W0 68 #[.int .u64 (a : Int)] [] (Ret (fun _ : Unit => []) (fun v _ => v = .int .i64 (kindP a))) := by
 refine SC_body (fn := Tryz.f68) (n := 15) Tryz.func68 rfl (by kernel_rfl) (ρ := [(0, .int .u64 (a : Int))]) rfl ?_
 refine sr ?_
 refine os 1 ?_
 refine nq ?_
 refine sr ?_
 refine os 1 ?_
 refine L (cl (num_sized ha) ?_)
 rintro _ _ rfl
 refine un ?_
 refine os 1 ?_
 refine nt ?_
 refine SW_block ?_
 refine sr ?_
 refine os 3 ?_
 refine kp [6, 3, 2, 0] ?_
 refine nt ?_
 refine cd (fun hc1 : (((a % 9223372036854775808 : Nat) : Int) == 0) = true => ?_) (fun hc1 => ?_)
 ·simp only [beq_iff_eq, bne_iff_ne, ne_eq, beq_eq_false_iff_ne, bne_eq_false_iff_eq, Classical.not_not] at hc1
  refine sr ?_
  refine os 1 ?_
  refine nt ?_
  refine SW_ret (r_in (r_then ?_))
  refine body_end (.int .i64 0) (fun _ => rfl) ?_
  exact ⟨(), ow, congrArg (Value.int .i64) (by unfold kindP; split <;> first | omega | (split <;> first | omega | (split <;> omega)))⟩
 simp only [beq_iff_eq, bne_iff_ne, ne_eq, beq_eq_false_iff_ne, bne_eq_false_iff_eq, Classical.not_not] at hc1
 refine sr ?_
 refine os 3 ?_
 refine nt ?_
 refine cdp (fun hc2 : ((a % 9223372036854775808 : Nat) : Int) < 9218868437227405312 => ?_) (fun hc2 => ?_)
 ·refine sr ?_
  refine os 1 ?_
  refine nt ?_
  refine SW_ret (r_in (r_then ?_))
  refine body_end (.int .i64 1) (fun _ => rfl) ?_
  exact ⟨(), ow, congrArg (Value.int .i64) (by unfold kindP; split <;> first | omega | (split <;> first | omega | (split <;> omega)))⟩
 refine sr ?_
 refine os 3 ?_
 refine kp [12, 9, 6, 3, 2, 0] ?_
 refine nt ?_
 refine cd (fun hc3 : (((a % 9223372036854775808 : Nat) : Int) == 9218868437227405312) = true => ?_) (fun hc3 => ?_)
 ·simp only [beq_iff_eq, bne_iff_ne, ne_eq, beq_eq_false_iff_ne, bne_eq_false_iff_eq, Classical.not_not] at hc3
  refine sr ?_
  refine os 1 ?_
  refine nt ?_
  refine SW_ret (r_in (r_then ?_))
  refine body_end (.int .i64 2) (fun _ => rfl) ?_
  exact ⟨(), ow, congrArg (Value.int .i64) (by unfold kindP; split <;> first | omega | (split <;> first | omega | (split <;> omega)))⟩
 simp only [beq_iff_eq, bne_iff_ne, ne_eq, beq_eq_false_iff_ne, bne_eq_false_iff_eq, Classical.not_not] at hc3
 refine SW_skip (n_in (n_then ?_))
 refine sr ?_
 refine os 1 ?_
 refine nt ?_
 refine SW_ret ?_
 refine body_end (.int .i64 3) (fun _ => rfl) ?_
 exact ⟨(), ow, congrArg (Value.int .i64) (by unfold kindP; split <;> first | omega | (split <;> first | omega | (split <;> omega)))⟩

theorem num_IsNaN {W0 : World} {a : Nat} (ha : a < 18446744073709551616) : SC Tryz.prog W0 33 #[.int .u64 (a : Int)] [] (Ret (fun _ : Unit => []) (fun v _ => v = .bool (kindP a == 3))) := by
 refine SC_body (fn := Tryz.f33) (n := 6) Tryz.func33 rfl (by kernel_rfl) (ρ := [(0, .int .u64 (a : Int))]) rfl ?_
 refine sr ?_
 refine os 1 ?_
 refine nsr ?_
 refine os 1 ?_
 have hki_ := num_kind (W0 := W0) (a := a) (by omega)
 refine L (cl (hki_) ?_)
 rintro v1 _ hv1
 obtain rfl : v1 = .int .i64 (kindP a) := hv1.trans (rfl)
 refine un ?_
 refine os 2 ?_
 refine kp [2, 0] ?_
 refine nt ?_
 refine SW_ret ?_
 refine body_end (.bool ((kindP a) == 3)) (fun _ => rfl) ?_
 exact ⟨(), ow, rfl⟩

theorem num_IsInf {W0 : World} {a : Nat} (ha : a < 18446744073709551616) : SC Tryz.prog W0 35 #[.int .u64 (a : Int)] [] (Ret (fun _ : Unit => []) (fun v _ => v = .bool (kindP a == 2))) := by
 refine SC_body (fn := Tryz.f35) (n := 6) Tryz.func35 rfl (by kernel_rfl) (ρ := [(0, .int .u64 (a : Int))]) rfl ?_
 refine sr ?_
 refine os 1 ?_
 refine nsr ?_
 refine os 1 ?_
 have hki_ := num_kind (W0 := W0) (a := a) (by omega)
 refine L (cl (hki_) ?_)
 rintro v1 _ hv1
 obtain rfl : v1 = .int .i64 (kindP a) := hv1.trans (rfl)
 refine un ?_
 refine os 2 ?_
 refine kp [2, 0] ?_
 refine nt ?_
 refine SW_ret ?_
 refine body_end (.bool ((kindP a) == 2)) (fun _ => rfl) ?_
 exact ⟨(), ow, rfl⟩

theorem num_zero {W0 : World} {a : Nat} (ha : a < 18446744073709551616) : SC Tryz.prog W0 69 #[.int .u64 (a : Int)] [] (Ret (fun _ : Unit => []) (fun v _ => v = .bool (kindP a == 0))) := by
 refine SC_body (fn := Tryz.f69) (n := 6) Tryz.func69 rfl (by kernel_rfl) (ρ := [(0, .int .u64 (a : Int))]) rfl ?_
 refine sr ?_
 refine os 1 ?_
 refine nsr ?_
 refine os 1 ?_
 have hki_ := num_kind (W0 := W0) (a := a) (by omega)
 refine L (cl (hki_) ?_)
 rintro v1 _ hv1
 obtain rfl : v1 = .int .i64 (kindP a) := hv1.trans (rfl)
 refine un ?_
 refine os 2 ?_
 refine kp [2, 0] ?_
 refine nt ?_
 refine SW_ret ?_
 refine body_end (.bool ((kindP a) == 0)) (fun _ => rfl) ?_
 exact ⟨(), ow, rfl⟩

theorem num_Equal0 {W0 : World} {a : Nat} (ha : a < 18446744073709551616) : SC Tryz.prog W0 34 #[.int .u64 (a : Int), .int .u64 0] [] (Ret (fun _ : Unit => []) (fun v _ => v = .bool (kindP a == 0))) := by
 refine SC_body (fn := Tryz.f34) (n := 26) Tryz.func34 rfl (by kernel_rfl) (ρ := [(0, .int .u64 (a : Int)), (1, .int .u64 0)]) rfl ?_
 refine sr ?_
 refine os 1 ?_
 refine nsr ?_
 refine os 1 ?_
 have his_ := num_IsNaN (W0 := W0) (a := a) (by omega)
 refine L (cl (his_) ?_)
 rintro v1 _ hv1
 obtain rfl : v1 = .bool (kindP a == 3) := hv1.trans (rfl)
 refine un ?_
 refine os 2 ?_
 refine tb 8 (fun hg1 => ?_) (fun hg1 => ?_)
 ·replace hg1 : (!(kindP a == 3)) = true := hg1
  replace hg1 := bnot_t hg1
  simp only [beq_iff_eq, bne_iff_ne, ne_eq, beq_eq_false_iff_ne, bne_eq_false_iff_eq, Classical.not_not] at hg1
  refine os 1 ?_
  have his_ := num_IsNaN (W0 := W0) (a := 0) (by omega)
  refine L (cl (his_) ?_)
  rintro v2 _ hv2
  obtain rfl : v2 = .bool (kindP 0 == 3) := hv2.trans (rfl)
  refine un ?_
  refine os 3 ?_
  refine kp [13, 4, 0, 1] ?_
  refine pn 13 (show (!(kindP 0 == 3)) = true from (by decide)) ?_
  refine os 4 ?_
  refine tb 17 (fun hg3 => ?_) (fun hg3 => ?_)
  ·replace hg3 : ((a : Int) == 0) = true := hg3
   simp only [beq_iff_eq, bne_iff_ne, ne_eq, beq_eq_false_iff_ne, bne_eq_false_iff_eq, Classical.not_not] at hg3
   refine os 9 ?_
   refine kp [4, 0, 1] ?_
   refine nt ?_
   refine SW_ret ?_
   refine body_end (.bool true) (fun _ => rfl) ?_
   exact ⟨(), ow, congrArg Value.bool (by first | exact (beq_eq_false_iff_ne.2 (by omega)).symm | exact (beq_iff_eq.2 (by omega)).symm | exact (beq_iff_eq.2 (kind_nought (by omega))).symm)⟩
  replace hg3 : ((a : Int) == 0) = false := hg3
  simp only [beq_iff_eq, bne_iff_ne, ne_eq, beq_eq_false_iff_ne, bne_eq_false_iff_eq, Classical.not_not] at hg3
  refine os 1 ?_
  have his_ := num_zero (W0 := W0) (a := a) (by omega)
  refine L (cl (his_) ?_)
  rintro v3 _ hv3
  obtain rfl : v3 = .bool (kindP a == 0) := hv3.trans (rfl)
  refine un ?_
  refine os 1 ?_
  refine tb 20 (fun hg4 => ?_) (fun hg4 => ?_)
  ·replace hg4 : (kindP a == 0) = true := hg4
   simp only [beq_iff_eq, bne_iff_ne, ne_eq, beq_eq_false_iff_ne, bne_eq_false_iff_eq, Classical.not_not] at hg4
   refine os 1 ?_
   have his_ := num_zero (W0 := W0) (a := 0) (by omega)
   refine L (cl (his_) ?_)
   rintro v4 _ hv4
   obtain rfl : v4 = .bool (kindP 0 == 0) := hv4.trans (rfl)
   refine un ?_
   refine os 4 ?_
   refine kp [4, 0, 1] ?_
   refine nt ?_
   refine SW_ret ?_
   refine body_end (.bool (kindP 0 == 0)) (fun _ => rfl) ?_
   exact ⟨(), ow, congrArg Value.bool (by first | exact (beq_eq_false_iff_ne.2 (by omega)).symm | exact (beq_iff_eq.2 (by omega)).symm | exact (beq_iff_eq.2 (kind_nought (by omega))).symm)⟩
  replace hg4 : (kindP a == 0) = false := hg4
  simp only [beq_iff_eq, bne_iff_ne, ne_eq, beq_eq_false_iff_ne, bne_eq_false_iff_eq, Classical.not_not] at hg4
  refine os 6 ?_
  refine kp [4, 0, 1] ?_
  refine nt ?_
  refine SW_ret ?_
  refine body_end (.bool false) (fun _ => rfl) ?_
  exact ⟨(), ow, congrArg Value.bool (by first | exact (beq_eq_false_iff_ne.2 (by omega)).symm | exact (beq_iff_eq.2 (by omega)).symm | exact (beq_iff_eq.2 (kind_nought (by omega))).symm)⟩
 replace hg1 : (!(kindP a == 3)) = false := hg1
 replace hg1 := bnot_f hg1
 simp only [beq_iff_eq, bne_iff_ne, ne_eq, beq_eq_false_iff_ne, bne_eq_false_iff_eq, Classical.not_not] at hg1
 refine os 18 ?_
 refine kp [4, 0, 1] ?_
 refine nt ?_
 refine SW_ret ?_
 refine body_end (.bool false) (fun _ => rfl) ?_
 exact ⟨(), ow, congrArg Value.bool (by first | exact (beq_eq_false_iff_ne.2 (by omega)).symm | exact (beq_iff_eq.2 (by omega)).symm | exact (beq_iff_eq.2 (kind_nought (by omega))).symm)⟩

end Go.Proofs.YtnhmmjogfkjceaaGreatDoor
namespace Go.Proofs.YtnhmmjogfkjceaaGreatDoor
open Go.Sl

theorem num_times10 {W0 : World} {a : Gs} {a0 : Nat} (hk : Gs.ok 1 (lim a0).length a ((lim a0).map encP)) (hs : (lim a0).length ≤ 1048576) : SC Tryz.prog W0 72 #[a.val (lim a0).length, .int .u32 10, .int .u32 0] (Gs.ent 87 1 a ((lim a0).map encP)) (Ret (fun g : Gs => Gs.ent 87 1 g ((lim (a0 * 10)).map encP) ++ (Gs.ent 87 1 a ((lim a0).map encP))) (fun v g => v = g.val (lim (a0 * 10)).length ∧ Gs.ok 1 (lim (a0 * 10)).length g ((lim (a0 * 10)).map encP))) := num_times hk hs (n := 10) (more := 0) (by decide) (by decide)

theorem num_open {W0 : World} {a : Nat} (h0 : 0 < a) (ha : a < 9218868437227405312) : SC Tryz.prog W0 70 #[.int .u64 (a : Int)] [] (Ret (fun q : Gs × Gs × Gs × Gs => Gs.ent 87 1 q.1 ((lim ((openS a).r)).map encP) ++ (Gs.ent 87 1 q.2.1 ((lim ((openS a).u)).map encP) ++ (Gs.ent 87 1 q.2.2.1 ((lim ((openS a).a)).map encP) ++ (Gs.ent 87 1 q.2.2.2 ((lim ((openS a).b)).map encP))))) (fun v q => v = .agg #[Gs.val q.1 ((lim ((openS a).r)).length), Gs.val q.2.1 ((lim ((openS a).u)).length), Gs.val q.2.2.1 ((lim ((openS a).a)).length), Gs.val q.2.2.2 ((lim ((openS a).b)).length), .bool ((openS a).ends)] ∧ Gs.ok 1 (lim ((openS a).r)).length q.1 ((lim ((openS a).r)).map encP) ∧ Gs.ok 1 (lim ((openS a).u)).length q.2.1 ((lim ((openS a).u)).map encP) ∧ Gs.ok 1 (lim ((openS a).a)).length q.2.2.1 ((lim ((openS a).a)).map encP) ∧ Gs.ok 1 (lim ((openS a).b)).length q.2.2.2 ((lim ((openS a).b)).map encP))) := by
 refine SC_body (fn := Tryz.f70) (n := 55) Tryz.func70 rfl (by kernel_rfl) (ρ := [(0, .int .u64 (a : Int))]) rfl ?_
 refine sr ?_
 refine L (nw 84 5 [.slice none 0 0, .slice none 0 0, .slice none 0 0, .slice none 0 0, .bool false] ?_)
 intro b1
 refine nsr ?_
 refine os 1 ?_
 refine oV (.int .u64 ((a % 4503599627370496 : Nat) : Int)) ?_ (hs := andR (m := (a : Int)) (c := 4503599627370495) _ (and52 a (by omega)))
 refine os 1 ?_
 refine oX (.int .u64 (Int.fdiv (a : Int) 4503599627370496)) (.int .u64 ((a : Int) / 4503599627370496)) (congrArg (Value.int .u64) (Int.fdiv_eq_ediv_of_nonneg _ (by omega))) ?_
 refine os 3 ?_
 refine kp [4, 3, 2, 0] ?_
 refine nq ?_
 refine SW_seq ?_
 refine SW_cut3 (fun ρ_ σ_ => Fits ρ_ σ_ [(0, .int .u64 (a : Int)), (2, pt b1 0), (3, .int .u64 ((manP a : Nat) : Int)), (4, .int .i64 ((expP a : Nat) : Int))] ((b1, .cells 84 5 [.slice none 0 0, .slice none 0 0, .slice none 0 0, .slice none 0 0, .bool false]) :: ([]))) ?_ ?_
 ·refine SW_region ?_
  refine os 2 ?_
  refine nt ?_
  refine cd (fun hc2 : (((a : Int) / 4503599627370496) == 0) = true => ?_) (fun hc2 => ?_)
  ·simp only [beq_iff_eq, bne_iff_ne, ne_eq, beq_eq_false_iff_ne, bne_eq_false_iff_eq, Classical.not_not] at hc2
   refine SW_region ?_
   refine os 1 ?_
   refine nt ?_
   rw [show ((manP a : Nat) : Int) = ((a % 4503599627370496 : Nat) : Int) from by unfold manP; rw [if_pos (by omega)]]
   rw [show ((expP a : Nat) : Int) = 1 from by unfold expP; rw [if_pos (by omega)]; rfl]
   exact ⟨fun _ => rfl, ow⟩
  simp only [beq_iff_eq, bne_iff_ne, ne_eq, beq_eq_false_iff_ne, bne_eq_false_iff_eq, Classical.not_not] at hc2
  refine SW_region ?_
  refine os 1 ?_
  refine oV (.int .u64 ((a % 4503599627370496 + 4503599627370496 : Nat) : Int)) ?_ (hs := orR (m := ((a % 4503599627370496 : Nat) : Int)) (c := 4503599627370496) _ (or52 (by omega)))
  refine os 1 ?_
  refine kp [3, 15, 4, 2, 0] ?_
  refine nt ?_
  rw [show ((manP a : Nat) : Int) = ((a % 4503599627370496 + 4503599627370496 : Nat) : Int) from by unfold manP; rw [if_neg (by omega)]]
  rw [show ((expP a : Nat) : Int) = (a : Int) / 4503599627370496 from by unfold expP; rw [if_neg (by omega)]; omega]
  exact ⟨fun _ => rfl, ow⟩
 ·rintro ρ_ σ_ hfit
  refine SW_fits hfit ?_
  clear hfit
  refine sr ?_
  have hsmu3_ := num_small (W0 := W0) (n := 1) (by omega)
  refine L (cl (hsmu3_) ?_)
  rintro _ u3 ⟨rfl, hku3⟩
  refine os 1 ?_
  refine nsr ?_
  refine os 1 ?_
  refine nq ?_
  refine SW_seq ?_
  refine SW_cut3 (fun ρ_ σ_ => Fits ρ_ σ_ [(5, Gs.val u3 ((lim 1).length)), (0, .int .u64 (a : Int)), (2, pt b1 0), (3, .int .u64 ((manP a : Nat) : Int)), (4, .int .i64 ((expP a : Nat) : Int)), (6, .int .i64 ((nearP a : Nat) : Int))] ((Gs.ent 87 1 u3 ((lim 1).map encP)) ++ ((b1, .cells 84 5 [.slice none 0 0, .slice none 0 0, .slice none 0 0, .slice none 0 0, .bool false]) :: ([])))) ?_ ?_
  ·have hml0_ := manP_lt a
   refine SW_region ?_
   refine os 3 ?_
   refine tb 21 (fun hg4 => ?_) (fun hg4 => ?_)
   ·replace hg4 : (((manP a : Nat) : Int) == 4503599627370496) = true := hg4
    simp only [beq_iff_eq, bne_iff_ne, ne_eq, beq_eq_false_iff_ne, bne_eq_false_iff_eq, Classical.not_not] at hg4
    refine os 3 ?_
    refine kp [24, 6, 5, 0, 2, 3, 4] ?_
    refine nt ?_
    refine cdp (fun hc5 : ((expP a : Nat) : Int) > 1 => ?_) (fun hc5 => ?_)
    ·refine SW_region ?_
     refine os 1 ?_
     refine nt ?_
     rw [show ((nearP a : Nat) : Int) = 2 from by unfold nearP; rw [if_pos (by omega)]; rfl]
     exact ⟨fun _ => rfl, ow⟩
    refine SW_skip (n_then ?_)
    rw [show ((nearP a : Nat) : Int) = 1 from by unfold nearP; rw [if_neg (by omega)]; rfl]
    exact ⟨fun _ => rfl, ow⟩
   replace hg4 : (((manP a : Nat) : Int) == 4503599627370496) = false := hg4
   simp only [beq_iff_eq, bne_iff_ne, ne_eq, beq_eq_false_iff_ne, bne_eq_false_iff_eq, Classical.not_not] at hg4
   refine os 3 ?_
   refine kp [24, 6, 5, 0, 2, 3, 4] ?_
   refine nt ?_
   refine cf ?_
   refine SW_skip (n_then ?_)
   rw [show ((nearP a : Nat) : Int) = 1 from by unfold nearP; rw [if_neg (by omega)]; rfl]
   exact ⟨fun _ => rfl, ow⟩
  ·rintro ρ_ σ_ hfit
   refine SW_fits hfit ?_
   clear hfit
   refine SW_seq ?_
   have hex_ := expP_in ha
   have hml_ := manP_lt a
   have hnr_ := nearP_in a
   refine SW_region ?_
   refine os 2 ?_
   refine oV (.int .i64 (if 0 > ((expP a : Nat) : Int) - 1075 then 0 else ((expP a : Nat) : Int) - 1075)) ?_
   refine os 2 ?_
   refine oV (.int .i64 (if 0 > 1075 - ((expP a : Nat) : Int) then 0 else 1075 - ((expP a : Nat) : Int))) ?_
   refine os 2 ?_
   refine kp [8, 7, 5, 0, 2, 3, 4, 6] ?_
   refine nq ?_
   rw [show (if 0 > ((expP a : Nat) : Int) - 1075 then 0 else ((expP a : Nat) : Int) - 1075) = ((expP a - 1075 : Nat) : Int) from by split <;> omega]
   rw [show (if 0 > 1075 - ((expP a : Nat) : Int) then 0 else 1075 - ((expP a : Nat) : Int)) = ((1075 - expP a : Nat) : Int) from by split <;> omega]
   refine SW_region ?_
   refine os 1 ?_
   have hsmu6_ := num_small (W0 := W0) (n := manP a) (by omega)
   refine L (cl (hsmu6_) ?_)
   rintro _ u6 ⟨rfl, hku6⟩
   refine os 3 ?_
   refine L (cl (num_upZ (n := (expP a - 1075 + nearP a)) (show ((expP a - 1075 : Nat) : Int) + ((nearP a : Nat) : Int) = (((expP a - 1075 + nearP a) : Nat) : Int) from by omega) hku6 (cap_small (by have := manP_lt a; omega)) (by omega)) ?_)
   rintro _ u7 ⟨rfl, hku7⟩
   refine un ?_
   refine os 4 ?_
   refine kp [40, 37, 36, 8, 7, 5, 0, 2, 3, 4, 6] ?_
   refine L (cl (num_upZ (n := (1075 - expP a + nearP a)) (show ((1075 - expP a : Nat) : Int) + ((nearP a : Nat) : Int) = (((1075 - expP a + nearP a) : Nat) : Int) from by omega) hku3 (cap_small (by have := manP_lt a; omega)) (by omega)) ?_)
   rintro _ u8 ⟨rfl, hku8⟩
   refine un ?_
   refine os 5 ?_
   refine L (cl (num_upZ (n := (expP a - 1075 + nearP a - 1)) (show (((expP a - 1075 : Nat) : Int) + ((nearP a : Nat) : Int)) - 1 = (((expP a - 1075 + nearP a - 1) : Nat) : Int) from by omega) hku3 (cap_small (by have := manP_lt a; omega)) (by omega)) ?_)
   rintro _ u9 ⟨rfl, hku9⟩
   refine un ?_
   refine os 2 ?_
   refine kp [49, 48, 47, 41, 36, 8, 7, 5, 0, 2, 3, 4, 6] ?_
   refine L (cl (num_upZ (n := (expP a - 1075)) (show ((expP a - 1075 : Nat) : Int) = (((expP a - 1075) : Nat) : Int) from by omega) hku3 (cap_small (by have := manP_lt a; omega)) (by omega)) ?_)
   rintro _ u10 ⟨rfl, hku10⟩
   refine un ?_
   refine os 1 ?_
   refine oV (.int .u64 ((manP a % 2 : Nat) : Int)) ?_ (hs := andR (m := (manP a : Int)) (c := 1) _ (and1_64 (manP a) (by omega)))
   refine os 1 ?_
   refine oV (.agg #[Gs.val u7 ((lim ((manP a) * 2 ^ (expP a - 1075 + nearP a))).length), Gs.val u8 ((lim (1 * 2 ^ (1075 - expP a + nearP a))).length), Gs.val u9 ((lim (1 * 2 ^ (expP a - 1075 + nearP a - 1))).length), Gs.val u10 ((lim (1 * 2 ^ (expP a - 1075))).length), .bool (((manP a % 2 : Nat) : Int) == 0)]) ?_
   refine kp [54, 8, 7, 5, 0, 2, 3, 4, 6] ?_
   refine L (st [Gs.val u7 ((lim ((manP a) * 2 ^ (expP a - 1075 + nearP a))).length), Gs.val u8 ((lim (1 * 2 ^ (1075 - expP a + nearP a))).length), Gs.val u9 ((lim (1 * 2 ^ (expP a - 1075 + nearP a - 1))).length), Gs.val u10 ((lim (1 * 2 ^ (expP a - 1075))).length), .bool (((manP a % 2 : Nat) : Int) == 0)] ?_)
   refine nt ?_
   refine SW_ret ?_
   refine body_endC [.agg #[Gs.val u7 ((lim ((manP a) * 2 ^ (expP a - 1075 + nearP a))).length), Gs.val u8 ((lim (1 * 2 ^ (1075 - expP a + nearP a))).length), Gs.val u9 ((lim (1 * 2 ^ (expP a - 1075 + nearP a - 1))).length), Gs.val u10 ((lim (1 * 2 ^ (expP a - 1075))).length), .bool (((manP a % 2 : Nat) : Int) == 0)]] (fun _ => (.cons ⟨b1, 0, rfl, .inl ⟨[Gs.val u7 ((lim ((manP a) * 2 ^ (expP a - 1075 + nearP a))).length), Gs.val u8 ((lim (1 * 2 ^ (1075 - expP a + nearP a))).length), Gs.val u9 ((lim (1 * 2 ^ (expP a - 1075 + nearP a - 1))).length), Gs.val u10 ((lim (1 * 2 ^ (expP a - 1075))).length), .bool (((manP a % 2 : Nat) : Int) == 0)], by kernel_rfl, (cells_cons (Cell.own mem_z rfl) (cells_cons (Cell.own mem_z rfl) (cells_cons (Cell.own mem_z rfl) (cells_cons (Cell.own mem_z rfl) (cells_cons (Cell.own mem_z rfl) cells_nil))))), rfl⟩⟩ .nil)) ?_
   exact ⟨(u7, u8, u9, u10), (ow (S := Gs.ent 87 1 u7 ((lim ((manP a) * 2 ^ (expP a - 1075 + nearP a))).map encP) ++ (Gs.ent 87 1 u8 ((lim (1 * 2 ^ (1075 - expP a + nearP a))).map encP) ++ (Gs.ent 87 1 u9 ((lim (1 * 2 ^ (expP a - 1075 + nearP a - 1))).map encP) ++ (Gs.ent 87 1 u10 ((lim (1 * 2 ^ (expP a - 1075))).map encP)))))), rfl, hku7, hku8, hku9, hku10⟩

theorem num_ten {W0 : World} {s : SpanP} {gr gu ga gb : Gs} (hkr : Gs.ok 1 (lim s.r).length gr ((lim s.r).map encP)) (hku : Gs.ok 1 (lim s.u).length gu ((lim s.u).map encP)) (hka : Gs.ok 1 (lim s.a).length ga ((lim s.a).map encP)) (hkb : Gs.ok 1 (lim s.b).length gb ((lim s.b).map encP)) (hc0 : s.r < capB) (hc1 : s.a < capB) (hc2 : s.b < capB) : SC Tryz.prog W0 73 #[.agg #[Gs.val gr ((lim s.r).length), Gs.val gu ((lim s.u).length), Gs.val ga ((lim s.a).length), Gs.val gb ((lim s.b).length), .bool s.ends]] (Gs.ent 87 1 gr ((lim s.r).map encP) ++ (Gs.ent 87 1 gu ((lim s.u).map encP) ++ (Gs.ent 87 1 ga ((lim s.a).map encP) ++ (Gs.ent 87 1 gb ((lim s.b).map encP))))) (Ret (fun q : Gs × Gs × Gs => Gs.ent 87 1 q.1 ((lim (s.r * 10)).map encP) ++ (Gs.ent 87 1 q.2.1 ((lim (s.a * 10)).map encP) ++ (Gs.ent 87 1 q.2.2 ((lim (s.b * 10)).map encP) ++ (Gs.ent 87 1 gr ((lim s.r).map encP) ++ (Gs.ent 87 1 gu ((lim s.u).map encP) ++ (Gs.ent 87 1 ga ((lim s.a).map encP) ++ (Gs.ent 87 1 gb ((lim s.b).map encP)))))))) (fun v q => v = .agg #[Gs.val q.1 ((lim (s.r * 10)).length), Gs.val gu ((lim s.u).length), Gs.val q.2.1 ((lim (s.a * 10)).length), Gs.val q.2.2 ((lim (s.b * 10)).length), .bool s.ends] ∧ Gs.ok 1 (lim (s.r * 10)).length q.1 ((lim (s.r * 10)).map encP) ∧ Gs.ok 1 (lim (s.a * 10)).length q.2.1 ((lim (s.a * 10)).map encP) ∧ Gs.ok 1 (lim (s.b * 10)).length q.2.2 ((lim (s.b * 10)).map encP))) := by
 refine SC_body (fn := Tryz.f73) (n := 17) Tryz.func73 rfl (by kernel_rfl) (ρ := [(0, .agg #[Gs.val gr ((lim s.r).length), Gs.val gu ((lim s.u).length), Gs.val ga ((lim s.a).length), Gs.val gb ((lim s.b).length), .bool s.ends])]) rfl ?_
 refine SW_sig ((Gs.ent 87 1 gr ((lim s.r).map encP)) ++ ((Gs.ent 87 1 gu ((lim s.u).map encP)) ++ ((Gs.ent 87 1 ga ((lim s.a).map encP)) ++ ((Gs.ent 87 1 gb ((lim s.b).map encP)) ++ ([]))))) (by simp only [List.append_nil, List.append_assoc]) ?_
 refine sr ?_
 refine L (nw 84 5 [Gs.val gr ((lim s.r).length), Gs.val gu ((lim s.u).length), Gs.val ga ((lim s.a).length), Gs.val gb ((lim s.b).length), .bool s.ends] ?_)
 intro b1
 refine L (nw 84 5 [.slice none 0 0, .slice none 0 0, .slice none 0 0, .slice none 0 0, .bool false] ?_)
 intro b2
 refine nq ?_
 refine SW_draw [(b1, 0, Gs.val gr ((lim s.r).length)), (b1, 1, Gs.val gu ((lim s.u).length)), (b1, 2, Gs.val ga ((lim s.a).length)), (b1, 3, Gs.val gb ((lim s.b).length)), (b1, 4, .bool s.ends)] [0, 1, 2, 3, 4, 5, 6, 7, 8, 9, 10, 11, 12] (by kernel_rfl) (rd_cons (Cell.own (mem_c mem_z) rfl) (rd_cons (Cell.own (mem_c mem_z) rfl) (rd_cons (Cell.own (mem_c mem_z) rfl) (rd_cons (Cell.own (mem_c mem_z) rfl) (rd_cons (Cell.own (mem_c mem_z) rfl) rd_nil))))) ?_
 refine aF 0 ?_
 refine aL 1 ?_
 refine aF 3 ?_
 refine aL 4 ?_
 refine aF 5 ?_
 refine aL 6 ?_
 refine aF 8 ?_
 refine aL 9 ?_
 refine aF 11 ?_
 refine aL 12 ?_
 refine sa1 true 2 (h := cl (num_times10 (a0 := s.r) hkr (cap_len (by omega))) ?_)
 rintro _ t3 ⟨rfl, hkt3⟩
 try simp only [List.cons_append, List.append_assoc, List.nil_append]
 refine ⟨fun hnd => (rd_cons (Cell.own (mem_a (mem_a (mem_c mem_z))) rfl) (rd_cons (Cell.own (mem_a (mem_a (mem_c mem_z))) rfl) (rd_cons (Cell.own (mem_a (mem_a (mem_c mem_z))) rfl) (rd_cons (Cell.own (mem_a (mem_a (mem_c mem_z))) rfl) (rd_cons (Cell.own (mem_a (mem_a (mem_c mem_z))) rfl) rd_nil))))), ?_⟩
 refine sa1 true 7 (h := cl (num_times10 (a0 := s.a) hka (cap_len (by omega))) ?_)
 rintro _ t4 ⟨rfl, hkt4⟩
 try simp only [List.cons_append, List.append_assoc, List.nil_append]
 refine ⟨fun hnd => (rd_cons (Cell.own (mem_a (mem_a (mem_a (mem_a (mem_c mem_z))))) rfl) (rd_cons (Cell.own (mem_a (mem_a (mem_a (mem_a (mem_c mem_z))))) rfl) (rd_cons (Cell.own (mem_a (mem_a (mem_a (mem_a (mem_c mem_z))))) rfl) (rd_cons (Cell.own (mem_a (mem_a (mem_a (mem_a (mem_c mem_z))))) rfl) (rd_cons (Cell.own (mem_a (mem_a (mem_a (mem_a (mem_c mem_z))))) rfl) rd_nil))))), ?_⟩
 refine sa1 true 10 (h := cl (num_times10 (a0 := s.b) hkb (cap_len (by omega))) ?_)
 rintro _ t5 ⟨rfl, hkt5⟩
 try simp only [List.cons_append, List.append_assoc, List.nil_append]
 refine ⟨fun hnd => (rd_cons (Cell.own (mem_a (mem_a (mem_a (mem_a (mem_a (mem_a (mem_c mem_z))))))) rfl) (rd_cons (Cell.own (mem_a (mem_a (mem_a (mem_a (mem_a (mem_a (mem_c mem_z))))))) rfl) (rd_cons (Cell.own (mem_a (mem_a (mem_a (mem_a (mem_a (mem_a (mem_c mem_z))))))) rfl) (rd_cons (Cell.own (mem_a (mem_a (mem_a (mem_a (mem_a (mem_a (mem_c mem_z))))))) rfl) (rd_cons (Cell.own (mem_a (mem_a (mem_a (mem_a (mem_a (mem_a (mem_c mem_z))))))) rfl) rd_nil))))), ?_⟩
 refine kpA [13, 10, 5, 15, 7, 2, 1, 0] ?_
 refine tk 13 (.agg #[Gs.val t3 ((lim (s.r * 10)).length), Gs.val gu ((lim s.u).length), Gs.val t4 ((lim (s.a * 10)).length), Gs.val t5 ((lim (s.b * 10)).length), .bool s.ends]) ?_
 refine sa1 false 14 (h := st [Gs.val t3 ((lim (s.r * 10)).length), Gs.val gu ((lim s.u).length), Gs.val t4 ((lim (s.a * 10)).length), Gs.val t5 ((lim (s.b * 10)).length), .bool s.ends] ?_)
 refine ⟨fun hnd => (by cases hnd), ?_⟩
 refine SA_done (by kernel_rfl) (n_then ?_)
 refine SW_ret ?_
 refine body_endC [.agg #[Gs.val t3 ((lim (s.r * 10)).length), Gs.val gu ((lim s.u).length), Gs.val t4 ((lim (s.a * 10)).length), Gs.val t5 ((lim (s.b * 10)).length), .bool s.ends]] (fun _ => (.cons ⟨b2, 0, rfl, .inl ⟨[Gs.val t3 ((lim (s.r * 10)).length), Gs.val gu ((lim s.u).length), Gs.val t4 ((lim (s.a * 10)).length), Gs.val t5 ((lim (s.b * 10)).length), .bool s.ends], by kernel_rfl, (cells_cons (Cell.own mem_z rfl) (cells_cons (Cell.own mem_z rfl) (cells_cons (Cell.own mem_z rfl) (cells_cons (Cell.own mem_z rfl) (cells_cons (Cell.own mem_z rfl) cells_nil))))), rfl⟩⟩ .nil)) ?_
 exact ⟨(t3, t4, t5), (ow (S := Gs.ent 87 1 t3 ((lim (s.r * 10)).map encP) ++ (Gs.ent 87 1 t4 ((lim (s.a * 10)).map encP) ++ (Gs.ent 87 1 t5 ((lim (s.b * 10)).map encP) ++ (Gs.ent 87 1 gr ((lim s.r).map encP) ++ (Gs.ent 87 1 gu ((lim s.u).map encP) ++ (Gs.ent 87 1 ga ((lim s.a).map encP) ++ (Gs.ent 87 1 gb ((lim s.b).map encP))))))))), rfl, hkt3, hkt4, hkt5⟩

theorem num_high {W0 : World} {s : SpanP} {gr gu ga gb : Gs} (hkr : Gs.ok 1 (lim s.r).length gr ((lim s.r).map encP)) (hku : Gs.ok 1 (lim s.u).length gu ((lim s.u).map encP)) (hka : Gs.ok 1 (lim s.a).length ga ((lim s.a).map encP)) (hkb : Gs.ok 1 (lim s.b).length gb ((lim s.b).map encP)) (hc0 : s.r + s.a < capB) (hc1 : s.u < capB) : SC Tryz.prog W0 71 #[.agg #[Gs.val gr ((lim s.r).length), Gs.val gu ((lim s.u).length), Gs.val ga ((lim s.a).length), Gs.val gb ((lim s.b).length), .bool s.ends]] (Gs.ent 87 1 gr ((lim s.r).map encP) ++ (Gs.ent 87 1 gu ((lim s.u).map encP) ++ (Gs.ent 87 1 ga ((lim s.a).map encP) ++ (Gs.ent 87 1 gb ((lim s.b).map encP))))) (Ret (fun _ : Unit => Gs.ent 87 1 gr ((lim s.r).map encP) ++ (Gs.ent 87 1 gu ((lim s.u).map encP) ++ (Gs.ent 87 1 ga ((lim s.a).map encP) ++ (Gs.ent 87 1 gb ((lim s.b).map encP))))) (fun v _ => v = .bool (highB s))) := by
 refine SC_body (fn := Tryz.f71) (n := 22) Tryz.func71 rfl (by kernel_rfl) (ρ := [(0, .agg #[Gs.val gr ((lim s.r).length), Gs.val gu ((lim s.u).length), Gs.val ga ((lim s.a).length), Gs.val gb ((lim s.b).length), .bool s.ends])]) rfl ?_
 refine SW_sig ((Gs.ent 87 1 gr ((lim s.r).map encP)) ++ ((Gs.ent 87 1 gu ((lim s.u).map encP)) ++ ((Gs.ent 87 1 ga ((lim s.a).map encP)) ++ ((Gs.ent 87 1 gb ((lim s.b).map encP)) ++ ([]))))) (by simp only [List.append_nil, List.append_assoc]) ?_
 refine sr ?_
 refine L (nw 84 5 [Gs.val gr ((lim s.r).length), Gs.val gu ((lim s.u).length), Gs.val ga ((lim s.a).length), Gs.val gb ((lim s.b).length), .bool s.ends] ?_)
 intro b1
 refine os 1 ?_
 refine nq ?_
 refine SW_draw [(b1, 0, Gs.val gr ((lim s.r).length)), (b1, 2, Gs.val ga ((lim s.a).length)), (b1, 1, Gs.val gu ((lim s.u).length))] [0, 1, 2, 3, 4, 5, 6] (by kernel_rfl) (rd_cons (Cell.own mem_z rfl) (rd_cons (Cell.own mem_z rfl) (rd_cons (Cell.own mem_z rfl) rd_nil))) ?_
 refine aF 0 ?_
 refine aL 1 ?_
 refine aF 2 ?_
 refine aL 3 ?_
 refine aF 5 ?_
 refine aL 6 ?_
 refine sa1 true 4 (h := cl (num_plus (a0 := s.r) (b0 := s.a) hkr hka (cap_len (by omega)) (cap_len (by omega))) ?_)
 rintro _ p2 ⟨rfl, hkp2⟩
 try simp only [List.cons_append, List.append_assoc, List.nil_append]
 refine ⟨fun hnd => (rd_cons (Cell.own (mem_a (mem_a (mem_a mem_z))) rfl) (rd_cons (Cell.own (mem_a (mem_a (mem_a mem_z))) rfl) (rd_cons (Cell.own (mem_a (mem_a (mem_a mem_z))) rfl) rd_nil))), ?_⟩
 refine sa1 false 7 (h := cl (num_order (a0 := s.r + s.a) (b0 := s.u) hkp2 hku (cap_len (by omega))) ?_)
 rintro _ _ rfl
 try simp only [List.cons_append, List.append_assoc, List.nil_append]
 refine ⟨fun hnd => (by cases hnd), ?_⟩
 refine aS 8 ?_
 refine kpA [3, 2, 1, 0] ?_
 refine SA_done (by kernel_rfl) (n_then ?_)
 refine sr ?_
 refine os 3 ?_
 refine tbp 14 (fun hg3 => ?_) (fun hg3 => ?_)
 ·replace hg3 : (cmpN (s.r + s.a) s.u) > 0 := hg3
  refine os 8 ?_
  refine kp [2, 3, 1, 0] ?_
  refine nt ?_
  refine SW_ret ?_
  refine body_end (.bool true) (fun _ => rfl) ?_
  exact ⟨(), ow, congrArg Value.bool (by rw [show highB s = (decide (cmpN (s.r + s.a) s.u > 0) || (decide (cmpN (s.r + s.a) s.u = 0) && s.ends)) from rfl]; rw [decide_eq_true (by omega), Bool.true_or])⟩
 replace hg3 : ¬ ((cmpN (s.r + s.a) s.u) > 0) := hg3
 refine os 3 ?_
 refine tb 17 (fun hg4 => ?_) (fun hg4 => ?_)
 ·replace hg4 : ((cmpN (s.r + s.a) s.u) == 0) = true := hg4
  simp only [beq_iff_eq, bne_iff_ne, ne_eq, beq_eq_false_iff_ne, bne_eq_false_iff_eq, Classical.not_not] at hg4
  refine os 1 ?_
  refine L (ld ?_)
  refine os 3 ?_
  refine kp [2, 3, 1, 0] ?_
  refine nt ?_
  refine SW_ret ?_
  refine body_end (.bool s.ends) (fun _ => rfl) ?_
  exact ⟨(), ow, congrArg Value.bool (by rw [show highB s = (decide (cmpN (s.r + s.a) s.u > 0) || (decide (cmpN (s.r + s.a) s.u = 0) && s.ends)) from rfl]; rw [decide_eq_false (by omega), decide_eq_true (by omega), Bool.true_and, Bool.false_or])⟩
 replace hg4 : ((cmpN (s.r + s.a) s.u) == 0) = false := hg4
 simp only [beq_iff_eq, bne_iff_ne, ne_eq, beq_eq_false_iff_ne, bne_eq_false_iff_eq, Classical.not_not] at hg4
 refine os 5 ?_
 refine kp [2, 3, 1, 0] ?_
 refine nt ?_
 refine SW_ret ?_
 refine body_end (.bool false) (fun _ => rfl) ?_
 exact ⟨(), ow, congrArg Value.bool (by rw [show highB s = (decide (cmpN (s.r + s.a) s.u > 0) || (decide (cmpN (s.r + s.a) s.u = 0) && s.ends)) from rfl]; rw [decide_eq_false (by omega), decide_eq_false (by omega), Bool.false_and, Bool.false_or])⟩

theorem num_low {W0 : World} {s : SpanP} {gr gu ga gb : Gs} (hkr : Gs.ok 1 (lim s.r).length gr ((lim s.r).map encP)) (hku : Gs.ok 1 (lim s.u).length gu ((lim s.u).map encP)) (hka : Gs.ok 1 (lim s.a).length ga ((lim s.a).map encP)) (hkb : Gs.ok 1 (lim s.b).length gb ((lim s.b).map encP)) (hc0 : s.r < capB) : SC Tryz.prog W0 77 #[.agg #[Gs.val gr ((lim s.r).length), Gs.val gu ((lim s.u).length), Gs.val ga ((lim s.a).length), Gs.val gb ((lim s.b).length), .bool s.ends]] (Gs.ent 87 1 gr ((lim s.r).map encP) ++ (Gs.ent 87 1 gu ((lim s.u).map encP) ++ (Gs.ent 87 1 ga ((lim s.a).map encP) ++ (Gs.ent 87 1 gb ((lim s.b).map encP))))) (Ret (fun _ : Unit => Gs.ent 87 1 gr ((lim s.r).map encP) ++ (Gs.ent 87 1 gu ((lim s.u).map encP) ++ (Gs.ent 87 1 ga ((lim s.a).map encP) ++ (Gs.ent 87 1 gb ((lim s.b).map encP))))) (fun v _ => v = .bool (lowB s))) := by
 refine SC_body (fn := Tryz.f77) (n := 19) Tryz.func77 rfl (by kernel_rfl) (ρ := [(0, .agg #[Gs.val gr ((lim s.r).length), Gs.val gu ((lim s.u).length), Gs.val ga ((lim s.a).length), Gs.val gb ((lim s.b).length), .bool s.ends])]) rfl ?_
 refine SW_sig ((Gs.ent 87 1 gr ((lim s.r).map encP)) ++ ((Gs.ent 87 1 gu ((lim s.u).map encP)) ++ ((Gs.ent 87 1 ga ((lim s.a).map encP)) ++ ((Gs.ent 87 1 gb ((lim s.b).map encP)) ++ ([]))))) (by simp only [List.append_nil, List.append_assoc]) ?_
 refine sr ?_
 refine L (nw 84 5 [Gs.val gr ((lim s.r).length), Gs.val gu ((lim s.u).length), Gs.val ga ((lim s.a).length), Gs.val gb ((lim s.b).length), .bool s.ends] ?_)
 intro b1
 refine os 1 ?_
 refine nsr ?_
 refine os 1 ?_
 refine L (ld ?_)
 refine os 1 ?_
 refine L (ld ?_)
 refine L (cl (num_order (a0 := s.r) (b0 := s.b) hkr hkb (cap_len (by omega))) ?_)
 rintro _ _ rfl
 refine un ?_
 refine os 1 ?_
 refine kp [3, 2, 1, 0] ?_
 refine nsr ?_
 refine os 3 ?_
 refine tbp 11 (fun hg2 => ?_) (fun hg2 => ?_)
 ·replace hg2 : (cmpN s.r s.b) < 0 := hg2
  refine os 8 ?_
  refine kp [2, 3, 1, 0] ?_
  refine nt ?_
  refine SW_ret ?_
  refine body_end (.bool true) (fun _ => rfl) ?_
  exact ⟨(), ow, congrArg Value.bool (by rw [show lowB s = (decide (cmpN s.r s.b < 0) || (decide (cmpN s.r s.b = 0) && s.ends)) from rfl]; rw [decide_eq_true (by omega), Bool.true_or])⟩
 replace hg2 : ¬ ((cmpN s.r s.b) < 0) := hg2
 refine os 3 ?_
 refine tb 14 (fun hg3 => ?_) (fun hg3 => ?_)
 ·replace hg3 : ((cmpN s.r s.b) == 0) = true := hg3
  simp only [beq_iff_eq, bne_iff_ne, ne_eq, beq_eq_false_iff_ne, bne_eq_false_iff_eq, Classical.not_not] at hg3
  refine os 1 ?_
  refine L (ld ?_)
  refine os 3 ?_
  refine kp [2, 3, 1, 0] ?_
  refine nt ?_
  refine SW_ret ?_
  refine body_end (.bool s.ends) (fun _ => rfl) ?_
  exact ⟨(), ow, congrArg Value.bool (by rw [show lowB s = (decide (cmpN s.r s.b < 0) || (decide (cmpN s.r s.b = 0) && s.ends)) from rfl]; rw [decide_eq_false (by omega), decide_eq_true (by omega), Bool.true_and, Bool.false_or])⟩
 replace hg3 : ((cmpN s.r s.b) == 0) = false := hg3
 simp only [beq_iff_eq, bne_iff_ne, ne_eq, beq_eq_false_iff_ne, bne_eq_false_iff_eq, Classical.not_not] at hg3
 refine os 5 ?_
 refine kp [2, 3, 1, 0] ?_
 refine nt ?_
 refine SW_ret ?_
 refine body_end (.bool false) (fun _ => rfl) ?_
 exact ⟨(), ow, congrArg Value.bool (by rw [show lowB s = (decide (cmpN s.r s.b < 0) || (decide (cmpN s.r s.b = 0) && s.ends)) from rfl]; rw [decide_eq_false (by omega), decide_eq_false (by omega), Bool.false_and, Bool.false_or])⟩

theorem num_plus2 {W0 : World} {a : Gs} {a0 : Nat} (hk : Gs.ok 1 (lim a0).length a ((lim a0).map encP)) (hsa : (lim a0).length ≤ 1048576) : SC Tryz.prog W0 78 #[a.val (lim a0).length, a.val (lim a0).length] (Gs.ent 87 1 a ((lim a0).map encP)) (Ret (fun g : Gs => Gs.ent 87 1 g ((lim (a0 + a0)).map encP) ++ (Gs.ent 87 1 a ((lim a0).map encP))) (fun v g => v = g.val (lim (a0 + a0)).length ∧ Gs.ok 1 (lim (a0 + a0)).length g ((lim (a0 + a0)).map encP))) := by
 refine SC_body (fn := Tryz.f78) (n := 56) Tryz.func78 rfl (by kernel_rfl) (ρ := [(0, Gs.val a ((lim a0).length)), (1, Gs.val a ((lim a0).length))]) rfl ?_
 refine SW_sig ((Gs.ent 87 1 a ((lim a0).map encP)) ++ ([])) (by simp only [List.append_nil, List.append_assoc]) ?_
 refine sr ?_
 refine os 1 ?_
 refine nq ?_
 refine sr ?_
 refine os 5 ?_
 refine kp [13, 4, 0, 1] ?_
 refine nt ?_
 refine SW_false (fun _ => (congrArg Value.bool (show (decide (((((lim a0).length : Nat)) : Int) < ((((lim a0).length : Nat)) : Int))) = false from (decide_eq_false (by omega))))) ?_
 refine SW_skip (n_then ?_)
 refine sr ?_
 refine os 3 ?_
 refine L (O_make2 (bytes := 4) 0 ((lim a0).length + 1) (.int .u32 0) (fun _ => rfl) (fun _ => rfl) Tryz.underlying82 (by kernel_rfl) rfl (by omega) (by omega) (by omega) rfl ?_)
 intro b1 hlb1 hnb1
 refine SL_weakG ?_
 have hmkb1 : Gs.ok 1 0 (Gs.at b1 ((lim a0).length + 1)) (([] : List Int).map encP) := Gs.ok_cap (by simp) (by omega) (by unfold maxLen; omega)
 refine SL_sig ((Gs.ent 87 1 (Gs.at b1 ((lim a0).length + 1)) (([] : List Int).map encP)) ++ ((Gs.ent 87 1 a ((lim a0).map encP)) ++ ([]))) (by rw [show (([] : List Int).map encP) = List.replicate 0 (.int .u32 0) from by simp]) ?_
 refine os 1 ?_
 refine kp [5, 13, 4, 0, 1] ?_
 refine nsr ?_
 refine os 1 ?_
 refine nq ?_
 refine sr ?_
 refine os 3 ?_
 refine nt ?_
 refine SW_block ?_
 refine SW_loop (α := Nat × Gs × List Int × Int) (fun z_ ρ_ σ_ => Fits ρ_ σ_ [(1, Gs.val a ((lim a0).length)), (20, Gs.val a ((lim a0).length)), (21, .int .i64 ((((lim a0).length : Nat)) : Int)), (5, Gs.val z_.2.1 z_.2.2.1.length), (6, .int .u64 z_.2.2.2), (22, .int .i64 (z_.1 : Int))] ((Gs.ent 87 1 z_.2.1 (z_.2.2.1.map encP)) ++ ((Gs.ent 87 1 a ((lim a0).map encP)) ++ ([]))) ∧ z_.1 ≤ (lim a0).length ∧ Gs.ok 1 z_.2.2.1.length z_.2.1 (z_.2.2.1.map encP) ∧ (z_.2.2.1.length = z_.1 ∧ LimOk z_.2.2.1 ∧ (0 ≤ z_.2.2.2 ∧ z_.2.2.2 ≤ 1)) ∧ limV z_.2.2.1 + 4294967296 ^ z_.1 * z_.2.2.2.toNat = limV ((lim a0).take z_.1) + limV ((lim a0).take z_.1)) (fun z_ => (lim a0).length - z_.1) (0, (Gs.at b1 ((lim a0).length + 1)), [], (0 : Int)) ⟨⟨fun _ => rfl, ow⟩, Nat.zero_le _, hmkb1, ⟨rfl, (fun x hx => by cases hx), (show 0 ≤ (0 : Int) ∧ (0 : Int) ≤ 1 from by omega)⟩, by simp [limV]⟩ ?_
 rintro ⟨i, ob, ys, c⟩ ρ_ σ_ ⟨hfit, hi0, hi1, hi2, hi3⟩
 refine SW_fits hfit ?_
 clear hfit
 simp only [] at hi0 hi1 hi2 hi3 ⊢
 obtain ⟨hyl, hyo, hc⟩ := hi2
 refine sr ?_
 refine os 1 ?_
 refine nq ?_
 refine cdp (fun hc2 : (i : Int) < ((((lim a0).length : Nat)) : Int) => ?_) (fun hc2 => ?_)
 ·refine SW_skip (n_then ?_)
  refine SW_seq ?_
  refine SW_block ?_
  refine SW_seq ?_
  obtain ⟨e1, he1⟩ : ∃ y_, (lim a0)[i]? = some y_ := ⟨_, List.getElem?_eq_getElem (by omega)⟩
  have heo_ := lim_ok a0 _ (List.mem_of_getElem? he1)
  refine SW_region ?_
  refine os 1 ?_
  refine L (ixg (i : Int) (i) hk Tryz.underlying82 ?_)
  refine L (ld ?_ (hc := Gs.cell hk (fun e he => (mem_a (mem_h he))) (map_cell he1 rfl)))
  refine os 2 ?_
  refine kp [8, 7, 23, 1, 20, 21, 5, 6, 22] ?_
  refine nsr ?_
  refine os 5 ?_
  refine kp [6, 8, 7, 23, 1, 20, 21, 5, 22] ?_
  refine nq ?_
  refine sr ?_
  refine os 4 ?_
  refine kp [34, 6, 8, 7, 23, 1, 20, 21, 5, 22] ?_
  refine nt ?_
  refine SW_true (fun _ => (congrArg Value.bool (show (decide ((i : Int) < ((((lim a0).length : Nat)) : Int))) = true from (decide_eq_true (by omega))))) ?_
  have hey_ := lim_ok a0 _ (List.mem_of_getElem? he1)
  refine SW_region ?_
  refine os 3 ?_
  refine L (ixg (i : Int) (i) hk Tryz.underlying82 ?_)
  refine L (ld ?_ (hc := Gs.cell hk (fun e he => (mem_a (mem_h he))) (map_cell he1 rfl)))
  refine os 3 ?_
  refine kp [6, 34, 8, 7, 23, 1, 20, 21, 5, 22] ?_
  refine nsr ?_
  refine os 2 ?_
  refine oV (.int .u32 (IntKind.wrap .u32 ((c + e1) + e1))) ?_
  refine L (nws 87 1 1 [.int .u32 (IntKind.wrap .u32 ((c + e1) + e1))] ?_)
  intro b3
  refine SL_perm _ (perm_cc perm_cz) ?_
  refine L (O_append (size := 1) (bytes := 4) (z := .int .u32 0) ob ys.length 1 (some ⟨b3, 0, none⟩) 1 (ys.map encP) ([.int .u32 (IntKind.wrap .u32 ((c + e1) + e1))]) ((ys ++ [IntKind.wrap .u32 ((c + e1) + e1)]).map encP) (map_snoc _ (IntKind.wrap .u32 ((c + e1) + e1)) rfl) (fun _ => rfl) (fun _ => rfl) Tryz.underlying82 (by kernel_rfl) rfl (by decide) hi1 rfl (.inr ⟨b3, 0, rfl, Cells.own (mem_a mem_z) rfl⟩) rfl (by omega) (by decide) rfl ?_)
  intro s4 hks4 hfs4
  rw [show ys.length + 1 = (ys ++ [IntKind.wrap .u32 ((c + e1) + e1)]).length from by first | (simp; done) | (simp; omega)]
  rw [show ys.length + 1 = (ys ++ [IntKind.wrap .u32 ((c + e1) + e1)]).length from by first | (simp; done) | (simp; omega)] at hks4
  have hls4 : (ys ++ [IntKind.wrap .u32 ((c + e1) + e1)]).length = ys.length + 1 := by first | (simp; done) | (simp; omega)
  refine os 1 ?_
  refine kp [5, 6, 34, 8, 7, 23, 1, 20, 21, 22] ?_
  refine nr ?_
  refine os 1 ?_
  refine oX (.int .u64 (Int.fdiv ((c + e1) + e1) 4294967296)) (.int .u64 (((c + e1) + e1) / 4294967296)) (congrArg (Value.int .u64) (Int.fdiv_eq_ediv_of_nonneg _ (by omega))) ?_
  refine os 1 ?_
  refine SL_nil (n_in (n_then ?_))
  refine SW_region ?_
  refine os 2 ?_
  refine kp [22, 6, 5, 34, 8, 7, 23, 1, 20, 21] ?_
  refine nt ?_
  obtain ⟨q1_, q2_, q3_, q4_⟩ := plus_y hyl hyo he1 heo_ he1 hey_ hc hi3
  refine ⟨(i + 1, s4, (ys ++ [IntKind.wrap .u32 ((c + e1) + e1)]), ((c + e1) + e1) / 4294967296), by simp only []; omega, ?_⟩
  simp only []
  exact ⟨⟨fun _ => rfl, ow⟩, by omega, hks4, ⟨q1_, q2_, q3_⟩, q4_⟩
 refine SW_exit (x_then (x_then (x_in (n_then ?_))))
 refine sr ?_
 refine os 3 ?_
 refine L (nws 87 1 1 [.int .u32 c] ?_)
 intro b5
 refine SL_perm _ (perm_cc perm_cz) ?_
 refine L (O_append (size := 1) (bytes := 4) (z := .int .u32 0) ob ys.length 1 (some ⟨b5, 0, none⟩) 1 (ys.map encP) ([.int .u32 c]) ((ys ++ [c]).map encP) (map_snoc _ c rfl) (fun _ => rfl) (fun _ => rfl) Tryz.underlying82 (by kernel_rfl) rfl (by decide) hi1 rfl (.inr ⟨b5, 0, rfl, Cells.own (mem_a mem_z) rfl⟩) rfl (by omega) (by decide) rfl ?_)
 intro s6 hks6 hfs6
 rw [show ys.length + 1 = (ys ++ [c]).length from by first | (simp; done) | (simp; omega)]
 rw [show ys.length + 1 = (ys ++ [c]).length from by first | (simp; done) | (simp; omega)] at hks6
 have hls6 : (ys ++ [c]).length = ys.length + 1 := by first | (simp; done) | (simp; omega)
 have hie_ : i = (lim a0).length := by omega
 rw [hie_] at hyl hi3
 obtain ⟨hto_, htv_⟩ := plus_end (l := (lim a0)) (m := (lim a0)) hyl (by omega) hyo hc hi3
 rw [lim_val] at htv_
 have hq_ := num_trim (W0 := W0) (l := (ys ++ [c])) hto_ hks6
 rw [htv_] at hq_
 refine L (cl (hq_) ?_)
 rintro _ _ ⟨rfl, hkt_⟩
 refine os 1 ?_
 refine kp [4, 23, 1, 20, 21, 5, 6, 22] ?_
 refine nt ?_
 refine SW_ret ?_
 refine body_end (Gs.val s6 ((lim (a0 + a0)).length)) (fun _ => rfl) ?_
 exact ⟨s6, ow, rfl, hkt_⟩

end Go.Proofs.YtnhmmjogfkjceaaGreatDoor
namespace Go.Proofs.YtnhmmjogfkjceaaGreatDoor
open Go.Sl

theorem num_putd {W0 : World} (hL : LaidN W0) {d : Int} {b : Nat} {m : Bytes} (hd : -9223372036854775808 ≤ d ∧ d ≤ 9223372036854775807) (hm : m.length ≤ 1048576) : SC Tryz.prog W0 74 #[.int .i64 d, pt b 0] [(b, .cells 9 1 [.string (bS m)])] (Ret (fun _ : Unit => [(b, .cells 9 1 [.string (bS (m ++ Lib.itoa d))])]) (fun v _ => v = .tuple #[])) := by
 refine SC_body (fn := Tryz.f74) (n := 7) Tryz.func74 rfl (by kernel_rfl) (ρ := [(0, .int .i64 d), (1, pt b 0)]) rfl ?_
 refine SW_draw [(b, 0, .string (bS m))] [1, 2] (by kernel_rfl) (rd_cons (Cell.own mem_z rfl) rd_nil) ?_
 refine aL 0 ?_
 refine aS 1 ?_
 refine sa1 true 2 (h := cl (str_ItoaN hL d (by omega)) ?_)
 rintro _ _ rfl
 try simp only [List.cons_append, List.append_assoc, List.nil_append]
 refine ⟨fun hnd => (rd_cons (Cell.own mem_z rfl) rd_nil), ?_⟩
 refine tk 3 (.string (bS (m ++ (Lib.itoa d)))) ?_ (hy := (fun δ w_ => run_catB m (Lib.itoa d) (by have := Lib.itoa_length_le d hd.1 hd.2; omega) rfl rfl))
 refine sa1 false 4 (h := st [.string (bS (m ++ (Lib.itoa d)))] ?_)
 refine ⟨fun hnd => (by cases hnd), ?_⟩
 refine SA_done (by kernel_rfl) ?_
 refine body_end' (.tuple #[]) (fun _ => rfl) ?_
 exact ⟨(), ow, rfl⟩

theorem num_shortest {W0 : World} (hL : LaidN W0) {a : Nat} (h0 : 0 < a) (ha : a < 9218868437227405312) : SC Tryz.prog W0 36 #[.int .u64 (a : Int)] [] (Ret (fun _ : Unit => []) (fun v _ => v = .tuple #[.string (bS (shortP a).1), .int .i64 (shortP a).2] ∧ (shortP a).1.length ≤ 2000 ∧ -1200 ≤ (shortP a).2 ∧ (shortP a).2 ≤ 1200)) := by
 refine SC_body (fn := Tryz.f36) (n := 100) Tryz.func36 rfl (by kernel_rfl) (ρ := [(0, .int .u64 (a : Int))]) rfl ?_
 obtain ⟨K, C, hK, hC, hCB⟩ := cap_room
 obtain ⟨ho1_, ho2_, ho3_, ho4_, ho5_, ho6_⟩ := openS_in h0 ha hK hC
 refine sr ?_
 refine os 2 ?_
 refine nsr ?_
 refine os 1 ?_
 refine L (cl (num_open h0 ha) ?_)
 rintro _ ⟨or, ou, oa, ob⟩ ⟨rfl, hkor, hkou, hkoa, hkob⟩
 refine un ?_
 refine L (nw 84 5 [.slice none 0 0, .slice none 0 0, .slice none 0 0, .slice none 0 0, .bool false] ?_)
 intro b1
 refine L (st [Gs.val or ((lim ((openS a).r)).length), Gs.val ou ((lim ((openS a).u)).length), Gs.val oa ((lim ((openS a).a)).length), Gs.val ob ((lim ((openS a).b)).length), .bool ((openS a).ends)] ?_)
 refine nsr ?_
 refine os 1 ?_
 refine nq ?_
 refine SW_block ?_
 refine SW_perm _ (perm_cc (perm_ca (perm_ca (perm_ca perm_cz)))) ?_
 refine SW_perm _ (perm_ca (perm_cc (perm_ca (perm_ca perm_cz)))) ?_
 refine SW_perm _ (perm_ca (perm_ca (perm_cc (perm_ca perm_cz)))) ?_
 refine SW_perm _ (perm_ca (perm_ca (perm_ca (perm_cc perm_cz)))) ?_
 refine SW_trim [(4, pt b1 0), (5, .int .i64 ((0 : Nat) : Int))] (fun _ => rfl) ?_
 refine SW_loop (α := Nat × SpanP × Gs × Gs × Gs × Gs × Nat) (fun z_ ρ_ σ_ => Fits ρ_ σ_ [(4, pt b1 0), (5, .int .i64 (z_.2.2.2.2.2.2 : Int))] ((Gs.ent 87 1 z_.2.2.1 ((lim z_.2.1.r).map encP)) ++ ((Gs.ent 87 1 z_.2.2.2.1 ((lim z_.2.1.u).map encP)) ++ ((Gs.ent 87 1 z_.2.2.2.2.1 ((lim z_.2.1.a).map encP)) ++ ((Gs.ent 87 1 z_.2.2.2.2.2.1 ((lim z_.2.1.b).map encP)) ++ ((b1, .cells 84 5 [Gs.val z_.2.2.1 ((lim z_.2.1.r).length), Gs.val z_.2.2.2.1 ((lim z_.2.1.u).length), Gs.val z_.2.2.2.2.1 ((lim z_.2.1.a).length), Gs.val z_.2.2.2.2.2.1 ((lim z_.2.1.b).length), .bool z_.2.1.ends]) :: ([])))))) ∧ Gs.ok 1 (lim z_.2.1.r).length z_.2.2.1 ((lim z_.2.1.r).map encP) ∧ Gs.ok 1 (lim z_.2.1.u).length z_.2.2.2.1 ((lim z_.2.1.u).map encP) ∧ Gs.ok 1 (lim z_.2.1.a).length z_.2.2.2.2.1 ((lim z_.2.1.a).map encP) ∧ Gs.ok 1 (lim z_.2.1.b).length z_.2.2.2.2.2.1 ((lim z_.2.1.b).map encP) ∧ z_.2.1.r + z_.2.1.a ≤ 2 * C ∧ (z_.2.1.b ≤ z_.2.1.a ∧ 0 < z_.2.1.r) ∧ (z_.2.1.u ≤ 20 * C ∧ 0 < z_.2.1.u) ∧ z_.2.1.r + z_.2.1.a + 1 - z_.2.1.u < z_.1 ∧ 2 ^ z_.2.2.2.2.2.2 ≤ z_.2.1.u ∧ upF z_.1 z_.2.1 (z_.2.2.2.2.2.2 : Int) = upS a) (fun z_ => z_.2.1.r + z_.2.1.a + 1 - z_.2.1.u) (((openS a).r + (openS a).a + 1 - (openS a).u + 1), (openS a), or, ou, oa, ob, 0) ⟨⟨fun _ => rfl, ow⟩, hkor, hkou, hkoa, hkob, by simp only []; omega, ⟨by simp only []; omega, by simp only []; omega⟩, ⟨by simp only []; omega, by simp only []; omega⟩, by simp only []; omega, by simp only []; omega, rfl⟩ ?_
 rintro ⟨f, s, gr, gu, ga, gb, n⟩ ρ_ σ_ ⟨hfit, hi0, hi1, hi2, hi3, hi4, hi5, hi6, hi7, hi8, hi9⟩
 refine SW_fits hfit ?_
 clear hfit
 simp only [] at hi0 hi1 hi2 hi3 hi4 hi5 hi6 hi7 hi8 hi9 ⊢
 obtain ⟨f, rfl⟩ : ∃ q_, f = q_ + 1 := ⟨f - 1, by omega⟩
 have hpl_ := pow2_le hK hC hi8 hi6.1
 refine SW_seq ?_
 refine sr ?_
 refine L (lds 5 ?_)
 refine L (cl (num_high (s := s) hi0 hi1 hi2 hi3 (by first | omega | (simp only []; omega)) (by first | omega | (simp only []; omega))) ?_)
 rintro _ _ rfl
 refine un ?_
 refine nt ?_
 refine cd (fun hc2 : (highB s) = true => ?_) (fun hc2 => ?_)
 ·refine SW_skip (n_then ?_)
  refine SW_block ?_
  refine sr ?_
  refine os 1 ?_
  refine L (ld ?_)
  refine L (cl (num_times10 (a0 := s.u) hi1 (cap_len (by omega))) ?_)
  rintro _ t3 ⟨rfl, hkt3⟩
  refine un ?_
  refine os 1 ?_
  refine L (st [Gs.val gr ((lim s.r).length), Gs.val t3 ((lim (s.u * 10)).length), Gs.val ga ((lim s.a).length), Gs.val gb ((lim s.b).length), .bool s.ends] ?_)
  refine nr ?_
  refine os 3 ?_
  refine kp [5, 16, 4] ?_
  refine SL_nil (n_in (n_then ?_))
  have hge_ := high_ge hc2
  rw [upF_go hc2] at hi9
  rw [show (n : Int) + 1 = ((n + 1 : Nat) : Int) from by omega] at hi9 ⊢
  exact ⟨(f, ⟨s.r, s.u * 10, s.a, s.b, s.ends⟩, gr, t3, ga, gb, n + 1), by simp only []; omega, ⟨fun _ => rfl, ow⟩, hi0, hkt3, hi2, hi3, hi4, hi5, by simp only []; omega, by simp only []; omega, pow2_up hi8, hi9⟩
 refine SW_exit (x_then (x_then (x_in (n_then ?_))))
 refine SW_seq ?_
 refine SW_seq ?_
 have hlt_ := high_lt hc2
 rw [upF_no hc2] at hi9
 have hus_ : upS a = (s, (n : Int)) := hi9.symm
 refine SW_region ?_
 refine L (lds 5 ?_)
 refine L (cl (num_ten (s := s) hi0 hi1 hi2 hi3 (by first | omega | (simp only []; omega)) (by first | omega | (simp only []; omega)) (by first | omega | (simp only []; omega))) ?_)
 rintro _ ⟨n4, n5, n6⟩ ⟨rfl, hkn4, hkn5, hkn6⟩
 refine un ?_
 refine L (nw 84 5 [.slice none 0 0, .slice none 0 0, .slice none 0 0, .slice none 0 0, .bool false] ?_)
 intro b7
 refine L (st [Gs.val n4 ((lim (s.r * 10)).length), Gs.val gu ((lim s.u).length), Gs.val n5 ((lim (s.a * 10)).length), Gs.val n6 ((lim (s.b * 10)).length), .bool s.ends] ?_)
 refine nt ?_
 refine SW_block ?_
 refine SW_loop (α := Nat × SpanP × Gs × Gs × Gs × Gs × Gs × Gs × Gs × Nat × Nat) (fun z_ ρ_ σ_ => Fits ρ_ σ_ [(4, pt b1 0), (5, .int .i64 ((n : Int) - (z_.2.2.2.2.2.2.2.2.2.2 : Int))), (6, pt z_.2.2.2.2.2.2.2.2.2.1 0)] ((Gs.ent 87 1 z_.2.2.1 ((lim z_.2.1.r).map encP)) ++ ((Gs.ent 87 1 z_.2.2.2.1 ((lim z_.2.1.u).map encP)) ++ ((Gs.ent 87 1 z_.2.2.2.2.1 ((lim z_.2.1.a).map encP)) ++ ((Gs.ent 87 1 z_.2.2.2.2.2.1 ((lim z_.2.1.b).map encP)) ++ ((Gs.ent 87 1 z_.2.2.2.2.2.2.1 ((lim (z_.2.1.r * 10)).map encP)) ++ ((Gs.ent 87 1 z_.2.2.2.2.2.2.2.1 ((lim (z_.2.1.a * 10)).map encP)) ++ ((Gs.ent 87 1 z_.2.2.2.2.2.2.2.2.1 ((lim (z_.2.1.b * 10)).map encP)) ++ ((b1, .cells 84 5 [Gs.val z_.2.2.1 ((lim z_.2.1.r).length), Gs.val z_.2.2.2.1 ((lim z_.2.1.u).length), Gs.val z_.2.2.2.2.1 ((lim z_.2.1.a).length), Gs.val z_.2.2.2.2.2.1 ((lim z_.2.1.b).length), .bool z_.2.1.ends]) :: ((z_.2.2.2.2.2.2.2.2.2.1, .cells 84 5 [Gs.val z_.2.2.2.2.2.2.1 ((lim (z_.2.1.r * 10)).length), Gs.val z_.2.2.2.1 ((lim z_.2.1.u).length), Gs.val z_.2.2.2.2.2.2.2.1 ((lim (z_.2.1.a * 10)).length), Gs.val z_.2.2.2.2.2.2.2.2.1 ((lim (z_.2.1.b * 10)).length), .bool z_.2.1.ends]) :: ([])))))))))) ∧ Gs.ok 1 (lim z_.2.1.r).length z_.2.2.1 ((lim z_.2.1.r).map encP) ∧ Gs.ok 1 (lim z_.2.1.u).length z_.2.2.2.1 ((lim z_.2.1.u).map encP) ∧ Gs.ok 1 (lim z_.2.1.a).length z_.2.2.2.2.1 ((lim z_.2.1.a).map encP) ∧ Gs.ok 1 (lim z_.2.1.b).length z_.2.2.2.2.2.1 ((lim z_.2.1.b).map encP) ∧ Gs.ok 1 (lim (z_.2.1.r * 10)).length z_.2.2.2.2.2.2.1 ((lim (z_.2.1.r * 10)).map encP) ∧ Gs.ok 1 (lim (z_.2.1.a * 10)).length z_.2.2.2.2.2.2.2.1 ((lim (z_.2.1.a * 10)).map encP) ∧ Gs.ok 1 (lim (z_.2.1.b * 10)).length z_.2.2.2.2.2.2.2.2.1 ((lim (z_.2.1.b * 10)).map encP) ∧ z_.2.1.r + z_.2.1.a ≤ z_.2.1.u ∧ (z_.2.1.b ≤ z_.2.1.a ∧ 0 < z_.2.1.r) ∧ (z_.2.1.u ≤ 20 * C ∧ 0 < z_.2.1.u) ∧ z_.2.1.u - z_.2.1.r < z_.1 ∧ 2 ^ z_.2.2.2.2.2.2.2.2.2.2 ≤ z_.2.1.r ∧ dnF z_.1 z_.2.1 ((n : Int) - (z_.2.2.2.2.2.2.2.2.2.2 : Int)) = dnS a) (fun z_ => z_.2.1.u - z_.2.1.r) ((s.u + 1 - s.r), s, gr, gu, ga, gb, n4, n5, n6, b7, 0) ⟨⟨fun _ => rfl, ow⟩, hi0, hi1, hi2, hi3, hkn4, hkn5, hkn6, hlt_, hi5, hi6, by simp only []; omega, by simp only []; omega, by simp only [dnS, hus_]; exact congrArg (dnF _ s) (by omega)⟩ ?_
 rintro ⟨f, s2, hr, hu, ha_, hb, xr, xa, xb, c6, j⟩ ρ_ σ_ ⟨hfit, hi0, hi1, hi2, hi3, hi4, hi5, hi6, hi7, hi8, hi9, hi10, hi11, hi12⟩
 refine SW_fits hfit ?_
 clear hfit
 simp only [] at hi0 hi1 hi2 hi3 hi4 hi5 hi6 hi7 hi8 hi9 hi10 hi11 hi12 ⊢
 obtain ⟨f, rfl⟩ : ∃ q_, f = q_ + 1 := ⟨f - 1, by omega⟩
 have hpl2_ := pow2_le (x := s2.r) hK hC hi11 (by omega)
 refine SW_seq ?_
 refine sr ?_
 refine L (lds 5 ?_)
 refine L (cl (num_high (s := (⟨s2.r * 10, s2.u, s2.a * 10, s2.b * 10, s2.ends⟩ : SpanP)) hi4 hi1 hi5 hi6 (by first | omega | (simp only []; omega)) (by first | omega | (simp only []; omega))) ?_)
 rintro _ _ rfl
 refine un ?_
 refine os 1 ?_
 refine nt ?_
 refine cd (fun hc8 : (!(highB (⟨s2.r * 10, s2.u, s2.a * 10, s2.b * 10, s2.ends⟩ : SpanP))) = true => ?_) (fun hc8 => ?_)
 ·replace hc8 := bnot_t hc8
  refine SW_skip (n_then ?_)
  refine SW_seq ?_
  refine SW_block ?_
  refine sr ?_
  refine L (lds 5 ?_)
  refine L (st [Gs.val xr ((lim (s2.r * 10)).length), Gs.val hu ((lim s2.u).length), Gs.val xa ((lim (s2.a * 10)).length), Gs.val xb ((lim (s2.b * 10)).length), .bool s2.ends] ?_)
  refine nr ?_
  refine os 3 ?_
  refine kp [5, 27, 4, 6] ?_
  refine SL_nil (n_in (n_then ?_))
  refine SW_seq ?_
  refine sr ?_
  refine L (lds 5 ?_)
  refine nr ?_
  refine L (nw 84 5 [.slice none 0 0, .slice none 0 0, .slice none 0 0, .slice none 0 0, .bool false] ?_)
  intro b9
  refine L (st [Gs.val xr ((lim (s2.r * 10)).length), Gs.val hu ((lim s2.u).length), Gs.val xa ((lim (s2.a * 10)).length), Gs.val xb ((lim (s2.b * 10)).length), .bool s2.ends] ?_)
  refine nr ?_
  refine L (lds 5 ?_)
  refine L (cl (num_ten (s := (⟨s2.r * 10, s2.u, s2.a * 10, s2.b * 10, s2.ends⟩ : SpanP)) hi4 hi1 hi5 hi6 (by first | omega | (simp only []; omega)) (by first | omega | (simp only []; omega)) (by first | omega | (simp only []; omega))) ?_)
  rintro _ ⟨n10, n11, n12⟩ ⟨rfl, hkn10, hkn11, hkn12⟩
  refine un ?_
  refine L (st [Gs.val n10 ((lim ((s2.r * 10) * 10)).length), Gs.val hu ((lim s2.u).length), Gs.val n11 ((lim ((s2.a * 10) * 10)).length), Gs.val n12 ((lim ((s2.b * 10) * 10)).length), .bool s2.ends] ?_)
  refine nt ?_
  have hge_ := high_lt hc8
  rw [dnF_go hc8] at hi12
  simp only [tenS] at hge_ hi12
  rw [show (n : Int) - (j : Int) - 1 = (n : Int) - ((j + 1 : Nat) : Int) from by omega] at hi12 ⊢
  exact ⟨(f, ⟨s2.r * 10, s2.u, s2.a * 10, s2.b * 10, s2.ends⟩, xr, hu, xa, xb, n10, n11, n12, b9, j + 1), by simp only []; omega, ⟨fun _ => rfl, ow⟩, hi4, hi1, hi5, hi6, hkn10, hkn11, hkn12, by simp only []; omega, ⟨by simp only []; omega, by simp only []; omega⟩, hi9, by simp only []; omega, pow2_up hi11, hi12⟩
 replace hc8 := bnot_f hc8
 refine SW_exit (x_then (x_then (x_in (n_then ?_))))
 refine SW_seq ?_
 rw [dnF_no hc8] at hi12
 have hds_ : dnS a = (s2, (n : Int) - (j : Int)) := hi12.symm
 refine SW_region ?_
 refine L (nw 9 1 [.string (bS [])] ?_)
 intro b13
 refine L (st [.string (bS [])] ?_)
 refine nsr ?_
 refine oV (.func (.func 74) #[] #[pt b13 0]) ?_
 refine os 1 ?_
 refine kp [8, 7, 27, 4, 5, 6] ?_
 refine nq ?_
 refine sr ?_
 refine os 1 ?_
 refine nt ?_
 refine SW_block ?_
 refine SW_loop (α := Nat × SpanP × Gs × Gs × Gs × Gs × Bytes) (fun z_ ρ_ σ_ => Fits ρ_ σ_ [(4, pt b1 0), (5, .int .i64 ((n : Int) - (j : Int))), (7, pt b13 0), (8, .func (.func 74) #[] #[pt b13 0]), (35, .int .i64 (z_.1 : Int))] ((Gs.ent 87 1 z_.2.2.1 ((lim z_.2.1.r).map encP)) ++ ((Gs.ent 87 1 z_.2.2.2.1 ((lim z_.2.1.u).map encP)) ++ ((Gs.ent 87 1 z_.2.2.2.2.1 ((lim z_.2.1.a).map encP)) ++ ((Gs.ent 87 1 z_.2.2.2.2.2.1 ((lim z_.2.1.b).map encP)) ++ ((b1, .cells 84 5 [Gs.val z_.2.2.1 ((lim z_.2.1.r).length), Gs.val z_.2.2.2.1 ((lim z_.2.1.u).length), Gs.val z_.2.2.2.2.1 ((lim z_.2.1.a).length), Gs.val z_.2.2.2.2.2.1 ((lim z_.2.1.b).length), .bool z_.2.1.ends]) :: ((b13, .cells 9 1 [.string (bS z_.2.2.2.2.2.2)]) :: ([]))))))) ∧ Gs.ok 1 (lim z_.2.1.r).length z_.2.2.1 ((lim z_.2.1.r).map encP) ∧ Gs.ok 1 (lim z_.2.1.u).length z_.2.2.2.1 ((lim z_.2.1.u).map encP) ∧ Gs.ok 1 (lim z_.2.1.a).length z_.2.2.2.2.1 ((lim z_.2.1.a).map encP) ∧ Gs.ok 1 (lim z_.2.1.b).length z_.2.2.2.2.2.1 ((lim z_.2.1.b).map encP) ∧ z_.1 ≤ 20 ∧ z_.2.1.r ≤ z_.2.1.u ∧ (z_.2.1.u ≤ 20 * C ∧ 0 < z_.2.1.u) ∧ (z_.2.1.b ≤ z_.2.1.a ∧ z_.2.1.a ≤ 20 * C * 10 ^ z_.1) ∧ z_.2.2.2.2.2.2.length ≤ 21 * z_.1 ∧ genF (20 - z_.1) z_.2.1 z_.2.2.2.2.2.2 = genF 20 s2 []) (fun z_ => 20 - z_.1) (0, s2, hr, hu, ha_, hb, ([] : Bytes)) ⟨⟨fun _ => rfl, ow⟩, hi0, hi1, hi2, hi3, Nat.zero_le _, by simp only []; omega, hi9, ⟨by simp only []; omega, by simp only []; omega⟩, Nat.zero_le _, rfl⟩ ?_
 rintro ⟨i, s3, kr, ku, ka, kb, m⟩ ρ_ σ_ ⟨hfit, hi0, hi1, hi2, hi3, hi4, hi5, hi6, hi7, hi8, hi9⟩
 refine SW_fits hfit ?_
 clear hfit
 simp only [] at hi0 hi1 hi2 hi3 hi4 hi5 hi6 hi7 hi8 hi9 ⊢
 refine sr ?_
 refine os 1 ?_
 refine nq ?_
 refine cdp (fun hc14 : (i : Int) < 20 => ?_) (fun hc14 => ?_)
 ·refine SW_skip (n_then ?_)
  refine SW_seq ?_
  refine SW_block ?_
  refine SW_seq ?_
  have hgr_ := grow_in hi7.2 (show i < 20 by omega)
  rw [show 20 - i = (20 - (i + 1)) + 1 from by omega] at hi9
  refine SW_region ?_
  refine L (lds 5 ?_)
  refine L (cl (num_ten (s := s3) hi0 hi1 hi2 hi3 (by first | omega | (simp only []; omega)) (by first | omega | (simp only []; omega)) (by first | omega | (simp only []; omega))) ?_)
  rintro _ ⟨n15, n16, n17⟩ ⟨rfl, hkn15, hkn16, hkn17⟩
  refine un ?_
  refine L (st [Gs.val n15 ((lim (s3.r * 10)).length), Gs.val ku ((lim s3.u).length), Gs.val n16 ((lim (s3.a * 10)).length), Gs.val n17 ((lim (s3.b * 10)).length), .bool s3.ends] ?_)
  refine nsr ?_
  refine os 1 ?_
  refine nq ?_
  refine SW_block ?_
  refine SW_loop (α := Nat × Nat × Gs) (fun z_ ρ_ σ_ => Fits ρ_ σ_ [(4, pt b1 0), (5, .int .i64 ((n : Int) - (j : Int))), (7, pt b13 0), (8, .func (.func 74) #[] #[pt b13 0]), (35, .int .i64 (i : Int)), (9, .int .i64 (z_.1 : Int))] ((Gs.ent 87 1 z_.2.2 ((lim z_.2.1).map encP)) ++ ((Gs.ent 87 1 n16 ((lim (s3.a * 10)).map encP)) ++ ((Gs.ent 87 1 n17 ((lim (s3.b * 10)).map encP)) ++ ((Gs.ent 87 1 ku ((lim s3.u).map encP)) ++ ((b1, .cells 84 5 [Gs.val z_.2.2 ((lim z_.2.1).length), Gs.val ku ((lim s3.u).length), Gs.val n16 ((lim (s3.a * 10)).length), Gs.val n17 ((lim (s3.b * 10)).length), .bool s3.ends]) :: ((b13, .cells 9 1 [.string (bS m)]) :: ([]))))))) ∧ Gs.ok 1 (lim z_.2.1).length z_.2.2 ((lim z_.2.1).map encP) ∧ z_.2.1 + z_.1 * s3.u = s3.r * 10) (fun z_ => z_.2.1) (0, (s3.r * 10), n15) ⟨⟨fun _ => rfl, ow⟩, hkn15, by simp only []; omega⟩ ?_
  rintro ⟨dq, xq, gx⟩ ρ_ σ_ ⟨hfit, hj0, hj1⟩
  refine SW_fits hfit ?_
  clear hfit
  simp only [] at hj0 hj1 ⊢
  have hdq_ := dig_in hi6.2 hj1 (by omega)
  refine SW_seq ?_
  refine sr ?_
  refine os 1 ?_
  refine L (ld ?_)
  refine os 1 ?_
  refine L (ld ?_)
  refine L (cl (num_order (a0 := xq) (b0 := s3.u) hj0 hi1 (cap_len (by omega))) ?_)
  rintro _ _ rfl
  refine un ?_
  refine os 1 ?_
  refine kp [44, 4, 5, 7, 8, 35, 9] ?_
  refine nt ?_
  refine cdp (fun hc18 : (cmpN xq s3.u) ≥ 0 => ?_) (fun hc18 => ?_)
  ·refine SW_skip (n_then ?_)
   refine SW_block ?_
   refine sr ?_
   refine os 1 ?_
   refine L (ld ?_)
   refine os 1 ?_
   refine L (ld ?_)
   refine L (cl (num_less (a0 := xq) (b0 := s3.u) hj0 hi1 (cap_len (by omega)) (by have := cmp_ge hc18; omega)) ?_)
   rintro _ u19 ⟨rfl, hku19⟩
   refine un ?_
   refine os 1 ?_
   refine L (st [Gs.val u19 ((lim (xq - s3.u)).length), Gs.val ku ((lim s3.u).length), Gs.val n16 ((lim (s3.a * 10)).length), Gs.val n17 ((lim (s3.b * 10)).length), .bool s3.ends] ?_)
   refine nr ?_
   refine os 3 ?_
   refine kp [9, 44, 4, 5, 7, 8, 35] ?_
   refine SL_nil (n_in (n_then ?_))
   have hle_ := cmp_ge hc18
   exact ⟨(dq + 1, xq - s3.u, u19), by simp only []; omega, ⟨fun _ => rfl, ow⟩, hku19, dig_more hj1 hle_⟩
  refine SW_exit (x_then (x_then (x_in (n_then ?_))))
  refine SW_seq ?_
  obtain ⟨hxe_, hde_⟩ := dig_end hj1 (by have := cmp_nge hc18; omega)
  have hdl_ := dig_in hi6.2 hj1 (by omega)
  subst hxe_ hde_
  have hdr_ := dig_rng hdl_
  have hml3_ := Nat.mod_lt (s3.r * 10) hi6.2
  refine SW_draw [(b1, 0, Gs.val gx ((lim (s3.r * 10 % s3.u)).length)), (b1, 1, Gs.val ku ((lim s3.u).length)), (b1, 2, Gs.val n16 ((lim (s3.a * 10)).length)), (b1, 3, Gs.val n17 ((lim (s3.b * 10)).length)), (b1, 4, .bool s3.ends), (b1, 0, Gs.val gx ((lim (s3.r * 10 % s3.u)).length)), (b1, 1, Gs.val ku ((lim s3.u).length)), (b1, 2, Gs.val n16 ((lim (s3.a * 10)).length)), (b1, 3, Gs.val n17 ((lim (s3.b * 10)).length)), (b1, 4, .bool s3.ends)] [0, 1, 2] (by kernel_rfl) (rd_cons (Cell.own (mem_a (mem_a (mem_a (mem_a mem_z)))) rfl) (rd_cons (Cell.own (mem_a (mem_a (mem_a (mem_a mem_z)))) rfl) (rd_cons (Cell.own (mem_a (mem_a (mem_a (mem_a mem_z)))) rfl) (rd_cons (Cell.own (mem_a (mem_a (mem_a (mem_a mem_z)))) rfl) (rd_cons (Cell.own (mem_a (mem_a (mem_a (mem_a mem_z)))) rfl) (rd_cons (Cell.own (mem_a (mem_a (mem_a (mem_a mem_z)))) rfl) (rd_cons (Cell.own (mem_a (mem_a (mem_a (mem_a mem_z)))) rfl) (rd_cons (Cell.own (mem_a (mem_a (mem_a (mem_a mem_z)))) rfl) (rd_cons (Cell.own (mem_a (mem_a (mem_a (mem_a mem_z)))) rfl) (rd_cons (Cell.own (mem_a (mem_a (mem_a (mem_a mem_z)))) rfl) rd_nil)))))))))) ?_
  refine tr 0 (.agg #[Gs.val gx ((lim (s3.r * 10 % s3.u)).length), Gs.val ku ((lim s3.u).length), Gs.val n16 ((lim (s3.a * 10)).length), Gs.val n17 ((lim (s3.b * 10)).length), .bool s3.ends]) ?_ (hy := fun δ w_ hr => Rd_loads b1 0 [Gs.val gx ((lim (s3.r * 10 % s3.u)).length), Gs.val ku ((lim s3.u).length), Gs.val n16 ((lim (s3.a * 10)).length), Gs.val n17 ((lim (s3.b * 10)).length), .bool s3.ends] rfl (by kernel_rfl) (rdm_cons List.mem_cons_self (rdm_cons (List.mem_cons_of_mem _ List.mem_cons_self) (rdm_cons (List.mem_cons_of_mem _ (List.mem_cons_of_mem _ List.mem_cons_self)) (rdm_cons (List.mem_cons_of_mem _ (List.mem_cons_of_mem _ (List.mem_cons_of_mem _ List.mem_cons_self))) (rdm_cons (List.mem_cons_of_mem _ (List.mem_cons_of_mem _ (List.mem_cons_of_mem _ (List.mem_cons_of_mem _ List.mem_cons_self)))) rdm_nil))))) hr)
  refine tr 2 (.agg #[Gs.val gx ((lim (s3.r * 10 % s3.u)).length), Gs.val ku ((lim s3.u).length), Gs.val n16 ((lim (s3.a * 10)).length), Gs.val n17 ((lim (s3.b * 10)).length), .bool s3.ends]) ?_ (hy := fun δ w_ hr => Rd_loads b1 0 [Gs.val gx ((lim (s3.r * 10 % s3.u)).length), Gs.val ku ((lim s3.u).length), Gs.val n16 ((lim (s3.a * 10)).length), Gs.val n17 ((lim (s3.b * 10)).length), .bool s3.ends] rfl (by kernel_rfl) (rdm_cons List.mem_cons_self (rdm_cons (List.mem_cons_of_mem _ List.mem_cons_self) (rdm_cons (List.mem_cons_of_mem _ (List.mem_cons_of_mem _ List.mem_cons_self)) (rdm_cons (List.mem_cons_of_mem _ (List.mem_cons_of_mem _ (List.mem_cons_of_mem _ List.mem_cons_self))) (rdm_cons (List.mem_cons_of_mem _ (List.mem_cons_of_mem _ (List.mem_cons_of_mem _ (List.mem_cons_of_mem _ List.mem_cons_self)))) rdm_nil))))) hr)
  refine sa1 true 1 (h := cl (num_low (s := (⟨s3.r * 10 % s3.u, s3.u, s3.a * 10, s3.b * 10, s3.ends⟩ : SpanP)) hj0 hi1 hkn16 hkn17 (by first | omega | (simp only []; omega))) ?_)
  rintro _ _ rfl
  try simp only [List.cons_append, List.append_assoc, List.nil_append]
  refine ⟨fun hnd => (rd_cons (Cell.own (mem_a (mem_a (mem_a (mem_a mem_z)))) rfl) (rd_cons (Cell.own (mem_a (mem_a (mem_a (mem_a mem_z)))) rfl) (rd_cons (Cell.own (mem_a (mem_a (mem_a (mem_a mem_z)))) rfl) (rd_cons (Cell.own (mem_a (mem_a (mem_a (mem_a mem_z)))) rfl) (rd_cons (Cell.own (mem_a (mem_a (mem_a (mem_a mem_z)))) rfl) (rd_cons (Cell.own (mem_a (mem_a (mem_a (mem_a mem_z)))) rfl) (rd_cons (Cell.own (mem_a (mem_a (mem_a (mem_a mem_z)))) rfl) (rd_cons (Cell.own (mem_a (mem_a (mem_a (mem_a mem_z)))) rfl) (rd_cons (Cell.own (mem_a (mem_a (mem_a (mem_a mem_z)))) rfl) (rd_cons (Cell.own (mem_a (mem_a (mem_a (mem_a mem_z)))) rfl) rd_nil)))))))))), ?_⟩
  refine sa1 false 3 (h := cl (num_high (s := (⟨s3.r * 10 % s3.u, s3.u, s3.a * 10, s3.b * 10, s3.ends⟩ : SpanP)) hj0 hi1 hkn16 hkn17 (by first | omega | (simp only []; omega)) (by first | omega | (simp only []; omega))) ?_)
  rintro _ _ rfl
  try simp only [List.cons_append, List.append_assoc, List.nil_append]
  refine ⟨fun hnd => (by cases hnd), ?_⟩
  refine aS 4 ?_
  refine aS 5 ?_
  refine SA_done (by kernel_rfl) (n_then ?_)
  refine SW_seq ?_
  refine sr ?_
  refine os 3 ?_
  refine kp [59, 11, 10, 44, 4, 5, 7, 8, 35, 9] ?_
  refine tb 59 (fun hg20 => ?_) (fun hg20 => ?_)
  ·replace hg20 : (!(lowB (⟨s3.r * 10 % s3.u, s3.u, s3.a * 10, s3.b * 10, s3.ends⟩ : SpanP))) = true := hg20
   replace hg20 := bnot_t hg20
   refine os 3 ?_
   refine kp [62, 11, 10, 44, 4, 5, 7, 8, 35, 9] ?_
   refine nt ?_
   refine cd (fun hc21 : (!(highB (⟨s3.r * 10 % s3.u, s3.u, s3.a * 10, s3.b * 10, s3.ends⟩ : SpanP))) = true => ?_) (fun hc21 => ?_)
   ·replace hc21 := bnot_t hc21
    refine SW_seq ?_
    rw [genF_go (show lowB (restS s3) = false from hg20) (show highB (restS s3) = false from hc21)] at hi9
    refine SW_region ?_
    refine os 2 ?_
    have hil_ := Lib.itoa_length_le ((s3.r * 10 / s3.u : Nat) : Int) hdr_.1.1 hdr_.1.2
    refine L (cl (num_putd hL (d := ((s3.r * 10 / s3.u : Nat) : Int)) (b := b13) (m := m) hdr_.1 (by omega)) ?_)
    rintro _ _ rfl
    refine un ?_
    refine nt ?_
    refine SW_exit (x_then (x_in (n_then ?_)))
    refine SW_region ?_
    refine os 2 ?_
    refine kp [35, 62, 11, 10, 44, 4, 5, 7, 8, 9] ?_
    refine nt ?_
    have hml_ : (m ++ Lib.itoa ((s3.r * 10 / s3.u : Nat) : Int)).length ≤ 21 * (i + 1) := by rw [List.length_append]; omega
    exact ⟨(i + 1, ⟨s3.r * 10 % s3.u, s3.u, s3.a * 10, s3.b * 10, s3.ends⟩, gx, ku, n16, n17, (m ++ Lib.itoa ((s3.r * 10 / s3.u : Nat) : Int))), by simp only []; omega, ⟨fun _ => rfl, ow⟩, hj0, hi1, hkn16, hkn17, by simp only []; omega, Nat.le_of_lt (Nat.mod_lt _ hi6.2), hi6, ⟨by simp only []; omega, hgr_.1⟩, hml_, hi9⟩
   replace hc21 := bnot_f hc21
   refine SW_skip (n_then ?_)
   refine SW_seq ?_
   refine SW_draw [(b1, 0, Gs.val gx ((lim (s3.r * 10 % s3.u)).length)), (b1, 0, Gs.val gx ((lim (s3.r * 10 % s3.u)).length)), (b1, 1, Gs.val ku ((lim s3.u).length))] [0, 1, 2, 3, 4, 5, 6] (by kernel_rfl) (rd_cons (Cell.own (mem_a (mem_a (mem_a (mem_a mem_z)))) rfl) (rd_cons (Cell.own (mem_a (mem_a (mem_a (mem_a mem_z)))) rfl) (rd_cons (Cell.own (mem_a (mem_a (mem_a (mem_a mem_z)))) rfl) rd_nil))) ?_
   refine aF 0 ?_
   refine aL 1 ?_
   refine aF 2 ?_
   refine aL 3 ?_
   refine aF 5 ?_
   refine aL 6 ?_
   refine sa1 true 4 (h := cl (num_plus2 (a0 := s3.r * 10 % s3.u) hj0 (cap_len (by omega))) ?_)
   rintro _ p22 ⟨rfl, hkp22⟩
   try simp only [List.cons_append, List.append_assoc, List.nil_append]
   refine ⟨fun hnd => (rd_cons (Cell.own (mem_a (mem_a (mem_a (mem_a (mem_a mem_z))))) rfl) (rd_cons (Cell.own (mem_a (mem_a (mem_a (mem_a (mem_a mem_z))))) rfl) (rd_cons (Cell.own (mem_a (mem_a (mem_a (mem_a (mem_a mem_z))))) rfl) rd_nil))), ?_⟩
   refine sa1 false 7 (h := cl (num_order (a0 := (s3.r * 10 % s3.u) + (s3.r * 10 % s3.u)) (b0 := s3.u) hkp22 hi1 (cap_len (by omega))) ?_)
   rintro _ _ rfl
   try simp only [List.cons_append, List.append_assoc, List.nil_append]
   refine ⟨fun hnd => (by cases hnd), ?_⟩
   refine aS 8 ?_
   refine kpA [12, 62, 11, 10, 44, 4, 5, 7, 8, 35, 9] ?_
   refine SA_done (by kernel_rfl) (n_then ?_)
   refine SW_seq ?_
   refine sr ?_
   refine os 2 ?_
   refine tb 75 (fun hg23 => ?_) (fun hg23 => ?_)
   ·replace hg23 : (highB (⟨s3.r * 10 % s3.u, s3.u, s3.a * 10, s3.b * 10, s3.ends⟩ : SpanP)) = true := hg23
    refine os 3 ?_
    refine tb 78 (fun hg24 => ?_) (fun hg24 => ?_)
    ·replace hg24 : (!(lowB (⟨s3.r * 10 % s3.u, s3.u, s3.a * 10, s3.b * 10, s3.ends⟩ : SpanP))) = true := hg24
     replace hg24 := bnot_t hg24
     refine os 13 ?_
     refine kp [91, 12, 62, 11, 10, 44, 4, 5, 7, 8, 35, 9] ?_
     refine nt ?_
     refine ct ?_
     refine SW_region ?_
     refine os 3 ?_
     refine nsr ?_
     refine os 2 ?_
     have hil_ := Lib.itoa_length_le (((s3.r * 10 / s3.u : Nat) : Int) + 1) hdr_.2.1 hdr_.2.2
     refine L (cl (num_putd hL (d := ((s3.r * 10 / s3.u : Nat) : Int) + 1) (b := b13) (m := m) hdr_.2 (by omega)) ?_)
     rintro _ _ rfl
     refine un ?_
     refine nt ?_
     refine SW_exit (x_pass (by decide) (x_then (x_then (x_in (n_then ?_)))))
     refine sr ?_
     refine L (ld ?_)
     refine os 3 ?_
     refine kp [3, 2, 9, 91, 12, 62, 11, 10, 44, 4, 5, 7, 8, 35] ?_
     refine nt ?_
     refine SW_ret ?_
     refine body_end (.tuple #[.string (bS (m ++ Lib.itoa (((s3.r * 10 / s3.u : Nat) : Int) + 1))), .int .i64 ((n : Int) - (j : Int))]) (fun _ => rfl) ?_
     have hnn_ : ¬ (lowB (restS s3) = false ∧ highB (restS s3) = false) := by rintro ⟨q1_, q2_⟩; simp only [restS] at q1_ q2_; clear hC hK; simp_all
     have hup_ : upD (restS s3) (digS s3) = true := by clear hC hK; unfold upD restS digS; simp_all
     rw [genF_up hnn_ hup_] at hi9
     have hsp_ : shortP a = ((m ++ Lib.itoa (((s3.r * 10 / s3.u : Nat) : Int) + 1)), (n : Int) - (j : Int)) := by unfold shortP; rw [hds_]; exact congrArg (fun q_ => (q_, (n : Int) - (j : Int))) hi9.symm
     rw [hsp_]
     exact ⟨(), ow, rfl, by simp only []; rw [List.length_append]; omega, by simp only []; omega, by simp only []; omega⟩
    replace hg24 : (!(lowB (⟨s3.r * 10 % s3.u, s3.u, s3.a * 10, s3.b * 10, s3.ends⟩ : SpanP))) = false := hg24
    replace hg24 := bnot_f hg24
    refine os 4 ?_
    refine kp [82, 75, 12, 62, 11, 10, 44, 4, 5, 7, 8, 35, 9] ?_
    refine tbp 82 (fun hg25 => ?_) (fun hg25 => ?_)
    ·replace hg25 : (cmpN ((s3.r * 10 % s3.u) + (s3.r * 10 % s3.u)) s3.u) > 0 := hg25
     refine os 9 ?_
     refine kp [91, 12, 62, 11, 10, 44, 4, 5, 7, 8, 35, 9] ?_
     refine nt ?_
     refine ct ?_
     refine SW_region ?_
     refine os 3 ?_
     refine nsr ?_
     refine os 2 ?_
     have hil_ := Lib.itoa_length_le (((s3.r * 10 / s3.u : Nat) : Int) + 1) hdr_.2.1 hdr_.2.2
     refine L (cl (num_putd hL (d := ((s3.r * 10 / s3.u : Nat) : Int) + 1) (b := b13) (m := m) hdr_.2 (by omega)) ?_)
     rintro _ _ rfl
     refine un ?_
     refine nt ?_
     refine SW_exit (x_pass (by decide) (x_then (x_then (x_in (n_then ?_)))))
     refine sr ?_
     refine L (ld ?_)
     refine os 3 ?_
     refine kp [3, 2, 9, 91, 12, 62, 11, 10, 44, 4, 5, 7, 8, 35] ?_
     refine nt ?_
     refine SW_ret ?_
     refine body_end (.tuple #[.string (bS (m ++ Lib.itoa (((s3.r * 10 / s3.u : Nat) : Int) + 1))), .int .i64 ((n : Int) - (j : Int))]) (fun _ => rfl) ?_
     have hnn_ : ¬ (lowB (restS s3) = false ∧ highB (restS s3) = false) := by rintro ⟨q1_, q2_⟩; simp only [restS] at q1_ q2_; clear hC hK; simp_all
     have hup_ : upD (restS s3) (digS s3) = true := by clear hC hK; unfold upD restS digS; simp_all
     rw [genF_up hnn_ hup_] at hi9
     have hsp_ : shortP a = ((m ++ Lib.itoa (((s3.r * 10 / s3.u : Nat) : Int) + 1)), (n : Int) - (j : Int)) := by unfold shortP; rw [hds_]; exact congrArg (fun q_ => (q_, (n : Int) - (j : Int))) hi9.symm
     rw [hsp_]
     exact ⟨(), ow, rfl, by simp only []; rw [List.length_append]; omega, by simp only []; omega, by simp only []; omega⟩
    replace hg25 : ¬ ((cmpN ((s3.r * 10 % s3.u) + (s3.r * 10 % s3.u)) s3.u) > 0) := hg25
    refine os 3 ?_
    refine tb 85 (fun hg26 => ?_) (fun hg26 => ?_)
    ·replace hg26 : ((cmpN ((s3.r * 10 % s3.u) + (s3.r * 10 % s3.u)) s3.u) == 0) = true := hg26
     simp only [beq_iff_eq, bne_iff_ne, ne_eq, beq_eq_false_iff_ne, bne_eq_false_iff_eq, Classical.not_not] at hg26
     refine os 1 ?_
     refine oX (.int .i64 (Int.tmod ((s3.r * 10 / s3.u : Nat) : Int) 2)) (.int .i64 (((s3.r * 10 / s3.u : Nat) : Int) % 2)) (congrArg (Value.int .i64) (rem_nn (by first | omega | exact Int.natCast_nonneg _))) ?_
     refine os 4 ?_
     refine kp [91, 12, 62, 11, 10, 44, 4, 5, 7, 8, 35, 9] ?_
     refine nt ?_
     refine cd (fun hc27 : ((((s3.r * 10 / s3.u : Nat) : Int) % 2) == 1) = true => ?_) (fun hc27 => ?_)
     ·simp only [beq_iff_eq, bne_iff_ne, ne_eq, beq_eq_false_iff_ne, bne_eq_false_iff_eq, Classical.not_not] at hc27
      refine SW_region ?_
      refine os 3 ?_
      refine nsr ?_
      refine os 2 ?_
      have hil_ := Lib.itoa_length_le (((s3.r * 10 / s3.u : Nat) : Int) + 1) hdr_.2.1 hdr_.2.2
      refine L (cl (num_putd hL (d := ((s3.r * 10 / s3.u : Nat) : Int) + 1) (b := b13) (m := m) hdr_.2 (by omega)) ?_)
      rintro _ _ rfl
      refine un ?_
      refine nt ?_
      refine SW_exit (x_pass (by decide) (x_then (x_then (x_in (n_then ?_)))))
      refine sr ?_
      refine L (ld ?_)
      refine os 3 ?_
      refine kp [3, 2, 9, 91, 12, 62, 11, 10, 44, 4, 5, 7, 8, 35] ?_
      refine nt ?_
      refine SW_ret ?_
      refine body_end (.tuple #[.string (bS (m ++ Lib.itoa (((s3.r * 10 / s3.u : Nat) : Int) + 1))), .int .i64 ((n : Int) - (j : Int))]) (fun _ => rfl) ?_
      have hnn_ : ¬ (lowB (restS s3) = false ∧ highB (restS s3) = false) := by rintro ⟨q1_, q2_⟩; simp only [restS] at q1_ q2_; clear hC hK; simp_all
      have hup_ : upD (restS s3) (digS s3) = true := by have hpp_ := par1 hc27; clear hC hK; unfold upD restS digS; simp_all
      rw [genF_up hnn_ hup_] at hi9
      have hsp_ : shortP a = ((m ++ Lib.itoa (((s3.r * 10 / s3.u : Nat) : Int) + 1)), (n : Int) - (j : Int)) := by unfold shortP; rw [hds_]; exact congrArg (fun q_ => (q_, (n : Int) - (j : Int))) hi9.symm
      rw [hsp_]
      exact ⟨(), ow, rfl, by simp only []; rw [List.length_append]; omega, by simp only []; omega, by simp only []; omega⟩
     simp only [beq_iff_eq, bne_iff_ne, ne_eq, beq_eq_false_iff_ne, bne_eq_false_iff_eq, Classical.not_not] at hc27
     refine SW_skip (n_then ?_)
     refine sr ?_
     refine os 2 ?_
     have hil_ := Lib.itoa_length_le ((s3.r * 10 / s3.u : Nat) : Int) hdr_.1.1 hdr_.1.2
     refine L (cl (num_putd hL (d := ((s3.r * 10 / s3.u : Nat) : Int)) (b := b13) (m := m) hdr_.1 (by omega)) ?_)
     rintro _ _ rfl
     refine un ?_
     refine nt ?_
     refine SW_exit (x_pass (by decide) (x_then (x_then (x_in (n_then ?_)))))
     refine sr ?_
     refine L (ld ?_)
     refine os 3 ?_
     refine kp [3, 2, 91, 12, 62, 11, 10, 44, 4, 5, 7, 8, 35, 9] ?_
     refine nt ?_
     refine SW_ret ?_
     refine body_end (.tuple #[.string (bS (m ++ Lib.itoa ((s3.r * 10 / s3.u : Nat) : Int))), .int .i64 ((n : Int) - (j : Int))]) (fun _ => rfl) ?_
     have hnn_ : ¬ (lowB (restS s3) = false ∧ highB (restS s3) = false) := by rintro ⟨q1_, q2_⟩; simp only [restS] at q1_ q2_; clear hC hK; simp_all
     have hup_ : upD (restS s3) (digS s3) = false := by have hpp_ := par0 hc27; clear hC hK; unfold upD restS digS; simp_all
     rw [genF_dn hnn_ hup_] at hi9
     have hsp_ : shortP a = ((m ++ Lib.itoa ((s3.r * 10 / s3.u : Nat) : Int)), (n : Int) - (j : Int)) := by unfold shortP; rw [hds_]; exact congrArg (fun q_ => (q_, (n : Int) - (j : Int))) hi9.symm
     rw [hsp_]
     exact ⟨(), ow, rfl, by simp only []; rw [List.length_append]; omega, by simp only []; omega, by simp only []; omega⟩
    replace hg26 : ((cmpN ((s3.r * 10 % s3.u) + (s3.r * 10 % s3.u)) s3.u) == 0) = false := hg26
    simp only [beq_iff_eq, bne_iff_ne, ne_eq, beq_eq_false_iff_ne, bne_eq_false_iff_eq, Classical.not_not] at hg26
    refine os 6 ?_
    refine kp [91, 12, 62, 11, 10, 44, 4, 5, 7, 8, 35, 9] ?_
    refine nt ?_
    refine cf ?_
    refine SW_skip (n_then ?_)
    refine sr ?_
    refine os 2 ?_
    have hil_ := Lib.itoa_length_le ((s3.r * 10 / s3.u : Nat) : Int) hdr_.1.1 hdr_.1.2
    refine L (cl (num_putd hL (d := ((s3.r * 10 / s3.u : Nat) : Int)) (b := b13) (m := m) hdr_.1 (by omega)) ?_)
    rintro _ _ rfl
    refine un ?_
    refine nt ?_
    refine SW_exit (x_pass (by decide) (x_then (x_then (x_in (n_then ?_)))))
    refine sr ?_
    refine L (ld ?_)
    refine os 3 ?_
    refine kp [3, 2, 91, 12, 62, 11, 10, 44, 4, 5, 7, 8, 35, 9] ?_
    refine nt ?_
    refine SW_ret ?_
    refine body_end (.tuple #[.string (bS (m ++ Lib.itoa ((s3.r * 10 / s3.u : Nat) : Int))), .int .i64 ((n : Int) - (j : Int))]) (fun _ => rfl) ?_
    have hnn_ : ¬ (lowB (restS s3) = false ∧ highB (restS s3) = false) := by rintro ⟨q1_, q2_⟩; simp only [restS] at q1_ q2_; clear hC hK; simp_all
    have hup_ : upD (restS s3) (digS s3) = false := by clear hC hK; unfold upD restS digS; simp_all
    rw [genF_dn hnn_ hup_] at hi9
    have hsp_ : shortP a = ((m ++ Lib.itoa ((s3.r * 10 / s3.u : Nat) : Int)), (n : Int) - (j : Int)) := by unfold shortP; rw [hds_]; exact congrArg (fun q_ => (q_, (n : Int) - (j : Int))) hi9.symm
    rw [hsp_]
    exact ⟨(), ow, rfl, by simp only []; rw [List.length_append]; omega, by simp only []; omega, by simp only []; omega⟩
   replace hg23 : (highB (⟨s3.r * 10 % s3.u, s3.u, s3.a * 10, s3.b * 10, s3.ends⟩ : SpanP)) = false := hg23
   refine os 16 ?_
   refine kp [91, 12, 62, 11, 10, 44, 4, 5, 7, 8, 35, 9] ?_
   refine nt ?_
   refine cf ?_
   refine SW_skip (n_then ?_)
   refine sr ?_
   refine os 2 ?_
   have hil_ := Lib.itoa_length_le ((s3.r * 10 / s3.u : Nat) : Int) hdr_.1.1 hdr_.1.2
   refine L (cl (num_putd hL (d := ((s3.r * 10 / s3.u : Nat) : Int)) (b := b13) (m := m) hdr_.1 (by omega)) ?_)
   rintro _ _ rfl
   refine un ?_
   refine nt ?_
   refine SW_exit (x_pass (by decide) (x_then (x_then (x_in (n_then ?_)))))
   refine sr ?_
   refine L (ld ?_)
   refine os 3 ?_
   refine kp [3, 2, 91, 12, 62, 11, 10, 44, 4, 5, 7, 8, 35, 9] ?_
   refine nt ?_
   refine SW_ret ?_
   refine body_end (.tuple #[.string (bS (m ++ Lib.itoa ((s3.r * 10 / s3.u : Nat) : Int))), .int .i64 ((n : Int) - (j : Int))]) (fun _ => rfl) ?_
   have hnn_ : ¬ (lowB (restS s3) = false ∧ highB (restS s3) = false) := by rintro ⟨q1_, q2_⟩; simp only [restS] at q1_ q2_; clear hC hK; simp_all
   have hup_ : upD (restS s3) (digS s3) = false := by clear hC hK; unfold upD restS digS; simp_all
   rw [genF_dn hnn_ hup_] at hi9
   have hsp_ : shortP a = ((m ++ Lib.itoa ((s3.r * 10 / s3.u : Nat) : Int)), (n : Int) - (j : Int)) := by unfold shortP; rw [hds_]; exact congrArg (fun q_ => (q_, (n : Int) - (j : Int))) hi9.symm
   rw [hsp_]
   exact ⟨(), ow, rfl, by simp only []; rw [List.length_append]; omega, by simp only []; omega, by simp only []; omega⟩
  replace hg20 : (!(lowB (⟨s3.r * 10 % s3.u, s3.u, s3.a * 10, s3.b * 10, s3.ends⟩ : SpanP))) = false := hg20
  replace hg20 := bnot_f hg20
  refine os 3 ?_
  refine kp [62, 11, 10, 44, 4, 5, 7, 8, 35, 9] ?_
  refine nt ?_
  refine cf ?_
  refine SW_skip (n_then ?_)
  refine SW_seq ?_
  refine SW_draw [(b1, 0, Gs.val gx ((lim (s3.r * 10 % s3.u)).length)), (b1, 0, Gs.val gx ((lim (s3.r * 10 % s3.u)).length)), (b1, 1, Gs.val ku ((lim s3.u).length))] [0, 1, 2, 3, 4, 5, 6] (by kernel_rfl) (rd_cons (Cell.own (mem_a (mem_a (mem_a (mem_a mem_z)))) rfl) (rd_cons (Cell.own (mem_a (mem_a (mem_a (mem_a mem_z)))) rfl) (rd_cons (Cell.own (mem_a (mem_a (mem_a (mem_a mem_z)))) rfl) rd_nil))) ?_
  refine aF 0 ?_
  refine aL 1 ?_
  refine aF 2 ?_
  refine aL 3 ?_
  refine aF 5 ?_
  refine aL 6 ?_
  refine sa1 true 4 (h := cl (num_plus2 (a0 := s3.r * 10 % s3.u) hj0 (cap_len (by omega))) ?_)
  rintro _ p28 ⟨rfl, hkp28⟩
  try simp only [List.cons_append, List.append_assoc, List.nil_append]
  refine ⟨fun hnd => (rd_cons (Cell.own (mem_a (mem_a (mem_a (mem_a (mem_a mem_z))))) rfl) (rd_cons (Cell.own (mem_a (mem_a (mem_a (mem_a (mem_a mem_z))))) rfl) (rd_cons (Cell.own (mem_a (mem_a (mem_a (mem_a (mem_a mem_z))))) rfl) rd_nil))), ?_⟩
  refine sa1 false 7 (h := cl (num_order (a0 := (s3.r * 10 % s3.u) + (s3.r * 10 % s3.u)) (b0 := s3.u) hkp28 hi1 (cap_len (by omega))) ?_)
  rintro _ _ rfl
  try simp only [List.cons_append, List.append_assoc, List.nil_append]
  refine ⟨fun hnd => (by cases hnd), ?_⟩
  refine aS 8 ?_
  refine kpA [12, 62, 11, 10, 44, 4, 5, 7, 8, 35, 9] ?_
  refine SA_done (by kernel_rfl) (n_then ?_)
  refine SW_seq ?_
  refine sr ?_
  refine os 2 ?_
  refine tb 75 (fun hg29 => ?_) (fun hg29 => ?_)
  ·replace hg29 : (highB (⟨s3.r * 10 % s3.u, s3.u, s3.a * 10, s3.b * 10, s3.ends⟩ : SpanP)) = true := hg29
   refine os 3 ?_
   refine tb 78 (fun hg30 => ?_) (fun hg30 => ?_)
   ·replace hg30 : (!(lowB (⟨s3.r * 10 % s3.u, s3.u, s3.a * 10, s3.b * 10, s3.ends⟩ : SpanP))) = true := hg30
    replace hg30 := bnot_t hg30
    refine os 13 ?_
    refine kp [91, 12, 62, 11, 10, 44, 4, 5, 7, 8, 35, 9] ?_
    refine nt ?_
    refine ct ?_
    refine SW_region ?_
    refine os 3 ?_
    refine nsr ?_
    refine os 2 ?_
    have hil_ := Lib.itoa_length_le (((s3.r * 10 / s3.u : Nat) : Int) + 1) hdr_.2.1 hdr_.2.2
    refine L (cl (num_putd hL (d := ((s3.r * 10 / s3.u : Nat) : Int) + 1) (b := b13) (m := m) hdr_.2 (by omega)) ?_)
    rintro _ _ rfl
    refine un ?_
    refine nt ?_
    refine SW_exit (x_pass (by decide) (x_then (x_then (x_in (n_then ?_)))))
    refine sr ?_
    refine L (ld ?_)
    refine os 3 ?_
    refine kp [3, 2, 9, 91, 12, 62, 11, 10, 44, 4, 5, 7, 8, 35] ?_
    refine nt ?_
    refine SW_ret ?_
    refine body_end (.tuple #[.string (bS (m ++ Lib.itoa (((s3.r * 10 / s3.u : Nat) : Int) + 1))), .int .i64 ((n : Int) - (j : Int))]) (fun _ => rfl) ?_
    have hnn_ : ¬ (lowB (restS s3) = false ∧ highB (restS s3) = false) := by rintro ⟨q1_, q2_⟩; simp only [restS] at q1_ q2_; clear hC hK; simp_all
    have hup_ : upD (restS s3) (digS s3) = true := by clear hC hK; unfold upD restS digS; simp_all
    rw [genF_up hnn_ hup_] at hi9
    have hsp_ : shortP a = ((m ++ Lib.itoa (((s3.r * 10 / s3.u : Nat) : Int) + 1)), (n : Int) - (j : Int)) := by unfold shortP; rw [hds_]; exact congrArg (fun q_ => (q_, (n : Int) - (j : Int))) hi9.symm
    rw [hsp_]
    exact ⟨(), ow, rfl, by simp only []; rw [List.length_append]; omega, by simp only []; omega, by simp only []; omega⟩
   replace hg30 : (!(lowB (⟨s3.r * 10 % s3.u, s3.u, s3.a * 10, s3.b * 10, s3.ends⟩ : SpanP))) = false := hg30
   replace hg30 := bnot_f hg30
   refine os 4 ?_
   refine kp [82, 75, 12, 62, 11, 10, 44, 4, 5, 7, 8, 35, 9] ?_
   refine tbp 82 (fun hg31 => ?_) (fun hg31 => ?_)
   ·replace hg31 : (cmpN ((s3.r * 10 % s3.u) + (s3.r * 10 % s3.u)) s3.u) > 0 := hg31
    refine os 9 ?_
    refine kp [91, 12, 62, 11, 10, 44, 4, 5, 7, 8, 35, 9] ?_
    refine nt ?_
    refine ct ?_
    refine SW_region ?_
    refine os 3 ?_
    refine nsr ?_
    refine os 2 ?_
    have hil_ := Lib.itoa_length_le (((s3.r * 10 / s3.u : Nat) : Int) + 1) hdr_.2.1 hdr_.2.2
    refine L (cl (num_putd hL (d := ((s3.r * 10 / s3.u : Nat) : Int) + 1) (b := b13) (m := m) hdr_.2 (by omega)) ?_)
    rintro _ _ rfl
    refine un ?_
    refine nt ?_
    refine SW_exit (x_pass (by decide) (x_then (x_then (x_in (n_then ?_)))))
    refine sr ?_
    refine L (ld ?_)
    refine os 3 ?_
    refine kp [3, 2, 9, 91, 12, 62, 11, 10, 44, 4, 5, 7, 8, 35] ?_
    refine nt ?_
    refine SW_ret ?_
    refine body_end (.tuple #[.string (bS (m ++ Lib.itoa (((s3.r * 10 / s3.u : Nat) : Int) + 1))), .int .i64 ((n : Int) - (j : Int))]) (fun _ => rfl) ?_
    have hnn_ : ¬ (lowB (restS s3) = false ∧ highB (restS s3) = false) := by rintro ⟨q1_, q2_⟩; simp only [restS] at q1_ q2_; clear hC hK; simp_all
    have hup_ : upD (restS s3) (digS s3) = true := by clear hC hK; unfold upD restS digS; simp_all
    rw [genF_up hnn_ hup_] at hi9
    have hsp_ : shortP a = ((m ++ Lib.itoa (((s3.r * 10 / s3.u : Nat) : Int) + 1)), (n : Int) - (j : Int)) := by unfold shortP; rw [hds_]; exact congrArg (fun q_ => (q_, (n : Int) - (j : Int))) hi9.symm
    rw [hsp_]
    exact ⟨(), ow, rfl, by simp only []; rw [List.length_append]; omega, by simp only []; omega, by simp only []; omega⟩
   replace hg31 : ¬ ((cmpN ((s3.r * 10 % s3.u) + (s3.r * 10 % s3.u)) s3.u) > 0) := hg31
   refine os 3 ?_
   refine tb 85 (fun hg32 => ?_) (fun hg32 => ?_)
   ·replace hg32 : ((cmpN ((s3.r * 10 % s3.u) + (s3.r * 10 % s3.u)) s3.u) == 0) = true := hg32
    simp only [beq_iff_eq, bne_iff_ne, ne_eq, beq_eq_false_iff_ne, bne_eq_false_iff_eq, Classical.not_not] at hg32
    refine os 1 ?_
    refine oX (.int .i64 (Int.tmod ((s3.r * 10 / s3.u : Nat) : Int) 2)) (.int .i64 (((s3.r * 10 / s3.u : Nat) : Int) % 2)) (congrArg (Value.int .i64) (rem_nn (by first | omega | exact Int.natCast_nonneg _))) ?_
    refine os 4 ?_
    refine kp [91, 12, 62, 11, 10, 44, 4, 5, 7, 8, 35, 9] ?_
    refine nt ?_
    refine cd (fun hc33 : ((((s3.r * 10 / s3.u : Nat) : Int) % 2) == 1) = true => ?_) (fun hc33 => ?_)
    ·simp only [beq_iff_eq, bne_iff_ne, ne_eq, beq_eq_false_iff_ne, bne_eq_false_iff_eq, Classical.not_not] at hc33
     refine SW_region ?_
     refine os 3 ?_
     refine nsr ?_
     refine os 2 ?_
     have hil_ := Lib.itoa_length_le (((s3.r * 10 / s3.u : Nat) : Int) + 1) hdr_.2.1 hdr_.2.2
     refine L (cl (num_putd hL (d := ((s3.r * 10 / s3.u : Nat) : Int) + 1) (b := b13) (m := m) hdr_.2 (by omega)) ?_)
     rintro _ _ rfl
     refine un ?_
     refine nt ?_
     refine SW_exit (x_pass (by decide) (x_then (x_then (x_in (n_then ?_)))))
     refine sr ?_
     refine L (ld ?_)
     refine os 3 ?_
     refine kp [3, 2, 9, 91, 12, 62, 11, 10, 44, 4, 5, 7, 8, 35] ?_
     refine nt ?_
     refine SW_ret ?_
     refine body_end (.tuple #[.string (bS (m ++ Lib.itoa (((s3.r * 10 / s3.u : Nat) : Int) + 1))), .int .i64 ((n : Int) - (j : Int))]) (fun _ => rfl) ?_
     have hnn_ : ¬ (lowB (restS s3) = false ∧ highB (restS s3) = false) := by rintro ⟨q1_, q2_⟩; simp only [restS] at q1_ q2_; clear hC hK; simp_all
     have hup_ : upD (restS s3) (digS s3) = true := by have hpp_ := par1 hc33; clear hC hK; unfold upD restS digS; simp_all
     rw [genF_up hnn_ hup_] at hi9
     have hsp_ : shortP a = ((m ++ Lib.itoa (((s3.r * 10 / s3.u : Nat) : Int) + 1)), (n : Int) - (j : Int)) := by unfold shortP; rw [hds_]; exact congrArg (fun q_ => (q_, (n : Int) - (j : Int))) hi9.symm
     rw [hsp_]
     exact ⟨(), ow, rfl, by simp only []; rw [List.length_append]; omega, by simp only []; omega, by simp only []; omega⟩
    simp only [beq_iff_eq, bne_iff_ne, ne_eq, beq_eq_false_iff_ne, bne_eq_false_iff_eq, Classical.not_not] at hc33
    refine SW_skip (n_then ?_)
    refine sr ?_
    refine os 2 ?_
    have hil_ := Lib.itoa_length_le ((s3.r * 10 / s3.u : Nat) : Int) hdr_.1.1 hdr_.1.2
    refine L (cl (num_putd hL (d := ((s3.r * 10 / s3.u : Nat) : Int)) (b := b13) (m := m) hdr_.1 (by omega)) ?_)
    rintro _ _ rfl
    refine un ?_
    refine nt ?_
    refine SW_exit (x_pass (by decide) (x_then (x_then (x_in (n_then ?_)))))
    refine sr ?_
    refine L (ld ?_)
    refine os 3 ?_
    refine kp [3, 2, 91, 12, 62, 11, 10, 44, 4, 5, 7, 8, 35, 9] ?_
    refine nt ?_
    refine SW_ret ?_
    refine body_end (.tuple #[.string (bS (m ++ Lib.itoa ((s3.r * 10 / s3.u : Nat) : Int))), .int .i64 ((n : Int) - (j : Int))]) (fun _ => rfl) ?_
    have hnn_ : ¬ (lowB (restS s3) = false ∧ highB (restS s3) = false) := by rintro ⟨q1_, q2_⟩; simp only [restS] at q1_ q2_; clear hC hK; simp_all
    have hup_ : upD (restS s3) (digS s3) = false := by have hpp_ := par0 hc33; clear hC hK; unfold upD restS digS; simp_all
    rw [genF_dn hnn_ hup_] at hi9
    have hsp_ : shortP a = ((m ++ Lib.itoa ((s3.r * 10 / s3.u : Nat) : Int)), (n : Int) - (j : Int)) := by unfold shortP; rw [hds_]; exact congrArg (fun q_ => (q_, (n : Int) - (j : Int))) hi9.symm
    rw [hsp_]
    exact ⟨(), ow, rfl, by simp only []; rw [List.length_append]; omega, by simp only []; omega, by simp only []; omega⟩
   replace hg32 : ((cmpN ((s3.r * 10 % s3.u) + (s3.r * 10 % s3.u)) s3.u) == 0) = false := hg32
   simp only [beq_iff_eq, bne_iff_ne, ne_eq, beq_eq_false_iff_ne, bne_eq_false_iff_eq, Classical.not_not] at hg32
   refine os 6 ?_
   refine kp [91, 12, 62, 11, 10, 44, 4, 5, 7, 8, 35, 9] ?_
   refine nt ?_
   refine cf ?_
   refine SW_skip (n_then ?_)
   refine sr ?_
   refine os 2 ?_
   have hil_ := Lib.itoa_length_le ((s3.r * 10 / s3.u : Nat) : Int) hdr_.1.1 hdr_.1.2
   refine L (cl (num_putd hL (d := ((s3.r * 10 / s3.u : Nat) : Int)) (b := b13) (m := m) hdr_.1 (by omega)) ?_)
   rintro _ _ rfl
   refine un ?_
   refine nt ?_
   refine SW_exit (x_pass (by decide) (x_then (x_then (x_in (n_then ?_)))))
   refine sr ?_
   refine L (ld ?_)
   refine os 3 ?_
   refine kp [3, 2, 91, 12, 62, 11, 10, 44, 4, 5, 7, 8, 35, 9] ?_
   refine nt ?_
   refine SW_ret ?_
   refine body_end (.tuple #[.string (bS (m ++ Lib.itoa ((s3.r * 10 / s3.u : Nat) : Int))), .int .i64 ((n : Int) - (j : Int))]) (fun _ => rfl) ?_
   have hnn_ : ¬ (lowB (restS s3) = false ∧ highB (restS s3) = false) := by rintro ⟨q1_, q2_⟩; simp only [restS] at q1_ q2_; clear hC hK; simp_all
   have hup_ : upD (restS s3) (digS s3) = false := by clear hC hK; unfold upD restS digS; simp_all
   rw [genF_dn hnn_ hup_] at hi9
   have hsp_ : shortP a = ((m ++ Lib.itoa ((s3.r * 10 / s3.u : Nat) : Int)), (n : Int) - (j : Int)) := by unfold shortP; rw [hds_]; exact congrArg (fun q_ => (q_, (n : Int) - (j : Int))) hi9.symm
   rw [hsp_]
   exact ⟨(), ow, rfl, by simp only []; rw [List.length_append]; omega, by simp only []; omega, by simp only []; omega⟩
  replace hg29 : (highB (⟨s3.r * 10 % s3.u, s3.u, s3.a * 10, s3.b * 10, s3.ends⟩ : SpanP)) = false := hg29
  refine os 16 ?_
  refine kp [91, 12, 62, 11, 10, 44, 4, 5, 7, 8, 35, 9] ?_
  refine nt ?_
  refine cf ?_
  refine SW_skip (n_then ?_)
  refine sr ?_
  refine os 2 ?_
  have hil_ := Lib.itoa_length_le ((s3.r * 10 / s3.u : Nat) : Int) hdr_.1.1 hdr_.1.2
  refine L (cl (num_putd hL (d := ((s3.r * 10 / s3.u : Nat) : Int)) (b := b13) (m := m) hdr_.1 (by omega)) ?_)
  rintro _ _ rfl
  refine un ?_
  refine nt ?_
  refine SW_exit (x_pass (by decide) (x_then (x_then (x_in (n_then ?_)))))
  refine sr ?_
  refine L (ld ?_)
  refine os 3 ?_
  refine kp [3, 2, 91, 12, 62, 11, 10, 44, 4, 5, 7, 8, 35, 9] ?_
  refine nt ?_
  refine SW_ret ?_
  refine body_end (.tuple #[.string (bS (m ++ Lib.itoa ((s3.r * 10 / s3.u : Nat) : Int))), .int .i64 ((n : Int) - (j : Int))]) (fun _ => rfl) ?_
  have hnn_ : ¬ (lowB (restS s3) = false ∧ highB (restS s3) = false) := by rintro ⟨q1_, q2_⟩; simp only [restS] at q1_ q2_; clear hC hK; simp_all
  have hup_ : upD (restS s3) (digS s3) = false := by clear hC hK; unfold upD restS digS; simp_all
  rw [genF_dn hnn_ hup_] at hi9
  have hsp_ : shortP a = ((m ++ Lib.itoa ((s3.r * 10 / s3.u : Nat) : Int)), (n : Int) - (j : Int)) := by unfold shortP; rw [hds_]; exact congrArg (fun q_ => (q_, (n : Int) - (j : Int))) hi9.symm
  rw [hsp_]
  exact ⟨(), ow, rfl, by simp only []; rw [List.length_append]; omega, by simp only []; omega, by simp only []; omega⟩
 refine SW_exit (x_then (x_then (x_in (n_then ?_))))
 refine sr ?_
 refine L (ld ?_)
 refine os 3 ?_
 refine nt ?_
 refine SW_ret ?_
 refine body_end (.tuple #[.string (bS m), .int .i64 ((n : Int) - (j : Int))]) (fun _ => rfl) ?_
 rw [show 20 - i = 0 from by omega] at hi9
 have hsp_ : shortP a = (m, (n : Int) - (j : Int)) := by unfold shortP; rw [hds_]; exact congrArg (fun q_ => (q_, (n : Int) - (j : Int))) hi9.symm
 rw [hsp_]
 exact ⟨(), ow, rfl, by simp only []; omega, by simp only []; omega, by simp only []; omega⟩

end Go.Proofs.YtnhmmjogfkjceaaGreatDoor
