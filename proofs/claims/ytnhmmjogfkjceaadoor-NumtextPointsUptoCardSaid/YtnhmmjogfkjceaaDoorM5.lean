/-
  NumtextPoints, within the bound on what it reads, and tied to the program's text: it returns true whatever it is given, and leaves its arguments as they were. Conditions: the arguments' bulk is at most 1048576; the listed library variables stand as their text lays them, as the statement says.
-/
import Derived.Test.YtnhmmjogfkjceaaDoorProg
import Derived.Test.YtnhmmjogfkjceaaDoorM4
import Derived.Test.YtnhmmjogfkjceaaDoorM1
set_option linter.unusedVariables false
set_option linter.unusedSimpArgs false
set_option maxRecDepth 100000
set_option maxHeartbeats 4000000
namespace Go.Proofs.YtnhmmjogfkjceaaDoor
open Go.Sl

theorem nDigits_20b {u : Nat} (h2 : u < 18446744073709551616) : Lib.nDigits u ≤ 20 := by
 rcases Nat.eq_zero_or_pos u with h | h
 · rw [h, Lib.nDigits_small (by decide)]; decide
 · exact nDigits_20 h h2

theorem law_NumtextPoints {W0 : World} (hL : LaidN W0) {n : Nat} {pl ex : Int} (hu : n < 18446744073709551616) (hpl : -9223372036854775808 ≤ pl ∧ pl ≤ 9223372036854775807) (hex : -2147483648 ≤ ex ∧ ex ≤ 2147483647) : SC Tryd.prog W0 9 #[.int .u64 (n : Int), .int .i64 pl, .int .i32 ex] [] (Ret (fun _ : Unit => []) (fun v _ => v = .bool true)) := by
 refine SC_body (fn := Tryd.f9) (n := 69) Tryd.func9 rfl (by kernel_rfl) (ρ := [(0, .int .u64 (n : Int)), (1, .int .i64 pl), (2, .int .i32 ex)]) rfl ?_
 refine sr ?_
 refine os 1 ?_
 refine nsr ?_
 refine os 1 ?_
 have hfu_ := str_FormatUint (W0 := W0) hL (u := n) hu
 obtain ⟨D, hD_⟩ : ∃ D, D = Lib.decDigits n := ⟨_, rfl⟩
 have hDd_ : ∀ c ∈ D, isDig c = true := by rw [hD_]; exact decDigits_dig n
 have hDn_ : D ≠ [] := by rw [hD_]; exact decDigits_ne n
 have hDl_ : D.length ≤ 20 := by rw [hD_, Lib.decDigits_length]; exact nDigits_20b hu
 rw [← hD_] at hfu_
 refine L (cl (hfu_) ?_)
 rintro _ _ rfl
 refine un ?_
 refine os 1 ?_
 refine nq ?_
 refine sr ?_
 refine os 3 ?_
 refine tbp 16 (fun hg1 => ?_) (fun hg1 => ?_)
 ·replace hg1 : pl < 0 := hg1
  refine os 5 ?_
  refine kp [21, 7, 6, 0, 1, 2] ?_
  refine nt ?_
  refine ct ?_
  refine SW_region ?_
  refine os 1 ?_
  refine oX (.int .i64 ((bS D).size : Int)) (.int .i64 (D.length : Int)) (congrArg (fun n_ : Nat => Value.int .i64 (n_ : Int)) (bS_size _)) ?_
  refine os 1 ?_
  refine nsr ?_
  refine os 3 ?_
  refine kp [8, 1, 21, 7, 6, 0, 2] ?_
  refine nsr ?_
  refine os 1 ?_
  refine oV (.string (bS (D ++ [101]))) ?_ (hs := (fun δ w_ => run_catB D [101] (by first | omega | (simp only [List.length_append, List.length_cons, List.length_nil, List.length_take, List.length_drop]; omega)) rfl rfl))
  refine os 1 ?_
  have hil_ := Lib.itoa_length_le ex (by omega) (by omega)
  refine L (cl (str_ItoaN hL ex (by omega)) ?_)
  rintro _ _ rfl
  refine un ?_
  refine oV (.string (bS ((D ++ [101]) ++ (Lib.itoa ex)))) ?_ (hs := (fun δ w_ => run_catB (D ++ [101]) (Lib.itoa ex) (by first | omega | (simp only [List.length_append, List.length_cons, List.length_nil, List.length_take, List.length_drop]; omega)) rfl rfl))
  refine L (cl (num_Read (X := (D ++ [101]) ++ (Lib.itoa ex)) (by first | omega | (simp; omega))) ?_)
  rintro _ _ rfl
  refine un ?_
  refine os 1 ?_
  refine kp [9, 8, 1, 21, 7, 6, 0, 2] ?_
  refine nq ?_
  refine SW_draw [] [] (by kernel_rfl) rd_nil ?_
  refine aS 0 ?_
  refine aS 1 ?_
  refine tk 2 (.string (bS (D.take ((D.length : Int)).toNat))) ?_ (hy := fun δ w => run_strTo (l := D) (D.length : Int) .i64 Tryd.underlying9 rfl rfl (by omega) (by omega))
  rw [show ((D.length : Int)).toNat = D.length from by omega]
  refine tk 3 (.string (bS ((D.take D.length) ++ [46]))) ?_ (hy := (fun δ w_ => run_catB (D.take D.length) [46] (by first | omega | (simp only [List.length_append, List.length_cons, List.length_nil, List.length_take, List.length_drop]; omega)) rfl rfl))
  refine aS 4 ?_
  refine aS 5 ?_
  refine tk 6 (.string (bS (D.drop ((D.length : Int)).toNat))) ?_ (hy := fun δ w => run_strFrom (l := D) (D.length : Int) .i64 Tryd.underlying9 rfl rfl (by omega) (by omega))
  rw [show ((D.length : Int)).toNat = D.length from by omega]
  refine tk 7 (.string (bS (((D.take D.length) ++ [46]) ++ (D.drop D.length)))) ?_ (hy := (fun δ w_ => run_catB ((D.take D.length) ++ [46]) (D.drop D.length) (by first | omega | (simp only [List.length_append, List.length_cons, List.length_nil, List.length_take, List.length_drop]; omega)) rfl rfl))
  refine tk 8 (.string (bS ((((D.take D.length) ++ [46]) ++ (D.drop D.length)) ++ [69]))) ?_ (hy := (fun δ w_ => run_catB (((D.take D.length) ++ [46]) ++ (D.drop D.length)) [69] (by first | omega | (simp only [List.length_append, List.length_cons, List.length_nil, List.length_take, List.length_drop]; omega)) rfl rfl))
  refine kpA [40, 9, 8, 1, 21, 7, 6, 0, 2] ?_
  refine aS 9 ?_
  refine aS 10 ?_
  refine tk 11 (.int .i64 ((bS D).size : Int)) ?_
  rw [bS_size]
  refine tk 12 (.int .i64 (IntKind.wrap .i64 (ex + (D.length : Int)))) ?_
  rw [show IntKind.wrap .i64 (ex + (D.length : Int)) = ex + (D.length : Int) from IntWalk.i64_in _ (by omega)]
  refine aS 13 ?_
  refine tk 14 (.int .i64 (IntKind.wrap .i64 ((ex + (D.length : Int)) - (D.length : Int)))) ?_
  rw [show IntKind.wrap .i64 ((ex + (D.length : Int)) - (D.length : Int)) = (ex + (D.length : Int)) - (D.length : Int) from IntWalk.i64_in _ (by omega)]
  have hil_ := Lib.itoa_length_le ((ex + (D.length : Int)) - (D.length : Int)) (by omega) (by omega)
  refine sa1 false 15 (h := cl (str_ItoaN hL ((ex + (D.length : Int)) - (D.length : Int)) (by omega)) ?_)
  rintro _ _ rfl
  try simp only [List.nil_append]
  refine ⟨fun hnd => (by cases hnd), ?_⟩
  refine tk 16 (.string (bS (((((D.take D.length) ++ [46]) ++ (D.drop D.length)) ++ [69]) ++ (Lib.itoa ((ex + (D.length : Int)) - (D.length : Int)))))) ?_ (hy := (fun δ w_ => run_catB ((((D.take D.length) ++ [46]) ++ (D.drop D.length)) ++ [69]) (Lib.itoa ((ex + (D.length : Int)) - (D.length : Int))) (by first | omega | (simp only [List.length_append, List.length_cons, List.length_nil, List.length_take, List.length_drop]; omega)) rfl rfl))
  refine kpA [48, 9, 8, 1, 21, 7, 6, 0, 2] ?_
  refine sa1 false 17 (h := cl (num_Read (X := ((((D.take D.length) ++ [46]) ++ (D.drop D.length)) ++ [69]) ++ (Lib.itoa ((ex + (D.length : Int)) - (D.length : Int)))) (by first | omega | (simp; omega))) ?_)
  rintro _ _ rfl
  try simp only [List.nil_append]
  refine ⟨fun hnd => (by cases hnd), ?_⟩
  refine aS 18 ?_
  refine SA_done (by kernel_rfl) (n_then ?_)
  refine sr ?_
  refine os 1 ?_
  refine oV (.string (bS ([48, 48, 48] ++ D))) ?_ (hs := (fun δ w_ => run_catB [48, 48, 48] D (by first | omega | (simp only [List.length_append, List.length_cons, List.length_nil, List.length_take, List.length_drop]; omega)) rfl rfl))
  refine oV (.string (bS (([48, 48, 48] ++ D) ++ [48, 48, 48, 101]))) ?_ (hs := (fun δ w_ => run_catB ([48, 48, 48] ++ D) [48, 48, 48, 101] (by first | omega | (simp only [List.length_append, List.length_cons, List.length_nil, List.length_take, List.length_drop]; omega)) rfl rfl))
  refine os 2 ?_
  have hil_ := Lib.itoa_length_le (ex - 3) (by omega) (by omega)
  refine L (cl (str_ItoaN hL (ex - 3) (by omega)) ?_)
  rintro _ _ rfl
  refine un ?_
  refine oV (.string (bS ((([48, 48, 48] ++ D) ++ [48, 48, 48, 101]) ++ (Lib.itoa (ex - 3))))) ?_ (hs := (fun δ w_ => run_catB (([48, 48, 48] ++ D) ++ [48, 48, 48, 101]) (Lib.itoa (ex - 3)) (by first | omega | (simp only [List.length_append, List.length_cons, List.length_nil, List.length_take, List.length_drop]; omega)) rfl rfl))
  refine kp [56, 10, 9, 8, 1, 21, 7, 6, 0, 2] ?_
  refine L (cl (num_Read (X := (([48, 48, 48] ++ D) ++ [48, 48, 48, 101]) ++ (Lib.itoa (ex - 3))) (by first | omega | (simp; omega))) ?_)
  rintro _ _ rfl
  refine un ?_
  refine os 1 ?_
  refine nsr ?_
  refine L (cl (law_alive2 hL) ?_)
  rintro _ _ rfl
  refine un ?_
  refine os 6 ?_
  refine kp [64, 11, 10, 9, 8, 1, 21, 7, 6, 0, 2] ?_
  refine pn 64 (show ((readP ((D ++ [101]) ++ (Lib.itoa ex)) : Int) == (readP (((((D.take D.length) ++ [46]) ++ (D.drop D.length)) ++ [69]) ++ (Lib.itoa ((ex + (D.length : Int)) - (D.length : Int)))) : Int)) = true from (beq_iff_eq.2 (congrArg (fun n_ : Nat => (n_ : Int)) (points_ab hDd_ hDn_ hex hDl_ (by omega))))) ?_
  refine os 5 ?_
  refine kp [6, 11, 10, 9, 8, 1, 21, 7, 0, 2] ?_
  refine nt ?_
  refine SW_ret ?_
  refine body_end (.bool ((readP ((D ++ [101]) ++ (Lib.itoa ex)) : Int) == (readP ((([48, 48, 48] ++ D) ++ [48, 48, 48, 101]) ++ (Lib.itoa (ex - 3))) : Int))) (fun _ => rfl) ?_
  exact ⟨(), ow, congrArg Value.bool (beq_iff_eq.2 (congrArg (fun n_ : Nat => (n_ : Int)) (points_ac hDd_ hDn_ hex hDl_)))⟩
 replace hg1 : ¬ (pl < 0) := hg1
 refine os 2 ?_
 refine oX (.int .i64 ((bS D).size : Int)) (.int .i64 (D.length : Int)) (congrArg (fun n_ : Nat => Value.int .i64 (n_ : Int)) (bS_size _)) ?_
 refine os 2 ?_
 refine kp [21, 7, 6, 0, 1, 2] ?_
 refine nt ?_
 refine cdp (fun hc3 : pl > (D.length : Int) => ?_) (fun hc3 => ?_)
 ·refine SW_region ?_
  refine os 1 ?_
  refine oX (.int .i64 ((bS D).size : Int)) (.int .i64 (D.length : Int)) (congrArg (fun n_ : Nat => Value.int .i64 (n_ : Int)) (bS_size _)) ?_
  refine os 1 ?_
  refine nsr ?_
  refine os 3 ?_
  refine kp [8, 1, 21, 7, 6, 0, 2] ?_
  refine nsr ?_
  refine os 1 ?_
  refine oV (.string (bS (D ++ [101]))) ?_ (hs := (fun δ w_ => run_catB D [101] (by first | omega | (simp only [List.length_append, List.length_cons, List.length_nil, List.length_take, List.length_drop]; omega)) rfl rfl))
  refine os 1 ?_
  have hil_ := Lib.itoa_length_le ex (by omega) (by omega)
  refine L (cl (str_ItoaN hL ex (by omega)) ?_)
  rintro _ _ rfl
  refine un ?_
  refine oV (.string (bS ((D ++ [101]) ++ (Lib.itoa ex)))) ?_ (hs := (fun δ w_ => run_catB (D ++ [101]) (Lib.itoa ex) (by first | omega | (simp only [List.length_append, List.length_cons, List.length_nil, List.length_take, List.length_drop]; omega)) rfl rfl))
  refine L (cl (num_Read (X := (D ++ [101]) ++ (Lib.itoa ex)) (by first | omega | (simp; omega))) ?_)
  rintro _ _ rfl
  refine un ?_
  refine os 1 ?_
  refine kp [9, 8, 1, 21, 7, 6, 0, 2] ?_
  refine nq ?_
  refine SW_draw [] [] (by kernel_rfl) rd_nil ?_
  refine aS 0 ?_
  refine aS 1 ?_
  refine tk 2 (.string (bS (D.take ((D.length : Int)).toNat))) ?_ (hy := fun δ w => run_strTo (l := D) (D.length : Int) .i64 Tryd.underlying9 rfl rfl (by omega) (by omega))
  rw [show ((D.length : Int)).toNat = D.length from by omega]
  refine tk 3 (.string (bS ((D.take D.length) ++ [46]))) ?_ (hy := (fun δ w_ => run_catB (D.take D.length) [46] (by first | omega | (simp only [List.length_append, List.length_cons, List.length_nil, List.length_take, List.length_drop]; omega)) rfl rfl))
  refine aS 4 ?_
  refine aS 5 ?_
  refine tk 6 (.string (bS (D.drop ((D.length : Int)).toNat))) ?_ (hy := fun δ w => run_strFrom (l := D) (D.length : Int) .i64 Tryd.underlying9 rfl rfl (by omega) (by omega))
  rw [show ((D.length : Int)).toNat = D.length from by omega]
  refine tk 7 (.string (bS (((D.take D.length) ++ [46]) ++ (D.drop D.length)))) ?_ (hy := (fun δ w_ => run_catB ((D.take D.length) ++ [46]) (D.drop D.length) (by first | omega | (simp only [List.length_append, List.length_cons, List.length_nil, List.length_take, List.length_drop]; omega)) rfl rfl))
  refine tk 8 (.string (bS ((((D.take D.length) ++ [46]) ++ (D.drop D.length)) ++ [69]))) ?_ (hy := (fun δ w_ => run_catB (((D.take D.length) ++ [46]) ++ (D.drop D.length)) [69] (by first | omega | (simp only [List.length_append, List.length_cons, List.length_nil, List.length_take, List.length_drop]; omega)) rfl rfl))
  refine kpA [40, 9, 8, 1, 21, 7, 6, 0, 2] ?_
  refine aS 9 ?_
  refine aS 10 ?_
  refine tk 11 (.int .i64 ((bS D).size : Int)) ?_
  rw [bS_size]
  refine tk 12 (.int .i64 (IntKind.wrap .i64 (ex + (D.length : Int)))) ?_
  rw [show IntKind.wrap .i64 (ex + (D.length : Int)) = ex + (D.length : Int) from IntWalk.i64_in _ (by omega)]
  refine aS 13 ?_
  refine tk 14 (.int .i64 (IntKind.wrap .i64 ((ex + (D.length : Int)) - (D.length : Int)))) ?_
  rw [show IntKind.wrap .i64 ((ex + (D.length : Int)) - (D.length : Int)) = (ex + (D.length : Int)) - (D.length : Int) from IntWalk.i64_in _ (by omega)]
  have hil_ := Lib.itoa_length_le ((ex + (D.length : Int)) - (D.length : Int)) (by omega) (by omega)
  refine sa1 false 15 (h := cl (str_ItoaN hL ((ex + (D.length : Int)) - (D.length : Int)) (by omega)) ?_)
  rintro _ _ rfl
  try simp only [List.nil_append]
  refine ⟨fun hnd => (by cases hnd), ?_⟩
  refine tk 16 (.string (bS (((((D.take D.length) ++ [46]) ++ (D.drop D.length)) ++ [69]) ++ (Lib.itoa ((ex + (D.length : Int)) - (D.length : Int)))))) ?_ (hy := (fun δ w_ => run_catB ((((D.take D.length) ++ [46]) ++ (D.drop D.length)) ++ [69]) (Lib.itoa ((ex + (D.length : Int)) - (D.length : Int))) (by first | omega | (simp only [List.length_append, List.length_cons, List.length_nil, List.length_take, List.length_drop]; omega)) rfl rfl))
  refine kpA [48, 9, 8, 1, 21, 7, 6, 0, 2] ?_
  refine sa1 false 17 (h := cl (num_Read (X := ((((D.take D.length) ++ [46]) ++ (D.drop D.length)) ++ [69]) ++ (Lib.itoa ((ex + (D.length : Int)) - (D.length : Int)))) (by first | omega | (simp; omega))) ?_)
  rintro _ _ rfl
  try simp only [List.nil_append]
  refine ⟨fun hnd => (by cases hnd), ?_⟩
  refine aS 18 ?_
  refine SA_done (by kernel_rfl) (n_then ?_)
  refine sr ?_
  refine os 1 ?_
  refine oV (.string (bS ([48, 48, 48] ++ D))) ?_ (hs := (fun δ w_ => run_catB [48, 48, 48] D (by first | omega | (simp only [List.length_append, List.length_cons, List.length_nil, List.length_take, List.length_drop]; omega)) rfl rfl))
  refine oV (.string (bS (([48, 48, 48] ++ D) ++ [48, 48, 48, 101]))) ?_ (hs := (fun δ w_ => run_catB ([48, 48, 48] ++ D) [48, 48, 48, 101] (by first | omega | (simp only [List.length_append, List.length_cons, List.length_nil, List.length_take, List.length_drop]; omega)) rfl rfl))
  refine os 2 ?_
  have hil_ := Lib.itoa_length_le (ex - 3) (by omega) (by omega)
  refine L (cl (str_ItoaN hL (ex - 3) (by omega)) ?_)
  rintro _ _ rfl
  refine un ?_
  refine oV (.string (bS ((([48, 48, 48] ++ D) ++ [48, 48, 48, 101]) ++ (Lib.itoa (ex - 3))))) ?_ (hs := (fun δ w_ => run_catB (([48, 48, 48] ++ D) ++ [48, 48, 48, 101]) (Lib.itoa (ex - 3)) (by first | omega | (simp only [List.length_append, List.length_cons, List.length_nil, List.length_take, List.length_drop]; omega)) rfl rfl))
  refine kp [56, 10, 9, 8, 1, 21, 7, 6, 0, 2] ?_
  refine L (cl (num_Read (X := (([48, 48, 48] ++ D) ++ [48, 48, 48, 101]) ++ (Lib.itoa (ex - 3))) (by first | omega | (simp; omega))) ?_)
  rintro _ _ rfl
  refine un ?_
  refine os 1 ?_
  refine nsr ?_
  refine L (cl (law_alive2 hL) ?_)
  rintro _ _ rfl
  refine un ?_
  refine os 6 ?_
  refine kp [64, 11, 10, 9, 8, 1, 21, 7, 6, 0, 2] ?_
  refine pn 64 (show ((readP ((D ++ [101]) ++ (Lib.itoa ex)) : Int) == (readP (((((D.take D.length) ++ [46]) ++ (D.drop D.length)) ++ [69]) ++ (Lib.itoa ((ex + (D.length : Int)) - (D.length : Int)))) : Int)) = true from (beq_iff_eq.2 (congrArg (fun n_ : Nat => (n_ : Int)) (points_ab hDd_ hDn_ hex hDl_ (by omega))))) ?_
  refine os 5 ?_
  refine kp [6, 11, 10, 9, 8, 1, 21, 7, 0, 2] ?_
  refine nt ?_
  refine SW_ret ?_
  refine body_end (.bool ((readP ((D ++ [101]) ++ (Lib.itoa ex)) : Int) == (readP ((([48, 48, 48] ++ D) ++ [48, 48, 48, 101]) ++ (Lib.itoa (ex - 3))) : Int))) (fun _ => rfl) ?_
  exact ⟨(), ow, congrArg Value.bool (beq_iff_eq.2 (congrArg (fun n_ : Nat => (n_ : Int)) (points_ac hDd_ hDn_ hex hDl_)))⟩
 refine SW_skip (n_then ?_)
 refine SW_seq ?_
 obtain ⟨k, rfl⟩ : ∃ k : Nat, pl = (k : Int) := ⟨pl.toNat, by omega⟩
 refine SW_region ?_
 refine os 3 ?_
 refine nsr ?_
 refine os 1 ?_
 refine oV (.string (bS (D ++ [101]))) ?_ (hs := (fun δ w_ => run_catB D [101] (by first | omega | (simp only [List.length_append, List.length_cons, List.length_nil, List.length_take, List.length_drop]; omega)) rfl rfl))
 refine os 1 ?_
 have hil_ := Lib.itoa_length_le ex (by omega) (by omega)
 refine L (cl (str_ItoaN hL ex (by omega)) ?_)
 rintro _ _ rfl
 refine un ?_
 refine oV (.string (bS ((D ++ [101]) ++ (Lib.itoa ex)))) ?_ (hs := (fun δ w_ => run_catB (D ++ [101]) (Lib.itoa ex) (by first | omega | (simp only [List.length_append, List.length_cons, List.length_nil, List.length_take, List.length_drop]; omega)) rfl rfl))
 refine kp [30, 8, 21, 7, 6, 0, 1, 2] ?_
 refine L (cl (num_Read (X := (D ++ [101]) ++ (Lib.itoa ex)) (by first | omega | (simp; omega))) ?_)
 rintro _ _ rfl
 refine un ?_
 refine os 1 ?_
 refine nq ?_
 refine SW_draw [] [] (by kernel_rfl) rd_nil ?_
 refine aS 0 ?_
 refine aS 1 ?_
 refine tk 2 (.string (bS (D.take ((k : Int)).toNat))) ?_ (hy := fun δ w => run_strTo (l := D) (k : Int) .i64 Tryd.underlying9 rfl rfl (by omega) (by omega))
 rw [show ((k : Int)).toNat = k from by omega]
 refine tk 3 (.string (bS ((D.take k) ++ [46]))) ?_ (hy := (fun δ w_ => run_catB (D.take k) [46] (by first | omega | (simp only [List.length_append, List.length_cons, List.length_nil, List.length_take, List.length_drop]; omega)) rfl rfl))
 refine aS 4 ?_
 refine aS 5 ?_
 refine tk 6 (.string (bS (D.drop ((k : Int)).toNat))) ?_ (hy := fun δ w => run_strFrom (l := D) (k : Int) .i64 Tryd.underlying9 rfl rfl (by omega) (by omega))
 rw [show ((k : Int)).toNat = k from by omega]
 refine tk 7 (.string (bS (((D.take k) ++ [46]) ++ (D.drop k)))) ?_ (hy := (fun δ w_ => run_catB ((D.take k) ++ [46]) (D.drop k) (by first | omega | (simp only [List.length_append, List.length_cons, List.length_nil, List.length_take, List.length_drop]; omega)) rfl rfl))
 refine kpA [39, 9, 8, 21, 7, 6, 0, 1, 2] ?_
 refine tk 8 (.string (bS ((((D.take k) ++ [46]) ++ (D.drop k)) ++ [69]))) ?_ (hy := (fun δ w_ => run_catB (((D.take k) ++ [46]) ++ (D.drop k)) [69] (by first | omega | (simp only [List.length_append, List.length_cons, List.length_nil, List.length_take, List.length_drop]; omega)) rfl rfl))
 refine aS 9 ?_
 refine aS 10 ?_
 refine tk 11 (.int .i64 ((bS D).size : Int)) ?_
 rw [bS_size]
 refine tk 12 (.int .i64 (IntKind.wrap .i64 (ex + (D.length : Int)))) ?_
 rw [show IntKind.wrap .i64 (ex + (D.length : Int)) = ex + (D.length : Int) from IntWalk.i64_in _ (by omega)]
 refine aS 13 ?_
 refine tk 14 (.int .i64 (IntKind.wrap .i64 ((ex + (D.length : Int)) - (k : Int)))) ?_
 rw [show IntKind.wrap .i64 ((ex + (D.length : Int)) - (k : Int)) = (ex + (D.length : Int)) - (k : Int) from IntWalk.i64_in _ (by omega)]
 have hil_ := Lib.itoa_length_le ((ex + (D.length : Int)) - (k : Int)) (by omega) (by omega)
 refine sa1 false 15 (h := cl (str_ItoaN hL ((ex + (D.length : Int)) - (k : Int)) (by omega)) ?_)
 rintro _ _ rfl
 try simp only [List.nil_append]
 refine ⟨fun hnd => (by cases hnd), ?_⟩
 refine tk 16 (.string (bS (((((D.take k) ++ [46]) ++ (D.drop k)) ++ [69]) ++ (Lib.itoa ((ex + (D.length : Int)) - (k : Int)))))) ?_ (hy := (fun δ w_ => run_catB ((((D.take k) ++ [46]) ++ (D.drop k)) ++ [69]) (Lib.itoa ((ex + (D.length : Int)) - (k : Int))) (by first | omega | (simp only [List.length_append, List.length_cons, List.length_nil, List.length_take, List.length_drop]; omega)) rfl rfl))
 refine kpA [48, 9, 8, 21, 7, 6, 0, 1, 2] ?_
 refine sa1 false 17 (h := cl (num_Read (X := ((((D.take k) ++ [46]) ++ (D.drop k)) ++ [69]) ++ (Lib.itoa ((ex + (D.length : Int)) - (k : Int)))) (by first | omega | (simp; omega))) ?_)
 rintro _ _ rfl
 try simp only [List.nil_append]
 refine ⟨fun hnd => (by cases hnd), ?_⟩
 refine aS 18 ?_
 refine SA_done (by kernel_rfl) (n_then ?_)
 refine sr ?_
 refine os 1 ?_
 refine oV (.string (bS ([48, 48, 48] ++ D))) ?_ (hs := (fun δ w_ => run_catB [48, 48, 48] D (by first | omega | (simp only [List.length_append, List.length_cons, List.length_nil, List.length_take, List.length_drop]; omega)) rfl rfl))
 refine oV (.string (bS (([48, 48, 48] ++ D) ++ [48, 48, 48, 101]))) ?_ (hs := (fun δ w_ => run_catB ([48, 48, 48] ++ D) [48, 48, 48, 101] (by first | omega | (simp only [List.length_append, List.length_cons, List.length_nil, List.length_take, List.length_drop]; omega)) rfl rfl))
 refine os 2 ?_
 have hil_ := Lib.itoa_length_le (ex - 3) (by omega) (by omega)
 refine L (cl (str_ItoaN hL (ex - 3) (by omega)) ?_)
 rintro _ _ rfl
 refine un ?_
 refine oV (.string (bS ((([48, 48, 48] ++ D) ++ [48, 48, 48, 101]) ++ (Lib.itoa (ex - 3))))) ?_ (hs := (fun δ w_ => run_catB (([48, 48, 48] ++ D) ++ [48, 48, 48, 101]) (Lib.itoa (ex - 3)) (by first | omega | (simp only [List.length_append, List.length_cons, List.length_nil, List.length_take, List.length_drop]; omega)) rfl rfl))
 refine kp [56, 10, 9, 8, 21, 7, 6, 0, 1, 2] ?_
 refine L (cl (num_Read (X := (([48, 48, 48] ++ D) ++ [48, 48, 48, 101]) ++ (Lib.itoa (ex - 3))) (by first | omega | (simp; omega))) ?_)
 rintro _ _ rfl
 refine un ?_
 refine os 1 ?_
 refine nsr ?_
 refine L (cl (law_alive2 hL) ?_)
 rintro _ _ rfl
 refine un ?_
 refine os 6 ?_
 refine kp [64, 11, 10, 9, 8, 21, 7, 6, 0, 1, 2] ?_
 refine pn 64 (show ((readP ((D ++ [101]) ++ (Lib.itoa ex)) : Int) == (readP (((((D.take k) ++ [46]) ++ (D.drop k)) ++ [69]) ++ (Lib.itoa ((ex + (D.length : Int)) - (k : Int)))) : Int)) = true from (beq_iff_eq.2 (congrArg (fun n_ : Nat => (n_ : Int)) (points_ab hDd_ hDn_ hex hDl_ (by omega))))) ?_
 refine os 5 ?_
 refine kp [6, 11, 10, 9, 8, 21, 7, 0, 1, 2] ?_
 refine nt ?_
 refine SW_ret ?_
 refine body_end (.bool ((readP ((D ++ [101]) ++ (Lib.itoa ex)) : Int) == (readP ((([48, 48, 48] ++ D) ++ [48, 48, 48, 101]) ++ (Lib.itoa (ex - 3))) : Int))) (fun _ => rfl) ?_
 exact ⟨(), ow, congrArg Value.bool (beq_iff_eq.2 (congrArg (fun n_ : Nat => (n_ : Int)) (points_ac hDd_ hDn_ hex hDl_)))⟩

theorem wf_u64 {n : Int} (h : (Lit.int .u64 n).wf = true) : 0 ≤ n ∧ n < 18446744073709551616 := by
 simp [Lit.wf, IntKind.min, IntKind.max, IntKind.bits, IntKind.signed] at h
 omega
theorem wf_i64 {n : Int} (h : (Lit.int .i64 n).wf = true) : -9223372036854775808 ≤ n ∧ n ≤ 9223372036854775807 := by
 simp [Lit.wf, IntKind.min, IntKind.max, IntKind.bits, IntKind.signed] at h
 omega
theorem wf_i32 {n : Int} (h : (Lit.int .i32 n).wf = true) : -2147483648 ≤ n ∧ n ≤ 2147483647 := by
 simp [Lit.wf, IntKind.min, IntKind.max, IntKind.bits, IntKind.signed] at h
 omega
theorem law_NumtextPointsZ {W0 : World} (hL : LaidN W0) {n pl ex : Int} (h0 : (Lit.int .u64 n).wf = true) (h1 : (Lit.int .i64 pl).wf = true) (h2 : (Lit.int .i32 ex).wf = true) : SC Tryd.prog W0 9 #[.int .u64 n, .int .i64 pl, .int .i32 ex] [] (Ret (fun _ : Unit => []) (fun v _ => v = .bool true)) := by
 have w0 := wf_u64 h0
 obtain ⟨k, rfl⟩ := Int.eq_ofNat_of_zero_le w0.1
 exact law_NumtextPoints hL (by omega) (wf_i64 h1) (wf_i32 h2)

end Go.Proofs.YtnhmmjogfkjceaaDoor
namespace Go.Proofs.YtnhmmjogfkjceaaDoor
open Go.Sl Go.ChangeShapes Go.WideShapes Go.ChangeAt Go.RowKit

theorem NumtextPoints_contract (H : Type) (enc : TypeId × Value → H) (W : World) (base : Nat) (args : Array Value) (ds gs : List (DataW H)) (before : List MemPlace)
   (hval : ∀ (j : Nat) t v, Tryd.f9.params[j]? = some t → args[j]? = some v → Value.okWide Tryd.prog W .any base t v)
   (hW : DataW.Whole enc Tryd.prog Tryd.f9.params.toList Rows.numtextPointsSpec.vars false W args.toList ds gs before) (hk : Rows.uptoSmall H (ds ++ gs) = true) (hLd : laidMetH Tryd.prog Rows.numtextPointsUptoRow.laid W) (hsh : W.ShapedOpen Tryd.prog) :
   Calls Tryd.prog 9 args W fun e W' => ∃ v, e = .returned v ∧ Rows.numtextPointsSpec.post enc Tryd.prog Tryd.f9 false true false false W args v W' := by
 have hL := laid_num hLd hsh
 have hW' := hW
 obtain ⟨p, q, hA0, hV, rfl, hfz, hnd⟩ := hW
 have hA : DataW.TrodAll enc Tryd.prog W 0 (fun _ => true) true Tryd.f9.params.toList args.toList ds p := hA0
 rw [Tryd.params9] at hA hval
 obtain ⟨v0, vs0, d0, ds0, p0, q0, hargs, rfl, rfl, h0, r0⟩ := trodAll_cons hA
 obtain ⟨v1, vs1, d1, ds1, p1, q1, rfl, rfl, rfl, h1, r1⟩ := trodAll_cons r0
 obtain ⟨v2, vs2, d2, ds2, p2, q2, rfl, rfl, rfl, h2, r2⟩ := trodAll_cons r1
 obtain ⟨rfl, rfl, rfl⟩ := trodAll_nil r2
 obtain rfl : args = #[v0, v1, v2] := by cases args; simp_all
 obtain ⟨rfl, rfl⟩ := trodVars_none hV
 obtain ⟨a0, rfl, rfl, rfl, w0⟩ := open_int Tryd.underlying27 (hval 0 27 v0 rfl rfl) h0
 obtain ⟨a1, rfl, rfl, rfl, w1⟩ := open_int Tryd.underlying3 (hval 1 3 v1 rfl rfl) h1
 obtain ⟨a2, rfl, rfl, rfl, w2⟩ := open_int Tryd.underlying21 (hval 2 21 v2 rfl rfl) h2
 refine (calls_law (law_NumtextPointsZ hL w0 w1 w2)).mono fun e W' ⟨he, hb⟩ => ?_
 subst he
 exact ⟨_, rfl, post_law (tb := 4) hW' (by rw [Tryd.params9]; decide) rfl rfl rfl rfl rfl Tryd.underlying4 hb⟩

theorem NumtextPoints_reads (os : Os) {H : Type} (enc : TypeId × Value → H) : ∃ places, DataW.whole enc Tryd.prog ((laidWorldN os).forCall (fun _ _ => 0) ⟨#[], #[.int .u64 0, .int .i64 0, .int .i32 0], []⟩).memory Tryd.f9.params.toList Rows.numtextPointsSpec.vars false #[.int .u64 0, .int .i64 0, .int .i32 0].toList 8 = some ([.lit (.int .u64 0), .lit (.int .i64 0), .lit (.int .i32 0)], [], places) :=
 ⟨[], by kernel_rfl⟩
theorem NumtextPoints_lifted (os : Os) (started : os.Started) (H : Type) (enc : TypeId × Value → H) (F : Stop.Interp) :
   ReturnsInHanded {} Tryd.checked os 9 .any ((Rows.OpenSpec.upto Rows.numtextPointsSpec).preRow enc Tryd.prog Tryd.f9 Rows.numtextPointsUptoRow.domain false Rows.numtextPointsUptoRow.laid) (((Rows.OpenSpec.upto Rows.numtextPointsSpec).at F).post enc Tryd.prog Tryd.f9 false true false false) := by
 obtain ⟨places, hx⟩ := NumtextPoints_reads os enc
 refine returnsInHanded_of_row (C := Tryd.checked) (s := Rows.OpenSpec.upto Rows.numtextPointsSpec) rown started (by kernel_rfl) Tryd.func9
   (witness_row_atRef (enc := enc) (C := Tryd.checked) false (laidWorldN os) #[.int .u64 0, .int .i64 0, .int .i32 0] rfl (by kernel_rfl) (by kernel_rfl) (by kernel_rfl)
     (OpenSpec.preRow_of_cond 8 hx (by kernel_rfl) (fun k hk => by cases hk; kernel_rfl) (by kernel_rfl) (laid_metN os _))) ?_
 intro W base args ds gs before hval hW _ hcond _ hL hsh _
 exact NumtextPoints_contract H enc W base args ds gs before hval hW (hcond _ rfl) hL hsh

theorem NumtextPoints_row : Rows.NumtextPointsUptoSaid :=
 OpenClaim.holds_of_cond 9 Tryd.f9 rfl rfl rfl rfl rfl rfl rfl ⟨rfl, rfl, rfl, rfl, rfl⟩ rfl rfl rfl rfl rfl (by kernel_rfl) Tryd.func9 (by kernel_rfl)
   (of_decide_eq_true (by kernel_rfl)) (by unfold Func.isWrapper; first | (rw [if_pos (by decide +kernel)]; kernel_rfl) | (rw [if_neg (by decide +kernel)]; exact ⟨rfl, rfl⟩))
   (fun os started H enc _ F => by rw [OpenClaim.pre_eq_preRow]; exact NumtextPoints_lifted os started H enc F)
theorem NumtextPoints_plain (f : FuncId) (fn : Func) (hf : Tryd.pinned.checked.prog.funcNamed "brazier/brazierlaw02.NumtextPoints" = some f) (hfn : Tryd.pinned.checked.prog.funcs[f]? = some fn) :
   false = Tryd.pinned.checked.prog.looks [] ∧ ∀ (j : Nat) t, fn.params[j]? = some t → Tryd.pinned.checked.prog.wantsStandIn t = false := by
 obtain rfl : f = 9 := Option.some.inj ((show Tryd.prog.funcNamed "brazier/brazierlaw02.NumtextPoints" = some 9 by kernel_rfl).symm.trans hf) |>.symm
 obtain rfl : fn = Tryd.f9 := (Option.some.inj (Tryd.func9.symm.trans hfn)).symm
 refine ⟨by kernel_rfl, fun j t ht => ?_⟩
 rw [Tryd.params9] at ht
 have hm : t = 27 ∨ t = 3 ∨ t = 21 := by simpa using Array.mem_of_getElem? ht
 rcases hm with rfl | rfl | rfl
 · exact (show Tryd.prog.wantsStandIn 27 = false by kernel_rfl)
 · exact (show Tryd.prog.wantsStandIn 3 = false by kernel_rfl)
 · exact (show Tryd.prog.wantsStandIn 21 = false by kernel_rfl)
theorem NumtextPoints_proved : Rows.NumtextPointsUptoCardSaid :=
 Claim7.holds_tied_plain_at .later [] _ _ _ _ NumtextPoints_row (fun _ h => by cases h) (by kernel_rfl) (fun _ h => by cases h) numtextPointsUpto_row_tie rfl ⟨rfl, rfl⟩ (by kernel_rfl) rfl NumtextPoints_plain (by kernel_rfl)
end Go.Proofs.YtnhmmjogfkjceaaDoor
