/-
  What the functions of numbers as texts do, step by step: each theorem is one function's contract. Conditions: those that each theorem names.
-/
import Derived.Test.YtnhmmjogfkjceaaGreatDoorProg
import Derived.Test.YtnhmmjogfkjceaaGreatDoorM3
import Derived.Test.YtnhmmjogfkjceaaGreatDoorM1
import Derived.Lib.ItoaNum
set_option linter.unusedVariables false
set_option linter.unusedSimpArgs false
set_option maxRecDepth 100000
set_option maxHeartbeats 4000000
set_option linter.unusedSectionVars false
namespace Go.Proofs.YtnhmmjogfkjceaaGreatDoor
open Go.Sl

theorem str_RepeatZ {W0 : World} {σ : Heaplet} (s : List UInt8) {c : Int} (hc : 0 ≤ c ∧ c ≤ 1048576) (hs : s.length ≤ 1048576) : SC Tryz.prog W0 37 #[.string (bS s), .int .i64 c] σ (Ret (fun _ : Unit => σ) (fun v _ => v = .string (bS (Lib.repeatL s c.toNat)))) := by
 obtain ⟨n, rfl⟩ := Int.eq_ofNat_of_zero_le hc.1
 exact str_RepeatN s n (by omega) hs

theorem num_Print0 {W0 : World} (hL : LaidN W0) {a : Nat} (ha : a < 9223372036854775808) : SC Tryz.prog W0 14 #[.int .u64 (a : Int)] [] (Ret (fun _ : Unit => []) (fun v _ => v = .string (bS (printP0 a)) ∧ (printP0 a).length ≤ 5000)) := by
 refine SC_body (fn := Tryz.f14) (n := 93) Tryz.func14 rfl (by kernel_rfl) (ρ := [(0, .int .u64 (a : Int))]) rfl ?_
 have hka_ := kind_all a
 refine sr ?_
 refine os 1 ?_
 refine nq ?_
 refine SW_block ?_
 refine sr ?_
 refine os 1 ?_
 have his_ := num_IsNaN (W0 := W0) (a := a) (by omega)
 refine L (cl (his_) ?_)
 rintro v1 _ hv1
 obtain rfl : v1 = .bool (kindP a == 3) := hv1.trans (rfl)
 refine un ?_
 refine os 1 ?_
 refine nt ?_
 refine cd (fun hc1 : (kindP a == 3) = true => ?_) (fun hc1 => ?_)
 ·simp only [beq_iff_eq, bne_iff_ne, ne_eq, beq_eq_false_iff_ne, bne_eq_false_iff_eq, Classical.not_not] at hc1
  refine sr ?_
  refine os 1 ?_
  refine nt ?_
  refine SW_ret (r_in (r_then ?_))
  refine body_end (.string (bS [78, 97, 78])) (fun _ => rfl) ?_
  rw [show printP0 a = [78, 97, 78] from by unfold printP0; rw [if_pos (by omega)]]
  exact ⟨(), ow, rfl, by simp only [List.length_append, List.length_take, List.length_drop, List.length_cons, List.length_nil]; omega⟩
 simp only [beq_iff_eq, bne_iff_ne, ne_eq, beq_eq_false_iff_ne, bne_eq_false_iff_eq, Classical.not_not] at hc1
 refine sr ?_
 refine os 1 ?_
 have his_ := num_Equal0 (W0 := W0) (a := a) (by omega)
 refine L (cl (his_) ?_)
 rintro v2 _ hv2
 obtain rfl : v2 = .bool (kindP a == 0) := hv2.trans (rfl)
 refine un ?_
 refine os 1 ?_
 refine kp [9, 6, 2, 0] ?_
 refine nt ?_
 refine cd (fun hc2 : (kindP a == 0) = true => ?_) (fun hc2 => ?_)
 ·simp only [beq_iff_eq, bne_iff_ne, ne_eq, beq_eq_false_iff_ne, bne_eq_false_iff_eq, Classical.not_not] at hc2
  refine sr ?_
  refine os 1 ?_
  refine nt ?_
  refine SW_ret (r_in (r_then ?_))
  refine body_end (.string (bS [48])) (fun _ => rfl) ?_
  rw [show printP0 a = [48] from by unfold printP0; rw [if_neg (by omega), if_pos (by omega)]]
  exact ⟨(), ow, rfl, by simp only [List.length_append, List.length_take, List.length_drop, List.length_cons, List.length_nil]; omega⟩
 simp only [beq_iff_eq, bne_iff_ne, ne_eq, beq_eq_false_iff_ne, bne_eq_false_iff_eq, Classical.not_not] at hc2
 refine sr ?_
 refine os 3 ?_
 refine nt ?_
 refine SW_false (fun _ => (congrArg Value.bool (show (decide ((a : Int) ≥ 9223372036854775808)) = false from (decide_eq_false (by omega))))) ?_
 refine sr ?_
 refine os 1 ?_
 have his_ := num_IsInf (W0 := W0) (a := a) (by omega)
 refine L (cl (his_) ?_)
 rintro v3 _ hv3
 obtain rfl : v3 = .bool (kindP a == 2) := hv3.trans (rfl)
 refine un ?_
 refine os 1 ?_
 refine kp [19, 12, 9, 6, 2, 0] ?_
 refine nt ?_
 refine cd (fun hc3 : (kindP a == 2) = true => ?_) (fun hc3 => ?_)
 ·simp only [beq_iff_eq, bne_iff_ne, ne_eq, beq_eq_false_iff_ne, bne_eq_false_iff_eq, Classical.not_not] at hc3
  refine sr ?_
  refine os 1 ?_
  refine nt ?_
  refine SW_ret (r_in (r_then ?_))
  refine body_end (.string (bS [73, 110, 102, 105, 110, 105, 116, 121])) (fun _ => rfl) ?_
  rw [show printP0 a = [73, 110, 102, 105, 110, 105, 116, 121] from by unfold printP0; rw [if_neg (by omega), if_neg (by omega), if_pos (by omega)]]
  exact ⟨(), ow, rfl, by simp only [List.length_append, List.length_take, List.length_drop, List.length_cons, List.length_nil]; omega⟩
 simp only [beq_iff_eq, bne_iff_ne, ne_eq, beq_eq_false_iff_ne, bne_eq_false_iff_eq, Classical.not_not] at hc3
 refine SW_skip (n_in (n_then ?_))
 refine sr ?_
 refine os 1 ?_
 have hsh_ := num_shortest (W0 := W0) hL (a := a) (by omega) (by omega)
 obtain ⟨D, hD_⟩ : ∃ D, D = (shortP a).1 := ⟨_, rfl⟩
 obtain ⟨p, hp_⟩ : ∃ p, p = (shortP a).2 := ⟨_, rfl⟩
 rw [← hD_, ← hp_] at hsh_
 refine L (cl (hsh_) ?_)
 rintro _ _ ⟨rfl, hdl_, hpl_, hph_⟩
 refine un ?_
 refine os 5 ?_
 refine kp [4, 3, 19, 12, 9, 6, 2, 0] ?_
 refine nsr ?_
 refine os 1 ?_
 refine oX (.int .i64 ((bS D).size : Int)) (.int .i64 (D.length : Int)) (congrArg (fun n_ : Nat => Value.int .i64 (n_ : Int)) (bS_size _)) ?_
 refine os 1 ?_
 refine nq ?_
 refine SW_block ?_
 refine sr ?_
 refine os 4 ?_
 refine tbp 33 (fun hg4 => ?_) (fun hg4 => ?_)
 ·replace hg4 : p ≥ (D.length : Int) := hg4
  refine os 4 ?_
  refine kp [29, 5, 4, 3, 19, 12, 9, 6, 2, 0] ?_
  refine nt ?_
  refine cdp (fun hc5 : p ≤ 21 => ?_) (fun hc5 => ?_)
  ·refine sr ?_
   refine os 4 ?_
   have hrl_ : (Lib.repeatL [48] (p - (D.length : Int)).toNat).length ≤ 2000 := by rw [Lib.repeatL_length, show ([48] : List UInt8).length = 1 from rfl]; omega
   refine L (cl (str_RepeatZ [48] (c := p - (D.length : Int)) (by omega) (by decide)) ?_)
   rintro _ _ rfl
   refine un ?_
   refine oV (.string (bS (D ++ (Lib.repeatL [48] (p - (D.length : Int)).toNat)))) ?_ (hs := (fun δ w_ => run_catB D (Lib.repeatL [48] (p - (D.length : Int)).toNat) (by first | omega | simp only [List.length_append, List.length_take, List.length_drop, List.length_cons, List.length_nil]; omega) rfl rfl))
   refine os 1 ?_
   refine kp [2, 29, 5, 4, 3, 19, 12, 9, 6, 0] ?_
   refine nt ?_
   refine SW_ret (r_in (r_then ?_))
   refine body_end (.string (bS (D ++ (Lib.repeatL [48] (p - (D.length : Int)).toNat)))) (fun _ => rfl) ?_
   rw [show printP0 a = formP D p from by rw [hD_, hp_]; unfold printP0; rw [if_neg (by omega), if_neg (by omega), if_neg (by omega)]]
   rw [form_a (by omega) (by omega)]
   exact ⟨(), ow, rfl, by simp only [List.length_append, List.length_take, List.length_drop, List.length_cons, List.length_nil]; omega⟩
  refine sr ?_
  refine os 3 ?_
  refine tbp 46 (fun hg6 => ?_) (fun hg6 => ?_)
  ·replace hg6 : p > 0 := hg6
   refine os 4 ?_
   refine kp [43, 29, 5, 4, 3, 19, 12, 9, 6, 2, 0] ?_
   refine nt ?_
   refine cdp (fun hc7 : p ≤ 21 => ?_) (fun hc7 => ?_)
   ·refine SW_seq ?_
    refine SW_draw [] [] (by kernel_rfl) rd_nil ?_
    refine aS 0 ?_
    refine aS 1 ?_
    refine tk 2 (.string (bS (D.take (p).toNat))) ?_ (hy := fun δ w => run_strTo (l := D) p .i64 Tryz.underlying9 rfl rfl (by omega) (by omega))
    rw [show (p).toNat = p.toNat from by omega]
    refine tk 3 (.string (bS ((D.take p.toNat) ++ [46]))) ?_ (hy := (fun δ w_ => run_catB (D.take p.toNat) [46] (by first | omega | simp only [List.length_append, List.length_take, List.length_drop, List.length_cons, List.length_nil]; omega) rfl rfl))
    refine aS 4 ?_
    refine aS 5 ?_
    refine tk 6 (.string (bS (D.drop (p).toNat))) ?_ (hy := fun δ w => run_strFrom (l := D) p .i64 Tryz.underlying9 rfl rfl (by omega) (by omega))
    rw [show (p).toNat = p.toNat from by omega]
    refine tk 7 (.string (bS (((D.take p.toNat) ++ [46]) ++ (D.drop p.toNat)))) ?_ (hy := (fun δ w_ => run_catB ((D.take p.toNat) ++ [46]) (D.drop p.toNat) (by first | omega | simp only [List.length_append, List.length_take, List.length_drop, List.length_cons, List.length_nil]; omega) rfl rfl))
    refine aS 8 ?_
    refine kpA [2, 43, 29, 5, 4, 3, 19, 12, 9, 6, 0] ?_
    refine SA_done (by kernel_rfl) (n_then ?_)
    refine SW_ret (r_in (r_then ?_))
    refine body_end (.string (bS (((D.take p.toNat) ++ [46]) ++ (D.drop p.toNat)))) (fun _ => rfl) ?_
    rw [show printP0 a = formP D p from by rw [hD_, hp_]; unfold printP0; rw [if_neg (by omega), if_neg (by omega), if_neg (by omega)]]
    rw [form_b (by omega) (by omega) (by omega)]
    exact ⟨(), ow, rfl, by simp only [List.length_append, List.length_take, List.length_drop, List.length_cons, List.length_nil]; omega⟩
   refine sr ?_
   refine os 3 ?_
   refine tbp 61 (fun hg8 => ?_) (fun hg8 => ?_)
   ·replace hg8 : p > (-6) := hg8
    refine os 4 ?_
    refine kp [58, 43, 29, 5, 4, 3, 19, 12, 9, 6, 2, 0] ?_
    refine nt ?_
    refine cdp (fun hc9 : p ≤ 0 => ?_) (fun hc9 => ?_)
    ·refine sr ?_
     refine os 1 ?_
     refine oX (.int .i64 (IntKind.wrap .i64 (0 - p))) (.int .i64 (-p)) (congrArg (Value.int .i64) ((IntWalk.i64_in _ (by omega)).trans (Int.zero_sub _))) ?_
     have hrl_ : (Lib.repeatL [48] (-p).toNat).length ≤ 2000 := by rw [Lib.repeatL_length, show ([48] : List UInt8).length = 1 from rfl]; omega
     refine L (cl (str_RepeatZ [48] (c := -p) (by omega) (by decide)) ?_)
     rintro _ _ rfl
     refine un ?_
     refine oV (.string (bS ([48, 46] ++ (Lib.repeatL [48] (-p).toNat)))) ?_ (hs := (fun δ w_ => run_catB [48, 46] (Lib.repeatL [48] (-p).toNat) (by first | omega | simp only [List.length_append, List.length_take, List.length_drop, List.length_cons, List.length_nil]; omega) rfl rfl))
     refine os 1 ?_
     refine oV (.string (bS (([48, 46] ++ (Lib.repeatL [48] (-p).toNat)) ++ D))) ?_ (hs := (fun δ w_ => run_catB ([48, 46] ++ (Lib.repeatL [48] (-p).toNat)) D (by first | omega | simp only [List.length_append, List.length_take, List.length_drop, List.length_cons, List.length_nil]; omega) rfl rfl))
     refine os 1 ?_
     refine kp [2, 58, 43, 29, 5, 4, 3, 19, 12, 9, 6, 0] ?_
     refine nt ?_
     refine SW_ret (r_in (r_then ?_))
     refine body_end (.string (bS (([48, 46] ++ (Lib.repeatL [48] (-p).toNat)) ++ D))) (fun _ => rfl) ?_
     rw [show printP0 a = formP D p from by rw [hD_, hp_]; unfold printP0; rw [if_neg (by omega), if_neg (by omega), if_neg (by omega)]]
     rw [form_c (by omega) (by omega) (by omega)]
     exact ⟨(), ow, rfl, by simp only [List.length_append, List.length_take, List.length_drop, List.length_cons, List.length_nil]; omega⟩
    refine SW_skip (n_in (n_then ?_))
    refine SW_seq ?_
    refine sr ?_
    refine os 2 ?_
    refine nt ?_
    refine cdp (fun hc10 : (D.length : Int) > 1 => ?_) (fun hc10 => ?_)
    ·refine SW_draw [] [] (by kernel_rfl) rd_nil ?_
     refine aS 0 ?_
     refine tk 1 (.string (bS (D.take 1))) ?_ (hy := fun δ w => run_strTo (l := D) 1 .i64 Tryz.underlying9 rfl rfl (by omega) (by omega))
     refine tk 2 (.string (bS ((D.take 1) ++ [46]))) ?_ (hy := (fun δ w_ => run_catB (D.take 1) [46] (by first | omega | simp only [List.length_append, List.length_take, List.length_drop, List.length_cons, List.length_nil]; omega) rfl rfl))
     refine aS 3 ?_
     refine tk 4 (.string (bS (D.drop 1))) ?_ (hy := fun δ w => run_strFrom (l := D) 1 .i64 Tryz.underlying9 rfl rfl (by omega) (by omega))
     refine tk 5 (.string (bS (((D.take 1) ++ [46]) ++ (D.drop 1)))) ?_ (hy := (fun δ w_ => run_catB ((D.take 1) ++ [46]) (D.drop 1) (by first | omega | simp only [List.length_append, List.length_take, List.length_drop, List.length_cons, List.length_nil]; omega) rfl rfl))
     refine aS 6 ?_
     refine SA_done (by kernel_rfl) (n_then ?_)
     refine SW_seq ?_
     refine sr ?_
     refine os 2 ?_
     refine kp [80, 3, 72, 58, 43, 29, 5, 4, 19, 12, 9, 6, 2, 0] ?_
     refine nt ?_
     refine cdp (fun hc11 : p > 0 => ?_) (fun hc11 => ?_)
     ·refine sr ?_
      refine os 1 ?_
      refine oV (.string (bS ((((D.take 1) ++ [46]) ++ (D.drop 1)) ++ [101, 43]))) ?_ (hs := (fun δ w_ => run_catB (((D.take 1) ++ [46]) ++ (D.drop 1)) [101, 43] (by first | omega | simp only [List.length_append, List.length_take, List.length_drop, List.length_cons, List.length_nil]; omega) rfl rfl))
      refine os 2 ?_
      have hil_ := Lib.itoa_length_le (p - 1) (by omega) (by omega)
      refine L (cl (str_ItoaN hL (p - 1) (by omega)) ?_)
      rintro _ _ rfl
      refine un ?_
      refine oV (.string (bS (((((D.take 1) ++ [46]) ++ (D.drop 1)) ++ [101, 43]) ++ (Lib.itoa (p - 1))))) ?_ (hs := (fun δ w_ => run_catB ((((D.take 1) ++ [46]) ++ (D.drop 1)) ++ [101, 43]) (Lib.itoa (p - 1)) (by first | omega | simp only [List.length_append, List.length_take, List.length_drop, List.length_cons, List.length_nil]; omega) rfl rfl))
      refine os 1 ?_
      refine kp [2, 80, 3, 72, 58, 43, 29, 5, 4, 19, 12, 9, 6, 0] ?_
      refine nt ?_
      refine SW_ret (r_then ?_)
      refine body_end (.string (bS (((((D.take 1) ++ [46]) ++ (D.drop 1)) ++ [101, 43]) ++ (Lib.itoa (p - 1))))) (fun _ => rfl) ?_
      rw [show printP0 a = formP D p from by rw [hD_, hp_]; unfold printP0; rw [if_neg (by omega), if_neg (by omega), if_neg (by omega)]]
      rw [form_d (by omega) (by omega) (by omega) (by omega), expo_t (by omega)]
      exact ⟨(), ow, rfl, by simp only [List.length_append, List.length_take, List.length_drop, List.length_cons, List.length_nil]; omega⟩
     refine SW_skip (n_then ?_)
     refine sr ?_
     refine os 1 ?_
     refine oV (.string (bS ((((D.take 1) ++ [46]) ++ (D.drop 1)) ++ [101]))) ?_ (hs := (fun δ w_ => run_catB (((D.take 1) ++ [46]) ++ (D.drop 1)) [101] (by first | omega | simp only [List.length_append, List.length_take, List.length_drop, List.length_cons, List.length_nil]; omega) rfl rfl))
     refine os 2 ?_
     have hil_ := Lib.itoa_length_le (p - 1) (by omega) (by omega)
     refine L (cl (str_ItoaN hL (p - 1) (by omega)) ?_)
     rintro _ _ rfl
     refine un ?_
     refine oV (.string (bS (((((D.take 1) ++ [46]) ++ (D.drop 1)) ++ [101]) ++ (Lib.itoa (p - 1))))) ?_ (hs := (fun δ w_ => run_catB ((((D.take 1) ++ [46]) ++ (D.drop 1)) ++ [101]) (Lib.itoa (p - 1)) (by first | omega | simp only [List.length_append, List.length_take, List.length_drop, List.length_cons, List.length_nil]; omega) rfl rfl))
     refine os 1 ?_
     refine kp [2, 80, 3, 72, 58, 43, 29, 5, 4, 19, 12, 9, 6, 0] ?_
     refine nt ?_
     refine SW_ret ?_
     refine body_end (.string (bS (((((D.take 1) ++ [46]) ++ (D.drop 1)) ++ [101]) ++ (Lib.itoa (p - 1))))) (fun _ => rfl) ?_
     rw [show printP0 a = formP D p from by rw [hD_, hp_]; unfold printP0; rw [if_neg (by omega), if_neg (by omega), if_neg (by omega)]]
     rw [form_e (by omega) (by omega) (by omega) (by omega), expo_t (by omega)]
     exact ⟨(), ow, rfl, by simp only [List.length_append, List.length_take, List.length_drop, List.length_cons, List.length_nil]; omega⟩
    refine SW_skip (n_then ?_)
    refine SW_seq ?_
    refine sr ?_
    refine os 2 ?_
    refine nt ?_
    refine cdp (fun hc12 : p > 0 => ?_) (fun hc12 => ?_)
    ·refine sr ?_
     refine os 1 ?_
     refine oV (.string (bS (D ++ [101, 43]))) ?_ (hs := (fun δ w_ => run_catB D [101, 43] (by first | omega | simp only [List.length_append, List.length_take, List.length_drop, List.length_cons, List.length_nil]; omega) rfl rfl))
     refine os 2 ?_
     have hil_ := Lib.itoa_length_le (p - 1) (by omega) (by omega)
     refine L (cl (str_ItoaN hL (p - 1) (by omega)) ?_)
     rintro _ _ rfl
     refine un ?_
     refine oV (.string (bS ((D ++ [101, 43]) ++ (Lib.itoa (p - 1))))) ?_ (hs := (fun δ w_ => run_catB (D ++ [101, 43]) (Lib.itoa (p - 1)) (by first | omega | simp only [List.length_append, List.length_take, List.length_drop, List.length_cons, List.length_nil]; omega) rfl rfl))
     refine os 1 ?_
     refine kp [2, 80, 72, 58, 43, 29, 5, 4, 3, 19, 12, 9, 6, 0] ?_
     refine nt ?_
     refine SW_ret (r_then ?_)
     refine body_end (.string (bS ((D ++ [101, 43]) ++ (Lib.itoa (p - 1))))) (fun _ => rfl) ?_
     rw [show printP0 a = formP D p from by rw [hD_, hp_]; unfold printP0; rw [if_neg (by omega), if_neg (by omega), if_neg (by omega)]]
     rw [form_d (by omega) (by omega) (by omega) (by omega), expo_f (by omega)]
     exact ⟨(), ow, rfl, by simp only [List.length_append, List.length_take, List.length_drop, List.length_cons, List.length_nil]; omega⟩
    refine SW_skip (n_then ?_)
    refine sr ?_
    refine os 1 ?_
    refine oV (.string (bS (D ++ [101]))) ?_ (hs := (fun δ w_ => run_catB D [101] (by first | omega | simp only [List.length_append, List.length_take, List.length_drop, List.length_cons, List.length_nil]; omega) rfl rfl))
    refine os 2 ?_
    have hil_ := Lib.itoa_length_le (p - 1) (by omega) (by omega)
    refine L (cl (str_ItoaN hL (p - 1) (by omega)) ?_)
    rintro _ _ rfl
    refine un ?_
    refine oV (.string (bS ((D ++ [101]) ++ (Lib.itoa (p - 1))))) ?_ (hs := (fun δ w_ => run_catB (D ++ [101]) (Lib.itoa (p - 1)) (by first | omega | simp only [List.length_append, List.length_take, List.length_drop, List.length_cons, List.length_nil]; omega) rfl rfl))
    refine os 1 ?_
    refine kp [2, 80, 72, 58, 43, 29, 5, 4, 3, 19, 12, 9, 6, 0] ?_
    refine nt ?_
    refine SW_ret ?_
    refine body_end (.string (bS ((D ++ [101]) ++ (Lib.itoa (p - 1))))) (fun _ => rfl) ?_
    rw [show printP0 a = formP D p from by rw [hD_, hp_]; unfold printP0; rw [if_neg (by omega), if_neg (by omega), if_neg (by omega)]]
    rw [form_e (by omega) (by omega) (by omega) (by omega), expo_f (by omega)]
    exact ⟨(), ow, rfl, by simp only [List.length_append, List.length_take, List.length_drop, List.length_cons, List.length_nil]; omega⟩
   replace hg8 : ¬ (p > (-6)) := hg8
   refine os 4 ?_
   refine kp [58, 43, 29, 5, 4, 3, 19, 12, 9, 6, 2, 0] ?_
   refine nt ?_
   refine cf ?_
   refine SW_skip (n_in (n_then ?_))
   refine SW_seq ?_
   refine sr ?_
   refine os 2 ?_
   refine nt ?_
   refine cdp (fun hc13 : (D.length : Int) > 1 => ?_) (fun hc13 => ?_)
   ·refine SW_draw [] [] (by kernel_rfl) rd_nil ?_
    refine aS 0 ?_
    refine tk 1 (.string (bS (D.take 1))) ?_ (hy := fun δ w => run_strTo (l := D) 1 .i64 Tryz.underlying9 rfl rfl (by omega) (by omega))
    refine tk 2 (.string (bS ((D.take 1) ++ [46]))) ?_ (hy := (fun δ w_ => run_catB (D.take 1) [46] (by first | omega | simp only [List.length_append, List.length_take, List.length_drop, List.length_cons, List.length_nil]; omega) rfl rfl))
    refine aS 3 ?_
    refine tk 4 (.string (bS (D.drop 1))) ?_ (hy := fun δ w => run_strFrom (l := D) 1 .i64 Tryz.underlying9 rfl rfl (by omega) (by omega))
    refine tk 5 (.string (bS (((D.take 1) ++ [46]) ++ (D.drop 1)))) ?_ (hy := (fun δ w_ => run_catB ((D.take 1) ++ [46]) (D.drop 1) (by first | omega | simp only [List.length_append, List.length_take, List.length_drop, List.length_cons, List.length_nil]; omega) rfl rfl))
    refine aS 6 ?_
    refine SA_done (by kernel_rfl) (n_then ?_)
    refine SW_seq ?_
    refine sr ?_
    refine os 2 ?_
    refine kp [80, 3, 72, 58, 43, 29, 5, 4, 19, 12, 9, 6, 2, 0] ?_
    refine nt ?_
    refine cdp (fun hc14 : p > 0 => ?_) (fun hc14 => ?_)
    ·refine sr ?_
     refine os 1 ?_
     refine oV (.string (bS ((((D.take 1) ++ [46]) ++ (D.drop 1)) ++ [101, 43]))) ?_ (hs := (fun δ w_ => run_catB (((D.take 1) ++ [46]) ++ (D.drop 1)) [101, 43] (by first | omega | simp only [List.length_append, List.length_take, List.length_drop, List.length_cons, List.length_nil]; omega) rfl rfl))
     refine os 2 ?_
     have hil_ := Lib.itoa_length_le (p - 1) (by omega) (by omega)
     refine L (cl (str_ItoaN hL (p - 1) (by omega)) ?_)
     rintro _ _ rfl
     refine un ?_
     refine oV (.string (bS (((((D.take 1) ++ [46]) ++ (D.drop 1)) ++ [101, 43]) ++ (Lib.itoa (p - 1))))) ?_ (hs := (fun δ w_ => run_catB ((((D.take 1) ++ [46]) ++ (D.drop 1)) ++ [101, 43]) (Lib.itoa (p - 1)) (by first | omega | simp only [List.length_append, List.length_take, List.length_drop, List.length_cons, List.length_nil]; omega) rfl rfl))
     refine os 1 ?_
     refine kp [2, 80, 3, 72, 58, 43, 29, 5, 4, 19, 12, 9, 6, 0] ?_
     refine nt ?_
     refine SW_ret (r_then ?_)
     refine body_end (.string (bS (((((D.take 1) ++ [46]) ++ (D.drop 1)) ++ [101, 43]) ++ (Lib.itoa (p - 1))))) (fun _ => rfl) ?_
     rw [show printP0 a = formP D p from by rw [hD_, hp_]; unfold printP0; rw [if_neg (by omega), if_neg (by omega), if_neg (by omega)]]
     rw [form_d (by omega) (by omega) (by omega) (by omega), expo_t (by omega)]
     exact ⟨(), ow, rfl, by simp only [List.length_append, List.length_take, List.length_drop, List.length_cons, List.length_nil]; omega⟩
    refine SW_skip (n_then ?_)
    refine sr ?_
    refine os 1 ?_
    refine oV (.string (bS ((((D.take 1) ++ [46]) ++ (D.drop 1)) ++ [101]))) ?_ (hs := (fun δ w_ => run_catB (((D.take 1) ++ [46]) ++ (D.drop 1)) [101] (by first | omega | simp only [List.length_append, List.length_take, List.length_drop, List.length_cons, List.length_nil]; omega) rfl rfl))
    refine os 2 ?_
    have hil_ := Lib.itoa_length_le (p - 1) (by omega) (by omega)
    refine L (cl (str_ItoaN hL (p - 1) (by omega)) ?_)
    rintro _ _ rfl
    refine un ?_
    refine oV (.string (bS (((((D.take 1) ++ [46]) ++ (D.drop 1)) ++ [101]) ++ (Lib.itoa (p - 1))))) ?_ (hs := (fun δ w_ => run_catB ((((D.take 1) ++ [46]) ++ (D.drop 1)) ++ [101]) (Lib.itoa (p - 1)) (by first | omega | simp only [List.length_append, List.length_take, List.length_drop, List.length_cons, List.length_nil]; omega) rfl rfl))
    refine os 1 ?_
    refine kp [2, 80, 3, 72, 58, 43, 29, 5, 4, 19, 12, 9, 6, 0] ?_
    refine nt ?_
    refine SW_ret ?_
    refine body_end (.string (bS (((((D.take 1) ++ [46]) ++ (D.drop 1)) ++ [101]) ++ (Lib.itoa (p - 1))))) (fun _ => rfl) ?_
    rw [show printP0 a = formP D p from by rw [hD_, hp_]; unfold printP0; rw [if_neg (by omega), if_neg (by omega), if_neg (by omega)]]
    rw [form_e (by omega) (by omega) (by omega) (by omega), expo_t (by omega)]
    exact ⟨(), ow, rfl, by simp only [List.length_append, List.length_take, List.length_drop, List.length_cons, List.length_nil]; omega⟩
   refine SW_skip (n_then ?_)
   refine SW_seq ?_
   refine sr ?_
   refine os 2 ?_
   refine nt ?_
   refine cdp (fun hc15 : p > 0 => ?_) (fun hc15 => ?_)
   ·refine sr ?_
    refine os 1 ?_
    refine oV (.string (bS (D ++ [101, 43]))) ?_ (hs := (fun δ w_ => run_catB D [101, 43] (by first | omega | simp only [List.length_append, List.length_take, List.length_drop, List.length_cons, List.length_nil]; omega) rfl rfl))
    refine os 2 ?_
    have hil_ := Lib.itoa_length_le (p - 1) (by omega) (by omega)
    refine L (cl (str_ItoaN hL (p - 1) (by omega)) ?_)
    rintro _ _ rfl
    refine un ?_
    refine oV (.string (bS ((D ++ [101, 43]) ++ (Lib.itoa (p - 1))))) ?_ (hs := (fun δ w_ => run_catB (D ++ [101, 43]) (Lib.itoa (p - 1)) (by first | omega | simp only [List.length_append, List.length_take, List.length_drop, List.length_cons, List.length_nil]; omega) rfl rfl))
    refine os 1 ?_
    refine kp [2, 80, 72, 58, 43, 29, 5, 4, 3, 19, 12, 9, 6, 0] ?_
    refine nt ?_
    refine SW_ret (r_then ?_)
    refine body_end (.string (bS ((D ++ [101, 43]) ++ (Lib.itoa (p - 1))))) (fun _ => rfl) ?_
    rw [show printP0 a = formP D p from by rw [hD_, hp_]; unfold printP0; rw [if_neg (by omega), if_neg (by omega), if_neg (by omega)]]
    rw [form_d (by omega) (by omega) (by omega) (by omega), expo_f (by omega)]
    exact ⟨(), ow, rfl, by simp only [List.length_append, List.length_take, List.length_drop, List.length_cons, List.length_nil]; omega⟩
   refine SW_skip (n_then ?_)
   refine sr ?_
   refine os 1 ?_
   refine oV (.string (bS (D ++ [101]))) ?_ (hs := (fun δ w_ => run_catB D [101] (by first | omega | simp only [List.length_append, List.length_take, List.length_drop, List.length_cons, List.length_nil]; omega) rfl rfl))
   refine os 2 ?_
   have hil_ := Lib.itoa_length_le (p - 1) (by omega) (by omega)
   refine L (cl (str_ItoaN hL (p - 1) (by omega)) ?_)
   rintro _ _ rfl
   refine un ?_
   refine oV (.string (bS ((D ++ [101]) ++ (Lib.itoa (p - 1))))) ?_ (hs := (fun δ w_ => run_catB (D ++ [101]) (Lib.itoa (p - 1)) (by first | omega | simp only [List.length_append, List.length_take, List.length_drop, List.length_cons, List.length_nil]; omega) rfl rfl))
   refine os 1 ?_
   refine kp [2, 80, 72, 58, 43, 29, 5, 4, 3, 19, 12, 9, 6, 0] ?_
   refine nt ?_
   refine SW_ret ?_
   refine body_end (.string (bS ((D ++ [101]) ++ (Lib.itoa (p - 1))))) (fun _ => rfl) ?_
   rw [show printP0 a = formP D p from by rw [hD_, hp_]; unfold printP0; rw [if_neg (by omega), if_neg (by omega), if_neg (by omega)]]
   rw [form_e (by omega) (by omega) (by omega) (by omega), expo_f (by omega)]
   exact ⟨(), ow, rfl, by simp only [List.length_append, List.length_take, List.length_drop, List.length_cons, List.length_nil]; omega⟩
  replace hg6 : ¬ (p > 0) := hg6
  refine os 4 ?_
  refine kp [43, 29, 5, 4, 3, 19, 12, 9, 6, 2, 0] ?_
  refine nt ?_
  refine cf ?_
  refine sr ?_
  refine os 3 ?_
  refine tbp 61 (fun hg16 => ?_) (fun hg16 => ?_)
  ·replace hg16 : p > (-6) := hg16
   refine os 4 ?_
   refine kp [58, 43, 29, 5, 4, 3, 19, 12, 9, 6, 2, 0] ?_
   refine nt ?_
   refine cdp (fun hc17 : p ≤ 0 => ?_) (fun hc17 => ?_)
   ·refine sr ?_
    refine os 1 ?_
    refine oX (.int .i64 (IntKind.wrap .i64 (0 - p))) (.int .i64 (-p)) (congrArg (Value.int .i64) ((IntWalk.i64_in _ (by omega)).trans (Int.zero_sub _))) ?_
    have hrl_ : (Lib.repeatL [48] (-p).toNat).length ≤ 2000 := by rw [Lib.repeatL_length, show ([48] : List UInt8).length = 1 from rfl]; omega
    refine L (cl (str_RepeatZ [48] (c := -p) (by omega) (by decide)) ?_)
    rintro _ _ rfl
    refine un ?_
    refine oV (.string (bS ([48, 46] ++ (Lib.repeatL [48] (-p).toNat)))) ?_ (hs := (fun δ w_ => run_catB [48, 46] (Lib.repeatL [48] (-p).toNat) (by first | omega | simp only [List.length_append, List.length_take, List.length_drop, List.length_cons, List.length_nil]; omega) rfl rfl))
    refine os 1 ?_
    refine oV (.string (bS (([48, 46] ++ (Lib.repeatL [48] (-p).toNat)) ++ D))) ?_ (hs := (fun δ w_ => run_catB ([48, 46] ++ (Lib.repeatL [48] (-p).toNat)) D (by first | omega | simp only [List.length_append, List.length_take, List.length_drop, List.length_cons, List.length_nil]; omega) rfl rfl))
    refine os 1 ?_
    refine kp [2, 58, 43, 29, 5, 4, 3, 19, 12, 9, 6, 0] ?_
    refine nt ?_
    refine SW_ret (r_in (r_then ?_))
    refine body_end (.string (bS (([48, 46] ++ (Lib.repeatL [48] (-p).toNat)) ++ D))) (fun _ => rfl) ?_
    rw [show printP0 a = formP D p from by rw [hD_, hp_]; unfold printP0; rw [if_neg (by omega), if_neg (by omega), if_neg (by omega)]]
    rw [form_c (by omega) (by omega) (by omega)]
    exact ⟨(), ow, rfl, by simp only [List.length_append, List.length_take, List.length_drop, List.length_cons, List.length_nil]; omega⟩
   refine SW_skip (n_in (n_then ?_))
   refine SW_seq ?_
   refine sr ?_
   refine os 2 ?_
   refine nt ?_
   refine cdp (fun hc18 : (D.length : Int) > 1 => ?_) (fun hc18 => ?_)
   ·refine SW_draw [] [] (by kernel_rfl) rd_nil ?_
    refine aS 0 ?_
    refine tk 1 (.string (bS (D.take 1))) ?_ (hy := fun δ w => run_strTo (l := D) 1 .i64 Tryz.underlying9 rfl rfl (by omega) (by omega))
    refine tk 2 (.string (bS ((D.take 1) ++ [46]))) ?_ (hy := (fun δ w_ => run_catB (D.take 1) [46] (by first | omega | simp only [List.length_append, List.length_take, List.length_drop, List.length_cons, List.length_nil]; omega) rfl rfl))
    refine aS 3 ?_
    refine tk 4 (.string (bS (D.drop 1))) ?_ (hy := fun δ w => run_strFrom (l := D) 1 .i64 Tryz.underlying9 rfl rfl (by omega) (by omega))
    refine tk 5 (.string (bS (((D.take 1) ++ [46]) ++ (D.drop 1)))) ?_ (hy := (fun δ w_ => run_catB ((D.take 1) ++ [46]) (D.drop 1) (by first | omega | simp only [List.length_append, List.length_take, List.length_drop, List.length_cons, List.length_nil]; omega) rfl rfl))
    refine aS 6 ?_
    refine SA_done (by kernel_rfl) (n_then ?_)
    refine SW_seq ?_
    refine sr ?_
    refine os 2 ?_
    refine kp [80, 3, 72, 58, 43, 29, 5, 4, 19, 12, 9, 6, 2, 0] ?_
    refine nt ?_
    refine cdp (fun hc19 : p > 0 => ?_) (fun hc19 => ?_)
    ·refine sr ?_
     refine os 1 ?_
     refine oV (.string (bS ((((D.take 1) ++ [46]) ++ (D.drop 1)) ++ [101, 43]))) ?_ (hs := (fun δ w_ => run_catB (((D.take 1) ++ [46]) ++ (D.drop 1)) [101, 43] (by first | omega | simp only [List.length_append, List.length_take, List.length_drop, List.length_cons, List.length_nil]; omega) rfl rfl))
     refine os 2 ?_
     have hil_ := Lib.itoa_length_le (p - 1) (by omega) (by omega)
     refine L (cl (str_ItoaN hL (p - 1) (by omega)) ?_)
     rintro _ _ rfl
     refine un ?_
     refine oV (.string (bS (((((D.take 1) ++ [46]) ++ (D.drop 1)) ++ [101, 43]) ++ (Lib.itoa (p - 1))))) ?_ (hs := (fun δ w_ => run_catB ((((D.take 1) ++ [46]) ++ (D.drop 1)) ++ [101, 43]) (Lib.itoa (p - 1)) (by first | omega | simp only [List.length_append, List.length_take, List.length_drop, List.length_cons, List.length_nil]; omega) rfl rfl))
     refine os 1 ?_
     refine kp [2, 80, 3, 72, 58, 43, 29, 5, 4, 19, 12, 9, 6, 0] ?_
     refine nt ?_
     refine SW_ret (r_then ?_)
     refine body_end (.string (bS (((((D.take 1) ++ [46]) ++ (D.drop 1)) ++ [101, 43]) ++ (Lib.itoa (p - 1))))) (fun _ => rfl) ?_
     rw [show printP0 a = formP D p from by rw [hD_, hp_]; unfold printP0; rw [if_neg (by omega), if_neg (by omega), if_neg (by omega)]]
     rw [form_d (by omega) (by omega) (by omega) (by omega), expo_t (by omega)]
     exact ⟨(), ow, rfl, by simp only [List.length_append, List.length_take, List.length_drop, List.length_cons, List.length_nil]; omega⟩
    refine SW_skip (n_then ?_)
    refine sr ?_
    refine os 1 ?_
    refine oV (.string (bS ((((D.take 1) ++ [46]) ++ (D.drop 1)) ++ [101]))) ?_ (hs := (fun δ w_ => run_catB (((D.take 1) ++ [46]) ++ (D.drop 1)) [101] (by first | omega | simp only [List.length_append, List.length_take, List.length_drop, List.length_cons, List.length_nil]; omega) rfl rfl))
    refine os 2 ?_
    have hil_ := Lib.itoa_length_le (p - 1) (by omega) (by omega)
    refine L (cl (str_ItoaN hL (p - 1) (by omega)) ?_)
    rintro _ _ rfl
    refine un ?_
    refine oV (.string (bS (((((D.take 1) ++ [46]) ++ (D.drop 1)) ++ [101]) ++ (Lib.itoa (p - 1))))) ?_ (hs := (fun δ w_ => run_catB ((((D.take 1) ++ [46]) ++ (D.drop 1)) ++ [101]) (Lib.itoa (p - 1)) (by first | omega | simp only [List.length_append, List.length_take, List.length_drop, List.length_cons, List.length_nil]; omega) rfl rfl))
    refine os 1 ?_
    refine kp [2, 80, 3, 72, 58, 43, 29, 5, 4, 19, 12, 9, 6, 0] ?_
    refine nt ?_
    refine SW_ret ?_
    refine body_end (.string (bS (((((D.take 1) ++ [46]) ++ (D.drop 1)) ++ [101]) ++ (Lib.itoa (p - 1))))) (fun _ => rfl) ?_
    rw [show printP0 a = formP D p from by rw [hD_, hp_]; unfold printP0; rw [if_neg (by omega), if_neg (by omega), if_neg (by omega)]]
    rw [form_e (by omega) (by omega) (by omega) (by omega), expo_t (by omega)]
    exact ⟨(), ow, rfl, by simp only [List.length_append, List.length_take, List.length_drop, List.length_cons, List.length_nil]; omega⟩
   refine SW_skip (n_then ?_)
   refine SW_seq ?_
   refine sr ?_
   refine os 2 ?_
   refine nt ?_
   refine cdp (fun hc20 : p > 0 => ?_) (fun hc20 => ?_)
   ·refine sr ?_
    refine os 1 ?_
    refine oV (.string (bS (D ++ [101, 43]))) ?_ (hs := (fun δ w_ => run_catB D [101, 43] (by first | omega | simp only [List.length_append, List.length_take, List.length_drop, List.length_cons, List.length_nil]; omega) rfl rfl))
    refine os 2 ?_
    have hil_ := Lib.itoa_length_le (p - 1) (by omega) (by omega)
    refine L (cl (str_ItoaN hL (p - 1) (by omega)) ?_)
    rintro _ _ rfl
    refine un ?_
    refine oV (.string (bS ((D ++ [101, 43]) ++ (Lib.itoa (p - 1))))) ?_ (hs := (fun δ w_ => run_catB (D ++ [101, 43]) (Lib.itoa (p - 1)) (by first | omega | simp only [List.length_append, List.length_take, List.length_drop, List.length_cons, List.length_nil]; omega) rfl rfl))
    refine os 1 ?_
    refine kp [2, 80, 72, 58, 43, 29, 5, 4, 3, 19, 12, 9, 6, 0] ?_
    refine nt ?_
    refine SW_ret (r_then ?_)
    refine body_end (.string (bS ((D ++ [101, 43]) ++ (Lib.itoa (p - 1))))) (fun _ => rfl) ?_
    rw [show printP0 a = formP D p from by rw [hD_, hp_]; unfold printP0; rw [if_neg (by omega), if_neg (by omega), if_neg (by omega)]]
    rw [form_d (by omega) (by omega) (by omega) (by omega), expo_f (by omega)]
    exact ⟨(), ow, rfl, by simp only [List.length_append, List.length_take, List.length_drop, List.length_cons, List.length_nil]; omega⟩
   refine SW_skip (n_then ?_)
   refine sr ?_
   refine os 1 ?_
   refine oV (.string (bS (D ++ [101]))) ?_ (hs := (fun δ w_ => run_catB D [101] (by first | omega | simp only [List.length_append, List.length_take, List.length_drop, List.length_cons, List.length_nil]; omega) rfl rfl))
   refine os 2 ?_
   have hil_ := Lib.itoa_length_le (p - 1) (by omega) (by omega)
   refine L (cl (str_ItoaN hL (p - 1) (by omega)) ?_)
   rintro _ _ rfl
   refine un ?_
   refine oV (.string (bS ((D ++ [101]) ++ (Lib.itoa (p - 1))))) ?_ (hs := (fun δ w_ => run_catB (D ++ [101]) (Lib.itoa (p - 1)) (by first | omega | simp only [List.length_append, List.length_take, List.length_drop, List.length_cons, List.length_nil]; omega) rfl rfl))
   refine os 1 ?_
   refine kp [2, 80, 72, 58, 43, 29, 5, 4, 3, 19, 12, 9, 6, 0] ?_
   refine nt ?_
   refine SW_ret ?_
   refine body_end (.string (bS ((D ++ [101]) ++ (Lib.itoa (p - 1))))) (fun _ => rfl) ?_
   rw [show printP0 a = formP D p from by rw [hD_, hp_]; unfold printP0; rw [if_neg (by omega), if_neg (by omega), if_neg (by omega)]]
   rw [form_e (by omega) (by omega) (by omega) (by omega), expo_f (by omega)]
   exact ⟨(), ow, rfl, by simp only [List.length_append, List.length_take, List.length_drop, List.length_cons, List.length_nil]; omega⟩
  replace hg16 : ¬ (p > (-6)) := hg16
  refine os 4 ?_
  refine kp [58, 43, 29, 5, 4, 3, 19, 12, 9, 6, 2, 0] ?_
  refine nt ?_
  refine cf ?_
  refine SW_skip (n_in (n_then ?_))
  refine SW_seq ?_
  refine sr ?_
  refine os 2 ?_
  refine nt ?_
  refine cdp (fun hc21 : (D.length : Int) > 1 => ?_) (fun hc21 => ?_)
  ·refine SW_draw [] [] (by kernel_rfl) rd_nil ?_
   refine aS 0 ?_
   refine tk 1 (.string (bS (D.take 1))) ?_ (hy := fun δ w => run_strTo (l := D) 1 .i64 Tryz.underlying9 rfl rfl (by omega) (by omega))
   refine tk 2 (.string (bS ((D.take 1) ++ [46]))) ?_ (hy := (fun δ w_ => run_catB (D.take 1) [46] (by first | omega | simp only [List.length_append, List.length_take, List.length_drop, List.length_cons, List.length_nil]; omega) rfl rfl))
   refine aS 3 ?_
   refine tk 4 (.string (bS (D.drop 1))) ?_ (hy := fun δ w => run_strFrom (l := D) 1 .i64 Tryz.underlying9 rfl rfl (by omega) (by omega))
   refine tk 5 (.string (bS (((D.take 1) ++ [46]) ++ (D.drop 1)))) ?_ (hy := (fun δ w_ => run_catB ((D.take 1) ++ [46]) (D.drop 1) (by first | omega | simp only [List.length_append, List.length_take, List.length_drop, List.length_cons, List.length_nil]; omega) rfl rfl))
   refine aS 6 ?_
   refine SA_done (by kernel_rfl) (n_then ?_)
   refine SW_seq ?_
   refine sr ?_
   refine os 2 ?_
   refine kp [80, 3, 72, 58, 43, 29, 5, 4, 19, 12, 9, 6, 2, 0] ?_
   refine nt ?_
   refine cdp (fun hc22 : p > 0 => ?_) (fun hc22 => ?_)
   ·refine sr ?_
    refine os 1 ?_
    refine oV (.string (bS ((((D.take 1) ++ [46]) ++ (D.drop 1)) ++ [101, 43]))) ?_ (hs := (fun δ w_ => run_catB (((D.take 1) ++ [46]) ++ (D.drop 1)) [101, 43] (by first | omega | simp only [List.length_append, List.length_take, List.length_drop, List.length_cons, List.length_nil]; omega) rfl rfl))
    refine os 2 ?_
    have hil_ := Lib.itoa_length_le (p - 1) (by omega) (by omega)
    refine L (cl (str_ItoaN hL (p - 1) (by omega)) ?_)
    rintro _ _ rfl
    refine un ?_
    refine oV (.string (bS (((((D.take 1) ++ [46]) ++ (D.drop 1)) ++ [101, 43]) ++ (Lib.itoa (p - 1))))) ?_ (hs := (fun δ w_ => run_catB ((((D.take 1) ++ [46]) ++ (D.drop 1)) ++ [101, 43]) (Lib.itoa (p - 1)) (by first | omega | simp only [List.length_append, List.length_take, List.length_drop, List.length_cons, List.length_nil]; omega) rfl rfl))
    refine os 1 ?_
    refine kp [2, 80, 3, 72, 58, 43, 29, 5, 4, 19, 12, 9, 6, 0] ?_
    refine nt ?_
    refine SW_ret (r_then ?_)
    refine body_end (.string (bS (((((D.take 1) ++ [46]) ++ (D.drop 1)) ++ [101, 43]) ++ (Lib.itoa (p - 1))))) (fun _ => rfl) ?_
    rw [show printP0 a = formP D p from by rw [hD_, hp_]; unfold printP0; rw [if_neg (by omega), if_neg (by omega), if_neg (by omega)]]
    rw [form_d (by omega) (by omega) (by omega) (by omega), expo_t (by omega)]
    exact ⟨(), ow, rfl, by simp only [List.length_append, List.length_take, List.length_drop, List.length_cons, List.length_nil]; omega⟩
   refine SW_skip (n_then ?_)
   refine sr ?_
   refine os 1 ?_
   refine oV (.string (bS ((((D.take 1) ++ [46]) ++ (D.drop 1)) ++ [101]))) ?_ (hs := (fun δ w_ => run_catB (((D.take 1) ++ [46]) ++ (D.drop 1)) [101] (by first | omega | simp only [List.length_append, List.length_take, List.length_drop, List.length_cons, List.length_nil]; omega) rfl rfl))
   refine os 2 ?_
   have hil_ := Lib.itoa_length_le (p - 1) (by omega) (by omega)
   refine L (cl (str_ItoaN hL (p - 1) (by omega)) ?_)
   rintro _ _ rfl
   refine un ?_
   refine oV (.string (bS (((((D.take 1) ++ [46]) ++ (D.drop 1)) ++ [101]) ++ (Lib.itoa (p - 1))))) ?_ (hs := (fun δ w_ => run_catB ((((D.take 1) ++ [46]) ++ (D.drop 1)) ++ [101]) (Lib.itoa (p - 1)) (by first | omega | simp only [List.length_append, List.length_take, List.length_drop, List.length_cons, List.length_nil]; omega) rfl rfl))
   refine os 1 ?_
   refine kp [2, 80, 3, 72, 58, 43, 29, 5, 4, 19, 12, 9, 6, 0] ?_
   refine nt ?_
   refine SW_ret ?_
   refine body_end (.string (bS (((((D.take 1) ++ [46]) ++ (D.drop 1)) ++ [101]) ++ (Lib.itoa (p - 1))))) (fun _ => rfl) ?_
   rw [show printP0 a = formP D p from by rw [hD_, hp_]; unfold printP0; rw [if_neg (by omega), if_neg (by omega), if_neg (by omega)]]
   rw [form_e (by omega) (by omega) (by omega) (by omega), expo_t (by omega)]
   exact ⟨(), ow, rfl, by simp only [List.length_append, List.length_take, List.length_drop, List.length_cons, List.length_nil]; omega⟩
  refine SW_skip (n_then ?_)
  refine SW_seq ?_
  refine sr ?_
  refine os 2 ?_
  refine nt ?_
  refine cdp (fun hc23 : p > 0 => ?_) (fun hc23 => ?_)
  ·refine sr ?_
   refine os 1 ?_
   refine oV (.string (bS (D ++ [101, 43]))) ?_ (hs := (fun δ w_ => run_catB D [101, 43] (by first | omega | simp only [List.length_append, List.length_take, List.length_drop, List.length_cons, List.length_nil]; omega) rfl rfl))
   refine os 2 ?_
   have hil_ := Lib.itoa_length_le (p - 1) (by omega) (by omega)
   refine L (cl (str_ItoaN hL (p - 1) (by omega)) ?_)
   rintro _ _ rfl
   refine un ?_
   refine oV (.string (bS ((D ++ [101, 43]) ++ (Lib.itoa (p - 1))))) ?_ (hs := (fun δ w_ => run_catB (D ++ [101, 43]) (Lib.itoa (p - 1)) (by first | omega | simp only [List.length_append, List.length_take, List.length_drop, List.length_cons, List.length_nil]; omega) rfl rfl))
   refine os 1 ?_
   refine kp [2, 80, 72, 58, 43, 29, 5, 4, 3, 19, 12, 9, 6, 0] ?_
   refine nt ?_
   refine SW_ret (r_then ?_)
   refine body_end (.string (bS ((D ++ [101, 43]) ++ (Lib.itoa (p - 1))))) (fun _ => rfl) ?_
   rw [show printP0 a = formP D p from by rw [hD_, hp_]; unfold printP0; rw [if_neg (by omega), if_neg (by omega), if_neg (by omega)]]
   rw [form_d (by omega) (by omega) (by omega) (by omega), expo_f (by omega)]
   exact ⟨(), ow, rfl, by simp only [List.length_append, List.length_take, List.length_drop, List.length_cons, List.length_nil]; omega⟩
  refine SW_skip (n_then ?_)
  refine sr ?_
  refine os 1 ?_
  refine oV (.string (bS (D ++ [101]))) ?_ (hs := (fun δ w_ => run_catB D [101] (by first | omega | simp only [List.length_append, List.length_take, List.length_drop, List.length_cons, List.length_nil]; omega) rfl rfl))
  refine os 2 ?_
  have hil_ := Lib.itoa_length_le (p - 1) (by omega) (by omega)
  refine L (cl (str_ItoaN hL (p - 1) (by omega)) ?_)
  rintro _ _ rfl
  refine un ?_
  refine oV (.string (bS ((D ++ [101]) ++ (Lib.itoa (p - 1))))) ?_ (hs := (fun δ w_ => run_catB (D ++ [101]) (Lib.itoa (p - 1)) (by first | omega | simp only [List.length_append, List.length_take, List.length_drop, List.length_cons, List.length_nil]; omega) rfl rfl))
  refine os 1 ?_
  refine kp [2, 80, 72, 58, 43, 29, 5, 4, 3, 19, 12, 9, 6, 0] ?_
  refine nt ?_
  refine SW_ret ?_
  refine body_end (.string (bS ((D ++ [101]) ++ (Lib.itoa (p - 1))))) (fun _ => rfl) ?_
  rw [show printP0 a = formP D p from by rw [hD_, hp_]; unfold printP0; rw [if_neg (by omega), if_neg (by omega), if_neg (by omega)]]
  rw [form_e (by omega) (by omega) (by omega) (by omega), expo_f (by omega)]
  exact ⟨(), ow, rfl, by simp only [List.length_append, List.length_take, List.length_drop, List.length_cons, List.length_nil]; omega⟩
 replace hg4 : ¬ (p ≥ (D.length : Int)) := hg4
 refine os 4 ?_
 refine kp [29, 5, 4, 3, 19, 12, 9, 6, 2, 0] ?_
 refine nt ?_
 refine cf ?_
 refine sr ?_
 refine os 3 ?_
 refine tbp 46 (fun hg24 => ?_) (fun hg24 => ?_)
 ·replace hg24 : p > 0 := hg24
  refine os 4 ?_
  refine kp [43, 29, 5, 4, 3, 19, 12, 9, 6, 2, 0] ?_
  refine nt ?_
  refine cdp (fun hc25 : p ≤ 21 => ?_) (fun hc25 => ?_)
  ·refine SW_seq ?_
   refine SW_draw [] [] (by kernel_rfl) rd_nil ?_
   refine aS 0 ?_
   refine aS 1 ?_
   refine tk 2 (.string (bS (D.take (p).toNat))) ?_ (hy := fun δ w => run_strTo (l := D) p .i64 Tryz.underlying9 rfl rfl (by omega) (by omega))
   rw [show (p).toNat = p.toNat from by omega]
   refine tk 3 (.string (bS ((D.take p.toNat) ++ [46]))) ?_ (hy := (fun δ w_ => run_catB (D.take p.toNat) [46] (by first | omega | simp only [List.length_append, List.length_take, List.length_drop, List.length_cons, List.length_nil]; omega) rfl rfl))
   refine aS 4 ?_
   refine aS 5 ?_
   refine tk 6 (.string (bS (D.drop (p).toNat))) ?_ (hy := fun δ w => run_strFrom (l := D) p .i64 Tryz.underlying9 rfl rfl (by omega) (by omega))
   rw [show (p).toNat = p.toNat from by omega]
   refine tk 7 (.string (bS (((D.take p.toNat) ++ [46]) ++ (D.drop p.toNat)))) ?_ (hy := (fun δ w_ => run_catB ((D.take p.toNat) ++ [46]) (D.drop p.toNat) (by first | omega | simp only [List.length_append, List.length_take, List.length_drop, List.length_cons, List.length_nil]; omega) rfl rfl))
   refine aS 8 ?_
   refine kpA [2, 43, 29, 5, 4, 3, 19, 12, 9, 6, 0] ?_
   refine SA_done (by kernel_rfl) (n_then ?_)
   refine SW_ret (r_in (r_then ?_))
   refine body_end (.string (bS (((D.take p.toNat) ++ [46]) ++ (D.drop p.toNat)))) (fun _ => rfl) ?_
   rw [show printP0 a = formP D p from by rw [hD_, hp_]; unfold printP0; rw [if_neg (by omega), if_neg (by omega), if_neg (by omega)]]
   rw [form_b (by omega) (by omega) (by omega)]
   exact ⟨(), ow, rfl, by simp only [List.length_append, List.length_take, List.length_drop, List.length_cons, List.length_nil]; omega⟩
  refine sr ?_
  refine os 3 ?_
  refine tbp 61 (fun hg26 => ?_) (fun hg26 => ?_)
  ·replace hg26 : p > (-6) := hg26
   refine os 4 ?_
   refine kp [58, 43, 29, 5, 4, 3, 19, 12, 9, 6, 2, 0] ?_
   refine nt ?_
   refine cdp (fun hc27 : p ≤ 0 => ?_) (fun hc27 => ?_)
   ·refine sr ?_
    refine os 1 ?_
    refine oX (.int .i64 (IntKind.wrap .i64 (0 - p))) (.int .i64 (-p)) (congrArg (Value.int .i64) ((IntWalk.i64_in _ (by omega)).trans (Int.zero_sub _))) ?_
    have hrl_ : (Lib.repeatL [48] (-p).toNat).length ≤ 2000 := by rw [Lib.repeatL_length, show ([48] : List UInt8).length = 1 from rfl]; omega
    refine L (cl (str_RepeatZ [48] (c := -p) (by omega) (by decide)) ?_)
    rintro _ _ rfl
    refine un ?_
    refine oV (.string (bS ([48, 46] ++ (Lib.repeatL [48] (-p).toNat)))) ?_ (hs := (fun δ w_ => run_catB [48, 46] (Lib.repeatL [48] (-p).toNat) (by first | omega | simp only [List.length_append, List.length_take, List.length_drop, List.length_cons, List.length_nil]; omega) rfl rfl))
    refine os 1 ?_
    refine oV (.string (bS (([48, 46] ++ (Lib.repeatL [48] (-p).toNat)) ++ D))) ?_ (hs := (fun δ w_ => run_catB ([48, 46] ++ (Lib.repeatL [48] (-p).toNat)) D (by first | omega | simp only [List.length_append, List.length_take, List.length_drop, List.length_cons, List.length_nil]; omega) rfl rfl))
    refine os 1 ?_
    refine kp [2, 58, 43, 29, 5, 4, 3, 19, 12, 9, 6, 0] ?_
    refine nt ?_
    refine SW_ret (r_in (r_then ?_))
    refine body_end (.string (bS (([48, 46] ++ (Lib.repeatL [48] (-p).toNat)) ++ D))) (fun _ => rfl) ?_
    rw [show printP0 a = formP D p from by rw [hD_, hp_]; unfold printP0; rw [if_neg (by omega), if_neg (by omega), if_neg (by omega)]]
    rw [form_c (by omega) (by omega) (by omega)]
    exact ⟨(), ow, rfl, by simp only [List.length_append, List.length_take, List.length_drop, List.length_cons, List.length_nil]; omega⟩
   refine SW_skip (n_in (n_then ?_))
   refine SW_seq ?_
   refine sr ?_
   refine os 2 ?_
   refine nt ?_
   refine cdp (fun hc28 : (D.length : Int) > 1 => ?_) (fun hc28 => ?_)
   ·refine SW_draw [] [] (by kernel_rfl) rd_nil ?_
    refine aS 0 ?_
    refine tk 1 (.string (bS (D.take 1))) ?_ (hy := fun δ w => run_strTo (l := D) 1 .i64 Tryz.underlying9 rfl rfl (by omega) (by omega))
    refine tk 2 (.string (bS ((D.take 1) ++ [46]))) ?_ (hy := (fun δ w_ => run_catB (D.take 1) [46] (by first | omega | simp only [List.length_append, List.length_take, List.length_drop, List.length_cons, List.length_nil]; omega) rfl rfl))
    refine aS 3 ?_
    refine tk 4 (.string (bS (D.drop 1))) ?_ (hy := fun δ w => run_strFrom (l := D) 1 .i64 Tryz.underlying9 rfl rfl (by omega) (by omega))
    refine tk 5 (.string (bS (((D.take 1) ++ [46]) ++ (D.drop 1)))) ?_ (hy := (fun δ w_ => run_catB ((D.take 1) ++ [46]) (D.drop 1) (by first | omega | simp only [List.length_append, List.length_take, List.length_drop, List.length_cons, List.length_nil]; omega) rfl rfl))
    refine aS 6 ?_
    refine SA_done (by kernel_rfl) (n_then ?_)
    refine SW_seq ?_
    refine sr ?_
    refine os 2 ?_
    refine kp [80, 3, 72, 58, 43, 29, 5, 4, 19, 12, 9, 6, 2, 0] ?_
    refine nt ?_
    refine cdp (fun hc29 : p > 0 => ?_) (fun hc29 => ?_)
    ·refine sr ?_
     refine os 1 ?_
     refine oV (.string (bS ((((D.take 1) ++ [46]) ++ (D.drop 1)) ++ [101, 43]))) ?_ (hs := (fun δ w_ => run_catB (((D.take 1) ++ [46]) ++ (D.drop 1)) [101, 43] (by first | omega | simp only [List.length_append, List.length_take, List.length_drop, List.length_cons, List.length_nil]; omega) rfl rfl))
     refine os 2 ?_
     have hil_ := Lib.itoa_length_le (p - 1) (by omega) (by omega)
     refine L (cl (str_ItoaN hL (p - 1) (by omega)) ?_)
     rintro _ _ rfl
     refine un ?_
     refine oV (.string (bS (((((D.take 1) ++ [46]) ++ (D.drop 1)) ++ [101, 43]) ++ (Lib.itoa (p - 1))))) ?_ (hs := (fun δ w_ => run_catB ((((D.take 1) ++ [46]) ++ (D.drop 1)) ++ [101, 43]) (Lib.itoa (p - 1)) (by first | omega | simp only [List.length_append, List.length_take, List.length_drop, List.length_cons, List.length_nil]; omega) rfl rfl))
     refine os 1 ?_
     refine kp [2, 80, 3, 72, 58, 43, 29, 5, 4, 19, 12, 9, 6, 0] ?_
     refine nt ?_
     refine SW_ret (r_then ?_)
     refine body_end (.string (bS (((((D.take 1) ++ [46]) ++ (D.drop 1)) ++ [101, 43]) ++ (Lib.itoa (p - 1))))) (fun _ => rfl) ?_
     rw [show printP0 a = formP D p from by rw [hD_, hp_]; unfold printP0; rw [if_neg (by omega), if_neg (by omega), if_neg (by omega)]]
     rw [form_d (by omega) (by omega) (by omega) (by omega), expo_t (by omega)]
     exact ⟨(), ow, rfl, by simp only [List.length_append, List.length_take, List.length_drop, List.length_cons, List.length_nil]; omega⟩
    refine SW_skip (n_then ?_)
    refine sr ?_
    refine os 1 ?_
    refine oV (.string (bS ((((D.take 1) ++ [46]) ++ (D.drop 1)) ++ [101]))) ?_ (hs := (fun δ w_ => run_catB (((D.take 1) ++ [46]) ++ (D.drop 1)) [101] (by first | omega | simp only [List.length_append, List.length_take, List.length_drop, List.length_cons, List.length_nil]; omega) rfl rfl))
    refine os 2 ?_
    have hil_ := Lib.itoa_length_le (p - 1) (by omega) (by omega)
    refine L (cl (str_ItoaN hL (p - 1) (by omega)) ?_)
    rintro _ _ rfl
    refine un ?_
    refine oV (.string (bS (((((D.take 1) ++ [46]) ++ (D.drop 1)) ++ [101]) ++ (Lib.itoa (p - 1))))) ?_ (hs := (fun δ w_ => run_catB ((((D.take 1) ++ [46]) ++ (D.drop 1)) ++ [101]) (Lib.itoa (p - 1)) (by first | omega | simp only [List.length_append, List.length_take, List.length_drop, List.length_cons, List.length_nil]; omega) rfl rfl))
    refine os 1 ?_
    refine kp [2, 80, 3, 72, 58, 43, 29, 5, 4, 19, 12, 9, 6, 0] ?_
    refine nt ?_
    refine SW_ret ?_
    refine body_end (.string (bS (((((D.take 1) ++ [46]) ++ (D.drop 1)) ++ [101]) ++ (Lib.itoa (p - 1))))) (fun _ => rfl) ?_
    rw [show printP0 a = formP D p from by rw [hD_, hp_]; unfold printP0; rw [if_neg (by omega), if_neg (by omega), if_neg (by omega)]]
    rw [form_e (by omega) (by omega) (by omega) (by omega), expo_t (by omega)]
    exact ⟨(), ow, rfl, by simp only [List.length_append, List.length_take, List.length_drop, List.length_cons, List.length_nil]; omega⟩
   refine SW_skip (n_then ?_)
   refine SW_seq ?_
   refine sr ?_
   refine os 2 ?_
   refine nt ?_
   refine cdp (fun hc30 : p > 0 => ?_) (fun hc30 => ?_)
   ·refine sr ?_
    refine os 1 ?_
    refine oV (.string (bS (D ++ [101, 43]))) ?_ (hs := (fun δ w_ => run_catB D [101, 43] (by first | omega | simp only [List.length_append, List.length_take, List.length_drop, List.length_cons, List.length_nil]; omega) rfl rfl))
    refine os 2 ?_
    have hil_ := Lib.itoa_length_le (p - 1) (by omega) (by omega)
    refine L (cl (str_ItoaN hL (p - 1) (by omega)) ?_)
    rintro _ _ rfl
    refine un ?_
    refine oV (.string (bS ((D ++ [101, 43]) ++ (Lib.itoa (p - 1))))) ?_ (hs := (fun δ w_ => run_catB (D ++ [101, 43]) (Lib.itoa (p - 1)) (by first | omega | simp only [List.length_append, List.length_take, List.length_drop, List.length_cons, List.length_nil]; omega) rfl rfl))
    refine os 1 ?_
    refine kp [2, 80, 72, 58, 43, 29, 5, 4, 3, 19, 12, 9, 6, 0] ?_
    refine nt ?_
    refine SW_ret (r_then ?_)
    refine body_end (.string (bS ((D ++ [101, 43]) ++ (Lib.itoa (p - 1))))) (fun _ => rfl) ?_
    rw [show printP0 a = formP D p from by rw [hD_, hp_]; unfold printP0; rw [if_neg (by omega), if_neg (by omega), if_neg (by omega)]]
    rw [form_d (by omega) (by omega) (by omega) (by omega), expo_f (by omega)]
    exact ⟨(), ow, rfl, by simp only [List.length_append, List.length_take, List.length_drop, List.length_cons, List.length_nil]; omega⟩
   refine SW_skip (n_then ?_)
   refine sr ?_
   refine os 1 ?_
   refine oV (.string (bS (D ++ [101]))) ?_ (hs := (fun δ w_ => run_catB D [101] (by first | omega | simp only [List.length_append, List.length_take, List.length_drop, List.length_cons, List.length_nil]; omega) rfl rfl))
   refine os 2 ?_
   have hil_ := Lib.itoa_length_le (p - 1) (by omega) (by omega)
   refine L (cl (str_ItoaN hL (p - 1) (by omega)) ?_)
   rintro _ _ rfl
   refine un ?_
   refine oV (.string (bS ((D ++ [101]) ++ (Lib.itoa (p - 1))))) ?_ (hs := (fun δ w_ => run_catB (D ++ [101]) (Lib.itoa (p - 1)) (by first | omega | simp only [List.length_append, List.length_take, List.length_drop, List.length_cons, List.length_nil]; omega) rfl rfl))
   refine os 1 ?_
   refine kp [2, 80, 72, 58, 43, 29, 5, 4, 3, 19, 12, 9, 6, 0] ?_
   refine nt ?_
   refine SW_ret ?_
   refine body_end (.string (bS ((D ++ [101]) ++ (Lib.itoa (p - 1))))) (fun _ => rfl) ?_
   rw [show printP0 a = formP D p from by rw [hD_, hp_]; unfold printP0; rw [if_neg (by omega), if_neg (by omega), if_neg (by omega)]]
   rw [form_e (by omega) (by omega) (by omega) (by omega), expo_f (by omega)]
   exact ⟨(), ow, rfl, by simp only [List.length_append, List.length_take, List.length_drop, List.length_cons, List.length_nil]; omega⟩
  replace hg26 : ¬ (p > (-6)) := hg26
  refine os 4 ?_
  refine kp [58, 43, 29, 5, 4, 3, 19, 12, 9, 6, 2, 0] ?_
  refine nt ?_
  refine cf ?_
  refine SW_skip (n_in (n_then ?_))
  refine SW_seq ?_
  refine sr ?_
  refine os 2 ?_
  refine nt ?_
  refine cdp (fun hc31 : (D.length : Int) > 1 => ?_) (fun hc31 => ?_)
  ·refine SW_draw [] [] (by kernel_rfl) rd_nil ?_
   refine aS 0 ?_
   refine tk 1 (.string (bS (D.take 1))) ?_ (hy := fun δ w => run_strTo (l := D) 1 .i64 Tryz.underlying9 rfl rfl (by omega) (by omega))
   refine tk 2 (.string (bS ((D.take 1) ++ [46]))) ?_ (hy := (fun δ w_ => run_catB (D.take 1) [46] (by first | omega | simp only [List.length_append, List.length_take, List.length_drop, List.length_cons, List.length_nil]; omega) rfl rfl))
   refine aS 3 ?_
   refine tk 4 (.string (bS (D.drop 1))) ?_ (hy := fun δ w => run_strFrom (l := D) 1 .i64 Tryz.underlying9 rfl rfl (by omega) (by omega))
   refine tk 5 (.string (bS (((D.take 1) ++ [46]) ++ (D.drop 1)))) ?_ (hy := (fun δ w_ => run_catB ((D.take 1) ++ [46]) (D.drop 1) (by first | omega | simp only [List.length_append, List.length_take, List.length_drop, List.length_cons, List.length_nil]; omega) rfl rfl))
   refine aS 6 ?_
   refine SA_done (by kernel_rfl) (n_then ?_)
   refine SW_seq ?_
   refine sr ?_
   refine os 2 ?_
   refine kp [80, 3, 72, 58, 43, 29, 5, 4, 19, 12, 9, 6, 2, 0] ?_
   refine nt ?_
   refine cdp (fun hc32 : p > 0 => ?_) (fun hc32 => ?_)
   ·refine sr ?_
    refine os 1 ?_
    refine oV (.string (bS ((((D.take 1) ++ [46]) ++ (D.drop 1)) ++ [101, 43]))) ?_ (hs := (fun δ w_ => run_catB (((D.take 1) ++ [46]) ++ (D.drop 1)) [101, 43] (by first | omega | simp only [List.length_append, List.length_take, List.length_drop, List.length_cons, List.length_nil]; omega) rfl rfl))
    refine os 2 ?_
    have hil_ := Lib.itoa_length_le (p - 1) (by omega) (by omega)
    refine L (cl (str_ItoaN hL (p - 1) (by omega)) ?_)
    rintro _ _ rfl
    refine un ?_
    refine oV (.string (bS (((((D.take 1) ++ [46]) ++ (D.drop 1)) ++ [101, 43]) ++ (Lib.itoa (p - 1))))) ?_ (hs := (fun δ w_ => run_catB ((((D.take 1) ++ [46]) ++ (D.drop 1)) ++ [101, 43]) (Lib.itoa (p - 1)) (by first | omega | simp only [List.length_append, List.length_take, List.length_drop, List.length_cons, List.length_nil]; omega) rfl rfl))
    refine os 1 ?_
    refine kp [2, 80, 3, 72, 58, 43, 29, 5, 4, 19, 12, 9, 6, 0] ?_
    refine nt ?_
    refine SW_ret (r_then ?_)
    refine body_end (.string (bS (((((D.take 1) ++ [46]) ++ (D.drop 1)) ++ [101, 43]) ++ (Lib.itoa (p - 1))))) (fun _ => rfl) ?_
    rw [show printP0 a = formP D p from by rw [hD_, hp_]; unfold printP0; rw [if_neg (by omega), if_neg (by omega), if_neg (by omega)]]
    rw [form_d (by omega) (by omega) (by omega) (by omega), expo_t (by omega)]
    exact ⟨(), ow, rfl, by simp only [List.length_append, List.length_take, List.length_drop, List.length_cons, List.length_nil]; omega⟩
   refine SW_skip (n_then ?_)
   refine sr ?_
   refine os 1 ?_
   refine oV (.string (bS ((((D.take 1) ++ [46]) ++ (D.drop 1)) ++ [101]))) ?_ (hs := (fun δ w_ => run_catB (((D.take 1) ++ [46]) ++ (D.drop 1)) [101] (by first | omega | simp only [List.length_append, List.length_take, List.length_drop, List.length_cons, List.length_nil]; omega) rfl rfl))
   refine os 2 ?_
   have hil_ := Lib.itoa_length_le (p - 1) (by omega) (by omega)
   refine L (cl (str_ItoaN hL (p - 1) (by omega)) ?_)
   rintro _ _ rfl
   refine un ?_
   refine oV (.string (bS (((((D.take 1) ++ [46]) ++ (D.drop 1)) ++ [101]) ++ (Lib.itoa (p - 1))))) ?_ (hs := (fun δ w_ => run_catB ((((D.take 1) ++ [46]) ++ (D.drop 1)) ++ [101]) (Lib.itoa (p - 1)) (by first | omega | simp only [List.length_append, List.length_take, List.length_drop, List.length_cons, List.length_nil]; omega) rfl rfl))
   refine os 1 ?_
   refine kp [2, 80, 3, 72, 58, 43, 29, 5, 4, 19, 12, 9, 6, 0] ?_
   refine nt ?_
   refine SW_ret ?_
   refine body_end (.string (bS (((((D.take 1) ++ [46]) ++ (D.drop 1)) ++ [101]) ++ (Lib.itoa (p - 1))))) (fun _ => rfl) ?_
   rw [show printP0 a = formP D p from by rw [hD_, hp_]; unfold printP0; rw [if_neg (by omega), if_neg (by omega), if_neg (by omega)]]
   rw [form_e (by omega) (by omega) (by omega) (by omega), expo_t (by omega)]
   exact ⟨(), ow, rfl, by simp only [List.length_append, List.length_take, List.length_drop, List.length_cons, List.length_nil]; omega⟩
  refine SW_skip (n_then ?_)
  refine SW_seq ?_
  refine sr ?_
  refine os 2 ?_
  refine nt ?_
  refine cdp (fun hc33 : p > 0 => ?_) (fun hc33 => ?_)
  ·refine sr ?_
   refine os 1 ?_
   refine oV (.string (bS (D ++ [101, 43]))) ?_ (hs := (fun δ w_ => run_catB D [101, 43] (by first | omega | simp only [List.length_append, List.length_take, List.length_drop, List.length_cons, List.length_nil]; omega) rfl rfl))
   refine os 2 ?_
   have hil_ := Lib.itoa_length_le (p - 1) (by omega) (by omega)
   refine L (cl (str_ItoaN hL (p - 1) (by omega)) ?_)
   rintro _ _ rfl
   refine un ?_
   refine oV (.string (bS ((D ++ [101, 43]) ++ (Lib.itoa (p - 1))))) ?_ (hs := (fun δ w_ => run_catB (D ++ [101, 43]) (Lib.itoa (p - 1)) (by first | omega | simp only [List.length_append, List.length_take, List.length_drop, List.length_cons, List.length_nil]; omega) rfl rfl))
   refine os 1 ?_
   refine kp [2, 80, 72, 58, 43, 29, 5, 4, 3, 19, 12, 9, 6, 0] ?_
   refine nt ?_
   refine SW_ret (r_then ?_)
   refine body_end (.string (bS ((D ++ [101, 43]) ++ (Lib.itoa (p - 1))))) (fun _ => rfl) ?_
   rw [show printP0 a = formP D p from by rw [hD_, hp_]; unfold printP0; rw [if_neg (by omega), if_neg (by omega), if_neg (by omega)]]
   rw [form_d (by omega) (by omega) (by omega) (by omega), expo_f (by omega)]
   exact ⟨(), ow, rfl, by simp only [List.length_append, List.length_take, List.length_drop, List.length_cons, List.length_nil]; omega⟩
  refine SW_skip (n_then ?_)
  refine sr ?_
  refine os 1 ?_
  refine oV (.string (bS (D ++ [101]))) ?_ (hs := (fun δ w_ => run_catB D [101] (by first | omega | simp only [List.length_append, List.length_take, List.length_drop, List.length_cons, List.length_nil]; omega) rfl rfl))
  refine os 2 ?_
  have hil_ := Lib.itoa_length_le (p - 1) (by omega) (by omega)
  refine L (cl (str_ItoaN hL (p - 1) (by omega)) ?_)
  rintro _ _ rfl
  refine un ?_
  refine oV (.string (bS ((D ++ [101]) ++ (Lib.itoa (p - 1))))) ?_ (hs := (fun δ w_ => run_catB (D ++ [101]) (Lib.itoa (p - 1)) (by first | omega | simp only [List.length_append, List.length_take, List.length_drop, List.length_cons, List.length_nil]; omega) rfl rfl))
  refine os 1 ?_
  refine kp [2, 80, 72, 58, 43, 29, 5, 4, 3, 19, 12, 9, 6, 0] ?_
  refine nt ?_
  refine SW_ret ?_
  refine body_end (.string (bS ((D ++ [101]) ++ (Lib.itoa (p - 1))))) (fun _ => rfl) ?_
  rw [show printP0 a = formP D p from by rw [hD_, hp_]; unfold printP0; rw [if_neg (by omega), if_neg (by omega), if_neg (by omega)]]
  rw [form_e (by omega) (by omega) (by omega) (by omega), expo_f (by omega)]
  exact ⟨(), ow, rfl, by simp only [List.length_append, List.length_take, List.length_drop, List.length_cons, List.length_nil]; omega⟩
 replace hg24 : ¬ (p > 0) := hg24
 refine os 4 ?_
 refine kp [43, 29, 5, 4, 3, 19, 12, 9, 6, 2, 0] ?_
 refine nt ?_
 refine cf ?_
 refine sr ?_
 refine os 3 ?_
 refine tbp 61 (fun hg34 => ?_) (fun hg34 => ?_)
 ·replace hg34 : p > (-6) := hg34
  refine os 4 ?_
  refine kp [58, 43, 29, 5, 4, 3, 19, 12, 9, 6, 2, 0] ?_
  refine nt ?_
  refine cdp (fun hc35 : p ≤ 0 => ?_) (fun hc35 => ?_)
  ·refine sr ?_
   refine os 1 ?_
   refine oX (.int .i64 (IntKind.wrap .i64 (0 - p))) (.int .i64 (-p)) (congrArg (Value.int .i64) ((IntWalk.i64_in _ (by omega)).trans (Int.zero_sub _))) ?_
   have hrl_ : (Lib.repeatL [48] (-p).toNat).length ≤ 2000 := by rw [Lib.repeatL_length, show ([48] : List UInt8).length = 1 from rfl]; omega
   refine L (cl (str_RepeatZ [48] (c := -p) (by omega) (by decide)) ?_)
   rintro _ _ rfl
   refine un ?_
   refine oV (.string (bS ([48, 46] ++ (Lib.repeatL [48] (-p).toNat)))) ?_ (hs := (fun δ w_ => run_catB [48, 46] (Lib.repeatL [48] (-p).toNat) (by first | omega | simp only [List.length_append, List.length_take, List.length_drop, List.length_cons, List.length_nil]; omega) rfl rfl))
   refine os 1 ?_
   refine oV (.string (bS (([48, 46] ++ (Lib.repeatL [48] (-p).toNat)) ++ D))) ?_ (hs := (fun δ w_ => run_catB ([48, 46] ++ (Lib.repeatL [48] (-p).toNat)) D (by first | omega | simp only [List.length_append, List.length_take, List.length_drop, List.length_cons, List.length_nil]; omega) rfl rfl))
   refine os 1 ?_
   refine kp [2, 58, 43, 29, 5, 4, 3, 19, 12, 9, 6, 0] ?_
   refine nt ?_
   refine SW_ret (r_in (r_then ?_))
   refine body_end (.string (bS (([48, 46] ++ (Lib.repeatL [48] (-p).toNat)) ++ D))) (fun _ => rfl) ?_
   rw [show printP0 a = formP D p from by rw [hD_, hp_]; unfold printP0; rw [if_neg (by omega), if_neg (by omega), if_neg (by omega)]]
   rw [form_c (by omega) (by omega) (by omega)]
   exact ⟨(), ow, rfl, by simp only [List.length_append, List.length_take, List.length_drop, List.length_cons, List.length_nil]; omega⟩
  refine SW_skip (n_in (n_then ?_))
  refine SW_seq ?_
  refine sr ?_
  refine os 2 ?_
  refine nt ?_
  refine cdp (fun hc36 : (D.length : Int) > 1 => ?_) (fun hc36 => ?_)
  ·refine SW_draw [] [] (by kernel_rfl) rd_nil ?_
   refine aS 0 ?_
   refine tk 1 (.string (bS (D.take 1))) ?_ (hy := fun δ w => run_strTo (l := D) 1 .i64 Tryz.underlying9 rfl rfl (by omega) (by omega))
   refine tk 2 (.string (bS ((D.take 1) ++ [46]))) ?_ (hy := (fun δ w_ => run_catB (D.take 1) [46] (by first | omega | simp only [List.length_append, List.length_take, List.length_drop, List.length_cons, List.length_nil]; omega) rfl rfl))
   refine aS 3 ?_
   refine tk 4 (.string (bS (D.drop 1))) ?_ (hy := fun δ w => run_strFrom (l := D) 1 .i64 Tryz.underlying9 rfl rfl (by omega) (by omega))
   refine tk 5 (.string (bS (((D.take 1) ++ [46]) ++ (D.drop 1)))) ?_ (hy := (fun δ w_ => run_catB ((D.take 1) ++ [46]) (D.drop 1) (by first | omega | simp only [List.length_append, List.length_take, List.length_drop, List.length_cons, List.length_nil]; omega) rfl rfl))
   refine aS 6 ?_
   refine SA_done (by kernel_rfl) (n_then ?_)
   refine SW_seq ?_
   refine sr ?_
   refine os 2 ?_
   refine kp [80, 3, 72, 58, 43, 29, 5, 4, 19, 12, 9, 6, 2, 0] ?_
   refine nt ?_
   refine cdp (fun hc37 : p > 0 => ?_) (fun hc37 => ?_)
   ·refine sr ?_
    refine os 1 ?_
    refine oV (.string (bS ((((D.take 1) ++ [46]) ++ (D.drop 1)) ++ [101, 43]))) ?_ (hs := (fun δ w_ => run_catB (((D.take 1) ++ [46]) ++ (D.drop 1)) [101, 43] (by first | omega | simp only [List.length_append, List.length_take, List.length_drop, List.length_cons, List.length_nil]; omega) rfl rfl))
    refine os 2 ?_
    have hil_ := Lib.itoa_length_le (p - 1) (by omega) (by omega)
    refine L (cl (str_ItoaN hL (p - 1) (by omega)) ?_)
    rintro _ _ rfl
    refine un ?_
    refine oV (.string (bS (((((D.take 1) ++ [46]) ++ (D.drop 1)) ++ [101, 43]) ++ (Lib.itoa (p - 1))))) ?_ (hs := (fun δ w_ => run_catB ((((D.take 1) ++ [46]) ++ (D.drop 1)) ++ [101, 43]) (Lib.itoa (p - 1)) (by first | omega | simp only [List.length_append, List.length_take, List.length_drop, List.length_cons, List.length_nil]; omega) rfl rfl))
    refine os 1 ?_
    refine kp [2, 80, 3, 72, 58, 43, 29, 5, 4, 19, 12, 9, 6, 0] ?_
    refine nt ?_
    refine SW_ret (r_then ?_)
    refine body_end (.string (bS (((((D.take 1) ++ [46]) ++ (D.drop 1)) ++ [101, 43]) ++ (Lib.itoa (p - 1))))) (fun _ => rfl) ?_
    rw [show printP0 a = formP D p from by rw [hD_, hp_]; unfold printP0; rw [if_neg (by omega), if_neg (by omega), if_neg (by omega)]]
    rw [form_d (by omega) (by omega) (by omega) (by omega), expo_t (by omega)]
    exact ⟨(), ow, rfl, by simp only [List.length_append, List.length_take, List.length_drop, List.length_cons, List.length_nil]; omega⟩
   refine SW_skip (n_then ?_)
   refine sr ?_
   refine os 1 ?_
   refine oV (.string (bS ((((D.take 1) ++ [46]) ++ (D.drop 1)) ++ [101]))) ?_ (hs := (fun δ w_ => run_catB (((D.take 1) ++ [46]) ++ (D.drop 1)) [101] (by first | omega | simp only [List.length_append, List.length_take, List.length_drop, List.length_cons, List.length_nil]; omega) rfl rfl))
   refine os 2 ?_
   have hil_ := Lib.itoa_length_le (p - 1) (by omega) (by omega)
   refine L (cl (str_ItoaN hL (p - 1) (by omega)) ?_)
   rintro _ _ rfl
   refine un ?_
   refine oV (.string (bS (((((D.take 1) ++ [46]) ++ (D.drop 1)) ++ [101]) ++ (Lib.itoa (p - 1))))) ?_ (hs := (fun δ w_ => run_catB ((((D.take 1) ++ [46]) ++ (D.drop 1)) ++ [101]) (Lib.itoa (p - 1)) (by first | omega | simp only [List.length_append, List.length_take, List.length_drop, List.length_cons, List.length_nil]; omega) rfl rfl))
   refine os 1 ?_
   refine kp [2, 80, 3, 72, 58, 43, 29, 5, 4, 19, 12, 9, 6, 0] ?_
   refine nt ?_
   refine SW_ret ?_
   refine body_end (.string (bS (((((D.take 1) ++ [46]) ++ (D.drop 1)) ++ [101]) ++ (Lib.itoa (p - 1))))) (fun _ => rfl) ?_
   rw [show printP0 a = formP D p from by rw [hD_, hp_]; unfold printP0; rw [if_neg (by omega), if_neg (by omega), if_neg (by omega)]]
   rw [form_e (by omega) (by omega) (by omega) (by omega), expo_t (by omega)]
   exact ⟨(), ow, rfl, by simp only [List.length_append, List.length_take, List.length_drop, List.length_cons, List.length_nil]; omega⟩
  refine SW_skip (n_then ?_)
  refine SW_seq ?_
  refine sr ?_
  refine os 2 ?_
  refine nt ?_
  refine cdp (fun hc38 : p > 0 => ?_) (fun hc38 => ?_)
  ·refine sr ?_
   refine os 1 ?_
   refine oV (.string (bS (D ++ [101, 43]))) ?_ (hs := (fun δ w_ => run_catB D [101, 43] (by first | omega | simp only [List.length_append, List.length_take, List.length_drop, List.length_cons, List.length_nil]; omega) rfl rfl))
   refine os 2 ?_
   have hil_ := Lib.itoa_length_le (p - 1) (by omega) (by omega)
   refine L (cl (str_ItoaN hL (p - 1) (by omega)) ?_)
   rintro _ _ rfl
   refine un ?_
   refine oV (.string (bS ((D ++ [101, 43]) ++ (Lib.itoa (p - 1))))) ?_ (hs := (fun δ w_ => run_catB (D ++ [101, 43]) (Lib.itoa (p - 1)) (by first | omega | simp only [List.length_append, List.length_take, List.length_drop, List.length_cons, List.length_nil]; omega) rfl rfl))
   refine os 1 ?_
   refine kp [2, 80, 72, 58, 43, 29, 5, 4, 3, 19, 12, 9, 6, 0] ?_
   refine nt ?_
   refine SW_ret (r_then ?_)
   refine body_end (.string (bS ((D ++ [101, 43]) ++ (Lib.itoa (p - 1))))) (fun _ => rfl) ?_
   rw [show printP0 a = formP D p from by rw [hD_, hp_]; unfold printP0; rw [if_neg (by omega), if_neg (by omega), if_neg (by omega)]]
   rw [form_d (by omega) (by omega) (by omega) (by omega), expo_f (by omega)]
   exact ⟨(), ow, rfl, by simp only [List.length_append, List.length_take, List.length_drop, List.length_cons, List.length_nil]; omega⟩
  refine SW_skip (n_then ?_)
  refine sr ?_
  refine os 1 ?_
  refine oV (.string (bS (D ++ [101]))) ?_ (hs := (fun δ w_ => run_catB D [101] (by first | omega | simp only [List.length_append, List.length_take, List.length_drop, List.length_cons, List.length_nil]; omega) rfl rfl))
  refine os 2 ?_
  have hil_ := Lib.itoa_length_le (p - 1) (by omega) (by omega)
  refine L (cl (str_ItoaN hL (p - 1) (by omega)) ?_)
  rintro _ _ rfl
  refine un ?_
  refine oV (.string (bS ((D ++ [101]) ++ (Lib.itoa (p - 1))))) ?_ (hs := (fun δ w_ => run_catB (D ++ [101]) (Lib.itoa (p - 1)) (by first | omega | simp only [List.length_append, List.length_take, List.length_drop, List.length_cons, List.length_nil]; omega) rfl rfl))
  refine os 1 ?_
  refine kp [2, 80, 72, 58, 43, 29, 5, 4, 3, 19, 12, 9, 6, 0] ?_
  refine nt ?_
  refine SW_ret ?_
  refine body_end (.string (bS ((D ++ [101]) ++ (Lib.itoa (p - 1))))) (fun _ => rfl) ?_
  rw [show printP0 a = formP D p from by rw [hD_, hp_]; unfold printP0; rw [if_neg (by omega), if_neg (by omega), if_neg (by omega)]]
  rw [form_e (by omega) (by omega) (by omega) (by omega), expo_f (by omega)]
  exact ⟨(), ow, rfl, by simp only [List.length_append, List.length_take, List.length_drop, List.length_cons, List.length_nil]; omega⟩
 replace hg34 : ¬ (p > (-6)) := hg34
 refine os 4 ?_
 refine kp [58, 43, 29, 5, 4, 3, 19, 12, 9, 6, 2, 0] ?_
 refine nt ?_
 refine cf ?_
 refine SW_skip (n_in (n_then ?_))
 refine SW_seq ?_
 refine sr ?_
 refine os 2 ?_
 refine nt ?_
 refine cdp (fun hc39 : (D.length : Int) > 1 => ?_) (fun hc39 => ?_)
 ·refine SW_draw [] [] (by kernel_rfl) rd_nil ?_
  refine aS 0 ?_
  refine tk 1 (.string (bS (D.take 1))) ?_ (hy := fun δ w => run_strTo (l := D) 1 .i64 Tryz.underlying9 rfl rfl (by omega) (by omega))
  refine tk 2 (.string (bS ((D.take 1) ++ [46]))) ?_ (hy := (fun δ w_ => run_catB (D.take 1) [46] (by first | omega | simp only [List.length_append, List.length_take, List.length_drop, List.length_cons, List.length_nil]; omega) rfl rfl))
  refine aS 3 ?_
  refine tk 4 (.string (bS (D.drop 1))) ?_ (hy := fun δ w => run_strFrom (l := D) 1 .i64 Tryz.underlying9 rfl rfl (by omega) (by omega))
  refine tk 5 (.string (bS (((D.take 1) ++ [46]) ++ (D.drop 1)))) ?_ (hy := (fun δ w_ => run_catB ((D.take 1) ++ [46]) (D.drop 1) (by first | omega | simp only [List.length_append, List.length_take, List.length_drop, List.length_cons, List.length_nil]; omega) rfl rfl))
  refine aS 6 ?_
  refine SA_done (by kernel_rfl) (n_then ?_)
  refine SW_seq ?_
  refine sr ?_
  refine os 2 ?_
  refine kp [80, 3, 72, 58, 43, 29, 5, 4, 19, 12, 9, 6, 2, 0] ?_
  refine nt ?_
  refine cdp (fun hc40 : p > 0 => ?_) (fun hc40 => ?_)
  ·refine sr ?_
   refine os 1 ?_
   refine oV (.string (bS ((((D.take 1) ++ [46]) ++ (D.drop 1)) ++ [101, 43]))) ?_ (hs := (fun δ w_ => run_catB (((D.take 1) ++ [46]) ++ (D.drop 1)) [101, 43] (by first | omega | simp only [List.length_append, List.length_take, List.length_drop, List.length_cons, List.length_nil]; omega) rfl rfl))
   refine os 2 ?_
   have hil_ := Lib.itoa_length_le (p - 1) (by omega) (by omega)
   refine L (cl (str_ItoaN hL (p - 1) (by omega)) ?_)
   rintro _ _ rfl
   refine un ?_
   refine oV (.string (bS (((((D.take 1) ++ [46]) ++ (D.drop 1)) ++ [101, 43]) ++ (Lib.itoa (p - 1))))) ?_ (hs := (fun δ w_ => run_catB ((((D.take 1) ++ [46]) ++ (D.drop 1)) ++ [101, 43]) (Lib.itoa (p - 1)) (by first | omega | simp only [List.length_append, List.length_take, List.length_drop, List.length_cons, List.length_nil]; omega) rfl rfl))
   refine os 1 ?_
   refine kp [2, 80, 3, 72, 58, 43, 29, 5, 4, 19, 12, 9, 6, 0] ?_
   refine nt ?_
   refine SW_ret (r_then ?_)
   refine body_end (.string (bS (((((D.take 1) ++ [46]) ++ (D.drop 1)) ++ [101, 43]) ++ (Lib.itoa (p - 1))))) (fun _ => rfl) ?_
   rw [show printP0 a = formP D p from by rw [hD_, hp_]; unfold printP0; rw [if_neg (by omega), if_neg (by omega), if_neg (by omega)]]
   rw [form_d (by omega) (by omega) (by omega) (by omega), expo_t (by omega)]
   exact ⟨(), ow, rfl, by simp only [List.length_append, List.length_take, List.length_drop, List.length_cons, List.length_nil]; omega⟩
  refine SW_skip (n_then ?_)
  refine sr ?_
  refine os 1 ?_
  refine oV (.string (bS ((((D.take 1) ++ [46]) ++ (D.drop 1)) ++ [101]))) ?_ (hs := (fun δ w_ => run_catB (((D.take 1) ++ [46]) ++ (D.drop 1)) [101] (by first | omega | simp only [List.length_append, List.length_take, List.length_drop, List.length_cons, List.length_nil]; omega) rfl rfl))
  refine os 2 ?_
  have hil_ := Lib.itoa_length_le (p - 1) (by omega) (by omega)
  refine L (cl (str_ItoaN hL (p - 1) (by omega)) ?_)
  rintro _ _ rfl
  refine un ?_
  refine oV (.string (bS (((((D.take 1) ++ [46]) ++ (D.drop 1)) ++ [101]) ++ (Lib.itoa (p - 1))))) ?_ (hs := (fun δ w_ => run_catB ((((D.take 1) ++ [46]) ++ (D.drop 1)) ++ [101]) (Lib.itoa (p - 1)) (by first | omega | simp only [List.length_append, List.length_take, List.length_drop, List.length_cons, List.length_nil]; omega) rfl rfl))
  refine os 1 ?_
  refine kp [2, 80, 3, 72, 58, 43, 29, 5, 4, 19, 12, 9, 6, 0] ?_
  refine nt ?_
  refine SW_ret ?_
  refine body_end (.string (bS (((((D.take 1) ++ [46]) ++ (D.drop 1)) ++ [101]) ++ (Lib.itoa (p - 1))))) (fun _ => rfl) ?_
  rw [show printP0 a = formP D p from by rw [hD_, hp_]; unfold printP0; rw [if_neg (by omega), if_neg (by omega), if_neg (by omega)]]
  rw [form_e (by omega) (by omega) (by omega) (by omega), expo_t (by omega)]
  exact ⟨(), ow, rfl, by simp only [List.length_append, List.length_take, List.length_drop, List.length_cons, List.length_nil]; omega⟩
 refine SW_skip (n_then ?_)
 refine SW_seq ?_
 refine sr ?_
 refine os 2 ?_
 refine nt ?_
 refine cdp (fun hc41 : p > 0 => ?_) (fun hc41 => ?_)
 ·refine sr ?_
  refine os 1 ?_
  refine oV (.string (bS (D ++ [101, 43]))) ?_ (hs := (fun δ w_ => run_catB D [101, 43] (by first | omega | simp only [List.length_append, List.length_take, List.length_drop, List.length_cons, List.length_nil]; omega) rfl rfl))
  refine os 2 ?_
  have hil_ := Lib.itoa_length_le (p - 1) (by omega) (by omega)
  refine L (cl (str_ItoaN hL (p - 1) (by omega)) ?_)
  rintro _ _ rfl
  refine un ?_
  refine oV (.string (bS ((D ++ [101, 43]) ++ (Lib.itoa (p - 1))))) ?_ (hs := (fun δ w_ => run_catB (D ++ [101, 43]) (Lib.itoa (p - 1)) (by first | omega | simp only [List.length_append, List.length_take, List.length_drop, List.length_cons, List.length_nil]; omega) rfl rfl))
  refine os 1 ?_
  refine kp [2, 80, 72, 58, 43, 29, 5, 4, 3, 19, 12, 9, 6, 0] ?_
  refine nt ?_
  refine SW_ret (r_then ?_)
  refine body_end (.string (bS ((D ++ [101, 43]) ++ (Lib.itoa (p - 1))))) (fun _ => rfl) ?_
  rw [show printP0 a = formP D p from by rw [hD_, hp_]; unfold printP0; rw [if_neg (by omega), if_neg (by omega), if_neg (by omega)]]
  rw [form_d (by omega) (by omega) (by omega) (by omega), expo_f (by omega)]
  exact ⟨(), ow, rfl, by simp only [List.length_append, List.length_take, List.length_drop, List.length_cons, List.length_nil]; omega⟩
 refine SW_skip (n_then ?_)
 refine sr ?_
 refine os 1 ?_
 refine oV (.string (bS (D ++ [101]))) ?_ (hs := (fun δ w_ => run_catB D [101] (by first | omega | simp only [List.length_append, List.length_take, List.length_drop, List.length_cons, List.length_nil]; omega) rfl rfl))
 refine os 2 ?_
 have hil_ := Lib.itoa_length_le (p - 1) (by omega) (by omega)
 refine L (cl (str_ItoaN hL (p - 1) (by omega)) ?_)
 rintro _ _ rfl
 refine un ?_
 refine oV (.string (bS ((D ++ [101]) ++ (Lib.itoa (p - 1))))) ?_ (hs := (fun δ w_ => run_catB (D ++ [101]) (Lib.itoa (p - 1)) (by first | omega | simp only [List.length_append, List.length_take, List.length_drop, List.length_cons, List.length_nil]; omega) rfl rfl))
 refine os 1 ?_
 refine kp [2, 80, 72, 58, 43, 29, 5, 4, 3, 19, 12, 9, 6, 0] ?_
 refine nt ?_
 refine SW_ret ?_
 refine body_end (.string (bS ((D ++ [101]) ++ (Lib.itoa (p - 1))))) (fun _ => rfl) ?_
 rw [show printP0 a = formP D p from by rw [hD_, hp_]; unfold printP0; rw [if_neg (by omega), if_neg (by omega), if_neg (by omega)]]
 rw [form_e (by omega) (by omega) (by omega) (by omega), expo_f (by omega)]
 exact ⟨(), ow, rfl, by simp only [List.length_append, List.length_take, List.length_drop, List.length_cons, List.length_nil]; omega⟩

theorem pr_neg {W0 : World} {a : Nat} {R} (h : 9223372036854775808 ≤ a) (hc : SC Tryz.prog W0 14 #[.int .u64 ((a - 9223372036854775808 : Nat) : Int)] [] R) : SC Tryz.prog W0 14 #[.int .u64 ((a : Int) - 9223372036854775808)] [] R := by rw [show ((a : Int) - 9223372036854775808) = ((a - 9223372036854775808 : Nat) : Int) from by omega]; exact hc

theorem num_Print1 {W0 : World} (hL : LaidN W0) {a : Nat} (h0 : 9223372036854775808 ≤ a) (ha : a < 18446744073709551616) : SC Tryz.prog W0 14 #[.int .u64 (a : Int)] [] (Ret (fun _ : Unit => []) (fun v _ => v = .string (bS (printP a)) ∧ (printP a).length ≤ 6000)) := by
 refine SC_body (fn := Tryz.f14) (n := 93) Tryz.func14 rfl (by kernel_rfl) (ρ := [(0, .int .u64 (a : Int))]) rfl ?_
 have hka_ := kind_all a
 refine sr ?_
 refine os 1 ?_
 refine nq ?_
 refine SW_block ?_
 refine sr ?_
 refine os 1 ?_
 have his_ := num_IsNaN (W0 := W0) (a := a) (by omega)
 refine L (cl (his_) ?_)
 rintro v1 _ hv1
 obtain rfl : v1 = .bool (kindP a == 3) := hv1.trans (rfl)
 refine un ?_
 refine os 1 ?_
 refine nt ?_
 refine cd (fun hc1 : (kindP a == 3) = true => ?_) (fun hc1 => ?_)
 ·simp only [beq_iff_eq, bne_iff_ne, ne_eq, beq_eq_false_iff_ne, bne_eq_false_iff_eq, Classical.not_not] at hc1
  refine sr ?_
  refine os 1 ?_
  refine nt ?_
  refine SW_ret (r_in (r_then ?_))
  refine body_end (.string (bS [78, 97, 78])) (fun _ => rfl) ?_
  rw [show printP a = [78, 97, 78] from (by unfold printP; rw [if_pos (by omega)])]
  exact ⟨(), ow, rfl, by simp only [List.length_append, List.length_cons, List.length_nil]; omega⟩
 simp only [beq_iff_eq, bne_iff_ne, ne_eq, beq_eq_false_iff_ne, bne_eq_false_iff_eq, Classical.not_not] at hc1
 refine sr ?_
 refine os 1 ?_
 have his_ := num_Equal0 (W0 := W0) (a := a) (by omega)
 refine L (cl (his_) ?_)
 rintro v2 _ hv2
 obtain rfl : v2 = .bool (kindP a == 0) := hv2.trans (rfl)
 refine un ?_
 refine os 1 ?_
 refine kp [9, 6, 2, 0] ?_
 refine nt ?_
 refine cd (fun hc2 : (kindP a == 0) = true => ?_) (fun hc2 => ?_)
 ·simp only [beq_iff_eq, bne_iff_ne, ne_eq, beq_eq_false_iff_ne, bne_eq_false_iff_eq, Classical.not_not] at hc2
  refine sr ?_
  refine os 1 ?_
  refine nt ?_
  refine SW_ret (r_in (r_then ?_))
  refine body_end (.string (bS [48])) (fun _ => rfl) ?_
  rw [show printP a = [48] from (by unfold printP; rw [if_neg (by omega), if_pos (by omega)])]
  exact ⟨(), ow, rfl, by simp only [List.length_append, List.length_cons, List.length_nil]; omega⟩
 simp only [beq_iff_eq, bne_iff_ne, ne_eq, beq_eq_false_iff_ne, bne_eq_false_iff_eq, Classical.not_not] at hc2
 refine sr ?_
 refine os 3 ?_
 refine nt ?_
 refine SW_true (fun _ => (congrArg Value.bool (show (decide ((a : Int) ≥ 9223372036854775808)) = true from (decide_eq_true (by omega))))) ?_
 refine sr ?_
 refine os 2 ?_
 refine L (cl (pr_neg h0 (num_Print0 hL (a := a - 9223372036854775808) (by omega))) ?_)
 rintro _ _ ⟨rfl, hpl_⟩
 refine un ?_
 refine oV (.string (bS ([45] ++ (printP0 (a - 9223372036854775808))))) ?_ (hs := (fun δ w_ => run_catB [45] (printP0 (a - 9223372036854775808)) (by simp only [List.length_cons, List.length_nil]; omega) rfl rfl))
 refine os 1 ?_
 refine kp [2, 12, 9, 6, 0] ?_
 refine nt ?_
 refine SW_ret (r_in (r_then ?_))
 refine body_end (.string (bS ([45] ++ (printP0 (a - 9223372036854775808))))) (fun _ => rfl) ?_
 rw [show printP a = ([45] ++ (printP0 (a - 9223372036854775808))) from (by unfold printP; rw [if_neg (by omega), if_neg (by omega), if_pos (by omega)])]
 exact ⟨(), ow, rfl, by simp only [List.length_append, List.length_cons, List.length_nil]; omega⟩

theorem num_Print {W0 : World} (hL : LaidN W0) {a : Nat} (ha : a < 18446744073709551616) : SC Tryz.prog W0 14 #[.int .u64 (a : Int)] [] (Ret (fun _ : Unit => []) (fun v _ => v = .string (bS (printP a)) ∧ (printP a).length ≤ 6000)) := by
 rcases Nat.lt_or_ge a 9223372036854775808 with h | h
 · refine SC.mono (num_Print0 hL h) ?_
   rintro v _ ⟨x, hw, hv, hl⟩
   rw [← printP_small h] at hv hl
   exact ⟨x, hw, hv, by omega⟩
 · exact num_Print1 hL h ha

end Go.Proofs.YtnhmmjogfkjceaaGreatDoor
namespace Go.Proofs.YtnhmmjogfkjceaaGreatDoor
open Go.Sl

theorem law_alive2 {W0 : World} (hL : LaidN W0) : SC Tryz.prog W0 16 #[] [] (Ret (fun _ : Unit => []) (fun v _ => v = .bool true)) := by
 refine SC_body (fn := Tryz.f16) (n := 20) Tryz.func16 rfl (by kernel_rfl) (ρ := []) rfl ?_
 refine sr ?_
 refine os 1 ?_
 refine nsr ?_
 have hli_ := num_Literal (W0 := W0) (X := [48, 120, 49, 48]) (by decide)
 rw [alive_lit] at hli_
 refine L (cl (hli_) ?_)
 rintro v1 _ hv1
 obtain rfl : v1 = .tuple #[.int .u64 4625196817309499392, .bool true] := hv1.trans (rfl)
 refine un ?_
 refine os 5 ?_
 refine kp [2, 1, 0] ?_
 refine nsr ?_
 have hpi_ := num_Print (W0 := W0) hL (a := 4599075939470750516) (by decide)
 rw [alive_print] at hpi_
 refine L (cl (hpi_) ?_)
 rintro v2 _ ⟨hv2, hpl_⟩
 obtain rfl : v2 = .string (bS [48, 46, 51, 48, 48, 48, 48, 48, 48, 48, 48, 48, 48, 48, 48, 48, 48, 48, 52]) := hv2.trans (rfl)
 refine un ?_
 refine oV (.bool true) ?_ (hs := (fun δ w_ => by kernel_rfl))
 refine os 1 ?_
 have hre_ := num_Read (W0 := W0) (X := [32, 49, 46, 53, 10]) (by decide)
 rw [alive_read] at hre_
 refine L (cl (hre_) ?_)
 rintro v3 _ hv3
 obtain rfl : v3 = .int .u64 4609434218613702656 := hv3.trans (rfl)
 refine un ?_
 refine oV (.bool true) ?_
 refine os 6 ?_
 refine oV (.bool true) ?_
 refine os 2 ?_
 refine kp [0, 2, 1] ?_
 refine nt ?_
 refine SW_ret ?_
 refine body_end (.bool true) (fun _ => rfl) ?_
 exact ⟨(), ow, congrArg Value.bool (by decide)⟩

end Go.Proofs.YtnhmmjogfkjceaaGreatDoor
namespace Go.Proofs.YtnhmmjogfkjceaaGreatDoor
open Go.Sl
def valF (a : Nat) : Nat := if a < 4503599627370496 then a else (a % 4503599627370496 + 4503599627370496) * 2 ^ (a / 4503599627370496 - 1)
theorem valF_mk {K g : Nat} (hg : g ≤ 9007199254740992) (hK : K = 0 ∨ 4503599627370496 ≤ g) : valF (K * 4503599627370496 + g) = g * 2 ^ K := by
 unfold valF
 by_cases h0 : g < 4503599627370496
 · have hk : K = 0 := by omega
   subst hk
   rw [if_pos (by omega)]; simp
 · by_cases h1 : g = 9007199254740992
   · subst h1
     rw [if_neg (by omega), show (K * 4503599627370496 + 9007199254740992) % 4503599627370496 = 0 by omega, show (K * 4503599627370496 + 9007199254740992) / 4503599627370496 - 1 = K + 1 by omega, Nat.pow_succ]
     omega
   · rw [if_neg (by omega), show (K * 4503599627370496 + g) % 4503599627370496 + 4503599627370496 = g by omega, show (K * 4503599627370496 + g) / 4503599627370496 - 1 = K by omega]
theorem valF_parts (a : Nat) : ∃ K g, a = K * 4503599627370496 + g ∧ g < 9007199254740992 ∧ (K = 0 ∨ 4503599627370496 ≤ g) := by
 by_cases h : a < 4503599627370496
 · exact ⟨0, a, by omega, by omega, .inl rfl⟩
 · exact ⟨a / 4503599627370496 - 1, a % 4503599627370496 + 4503599627370496, by omega, by omega, .inr (by omega)⟩
theorem valF_lt (a : Nat) : valF a < valF (a + 1) := by
 obtain ⟨K, g, rfl, h1, h2⟩ := valF_parts a
 rw [Nat.add_assoc, valF_mk (by omega) h2, valF_mk (K := K) (g := g + 1) (by omega) (by omega)]
 exact Nat.mul_lt_mul_of_pos_right (by omega) (Nat.two_pow_pos K)
theorem valF_mono {a b : Nat} (h : a ≤ b) : valF a ≤ valF b := by
 induction h with
 | refl => exact Nat.le_refl _
 | step _ ih => exact Nat.le_trans ih (Nat.le_of_lt (valF_lt _))
theorem valF_mono_lt {a b : Nat} (h : a < b) : valF a < valF b := Nat.lt_of_lt_of_le (valF_lt a) (valF_mono h)
theorem valF_one : valF 1 = 1 := rfl
theorem valF_zero : valF 0 = 0 := rfl
theorem valF_inf : ∃ k, k = 2098 ∧ valF 9218868437227405312 = 2 ^ k := by
 obtain ⟨K, hK⟩ : ∃ K : Nat, K = 2046 := ⟨_, rfl⟩
 have := valF_mk (K := K) (g := 4503599627370496) (by omega) (by omega)
 rw [show K * 4503599627370496 + 4503599627370496 = 9218868437227405312 by omega] at this
 refine ⟨52 + K, by omega, ?_⟩
 rw [this, show 4503599627370496 = 2 ^ 52 from rfl, ← Nat.pow_add]
def isRN (X q a : Nat) : Prop := a ≤ 9218868437227405312 ∧
 (a = 0 ∨ q * (valF (a - 1) + valF a) < 2 * X ∨ (q * (valF (a - 1) + valF a) = 2 * X ∧ a % 2 = 0)) ∧
 (a = 9218868437227405312 ∨ 2 * X < q * (valF a + valF (a + 1)) ∨ (2 * X = q * (valF a + valF (a + 1)) ∧ a % 2 = 0))
theorem isRN_uniq_lt {X q a b : Nat} (hq : 0 < q) (ha : isRN X q a) (hb : isRN X q b) (h : a < b) : False := by
 obtain ⟨a1, -, a2⟩ := ha
 obtain ⟨b1, b2, -⟩ := hb
 have h1 : valF a ≤ valF (b - 1) := valF_mono (by omega)
 have h2 : valF (a + 1) ≤ valF b := valF_mono (by omega)
 have h3 := Nat.mul_le_mul_left q (Nat.add_le_add h1 h2)
 by_cases hc : b = a + 1
 · subst hc
   rw [Nat.add_sub_cancel] at b2
   omega
 · have h4 : valF a < valF (b - 1) := valF_mono_lt (by omega)
   have h5 := Nat.mul_lt_mul_of_pos_left (Nat.add_lt_add_of_lt_of_le h4 h2) hq
   omega
theorem isRN_uniq {X q a b : Nat} (hq : 0 < q) (ha : isRN X q a) (hb : isRN X q b) : a = b := by
 rcases Nat.lt_trichotomy a b with h | h | h
 · exact (isRN_uniq_lt hq ha hb h).elim
 · exact h
 · exact (isRN_uniq_lt hq hb ha h).elim
theorem cross_lt {X q X' q' v : Nat} (hq : 0 < q) (hq' : 0 < q') (h : X * q' = X' * q) (hv : q * v < 2 * X) : q' * v < 2 * X' := by
 have h1 := Nat.mul_lt_mul_of_pos_right hv hq'
 rw [Nat.mul_assoc 2, h] at h1
 apply Nat.lt_of_mul_lt_mul_left (a := q)
 rw [show q * (q' * v) = q * v * q' by rw [Nat.mul_comm q' v, Nat.mul_assoc], show q * (2 * X') = 2 * (X' * q) by rw [Nat.mul_left_comm, Nat.mul_comm q X']]
 exact h1
theorem cross_gt {X q X' q' v : Nat} (hq : 0 < q) (hq' : 0 < q') (h : X * q' = X' * q) (hv : 2 * X < q * v) : 2 * X' < q' * v := by
 have h1 := Nat.mul_lt_mul_of_pos_right hv hq'
 rw [Nat.mul_assoc 2, h] at h1
 apply Nat.lt_of_mul_lt_mul_left (a := q)
 rw [show q * (q' * v) = q * v * q' by rw [Nat.mul_comm q' v, Nat.mul_assoc], show q * (2 * X') = 2 * (X' * q) by rw [Nat.mul_left_comm, Nat.mul_comm q X']]
 exact h1
theorem cross_eq {X q X' q' v : Nat} (hq : 0 < q) (hq' : 0 < q') (h : X * q' = X' * q) (hv : q * v = 2 * X) : q' * v = 2 * X' := by
 rcases Nat.lt_trichotomy (q' * v) (2 * X') with g | g | g
 · have := cross_lt hq' hq h.symm g; omega
 · exact g
 · have := cross_gt hq' hq h.symm g; omega
theorem isRN_scale {X q X' q' a : Nat} (hq : 0 < q) (hq' : 0 < q') (h : X * q' = X' * q) (ha : isRN X q a) : isRN X' q' a := by
 obtain ⟨a1, a2, a3⟩ := ha
 refine ⟨a1, ?_, ?_⟩
 · rcases a2 with g | g | ⟨g, e⟩
   · exact .inl g
   · exact .inr (.inl (cross_lt hq hq' h g))
   · exact .inr (.inr ⟨cross_eq hq hq' h g, e⟩)
 · rcases a3 with g | g | ⟨g, e⟩
   · exact .inl g
   · exact .inr (.inl (cross_gt hq hq' h g))
   · exact .inr (.inr ⟨(cross_eq hq hq' h g.symm).symm, e⟩)
theorem isRN_between {X q a : Nat} (hq : 0 < q) (ha : a < 9218868437227405312) (h1 : q * valF a ≤ X) (h2 : X < q * valF (a + 1)) :
   isRN X q (if q * (valF a + valF (a + 1)) < 2 * X ∨ (q * (valF a + valF (a + 1)) = 2 * X ∧ a % 2 = 1) then a + 1 else a) := by
 have e : q * (valF a + valF (a + 1)) = q * valF a + q * valF (a + 1) := Nat.mul_add ..
 split
 · next g =>
   refine ⟨by omega, .inr ?_, ?_⟩
   · rw [Nat.add_sub_cancel]
     rcases g with g | ⟨g, o⟩
     · exact .inl g
     · exact .inr ⟨g, by omega⟩
   · by_cases hi : a + 1 = 9218868437227405312
     · exact .inl hi
     · have h3 : q * valF (a + 1) < q * valF (a + 1 + 1) := Nat.mul_lt_mul_of_pos_left (valF_lt _) hq
       refine .inr (.inl ?_)
       rw [Nat.mul_add]; omega
 · next g =>
   refine ⟨by omega, ?_, .inr ?_⟩
   · by_cases h0 : a = 0
     · exact .inl h0
     · have h3 : q * valF (a - 1) < q * valF a := Nat.mul_lt_mul_of_pos_left (valF_mono_lt (by omega)) hq
       refine .inr (.inl ?_)
       rw [Nat.mul_add]; omega
   · have g1 : ¬ q * (valF a + valF (a + 1)) < 2 * X := fun h => g (.inl h)
     have g2 : ¬ (q * (valF a + valF (a + 1)) = 2 * X ∧ a % 2 = 1) := fun h => g (.inr h)
     by_cases e2 : 2 * X = q * (valF a + valF (a + 1))
     · exact .inr ⟨e2, by omega⟩
     · exact .inl (by omega)
theorem isRN_inf {X q : Nat} (hq : 0 < q) (h : q * valF 9218868437227405312 ≤ X) : isRN X q 9218868437227405312 := by
 refine ⟨Nat.le_refl _, .inr (.inl ?_), .inl rfl⟩
 have h3 : q * valF (9218868437227405312 - 1) < q * valF 9218868437227405312 := Nat.mul_lt_mul_of_pos_left (valF_mono_lt (by decide)) hq
 rw [Nat.mul_add]; omega
theorem isRN_none {X q : Nat} (h : 2 * X < q) : isRN X q 0 := by
 refine ⟨by decide, .inl rfl, .inr (.inl ?_)⟩
 rw [valF_zero, valF_one]; omega
theorem pow_cmp {A B x y x' y' : Nat} (h : x + y' = x' + y) : A * 2 ^ x < B * 2 ^ y ↔ A * 2 ^ x' < B * 2 ^ y' := by
 have p1 := Nat.two_pow_pos y'
 have p2 := Nat.two_pow_pos y
 rw [← Nat.mul_lt_mul_right (a0 := p1), ← Nat.mul_lt_mul_right (a0 := p2) (b := A * 2 ^ x')]
 rw [Nat.mul_assoc A, ← Nat.pow_add, h, Nat.mul_assoc A, ← Nat.pow_add, Nat.mul_assoc B, ← Nat.pow_add, Nat.mul_assoc B, ← Nat.pow_add, Nat.add_comm y y']
theorem pow_cmp_eq {A B x y x' y' : Nat} (h : x + y' = x' + y) : A * 2 ^ x = B * 2 ^ y ↔ A * 2 ^ x' = B * 2 ^ y' := by
 have h1 := pow_cmp (A := A) (B := B) h
 have h2 := pow_cmp (A := B) (B := A) (x := y) (y := x) (x' := y') (y' := x') (by omega)
 omega
def Stands (X q : Nat) (m : Nat) (E : Int) (half : Bool) : Prop := ∀ f : Nat,
 (X * 2 ^ (-E).toNat < (2 * f * q) * 2 ^ E.toNat ↔ m < 2 * f) ∧ (X * 2 ^ (-E).toNat = (2 * f * q) * 2 ^ E.toNat ↔ m = 2 * f ∧ half = false)
theorem Stands.at {X q m : Nat} {E : Int} {half : Bool} (h : Stands X q m E half) {g s K j : Nat} (hs : 0 < s) (hE : E = (K : Int) - s - j) :
   (X * 2 ^ j < g * q * 2 ^ K ↔ m < g * 2 ^ s) ∧ (X * 2 ^ j = g * q * 2 ^ K ↔ m = g * 2 ^ s ∧ half = false) := by
 obtain ⟨t, rfl⟩ : ∃ t, s = t + 1 := ⟨s - 1, by omega⟩
 have h1 := h (g * 2 ^ t)
 have e : 2 * (g * 2 ^ t) = g * 2 ^ (t + 1) := by rw [Nat.pow_succ, Nat.mul_comm 2, Nat.mul_assoc]
 rw [e] at h1
 have e2 : g * 2 ^ (t + 1) * q * 2 ^ E.toNat = g * q * 2 ^ (t + 1 + E.toNat) := by rw [Nat.mul_right_comm g (2 ^ (t + 1)) q, Nat.mul_assoc (g * q), ← Nat.pow_add]
 rw [e2, pow_cmp (x := (-E).toNat) (y := t + 1 + E.toNat) (x' := j) (y' := K) (by omega), pow_cmp_eq (x := (-E).toNat) (y := t + 1 + E.toNat) (x' := j) (y' := K) (by omega)] at h1
 exact h1
theorem rest_cmp {r k : Nat} (hk : k ≤ 64) (hk0 : 0 < k) (hr : r < 2 ^ k) : (r * 2 ^ (64 - k) > 9223372036854775808 ↔ r > 2 ^ (k - 1)) ∧ (r * 2 ^ (64 - k) = 9223372036854775808 ↔ r = 2 ^ (k - 1)) := by
 have e : (9223372036854775808 : Nat) = 2 ^ (k - 1) * 2 ^ (64 - k) := by rw [← Nat.pow_add, show k - 1 + (64 - k) = 63 by omega]
 have p := Nat.two_pow_pos (64 - k)
 rw [e]
 constructor
 · exact Nat.mul_lt_mul_right p
 · constructor
   · exact Nat.eq_of_mul_eq_mul_right p
   · intro h; rw [h]
theorem rest_mod {m k : Nat} (hk : k ≤ 64) : m * 2 ^ (64 - k) % 18446744073709551616 = m % 2 ^ k * 2 ^ (64 - k) := by
 rw [show (18446744073709551616 : Nat) = 2 ^ k * 2 ^ (64 - k) by rw [← Nat.pow_add, show k + (64 - k) = 64 by omega], Nat.mul_mod_mul_right]
theorem form_spec {X q m : Nat} {e : Int} {half : Bool} (hq : 0 < q) (hm : 9223372036854775808 ≤ m) (hm2 : m < 18446744073709551616) (h : Stands X q m (e + 1074) half) : isRN X q (formNear m e half) := by
 unfold formNear
 by_cases h1 : e + 63 > 1023
 · rw [if_pos h1]
   apply isRN_inf hq
   obtain ⟨k, hk, hv⟩ := valF_inf
   rw [hv]
   have h2 := h 4611686018427387904
   have h3 : ¬ X * 2 ^ (-(e + 1074)).toNat < 2 * 4611686018427387904 * q * 2 ^ (e + 1074).toNat := by rw [h2.1]; omega
   rw [show (-(e + 1074)).toNat = 0 by omega, Nat.pow_zero, Nat.mul_one] at h3
   refine Nat.le_trans ?_ (Nat.le_of_not_lt h3)
   rw [show 2 * 4611686018427387904 = 2 ^ 63 from rfl, Nat.mul_comm (2 ^ 63) q, Nat.mul_assoc, ← Nat.pow_add]
   exact Nat.mul_le_mul_left _ (Nat.pow_le_pow_right (by decide) (by omega))
 · rw [if_neg h1]
   simp only []
   obtain ⟨s, K, hs, hs0, hK, hE, hKm⟩ : ∃ s K : Nat, (if e + 63 + 1023 < 1 then 12 - (e + 63 + 1023) else 11) = (s : Int) ∧ 11 ≤ s ∧ ((if e + 63 + 1023 < 1 then 1 else e + 63 + 1023) - 1).toNat = K ∧ e + 1074 = (K : Int) - s ∧ (K ≤ 2045 ∧ (K = 0 ∨ s = 11) ) := by
     by_cases h2 : e + 63 + 1023 < 1
     · exact ⟨(12 - (e + 63 + 1023)).toNat, 0, by rw [if_pos h2]; omega, by omega, by rw [if_pos h2]; rfl, by omega, by omega, .inl rfl⟩
     · exact ⟨11, (e + 63 + 1023 - 1).toNat, by rw [if_neg h2]; rfl, by omega, by rw [if_neg h2], by omega, by omega, .inr rfl⟩
   rw [hs, hK]
   by_cases h3 : (s : Int) > 64
   · rw [if_pos h3]
     apply isRN_none
     have hK0 : K = 0 := by omega
     subst hK0
     have h4 := (h.at (g := 1) (s := s - 1) (K := 0) (j := 1) (by omega) (by omega)).1
     have h5 : (2 : Nat) ^ 64 ≤ 2 ^ (s - 1) := Nat.pow_le_pow_right (by decide) (by omega)
     have h6 := h4.2 (by rw [Nat.one_mul]; exact Nat.lt_of_lt_of_le hm2 h5)
     simp only [Nat.one_mul, Nat.pow_zero, Nat.mul_one, Nat.pow_one] at h6
     omega
   · rw [if_neg h3, Int.toNat_natCast]
     have hs64 : s ≤ 64 := by omega
     obtain ⟨M, hM⟩ : ∃ M, m / 2 ^ s = M := ⟨_, rfl⟩
     obtain ⟨r, hr⟩ : ∃ r, m % 2 ^ s = r := ⟨_, rfl⟩
     have p := Nat.two_pow_pos s
     have hmr : M * 2 ^ s + r = m := by rw [← hM, ← hr, Nat.mul_comm]; exact Nat.div_add_mod m (2 ^ s)
     have hrl : r < 2 ^ s := by rw [← hr]; exact Nat.mod_lt _ p
     have hM53 : M < 9007199254740992 := by rw [← hM]; exact div_pow_lt hm2 hs0
     have hMK : K = 0 ∨ 4503599627370496 ≤ M := by
       rcases hKm.2 with q0 | q0
       · exact .inl q0
       · right; rw [← hM, q0]; omega
     rw [rest_mod hs64, hr, hM]
     have hc := rest_cmp hs64 (by omega) hrl
     have e0 : valF (K * 4503599627370496 + M) = M * 2 ^ K := valF_mk (by omega) hMK
     have e1 : valF (K * 4503599627370496 + M + 1) = (M + 1) * 2 ^ K := by rw [Nat.add_assoc]; exact valF_mk (by omega) (by omega)
     have c0 := (h.at (g := M) (s := s) (K := K) (j := 0) (by omega) (by omega)).1
     have c1 := (h.at (g := M + 1) (s := s) (K := K) (j := 0) (by omega) (by omega)).1
     have c2 := h.at (g := 2 * M + 1) (s := s - 1) (K := K) (j := 1) (by omega) (by omega)
     rw [Nat.pow_zero, Nat.mul_one] at c0 c1
     have d1 : (M + 1) * 2 ^ s = M * 2 ^ s + 2 ^ s := Nat.succ_mul ..
     have d2 : (2 * M + 1) * 2 ^ (s - 1) = M * 2 ^ s + 2 ^ (s - 1) := by
       rw [Nat.succ_mul, show s = (s - 1) + 1 by omega, Nat.pow_succ, Nat.add_sub_cancel, Nat.mul_comm 2 M, Nat.mul_assoc, Nat.mul_comm 2]
     rw [d2] at c2
     rw [d1] at c1
     have b := isRN_between (X := X) hq (a := K * 4503599627370496 + M) (by omega)
       (by rw [e0, show q * (M * 2 ^ K) = M * q * 2 ^ K by rw [← Nat.mul_assoc, Nat.mul_comm q]]; exact Nat.le_of_not_lt fun z => absurd (c0.1 z) (by omega))
       (by rw [e1, show q * ((M + 1) * 2 ^ K) = (M + 1) * q * 2 ^ K by rw [← Nat.mul_assoc, Nat.mul_comm q]]; exact c1.2 (by omega))
     rw [e0, e1, show q * (M * 2 ^ K + (M + 1) * 2 ^ K) = (2 * M + 1) * q * 2 ^ K by rw [← Nat.add_mul, ← Nat.mul_assoc, Nat.mul_comm q, show M + (M + 1) = 2 * M + 1 by omega]] at b
     rw [Nat.pow_one, Nat.mul_comm X 2] at c2
     have pe : (K * 4503599627370496 + M) % 2 = M % 2 := by omega
     rw [pe] at b
     have hiff : (r * 2 ^ (64 - s) > 9223372036854775808 ∨ r * 2 ^ (64 - s) = 9223372036854775808 ∧ (half = true ∨ M % 2 = 1)) ↔ ((2 * M + 1) * q * 2 ^ K < 2 * X ∨ (2 * M + 1) * q * 2 ^ K = 2 * X ∧ M % 2 = 1) := by
       rw [hc.1, hc.2]
       have lt := c2.1
       have eq := c2.2
       generalize (2 * M + 1) * q * 2 ^ K = Z at *
       generalize 2 ^ (s - 1) = H at *
       generalize M * 2 ^ s = B at *
       cases half
       · simp only [Bool.false_eq_true, and_true, false_or] at eq ⊢
         omega
       · simp only [Bool.true_eq_false, and_false, iff_false, true_or, and_true] at eq ⊢
         omega
     by_cases hu : r * 2 ^ (64 - s) > 9223372036854775808 ∨ r * 2 ^ (64 - s) = 9223372036854775808 ∧ (half = true ∨ M % 2 = 1)
     · rw [if_pos hu]
       rw [if_pos (hiff.1 hu)] at b
       rw [← Nat.add_assoc]
       exact b
     · rw [if_neg hu]
       rw [if_neg fun z => hu (hiff.2 z)] at b
       exact b
theorem div_spec {Q : Nat} (hQ : 0 < Q) : ∀ (k p man : Nat), p < Q * 2 ^ k → man * 2 ^ k + (2 ^ k - 1) < 18446744073709551616 → ∀ t, (0 < k → t = Q * 2 ^ (k - 1)) → divN k p t man = (p % Q, man * 2 ^ k + p / Q)
 | 0, p, man, hp, hm, t, ht => by
   rw [Nat.pow_zero, Nat.mul_one] at hp
   rw [divN, Nat.mod_eq_of_lt hp, Nat.div_eq_of_lt hp, Nat.pow_zero, Nat.mul_one, Nat.add_zero]
 | k + 1, p, man, hp, hm, t, ht => by
   have ht' := ht (by omega)
   rw [Nat.add_sub_cancel] at ht'
   have hp2 : Q * 2 ^ (k + 1) = Q * 2 ^ k + Q * 2 ^ k := by rw [Nat.pow_succ, Nat.mul_two, Nat.mul_add]
   have hm2 : man * 2 ^ (k + 1) = 2 * (man * 2 ^ k) := by rw [Nat.pow_succ, ← Nat.mul_assoc, Nat.mul_comm]
   have hm3 : man ≤ man * 2 ^ k := Nat.le_mul_of_pos_right _ (Nat.two_pow_pos k)
   have hp3 : 2 ^ (k + 1) = 2 ^ k + 2 ^ k := by rw [Nat.pow_succ]; omega
   have hp4 := Nat.two_pow_pos k
   have hmm : man * 2 % 18446744073709551616 = man * 2 := Nat.mod_eq_of_lt (by omega)
   have hnext : 0 < k → t / 2 = Q * 2 ^ (k - 1) := fun h => by
     rw [ht', show k = (k - 1) + 1 by omega, Nat.pow_succ, ← Nat.mul_assoc, Nat.mul_div_cancel _ (by decide), Nat.add_sub_cancel]
   by_cases h : t ≤ p
   · rw [divN_step1 h, hmm, div_spec hQ k _ _ (by omega) (by rw [Nat.succ_mul, Nat.mul_right_comm]; omega) _ hnext]
     have e : p = (p - t) + Q * 2 ^ k := by omega
     refine Prod.ext ?_ ?_
     · show (p - t) % Q = p % Q
       conv => rhs; rw [e, Nat.add_mul_mod_self_left]
     · show (man * 2 + 1) * 2 ^ k + (p - t) / Q = man * 2 ^ (k + 1) + p / Q
       conv => rhs; rw [e, Nat.add_mul_div_left _ _ hQ]
       rw [Nat.succ_mul, Nat.mul_right_comm]; omega
   · rw [divN_step0 h, hmm, div_spec hQ k _ _ (by omega) (by rw [Nat.mul_right_comm]; omega) _ hnext]
     rw [Nat.mul_right_comm]
     refine Prod.ext rfl ?_
     show man * 2 ^ k * 2 + p / Q = man * 2 ^ (k + 1) + p / Q
     omega
def StandsA (X q : Nat) (m : Nat) (E : Int) (half : Bool) : Prop := ∀ f : Nat,
 (X * 2 ^ (-E).toNat < (f * q) * 2 ^ E.toNat ↔ m < f) ∧ (X * 2 ^ (-E).toNat = (f * q) * 2 ^ E.toNat ↔ m = f ∧ half = false)
theorem near_spec {X q man : Nat} {e : Int} {half : Bool} (hq : 0 < q) (hm : 4611686018427387904 ≤ man) (hm2 : man < 18446744073709551616) (he : -5000 ≤ e ∧ e ≤ 5000) (h : StandsA X q man (e + 1074) half) : isRN X q (nearN man e half) := by
 unfold nearN
 simp only []
 rw [if_neg (by omega), if_neg (by omega), show min (max e (-5000)) 5000 = e by omega]
 have hb : bitsN man = 63 ∨ bitsN man = 64 := by
   by_cases h63 : man < 9223372036854775808
   · exact .inl (bitsN_iff (k := 62) (by omega) (by omega))
   · exact .inr (bitsN_iff (k := 63) (by omega) (by omega))
 rcases hb with hb | hb
 · have hlt : man < 9223372036854775808 := by have := bitsN_lt man; rw [hb] at this; exact this
   rw [hb]
   have hE : ∀ f : Nat, (X * 2 ^ (-(e - 1 + 1074)).toNat < (2 * f * q) * 2 ^ (e - 1 + 1074).toNat ↔ man < f) ∧ (X * 2 ^ (-(e - 1 + 1074)).toNat = (2 * f * q) * 2 ^ (e - 1 + 1074).toNat ↔ man = f ∧ half = false) := by
     intro f
     rw [show 2 * f * q * 2 ^ (e - 1 + 1074).toNat = f * q * 2 ^ (1 + (e - 1 + 1074).toNat) by rw [Nat.pow_add, Nat.pow_one, ← Nat.mul_assoc, Nat.mul_comm (f * q) 2, Nat.mul_assoc 2]]
     have h1 := h f
     exact ⟨Iff.trans (pow_cmp (by omega)) h1.1, Iff.trans (pow_cmp_eq (by omega)) h1.2⟩
   cases half
   · rw [if_neg (by simp)]
     refine form_spec hq (by omega) (by omega) fun f => ?_
     rw [show e - ((64 - 63 : Nat) : Int) + 1074 = e - 1 + 1074 by omega, (hE f).1, (hE f).2]
     simp only [and_true]
     omega
   · rw [if_pos (by simp)]
     refine form_spec hq (by omega) (by omega) fun f => ?_
     rw [show e - ((64 - 63 : Nat) : Int) + 1074 = e - 1 + 1074 by omega, (hE f).1, (hE f).2]
     simp only [and_true, Bool.true_eq_false, and_false, false_iff]
     omega
 · have hge : 9223372036854775808 ≤ man := by have := bitsN_ge man (by omega); rw [hb] at this; exact this
   rw [hb, if_neg (by simp)]
   rw [show man * 2 ^ (64 - 64) = man by simp, show e - ((64 - 64 : Nat) : Int) = e by omega]
   exact form_spec hq hge hm2 fun f => h (2 * f)
theorem round_spec {p q S : Nat} (hp : 0 < p) (hq : 0 < q) (hS : S = 1074) (hb : bitsN p ≤ 4900) (hb2 : bitsN q ≤ 4900) : isRN (p * 2 ^ S) q (roundN p q) := by
 unfold roundN
 simp only []
 obtain ⟨up, hup⟩ : ∃ up : Int, up = 63 - bitsN p + bitsN q := ⟨_, rfl⟩
 rw [← hup]
 obtain ⟨P, hP⟩ : ∃ P, P = p * 2 ^ up.toNat := ⟨_, rfl⟩
 obtain ⟨Q, hQ⟩ : ∃ Q, Q = q * 2 ^ (-up).toNat := ⟨_, rfl⟩
 rw [← hP, ← hQ]
 have hQ0 : 0 < Q := by rw [hQ]; exact Nat.mul_pos hq (Nat.two_pow_pos _)
 have bp0 : 0 < bitsN p := by rw [bitsN_pos (by omega)]; omega
 have bq0 : 0 < bitsN q := by rw [bitsN_pos (by omega)]; omega
 have p1 := bitsN_ge p (by omega)
 have p2 := bitsN_lt p
 have q1 := bitsN_ge q (by omega)
 have q2 := bitsN_lt q
 have e1 : (bitsN p - 1) + up.toNat = 62 + (bitsN q + (-up).toNat) := by omega
 have lo : Q * 2 ^ 62 ≤ P := by
   have a1 : Q ≤ 2 ^ (bitsN q + (-up).toNat) := by rw [hQ, Nat.pow_add]; exact Nat.mul_le_mul_right _ (Nat.le_of_lt q2)
   have a2 : 2 ^ (bitsN p - 1 + up.toNat) ≤ P := by rw [hP, Nat.pow_add]; exact Nat.mul_le_mul_right _ p1
   rw [e1, Nat.pow_add, Nat.mul_comm] at a2
   exact Nat.le_trans (Nat.mul_le_mul_right _ a1) a2
 have hi : P < Q * 2 ^ 64 := by
   have a1 : 2 ^ (bitsN q - 1 + (-up).toNat) ≤ Q := by rw [hQ, Nat.pow_add]; exact Nat.mul_le_mul_right _ q1
   have a2 : P < 2 ^ (bitsN p + up.toNat) := by rw [hP, Nat.pow_add]; exact Nat.mul_lt_mul_of_pos_right p2 (Nat.two_pow_pos _)
   rw [show bitsN p + up.toNat = (bitsN q - 1 + (-up).toNat) + 64 by omega, Nat.pow_add] at a2
   exact Nat.lt_of_lt_of_le a2 (Nat.mul_le_mul_right _ a1)
 rw [div_spec hQ0 64 P 0 hi (by decide) (Q * 2 ^ 63) (fun _ => rfl)]
 simp only [Nat.zero_mul, Nat.zero_add]
 refine near_spec hq ?_ ?_ (by omega) fun f => ?_
 · rw [show 4611686018427387904 = 2 ^ 62 from rfl, Nat.le_div_iff_mul_le hQ0, Nat.mul_comm]; exact lo
 · rw [show 18446744073709551616 = 2 ^ 64 from rfl, Nat.div_lt_iff_lt_mul hQ0, Nat.mul_comm]; exact hi
 · have hx : ∀ x y : Nat, x = S + (-(-up + 1074)).toNat → y = (-up + 1074).toNat → (p * 2 ^ x < f * q * 2 ^ y ↔ P < f * Q) ∧ (p * 2 ^ x = f * q * 2 ^ y ↔ P = f * Q) := by
     intro x y hx hy
     rw [hP, hQ, ← Nat.mul_assoc]
     exact ⟨pow_cmp (by omega), pow_cmp_eq (by omega)⟩
   have h1 := hx _ _ rfl rfl
   rw [Nat.mul_assoc p, ← Nat.pow_add, h1.1, h1.2, Nat.div_lt_iff_lt_mul hQ0]
   refine ⟨Iff.rfl, ?_⟩
   have hl : decide (0 < (lim (P % Q)).length) = false ↔ P % Q = 0 := by
     rw [decide_eq_false_iff_not, ← lim_len_eq]; omega
   rw [hl]
   have hdm := Nat.div_add_mod P Q
   constructor
   · intro h
     subst h
     exact ⟨Nat.mul_div_cancel _ hQ0, Nat.mul_mod_left ..⟩
   · rintro ⟨h, h0⟩
     rw [h0, h, Nat.mul_comm] at hdm
     omega
end Go.Proofs.YtnhmmjogfkjceaaGreatDoor
namespace Go.Proofs.YtnhmmjogfkjceaaGreatDoor
open Go.Sl
theorem dig_of {u : Nat} (h : u < 10) : isDig (UInt8.ofNat (48 + u)) = true ∧ (UInt8.ofNat (48 + u)).toNat = 48 + u := by
 have e : (UInt8.ofNat (48 + u)).toNat = 48 + u := by rw [UInt8.toNat_ofNat']; omega
 exact ⟨by unfold isDig; rw [e]; exact decide_eq_true (by omega), e⟩
theorem decDigits_dig (u : Nat) : ∀ c ∈ Lib.decDigits u, isDig c = true := by
 induction u using Nat.strongRecOn with
 | _ u ih =>
   rw [Lib.decDigits]
   split
   · next h => intro c hc; rw [List.mem_singleton.1 hc]; exact (dig_of h).1
   · next h =>
     intro c hc
     rcases List.mem_append.1 hc with q | q
     · exact ih (u / 10) (by omega) c q
     · rw [List.mem_singleton.1 q]; exact (dig_of (by omega)).1
theorem decDigits_ne (u : Nat) : Lib.decDigits u ≠ [] := by
 intro q
 have := congrArg List.length q
 rw [Lib.decDigits_length] at this
 have h := Lib.nDigits_pos u
 simp at this
 omega
theorem powN_decDigits (u : Nat) (hu : u ≤ 1099511627776) : powN 0 (Lib.decDigits u) = (u : Int) := by
 induction u using Nat.strongRecOn with
 | _ u ih =>
   rw [Lib.decDigits]
   split
   · next h => show min (0 * 10 + (((UInt8.ofNat (48 + u)).toNat : Int) - 48)) 1099511627776 = (u : Int); rw [(dig_of h).2]; omega
   · next h =>
     rw [powN_app, ih (u / 10) (by omega) (by omega)]
     show min (((u / 10 : Nat) : Int) * 10 + (((UInt8.ofNat (48 + u % 10)).toNat : Int) - 48)) 1099511627776 = (u : Int)
     rw [(dig_of (by omega)).2]
     omega
theorem takeWhile_full {p : UInt8 → Bool} : ∀ {X : Bytes}, (∀ c ∈ X, p c = true) → X.takeWhile p = X ∧ X.dropWhile p = []
 | [], _ => ⟨rfl, rfl⟩
 | c :: r, h => by
   have hc := h c (List.mem_cons_self ..)
   have ih := takeWhile_full (p := p) (X := r) fun d hd => h d (List.mem_cons_of_mem _ hd)
   rw [List.takeWhile_cons, if_pos hc, List.dropWhile_cons, if_pos hc, ih.1, ih.2]
   exact ⟨rfl, rfl⟩
theorem takeWhile_stop {p : UInt8 → Bool} : ∀ {X : Bytes} {c : UInt8} {Y : Bytes}, (∀ c ∈ X, p c = true) → p c = false → (X ++ c :: Y).takeWhile p = X ∧ (X ++ c :: Y).dropWhile p = c :: Y
 | [], c, Y, _, hc => by
   rw [List.nil_append, List.takeWhile_cons, if_neg (by rw [hc]; decide), List.dropWhile_cons, if_neg (by rw [hc]; decide)]
   exact ⟨rfl, rfl⟩
 | d :: r, c, Y, h, hc => by
   have hd := h d (List.mem_cons_self ..)
   have ih := takeWhile_stop (p := p) (X := r) (Y := Y) (fun d hd => h d (List.mem_cons_of_mem _ hd)) hc
   rw [List.cons_append, List.takeWhile_cons, if_pos hd, List.dropWhile_cons, if_pos hd, ih.1, ih.2]
   exact ⟨rfl, rfl⟩
theorem isDig_in {c : UInt8} (h : isDig c = true) : 48 ≤ c.toNat ∧ c.toNat ≤ 57 := by unfold isDig at h; exact of_decide_eq_true h
theorem isDig_ne {c : UInt8} (h : isDig c = true) : c ≠ 43 ∧ c ≠ 45 ∧ c ≠ 46 ∧ c ≠ 101 ∧ c ≠ 69 ∧ c ≠ 73 ∧ c ≠ 120 ∧ c ≠ 88 := by
 have := isDig_in h
 refine ⟨?_, ?_, ?_, ?_, ?_, ?_, ?_, ?_⟩ <;> (rintro rfl; exact absurd this (by decide))
theorem isDig_bl {c : UInt8} (h : isDig c = true) : isBl c = false := by
 have h1 := isDig_in h
 rcases hb : isBl c with _ | _
 · rfl
 · have : c = 9 ∨ c = 10 ∨ c = 32 := by simpa [isBl] using hb
   rcases this with q | q | q <;> (subst q; exact absurd h1.1 (by decide))
theorem pow_itoa {z : Int} (h1 : -1099511627776 ≤ z) (h2 : z ≤ 1099511627776) : powN 0 ((wayP (Lib.itoa z)).2.takeWhile isDig) * (wayP (Lib.itoa z)).1 = z ∧ (wayP (Lib.itoa z)).2.takeWhile isDig ≠ [] ∧ (wayP (Lib.itoa z)).2.dropWhile isDig = [] := by
 unfold Lib.itoa
 split
 · have e := takeWhile_full (decDigits_dig z.natAbs)
   rw [wayP_at (.inr rfl)]
   simp only []
   rw [e.1, e.2, powN_decDigits _ (by omega)]
   exact ⟨by show (z.natAbs : Int) * (44 - 45) = z; omega, decDigits_ne _, rfl⟩
 · have e := takeWhile_full (decDigits_dig z.toNat)
   obtain ⟨d, t, hdt⟩ : ∃ d t, Lib.decDigits z.toNat = d :: t := by
     cases hd : Lib.decDigits z.toNat with
     | nil => exact absurd hd (decDigits_ne _)
     | cons d t => exact ⟨d, t, rfl⟩
   have hd : isDig d = true := decDigits_dig z.toNat d (by rw [hdt]; exact List.mem_cons_self ..)
   have hw : wayP (Lib.decDigits z.toNat) = (1, Lib.decDigits z.toNat) := by rw [hdt]; exact wayP_no (by have := isDig_ne hd; rintro (q | q); exact this.1 q; exact this.2.1 q)
   rw [hw]
   simp only []
   rw [e.1, e.2, powN_decDigits _ (by omega)]
   exact ⟨by omega, decDigits_ne _, rfl⟩
theorem itoa_last (z : Int) : ∃ Y c, Lib.itoa z = Y ++ [c] ∧ isDig c = true := by
 have h : ∀ u, ∃ Y c, Lib.decDigits u = Y ++ [c] ∧ isDig c = true := fun u =>
   ⟨_, _, (List.dropLast_concat_getLast (decDigits_ne u)).symm, decDigits_dig u _ (List.getLast_mem _)⟩
 unfold Lib.itoa
 split
 · obtain ⟨Y, c, e, hc⟩ := h z.natAbs
   exact ⟨45 :: Y, c, by rw [e]; rfl, hc⟩
 · exact h _
theorem trim_id {c d : UInt8} {X : Bytes} (hc : isBl c = false) (hd : isBl d = false) : Lib.trimS (c :: (X ++ [d])) [9, 10, 32] = c :: (X ++ [d]) := by
 have hr : Lib.trimRightS [d] [9, 10, 32] = [d] := by
   unfold Lib.trimRightS
   show ([d].reverse.dropWhile ([9, 10, 32].contains ·)).reverse = [d]
   rw [List.reverse_singleton, List.dropWhile_cons, if_neg (by intro q; rw [show isBl d = true from q] at hd; cases hd)]
   rfl
 have := trim_sign (s := c) (P := X) (X := [d]) hc (by rw [hr]; simp)
 rw [hr] at this
 exact this
theorem decP_plain {A : Bytes} {l : UInt8} {z : Int} (hA : ∀ c ∈ A, isDig c = true) (hn : A ≠ []) (hl : l = 101 ∨ l = 69) (h1 : -1099511627776 ≤ z) (h2 : z ≤ 1099511627776) :
   decP (A ++ l :: Lib.itoa z) = (⟨A, [], z⟩, true) := by
 obtain ⟨p1, p2, p3⟩ := pow_itoa h1 h2
 have ta := takeWhile_stop (p := isDig) (X := A) (c := l) (Y := Lib.itoa z) hA (by rcases hl with q | q <;> (subst q; decide))
 have hf : fracP ((A ++ l :: Lib.itoa z).dropWhile isDig) = ([], l :: Lib.itoa z) := by
   rw [ta.2]
   refine fracP_no ?_
   rcases h : Lib.hasPrefix (l :: Lib.itoa z) [46] with _ | _
   · rfl
   · obtain ⟨q, hq⟩ := pre_dot h
     have : l = 46 := by have := congrArg List.head? hq; simpa using this
     rcases hl with q | q <;> (rw [q] at this; exact absurd this (by decide))
 rw [decP_pow (A := A) (B := []) (R := l :: Lib.itoa z) (c := l) (r := Lib.itoa z) ta.1 (by rw [hf]) (by rw [hf]) (fun q => hn q.1) rfl hl]
 rw [p1, p3]
 simp [p2]
theorem read_dec {c d : UInt8} {X : Bytes} {n : DecP} (hc : isDig c = true ∨ c = 46) (hx : c = 48 → ∃ e r, X ++ [d] = e :: r ∧ e ≠ 120 ∧ e ≠ 88) (hd : isDig d = true) (h : decP (c :: (X ++ [d])) = (n, true)) : readP (c :: (X ++ [d])) = nearestP n := by
 have hcb : isBl c = false := by rcases hc with q | q; exact isDig_bl q; subst q; decide
 have ht := trim_id (X := X) hcb (isDig_bl hd)
 have hw : wayR (c :: (X ++ [d])) = (0, c :: (X ++ [d])) := by
   rcases hc with q | q
   · exact wayR_else (isDig_ne q).1 (isDig_ne q).2.1
   · subst q; exact wayR_else (by decide) (by decide)
 have hi : c ≠ 73 := by rcases hc with q | q; exact (isDig_ne q).2.2.2.2.2.1; subst q; decide
 have hh : ¬ (Lib.hasPrefix (c :: (X ++ [d])) [48, 120] = true ∨ Lib.hasPrefix (c :: (X ++ [d])) [48, 88] = true) := by
   by_cases h0 : c = 48
   · obtain ⟨e, r, he, h1, h2⟩ := hx h0
     rw [he]
     rintro (q | q)
     · obtain ⟨w, hw⟩ := List.isPrefixOf_iff_prefix.1 q
       have := congrArg (fun l => l[1]?) hw
       simp at this; exact h1 this.symm
     · obtain ⟨w, hw⟩ := List.isPrefixOf_iff_prefix.1 q
       have := congrArg (fun l => l[1]?) hw
       simp at this; exact h2 this.symm
   · exact no_hex h0
 rw [readP_dec ht (by simp) hh (by rw [hw]; exact no_inf hi), hw]
 simp only []
 rw [h, if_pos rfl, Nat.zero_add]
theorem itoa_char {z : Int} {x : UInt8} (h : x ∈ Lib.itoa z) : x ≠ 120 ∧ x ≠ 88 := by
 have hd : ∀ u, x ∈ Lib.decDigits u → x ≠ 120 ∧ x ≠ 88 := fun u hx => (isDig_ne (decDigits_dig u x hx)).2.2.2.2.2.2
 unfold Lib.itoa at h
 split at h
 · rcases List.mem_cons.1 h with q | q
   · subst q; decide
   · exact hd _ q
 · exact hd _ h
theorem read_text {c : UInt8} {r : Bytes} {z : Int} {n : DecP} (hc : isDig c = true ∨ c = 46) (hP : ∀ x ∈ c :: r, x ≠ 120 ∧ x ≠ 88) (h : decP ((c :: r) ++ Lib.itoa z) = (n, true)) : readP ((c :: r) ++ Lib.itoa z) = nearestP n := by
 obtain ⟨Y, d, hz, hd⟩ := itoa_last z
 have e : (c :: r) ++ Lib.itoa z = c :: ((r ++ Y) ++ [d]) := by rw [hz]; simp
 rw [e] at h ⊢
 refine read_dec hc (fun _ => ?_) hd h
 obtain ⟨x, t, hx⟩ : ∃ x t, (r ++ Y) ++ [d] = x :: t := by
   cases hq : (r ++ Y) ++ [d] with
   | nil => simp at hq
   | cons x t => exact ⟨x, t, rfl⟩
 have hm : x ∈ r ++ Lib.itoa z := by rw [hz, ← List.append_assoc, hx]; exact List.mem_cons_self ..
 have hx2 : x ≠ 120 ∧ x ≠ 88 := by
   rcases List.mem_append.1 hm with q | q
   · exact hP x (List.mem_cons_of_mem _ q)
   · exact itoa_char q
 exact ⟨x, t, hx, hx2.1, hx2.2⟩
theorem dig_noX {D : Bytes} (hD : ∀ c ∈ D, isDig c = true) : ∀ x ∈ D, x ≠ 120 ∧ x ≠ 88 := fun x hx => (isDig_ne (hD x hx)).2.2.2.2.2.2
theorem ten_room {x k : Nat} (hk : k ≤ 1200) (h : x ≤ 10 ^ k) : bitsN x ≤ 4900 := Nat.le_trans (bitsN_ten h) (by omega)
section
variable {D : Bytes} (hD : ∀ c ∈ D, isDig c = true) (hn : D ≠ []) {z : Int} (h1 : -1099511627776 ≤ z) (h2 : z ≤ 1099511627776)
include hD hn h1 h2
theorem points_a : readP ((D ++ [101]) ++ Lib.itoa z) = nearestP ⟨D, [], z⟩ := by
 have hp := decP_plain hD hn (.inl rfl) h1 h2
 obtain ⟨c, r, rfl⟩ : ∃ c r, D = c :: r := by cases D with | nil => exact absurd rfl hn | cons c r => exact ⟨c, r, rfl⟩
 have e : ((c :: r) ++ [101]) ++ Lib.itoa z = (c :: r) ++ 101 :: Lib.itoa z := by simp
 have := read_text (c := c) (r := r ++ [101]) (z := z) (n := ⟨c :: r, [], z⟩) (.inl (hD c (List.mem_cons_self ..))) (fun x hx => by
   rcases List.mem_append.1 (show x ∈ (c :: r) ++ [101] from hx) with q | q
   · exact dig_noX hD x q
   · rw [List.mem_singleton.1 q]; decide) (by rw [show c :: (r ++ [101]) ++ Lib.itoa z = ((c :: r) ++ [101]) ++ Lib.itoa z from rfl, e]; exact hp)
 exact this
end
end Go.Proofs.YtnhmmjogfkjceaaGreatDoor
namespace Go.Proofs.YtnhmmjogfkjceaaGreatDoor
open Go.Sl
theorem high_iff (s : SpanP) : highB s = true ↔ s.u < s.r + s.a ∨ (s.r + s.a = s.u ∧ s.ends = true) := by
 unfold highB cmpN
 simp only [Bool.or_eq_true, Bool.and_eq_true, decide_eq_true_eq]
 split
 · constructor
   · rintro (h | ⟨h, _⟩) <;> omega
   · omega
 · split
   · constructor
     · intro _; omega
     · intro _; exact .inl (by decide)
   · constructor
     · rintro (h | ⟨_, h⟩)
       · omega
       · exact .inr ⟨by omega, h⟩
     · rintro (h | ⟨_, h⟩)
       · omega
       · exact .inr ⟨rfl, h⟩
theorem low_iff (s : SpanP) : lowB s = true ↔ s.r < s.b ∨ (s.r = s.b ∧ s.ends = true) := by
 unfold lowB cmpN
 simp only [Bool.or_eq_true, Bool.and_eq_true, decide_eq_true_eq]
 split
 · constructor
   · intro _; omega
   · intro _; exact .inl (by decide)
 · split
   · constructor
     · rintro (h | ⟨h, _⟩) <;> omega
     · omega
   · constructor
     · rintro (h | ⟨_, h⟩)
       · omega
       · exact .inr ⟨by omega, h⟩
     · rintro (h | ⟨_, h⟩)
       · omega
       · exact .inr ⟨rfl, h⟩
theorem bool_f {b : Bool} {p : Prop} (h : b = true ↔ p) : b = false ↔ ¬ p := by rw [← h]; cases b <;> simp
theorem high_f (s : SpanP) : highB s = false ↔ ¬ (s.u < s.r + s.a ∨ (s.r + s.a = s.u ∧ s.ends = true)) := bool_f (high_iff s)
theorem low_f (s : SpanP) : lowB s = false ↔ ¬ (s.r < s.b ∨ (s.r = s.b ∧ s.ends = true)) := bool_f (low_iff s)
theorem ten_pow (x j : Nat) : x * 10 * 10 ^ j = x * 10 ^ (j + 1) := by rw [Nat.mul_assoc, Nat.mul_comm 10, ← Nat.pow_succ]
theorem end_iff (b : Bool) : b = true ↔ (if b = true then 1 else 0 : Nat) = 1 := by cases b <;> simp
def upBy (s : SpanP) (i : Nat) : SpanP := ⟨s.r, s.u * 10 ^ i, s.a, s.b, s.ends⟩
def dnBy (s : SpanP) (j : Nat) : SpanP := ⟨s.r * 10 ^ j, s.u, s.a * 10 ^ j, s.b * 10 ^ j, s.ends⟩
theorem upF_spec : ∀ (f : Nat) (s : SpanP) (p : Int), 0 < s.u → s.r + s.a + 1 - s.u < f → ∃ i : Nat, upF f s p = (upBy s i, p + i) ∧ highB (upBy s i) = false
 | 0, s, p, hu, hf => by omega
 | f + 1, s, p, hu, hf => by
   rcases h : highB s with _ | _
   · refine ⟨0, ?_, ?_⟩
     · rw [upF_no h]; simp [upBy]
     · rw [show upBy s 0 = s by simp [upBy]]; exact h
   · have hg := high_ge h
     obtain ⟨i, h1, h2⟩ := upF_spec f ⟨s.r, s.u * 10, s.a, s.b, s.ends⟩ (p + 1) (by show 0 < s.u * 10; omega) (by show s.r + s.a + 1 - s.u * 10 < f; omega)
     have e : upBy ⟨s.r, s.u * 10, s.a, s.b, s.ends⟩ i = upBy s (i + 1) := by unfold upBy; simp only [SpanP.mk.injEq, and_self, and_true, true_and]; rw [Nat.pow_succ, Nat.mul_assoc, Nat.mul_comm 10]
     rw [e] at h1 h2
     exact ⟨i + 1, by rw [upF_go h, h1]; refine Prod.ext rfl ?_; show p + 1 + (i : Int) = p + ((i + 1 : Nat) : Int); omega, h2⟩
theorem dnF_spec : ∀ (f : Nat) (s : SpanP) (p : Int), 0 < s.r → s.u - s.r < f → highB s = false → ∃ j : Nat, dnF f s p = (dnBy s j, p - j) ∧ highB (dnBy s j) = false ∧ highB (tenS (dnBy s j)) = true
 | 0, s, p, hu, hf, _ => by omega
 | f + 1, s, p, hu, hf, hs => by
   rcases h : highB (tenS s) with _ | _
   · have hg := high_lt h
     have hg' : s.r * 10 + s.a * 10 ≤ s.u := hg
     obtain ⟨j, h1, h2, h3⟩ := dnF_spec f (tenS s) (p - 1) (by show 0 < s.r * 10; omega) (by show s.u - s.r * 10 < f; omega) h
     have e : dnBy (tenS s) j = dnBy s (j + 1) := by unfold dnBy tenS; simp only [ten_pow]
     rw [e] at h1 h2 h3
     exact ⟨j + 1, by rw [dnF_go h, h1]; refine Prod.ext rfl ?_; show p - 1 - (j : Int) = p - ((j + 1 : Nat) : Int); omega, h2, h3⟩
   · refine ⟨0, ?_, ?_, ?_⟩
     · rw [dnF_no h]; simp [dnBy]
     · rw [show dnBy s 0 = s by simp [dnBy]]; exact hs
     · rw [show dnBy s 0 = s by simp [dnBy]]; exact h
def digC (d : Nat) : UInt8 := UInt8.ofNat (48 + d)
theorem itoa_dig {d : Nat} (h : d < 10) : Lib.itoa (d : Int) = [digC d] := by
 rw [Lib.itoa_nonneg, Lib.decDigits, dif_pos h]; rfl
theorem digC_dig {d : Nat} (h : d < 10) : isDig (digC d) = true ∧ (digC d).toNat = 48 + d := dig_of h
structure Ends (s : SpanP) (m m' : Bytes) (k M r1 d : Nat) : Prop where
  len : m'.length = m.length + k + 1
  digs : (∀ c ∈ m, isDig c = true) → ∀ c ∈ m', isDig c = true
  cut : ∃ Q, m' = Q ++ [digC d] ∧ Q.length = m.length + k ∧ ofD Q = ofD m * 10 ^ k + M
  rest : s.r * 10 ^ k = M * s.u + r1
  less : r1 < s.u
  low : lowB ⟨r1, s.u, s.a * 10 ^ k, s.b * 10 ^ k, s.ends⟩ = false
  high : highB ⟨r1, s.u, s.a * 10 ^ k, s.b * 10 ^ k, s.ends⟩ = false
  dig : 1 ≤ d ∧ d ≤ 9
  stop : (d * s.u ≤ r1 * 10 ∧ (r1 * 10 - d * s.u < s.b * 10 ^ (k + 1) ∨ (r1 * 10 - d * s.u = s.b * 10 ^ (k + 1) ∧ s.ends = true))) ∨ (r1 * 10 ≤ d * s.u ∧ (d * s.u - r1 * 10 < s.a * 10 ^ (k + 1) ∨ (d * s.u - r1 * 10 = s.a * 10 ^ (k + 1) ∧ s.ends = true)))
theorem gen_spec : ∀ (f : Nat) (s : SpanP) (m : Bytes), 0 < s.u → 0 < s.b → s.b ≤ s.a → s.u < s.b * 10 ^ f → lowB s = false → highB s = false → ∃ k M r1 d, k < f ∧ Ends s m (genF f s m) k M r1 d
 | 0, s, m, hu, hb, hba, hf, hl, hh => by
   rw [high_f] at hh
   rw [Nat.pow_zero, Nat.mul_one] at hf
   omega
 | f + 1, s, m, hu, hb, hba, hf, hl, hh => by
   have hh' := hh
   have hl' := hl
   rw [high_f] at hh
   rw [low_f] at hl
   obtain ⟨e, he⟩ : ∃ e : Nat, s.ends = true ↔ e = 1 := ⟨_, end_iff s.ends⟩
   rw [he] at hh hl
   have hd10 : s.r * 10 / s.u < 10 := by rw [Nat.div_lt_iff_lt_mul hu]; omega
   have hdm := Nat.div_add_mod (s.r * 10) s.u
   have hml := Nat.mod_lt (s.r * 10) hu
   obtain ⟨d, hd⟩ : ∃ d, d = s.r * 10 / s.u := ⟨_, rfl⟩
   obtain ⟨q, hq⟩ : ∃ q, q = s.r * 10 % s.u := ⟨_, rfl⟩
   have hds : digS s = d := hd.symm
   have hrs : restS s = ⟨q, s.u, s.a * 10, s.b * 10, s.ends⟩ := by unfold restS; rw [← hq]
   rw [← hd, ← hq, Nat.mul_comm] at hdm
   rw [← hd] at hd10
   rw [← hq] at hml
   by_cases hc : lowB (restS s) = false ∧ highB (restS s) = false
   · rw [genF_go hc.1 hc.2, hds, itoa_dig hd10, hrs]
     rw [hrs] at hc
     obtain ⟨k, M, r1, d', hk, h⟩ := gen_spec f ⟨q, s.u, s.a * 10, s.b * 10, s.ends⟩ (m ++ [digC d]) hu (by show 0 < s.b * 10; omega) (by show s.b * 10 ≤ s.a * 10; omega) (by show s.u < s.b * 10 * 10 ^ f; rw [Nat.mul_assoc, Nat.mul_comm 10, ← Nat.pow_succ]; exact hf) hc.1 hc.2
     have ea : s.a * 10 * 10 ^ k = s.a * 10 ^ (k + 1) := by rw [Nat.mul_assoc, Nat.mul_comm 10, ← Nat.pow_succ]
     have eb : s.b * 10 * 10 ^ k = s.b * 10 ^ (k + 1) := by rw [Nat.mul_assoc, Nat.mul_comm 10, ← Nat.pow_succ]
     have ea2 : s.a * 10 * 10 ^ (k + 1) = s.a * 10 ^ (k + 1 + 1) := by rw [Nat.mul_assoc, Nat.mul_comm 10, ← Nat.pow_succ]
     have eb2 : s.b * 10 * 10 ^ (k + 1) = s.b * 10 ^ (k + 1 + 1) := by rw [Nat.mul_assoc, Nat.mul_comm 10, ← Nat.pow_succ]
     have h1 := h.low; have h2 := h.high; have h3 := h.stop
     simp only [ea, eb] at h1 h2
     simp only [ea2, eb2] at h3
     refine ⟨k + 1, d * 10 ^ k + M, r1, d', by omega, ⟨?_, ?_, ?_, ?_, h.less, h1, h2, h.dig, h3⟩⟩
     · rw [h.len]; simp; omega
     · intro hm
       refine h.digs fun c hcm => ?_
       rcases List.mem_append.1 hcm with q1 | q1
       · exact hm c q1
       · rw [List.mem_singleton.1 q1]; exact (digC_dig hd10).1
     · obtain ⟨Q, q1, q2, q3⟩ := h.cut
       refine ⟨Q, q1, by rw [q2]; simp; omega, ?_⟩
       rw [q3, ofD_app, (digC_dig hd10).2, show 48 + d - 48 = d by omega, Nat.add_mul, Nat.mul_assoc, Nat.mul_comm 10, ← Nat.pow_succ]
       exact Nat.add_assoc ..
     · have hr := h.rest
       simp only [] at hr
       have e1 : s.r * 10 ^ (k + 1) = d * s.u * 10 ^ k + q * 10 ^ k := by rw [← Nat.add_mul, hdm, Nat.pow_succ, Nat.mul_comm (10 ^ k), ← Nat.mul_assoc]
       have e2 : d * s.u * 10 ^ k = d * 10 ^ k * s.u := Nat.mul_right_comm ..
       have e3 : (d * 10 ^ k + M) * s.u = d * 10 ^ k * s.u + M * s.u := Nat.add_mul ..
       show s.r * 10 ^ (k + 1) = (d * 10 ^ k + M) * s.u + r1
       rw [e1, e2, e3, hr, Nat.add_assoc]
   · have hstop : lowB ⟨q, s.u, s.a * 10, s.b * 10, s.ends⟩ = true ∨ highB ⟨q, s.u, s.a * 10, s.b * 10, s.ends⟩ = true := by
       rw [hrs] at hc
       rcases hx : lowB ⟨q, s.u, s.a * 10, s.b * 10, s.ends⟩ with _ | _
       · right
         rcases hy : highB ⟨q, s.u, s.a * 10, s.b * 10, s.ends⟩ with _ | _
         · exact absurd ⟨hx, hy⟩ hc
         · rfl
       · exact .inl rfl
     have hLo := low_iff ⟨q, s.u, s.a * 10, s.b * 10, s.ends⟩
     have hHi := high_iff ⟨q, s.u, s.a * 10, s.b * 10, s.ends⟩
     simp only [he] at hLo hHi
     rcases hup : upD (restS s) (digS s) with _ | _
     · rw [genF_dn hc hup, hds, itoa_dig hd10]
       have hlow : lowB ⟨q, s.u, s.a * 10, s.b * 10, s.ends⟩ = true := by
         rcases hstop with z | z
         · exact z
         · unfold upD at hup
           rw [hrs] at hup
           rw [z] at hup
           rcases hx : lowB ⟨q, s.u, s.a * 10, s.b * 10, s.ends⟩ with _ | _
           · rw [hx] at hup; simp at hup
           · rfl
       have hlow' := hLo.1 hlow
       have hd1 : 1 ≤ d := by
         rcases Nat.eq_zero_or_pos d with z | z
         · subst z; rw [Nat.zero_mul, Nat.zero_add] at hdm; omega
         · exact z
       refine ⟨0, 0, s.r, d, by omega, ⟨by simp, ?_, ⟨m, rfl, rfl, by simp⟩, by simp, by omega, ?_, ?_, ⟨hd1, by omega⟩, .inl ⟨by omega, ?_⟩⟩⟩
       · intro hm c hcm
         rcases List.mem_append.1 hcm with q1 | q1
         · exact hm c q1
         · rw [List.mem_singleton.1 q1]; exact (digC_dig hd10).1
       · simpa using hl'
       · simpa using hh'
       · simp only [Nat.zero_add, Nat.pow_one, he]; omega
     · have hhi : highB ⟨q, s.u, s.a * 10, s.b * 10, s.ends⟩ = true := by
         unfold upD at hup
         rw [hrs] at hup
         rcases hx : highB ⟨q, s.u, s.a * 10, s.b * 10, s.ends⟩ with _ | _
         · rw [hx] at hup; simp at hup
         · rfl
       have hhi' := hHi.1 hhi
       have hd9 : d + 1 < 10 := by
         have h9 : d * s.u + s.u ≤ 9 * s.u := by
           rcases Nat.lt_or_ge d 9 with z | z
           · have := Nat.mul_le_mul_right s.u (show d ≤ 8 by omega); omega
           · have : d = 9 := by omega
             subst this
             omega
         have : (d + 1) * s.u ≤ 9 * s.u := by rw [Nat.succ_mul]; exact h9
         have := Nat.le_of_mul_le_mul_right this hu
         omega
       rw [genF_up hc hup, hds, show ((d : Int) + 1) = ((d + 1 : Nat) : Int) by omega, itoa_dig hd9]
       have hsm : (d + 1) * s.u = d * s.u + s.u := Nat.succ_mul ..
       refine ⟨0, 0, s.r, d + 1, by omega, ⟨by simp, ?_, ⟨m, rfl, rfl, by simp⟩, by simp, by omega, ?_, ?_, ⟨by omega, by omega⟩, .inr ⟨by omega, ?_⟩⟩⟩
       · intro hm c hcm
         rcases List.mem_append.1 hcm with q1 | q1
         · exact hm c q1
         · rw [List.mem_singleton.1 q1]; exact (digC_dig hd9).1
       · simpa using hl'
       · simpa using hh'
       · simp only [Nat.zero_add, Nat.pow_one, he]; omega
theorem a_parts (a : Nat) : a = (expP a - 1) * 4503599627370496 + manP a ∧ manP a < 9007199254740992 ∧ (expP a - 1 = 0 ∨ 4503599627370496 ≤ manP a) := by
 unfold expP manP
 split <;> omega
theorem pow_at {x y x' y' : Nat} (h : x + y = x' + y') : (2 : Nat) ^ x * 2 ^ y = 2 ^ x' * 2 ^ y' := by rw [← Nat.pow_add, ← Nat.pow_add, h]
theorem open_spec {a S : Nat} (h0 : 0 < a) (ha : a < 9218868437227405312) (hS : S = 1074) :
   (openS a).r * 2 ^ S = valF a * (openS a).u ∧ valF a * (openS a).u + 2 * (openS a).a * 2 ^ S = valF (a + 1) * (openS a).u ∧ valF (a - 1) * (openS a).u + 2 * (openS a).b * 2 ^ S = valF a * (openS a).u ∧ ((openS a).ends = true ↔ a % 2 = 0) := by
 obtain ⟨e1, e2⟩ := expP_in ha
 obtain ⟨q1, q2, q3⟩ := a_parts a
 have hm0 := manP_pos h0
 obtain ⟨K, hK⟩ : ∃ K, K = expP a - 1 := ⟨_, rfl⟩
 obtain ⟨n, hn⟩ : ∃ n, n = nearP a := ⟨_, rfl⟩
 have hn12 := nearP_in a
 obtain ⟨U, hU⟩ : ∃ U, U = expP a - 1075 := ⟨_, rfl⟩
 obtain ⟨V, hV⟩ : ∃ V, V = 1075 - expP a := ⟨_, rfl⟩
 have v0 : valF a = manP a * 2 ^ K := by
   have := valF_mk (K := expP a - 1) (g := manP a) (by omega) q3
   rw [← q1] at this
   rw [hK]; exact this
 have v1 : valF (a + 1) = (manP a + 1) * 2 ^ K := by
   rw [show a + 1 = (expP a - 1) * 4503599627370496 + (manP a + 1) by omega, hK]; exact valF_mk (by omega) (by omega)
 have er : (openS a).r = manP a * 2 ^ (U + n) := by rw [hU, hn]; rfl
 have eu : (openS a).u = 2 ^ (V + n) := by rw [hV, hn]; exact Nat.one_mul _
 have ea : (openS a).a = 2 ^ (U + n - 1) := by rw [hU, hn]; exact Nat.one_mul _
 have eb : (openS a).b = 2 ^ U := by rw [hU]; exact Nat.one_mul _
 have two : ∀ x, 2 * 2 ^ x = 2 ^ (x + 1) := fun x => by rw [Nat.pow_succ, Nat.mul_comm]
 rw [er, eu, ea, eb, two, two]
 refine ⟨?_, ?_, ?_, ?_⟩
 · rw [v0, Nat.mul_assoc, Nat.mul_assoc, pow_at (x' := K) (y' := V + n) (by omega)]
 · rw [v0, v1, Nat.add_mul, Nat.one_mul, Nat.add_mul, pow_at (x := U + n - 1 + 1) (y := S) (x' := K) (y' := V + n) (by omega)]
 · by_cases hc : manP a = 4503599627370496 ∧ expP a > 1
   · have hn2 : n = 2 := by rw [hn]; unfold nearP; rw [if_pos hc]
     obtain ⟨k, hk⟩ : ∃ k, K = k + 1 := ⟨K - 1, by omega⟩
     have vm : valF (a - 1) = 9007199254740991 * 2 ^ k := by
       rw [show a - 1 = k * 4503599627370496 + 9007199254740991 by omega]; exact valF_mk (by omega) (by omega)
     have v0' : valF a = 9007199254740992 * 2 ^ k := by rw [v0, hc.1, hk, Nat.pow_succ]; omega
     rw [v0', vm, pow_at (x := U + 1) (y := S) (x' := k) (y' := V + n) (by omega), show 9007199254740992 * 2 ^ k = 9007199254740991 * 2 ^ k + 2 ^ k by omega, Nat.add_mul]
   · have hn1 : n = 1 := by rw [hn]; unfold nearP; rw [if_neg hc]
     have vm : valF (a - 1) = (manP a - 1) * 2 ^ K := by
       rw [show a - 1 = K * 4503599627370496 + (manP a - 1) by omega]; exact valF_mk (by omega) (by omega)
     rw [v0, vm, pow_at (x := U + 1) (y := S) (x' := K) (y' := V + n) (by omega)]
     conv => rhs; rw [show manP a = (manP a - 1) + 1 by omega, Nat.add_mul, Nat.one_mul, Nat.add_mul]
 · show (((manP a % 2 : Nat) : Int) == 0) = true ↔ a % 2 = 0
   rw [beq_iff_eq]
   omega
section
variable {a S W q : Nat} (h0 : 0 < a) (ha : a < 9218868437227405312) (hS : S = 1074) (hq : 0 < q)
include h0 ha hS hq
theorem isRN_span : isRN (W * 2 ^ S) q a ↔
   (q * (openS a).r < W * (openS a).u + q * (openS a).b ∨ (q * (openS a).r = W * (openS a).u + q * (openS a).b ∧ a % 2 = 0)) ∧
   (W * (openS a).u < q * (openS a).r + q * (openS a).a ∨ (W * (openS a).u = q * (openS a).r + q * (openS a).a ∧ a % 2 = 0)) := by
 obtain ⟨K, C, hK, hC, -⟩ := cap_room
 obtain ⟨-, -, -, -, hu, -⟩ := openS_in h0 ha hK hC
 obtain ⟨f1, f2, f3, -⟩ := open_spec h0 ha hS
 have hT := Nat.two_pow_pos S
 unfold isRN
 generalize 2 ^ S = T at *
 generalize (openS a).r = r at *
 generalize (openS a).u = u at *
 generalize (openS a).a = x at *
 generalize (openS a).b = y at *
 generalize valF (a - 1) = F0 at *
 generalize valF a = F1 at *
 generalize valF (a + 1) = F2 at *
 have m1 : q * (F0 + F1) * u + 2 * ((q * y) * T) = 2 * ((q * r) * T) := by
   have : q * ((F0 * u + F1 * u) + 2 * y * T) = q * (2 * (r * T)) := by congr 1; omega
   rw [Nat.mul_add, ← Nat.add_mul, ← Nat.mul_assoc, Nat.mul_left_comm q 2, ← Nat.mul_assoc q r T] at this
   rw [← this, Nat.mul_assoc 2 y T, Nat.mul_left_comm q 2, ← Nat.mul_assoc q y T]
 have m2 : q * (F1 + F2) * u = 2 * ((q * r) * T) + 2 * ((q * x) * T) := by
   have : q * (F1 * u + F2 * u) = q * (2 * (r * T) + 2 * (x * T)) := by congr 1; rw [← f2, f1.symm, Nat.mul_assoc 2 x T]; omega
   have e : q * (2 * (r * T) + 2 * (x * T)) = 2 * (q * r * T) + 2 * (q * x * T) := by rw [Nat.mul_add, Nat.mul_left_comm q 2 (r * T), Nat.mul_left_comm q 2 (x * T), ← Nat.mul_assoc q r T, ← Nat.mul_assoc q x T]
   rw [e, ← Nat.add_mul, ← Nat.mul_assoc] at this
   exact this
 have m3 : 2 * (W * T) * u = 2 * ((W * u) * T) := by rw [Nat.mul_assoc, Nat.mul_right_comm]
 have a1 : ((q * r) * T < (W * u + q * y) * T ↔ q * r < W * u + q * y) := Nat.mul_lt_mul_right hT
 have a2 : ((W * u) * T < (q * r + q * x) * T ↔ W * u < q * r + q * x) := Nat.mul_lt_mul_right hT
 have a3 : ((q * r) * T = (W * u + q * y) * T ↔ q * r = W * u + q * y) := ⟨Nat.eq_of_mul_eq_mul_right hT, fun h => by rw [h]⟩
 have a4 : ((W * u) * T = (q * r + q * x) * T ↔ W * u = q * r + q * x) := ⟨Nat.eq_of_mul_eq_mul_right hT, fun h => by rw [h]⟩
 have b1 : (q * (F0 + F1) * u < 2 * (W * T) * u ↔ q * (F0 + F1) < 2 * (W * T)) := Nat.mul_lt_mul_right hu
 have b2 : (2 * (W * T) * u < q * (F1 + F2) * u ↔ 2 * (W * T) < q * (F1 + F2)) := Nat.mul_lt_mul_right hu
 have b3 : (q * (F0 + F1) * u = 2 * (W * T) * u ↔ q * (F0 + F1) = 2 * (W * T)) := ⟨Nat.eq_of_mul_eq_mul_right hu, fun h => by rw [h]⟩
 have b4 : (2 * (W * T) * u = q * (F1 + F2) * u ↔ 2 * (W * T) = q * (F1 + F2)) := ⟨Nat.eq_of_mul_eq_mul_right hu, fun h => by rw [h]⟩
 rw [Nat.add_mul] at a1 a2 a3 a4
 rw [← a1, ← a2, ← a3, ← a4, ← b1, ← b2, ← b3, ← b4]
 omega
end
theorem ofD_cons (c : UInt8) (l : Bytes) : ofD (c :: l) = (c.toNat - 48) * 10 ^ l.length + ofD l := by
 have h : ∀ (l : Bytes) (x : Nat), l.foldl (fun a c => a * 10 + (c.toNat - 48)) x = x * 10 ^ l.length + l.foldl (fun a c => a * 10 + (c.toNat - 48)) 0 := by
   intro l
   induction l with
   | nil => intro x; simp
   | cons c r ih =>
     intro x
     rw [List.foldl_cons, List.foldl_cons, ih, ih (0 * 10 + (c.toNat - 48)), List.length_cons, Nat.pow_succ, Nat.add_mul, Nat.mul_assoc x 10, Nat.mul_comm 10, Nat.zero_mul, Nat.zero_add, Nat.add_assoc]
 show l.foldl _ (0 * 10 + (c.toNat - 48)) = _
 rw [h, Nat.zero_mul, Nat.zero_add]
 rfl
theorem ofD_zeros (l : Bytes) : ofD (l.dropWhile (· == 48)) = ofD l := by
 induction l with
 | nil => rfl
 | cons c r ih =>
   rw [List.dropWhile_cons]
   split
   · next h =>
     have : c = 48 := by simpa using h
     rw [ih, ofD_cons, this]; simp
   · rfl
theorem ofD_lead {c : UInt8} {r : Bytes} (hc : 49 ≤ c.toNat) : 10 ^ r.length ≤ ofD (c :: r) := by
 rw [ofD_cons]
 have := Nat.mul_le_mul_right (10 ^ r.length) (show 1 ≤ c.toNat - 48 by omega)
 omega
structure Short (a S : Nat) (D : Bytes) (p : Int) (i j k M d : Nat) (Q : Bytes) : Prop where
  pow : p = (i : Int) - j
  cut : D = Q ++ [digC d]
  len : Q.length = k
  few : k < 20
  digs : ∀ c ∈ D, isDig c = true
  worth : ofD Q = M
  last : 1 ≤ d ∧ d ≤ 9
  lead : 0 < k → 10 ^ (k - 1) ≤ M
  near : isRN (ofD D * 10 ^ i * 2 ^ S) (10 ^ (j + k + 1)) a
  less : ¬ isRN (M * 10 ^ i * 2 ^ S) (10 ^ (j + k)) a
  more : ¬ isRN ((M + 1) * 10 ^ i * 2 ^ S) (10 ^ (j + k)) a
theorem open_more {a : Nat} (h0 : 0 < a) (ha : a < 9218868437227405312) : 0 < (openS a).b ∧ (openS a).b ≤ (openS a).a ∧ (openS a).a ≤ 2 * (openS a).b ∧ (openS a).r < 36028797018963968 * (openS a).b ∧ 2 * (openS a).b ≤ (openS a).r := by
 have q2 := manP_lt a
 have hm0 := manP_pos h0
 have hn12 := nearP_in a
 obtain ⟨U, hU⟩ : ∃ U, U = expP a - 1075 := ⟨_, rfl⟩
 have er : (openS a).r = manP a * 2 ^ (U + nearP a) := by rw [hU]; rfl
 have ea : (openS a).a = 2 ^ (U + nearP a - 1) := by rw [hU]; exact Nat.one_mul _
 have eb : (openS a).b = 2 ^ U := by rw [hU]; exact Nat.one_mul _
 have hp := Nat.two_pow_pos U
 rw [er, ea, eb]
 have hmul := Nat.mul_lt_mul_of_pos_right q2 hp
 have hmul2 := Nat.mul_le_mul_right (2 ^ U) hm0
 rcases hn12 with h | h <;> rw [h]
 · rw [show U + 1 - 1 = U by omega, Nat.pow_succ, ← Nat.mul_assoc]
   omega
 · rw [show U + 2 - 1 = U + 1 by omega, show (2 : Nat) ^ (U + 1) = 2 ^ U * 2 from Nat.pow_succ .., show (2 : Nat) ^ (U + 2) = 2 ^ U * 4 from by rw [Nat.pow_add], ← Nat.mul_assoc]
   omega
theorem short_spec {a S : Nat} (h0 : 0 < a) (ha : a < 9218868437227405312) (hS : S = 1074) : ∃ i j k M d Q, Short a S (shortP a).1 (shortP a).2 i j k M d Q := by
 obtain ⟨K, C, hK, hC, -⟩ := cap_room
 obtain ⟨-, -, -, -, hu, hr⟩ := openS_in h0 ha hK hC
 obtain ⟨hb, hba, hab, hrb, hbr⟩ := open_more h0 ha
 obtain ⟨-, -, -, hends⟩ := open_spec h0 ha hS
 obtain ⟨i, u1, u2⟩ := upF_spec ((openS a).r + (openS a).a + 1 - (openS a).u + 1) (openS a) 0 hu (by omega)
 have e1 : upS a = (upBy (openS a) i, (0 : Int) + (i : Int)) := u1
 obtain ⟨j, d1, d2, d3⟩ := dnF_spec ((upS a).1.u + 1 - (upS a).1.r) (upS a).1 (upS a).2 (by rw [e1]; exact hr) (by
   rw [e1]
   rw [high_f] at u2
   show (upBy (openS a) i).u - (upBy (openS a) i).r < (upBy (openS a) i).u + 1 - (upBy (openS a) i).r
   omega) (by rw [e1]; exact u2)
 have e2 : dnS a = (dnBy (upBy (openS a) i) j, (i : Int) - j) := by
   show dnF _ _ _ = _
   rw [d1, e1]
   refine Prod.ext rfl ?_
   show (0 : Int) + i - j = i - j
   omega
 rw [e1] at d2 d3
 have hp := Nat.pow_pos (a := 10) (n := j) (by decide)
 have hpi := Nat.pow_pos (a := 10) (n := i) (by decide)
 have hbj : 0 < (openS a).b * 10 ^ j := Nat.mul_pos hb hp
 have c1 := Nat.mul_le_mul_right (10 ^ j) hba
 have c2 := Nat.mul_le_mul_right (10 ^ j) hab
 have c3 := Nat.mul_lt_mul_of_pos_right hrb hp
 have c4 := Nat.mul_le_mul_right (10 ^ j) hbr
 rw [Nat.mul_assoc] at c2 c3 c4
 obtain ⟨k, M, r1, d, hk, h⟩ := gen_spec 20 (dnBy (upBy (openS a) i) j) [] (Nat.mul_pos hu hpi) hbj c1 (by
   rw [high_iff] at d3
   simp only [tenS, dnBy, upBy] at d3 ⊢
   omega) (by rw [low_f]; simp only [dnBy, upBy]; omega) d2
 obtain ⟨Q, q1, q2, q3⟩ := h.cut
 rw [show ofD [] = 0 from rfl, Nat.zero_mul, Nat.zero_add] at q3
 rw [List.length_nil, Nat.zero_add] at q2
 have hsp : shortP a = (genF 20 (dnBy (upBy (openS a) i) j) [], (i : Int) - j) := by unfold shortP; rw [e2]
 have hdg : ∀ c ∈ (shortP a).1, isDig c = true := by rw [hsp]; exact h.digs (fun c hc => by cases hc)
 have hD : (shortP a).1 = Q ++ [digC d] := by rw [hsp]; exact q1
 have hw : ofD (shortP a).1 = M * 10 + d := by rw [hD, ofD_app, (digC_dig (show d < 10 by have := h.dig; omega)).2, q3]; omega
 have hrest := h.rest
 have hlow := h.low
 have hhigh := h.high
 have hstop := h.stop
 have hless := h.less
 rw [low_f] at hlow
 rw [high_f] at hhigh
 simp only [dnBy, upBy] at hrest hlow hhigh hstop hless
 rw [hends] at hlow hhigh hstop
 have hq : ∀ n : Nat, 0 < 10 ^ n := fun n => Nat.pow_pos (by decide)
 obtain ⟨U, hU⟩ : ∃ U, U = (openS a).u * 10 ^ i := ⟨_, rfl⟩
 rw [← hU] at hrest hhigh hstop hless
 have hWu : ∀ N, N * 10 ^ i * (openS a).u = N * U := fun N => by rw [hU, Nat.mul_assoc, Nat.mul_comm (10 ^ i)]
 have hqx : ∀ n x, 10 ^ (j + n) * x = x * 10 ^ j * 10 ^ n := fun n x => by rw [Nat.mul_comm, Nat.pow_add, ← Nat.mul_assoc]
 refine ⟨i, j, k, M, d, Q, ⟨by rw [hsp], hD, q2, hk, hdg, q3, h.dig, ?_, ?_, ?_, ?_⟩⟩
 · intro hk0
   obtain ⟨n, rfl⟩ : ∃ n, k = n + 1 := ⟨k - 1, by omega⟩
   rw [Nat.add_sub_cancel]
   rw [high_iff] at d3
   simp only [tenS, dnBy, upBy] at d3
   rw [hends, ← hU] at d3
   generalize (openS a).r * 10 ^ j = R at *
   generalize (openS a).a * 10 ^ j = A at *
   have hU0 : 0 < U := by omega
   have hn := hq n
   have t1 : R * 10 ^ (n + 1) + A * 10 ^ (n + 1) = (R * 10 + A * 10) * 10 ^ n := by rw [Nat.pow_succ, Nat.mul_comm (10 ^ n), ← Nat.mul_assoc, ← Nat.mul_assoc, Nat.add_mul]
   have t2 : (M + 1) * U = M * U + U := Nat.succ_mul ..
   have t3 : U * 10 ^ n ≤ (R * 10 + A * 10) * 10 ^ n := Nat.mul_le_mul_right _ (by omega)
   have t4 : 10 ^ n * U ≤ (M + 1) * U := by rw [Nat.mul_comm]; omega
   have t5 := Nat.le_of_mul_le_mul_right t4 hU0
   rcases Nat.lt_or_ge M (10 ^ n) with z | z
   · have z1 : M + 1 = 10 ^ n := by omega
     rcases d3 with w | w
     · have t6 : U * 10 ^ n < (R * 10 + A * 10) * 10 ^ n := Nat.mul_lt_mul_of_pos_right w hn
       have t8 : (M + 1) * U < (R * 10 + A * 10) * 10 ^ n := by rw [z1, Nat.mul_comm]; exact t6
       omega
     · have t7 : (R * 10 + A * 10) * 10 ^ n = (M + 1) * U := by rw [w.1, z1, Nat.mul_comm]
       omega
   · exact z
 · rw [hw, isRN_span h0 ha hS (hq _), hWu, Nat.add_assoc, hqx, hqx, hqx]
   have e1 : (openS a).r * 10 ^ j * 10 ^ (k + 1) = 10 * (M * U) + 10 * r1 := by rw [Nat.pow_succ, ← Nat.mul_assoc, hrest]; omega
   have e2 : (M * 10 + d) * U = 10 * (M * U) + d * U := by rw [Nat.add_mul, Nat.mul_right_comm]; omega
   have e3 : 0 < (openS a).a * 10 ^ j * 10 ^ (k + 1) := Nat.mul_pos (Nat.mul_pos (by omega) hp) (hq _)
   have e4 : 0 < (openS a).b * 10 ^ j * 10 ^ (k + 1) := Nat.mul_pos hbj (hq _)
   rw [e1, e2]
   omega
 · rw [isRN_span h0 ha hS (hq _), hWu, hqx, hqx, hqx, hrest]
   omega
 · rw [isRN_span h0 ha hS (hq _), hWu, hqx, hqx, hqx, hrest, Nat.succ_mul]
   omega
end Go.Proofs.YtnhmmjogfkjceaaGreatDoor
