/-
  What the functions of numbers as texts do, step by step: each theorem is one function's contract. Conditions: those that each theorem names.
-/
import Derived.Test.YtnhmmjogfkjceaaGreatDoorProg
import Derived.Test.YtnhmmjogfkjceaaGreatDoorM4
import Derived.Test.YtnhmmjogfkjceaaGreatDoorM2
import Derived.Test.YtnhmmjogfkjceaaGreatDoorM3
set_option linter.unusedVariables false
set_option linter.unusedSimpArgs false
set_option maxRecDepth 100000
set_option maxHeartbeats 4000000
namespace Go.Proofs.YtnhmmjogfkjceaaGreatDoor
open Go.Sl

theorem str_RepeatZ {W0 : World} {σ : Heaplet} (s : List UInt8) {c : Int} (hc : 0 ≤ c ∧ c ≤ 1048576) (hs : s.length ≤ 1048576) : SC Tryz.prog W0 37 #[.string (bS s), .int .i64 c] σ (Ret (fun _ : Unit => σ) (fun v _ => v = .string (bS (Lib.repeatL s c.toNat)))) := by
 obtain ⟨n, rfl⟩ := Int.eq_ofNat_of_zero_le hc.1
 exact str_RepeatN s n (by omega) hs

theorem num_Print0 {W0 : World} (hL : LaidN W0) {a : Nat} (ha : a < 9223372036854775808) : SC Tryz.prog W0 14 #[.int .u64 (a : Int)] [] (Ret (fun _ : Unit => []) (fun v _ => v = .string (bS (printP0 a)) ∧ (printP0 a).length ≤ 5000)) := by
 refine SC_body (fn := Tryz.f14) (n := 93) Tryz.func14 rfl (by kernel_rfl) (ρ := [(0, .int .u64 (a : Int))]) rfl ?_
 have hka_ := kind_all a
 refine sr ?_
 refine os 1 ?_
 refine nq ?_
 refine SW_block ?_
 refine sr ?_
 refine os 1 ?_
 have his_ := num_IsNaN (W0 := W0) (a := a) (by omega)
 refine L (cl (his_) ?_)
 rintro v1 _ hv1
 obtain rfl : v1 = .bool (kindP a == 3) := hv1.trans (rfl)
 refine un ?_
 refine os 1 ?_
 refine nt ?_
 refine cd (fun hc1 : (kindP a == 3) = true => ?_) (fun hc1 => ?_)
 ·simp only [beq_iff_eq, bne_iff_ne, ne_eq, beq_eq_false_iff_ne, bne_eq_false_iff_eq, Classical.not_not] at hc1
  refine sr ?_
  refine os 1 ?_
  refine nt ?_
  refine SW_ret (r_in (r_then ?_))
  refine body_end (.string (bS [78, 97, 78])) (fun _ => rfl) ?_
  rw [show printP0 a = [78, 97, 78] from by unfold printP0; rw [if_pos (by omega)]]
  exact ⟨(), ow, rfl, by simp only [List.length_append, List.length_take, List.length_drop, List.length_cons, List.length_nil]; omega⟩
 simp only [beq_iff_eq, bne_iff_ne, ne_eq, beq_eq_false_iff_ne, bne_eq_false_iff_eq, Classical.not_not] at hc1
 refine sr ?_
 refine os 1 ?_
 have his_ := num_Equal0 (W0 := W0) (a := a) (by omega)
 refine L (cl (his_) ?_)
 rintro v2 _ hv2
 obtain rfl : v2 = .bool (kindP a == 0) := hv2.trans (rfl)
 refine un ?_
 refine os 1 ?_
 refine kp [9, 6, 2, 0] ?_
 refine nt ?_
 refine cd (fun hc2 : (kindP a == 0) = true => ?_) (fun hc2 => ?_)
 ·simp only [beq_iff_eq, bne_iff_ne, ne_eq, beq_eq_false_iff_ne, bne_eq_false_iff_eq, Classical.not_not] at hc2
  refine sr ?_
  refine os 1 ?_
  refine nt ?_
  refine SW_ret (r_in (r_then ?_))
  refine body_end (.string (bS [48])) (fun _ => rfl) ?_
  rw [show printP0 a = [48] from by unfold printP0; rw [if_neg (by omega), if_pos (by omega)]]
  exact ⟨(), ow, rfl, by simp only [List.length_append, List.length_take, List.length_drop, List.length_cons, List.length_nil]; omega⟩
 simp only [beq_iff_eq, bne_iff_ne, ne_eq, beq_eq_false_iff_ne, bne_eq_false_iff_eq, Classical.not_not] at hc2
 refine sr ?_
 refine os 3 ?_
 refine nt ?_
 refine SW_false (fun _ => (congrArg Value.bool (show (decide ((a : Int) ≥ 9223372036854775808)) = false from (decide_eq_false (by omega))))) ?_
 refine sr ?_
 refine os 1 ?_
 have his_ := num_IsInf (W0 := W0) (a := a) (by omega)
 refine L (cl (his_) ?_)
 rintro v3 _ hv3
 obtain rfl : v3 = .bool (kindP a == 2) := hv3.trans (rfl)
 refine un ?_
 refine os 1 ?_
 refine kp [19, 12, 9, 6, 2, 0] ?_
 refine nt ?_
 refine cd (fun hc3 : (kindP a == 2) = true => ?_) (fun hc3 => ?_)
 ·simp only [beq_iff_eq, bne_iff_ne, ne_eq, beq_eq_false_iff_ne, bne_eq_false_iff_eq, Classical.not_not] at hc3
  refine sr ?_
  refine os 1 ?_
  refine nt ?_
  refine SW_ret (r_in (r_then ?_))
  refine body_end (.string (bS [73, 110, 102, 105, 110, 105, 116, 121])) (fun _ => rfl) ?_
  rw [show printP0 a = [73, 110, 102, 105, 110, 105, 116, 121] from by unfold printP0; rw [if_neg (by omega), if_neg (by omega), if_pos (by omega)]]
  exact ⟨(), ow, rfl, by simp only [List.length_append, List.length_take, List.length_drop, List.length_cons, List.length_nil]; omega⟩
 simp only [beq_iff_eq, bne_iff_ne, ne_eq, beq_eq_false_iff_ne, bne_eq_false_iff_eq, Classical.not_not] at hc3
 refine SW_skip (n_in (n_then ?_))
 refine sr ?_
 refine os 1 ?_
 have hsh_ := num_shortest (W0 := W0) hL (a := a) (by omega) (by omega)
 obtain ⟨D, hD_⟩ : ∃ D, D = (shortP a).1 := ⟨_, rfl⟩
 obtain ⟨p, hp_⟩ : ∃ p, p = (shortP a).2 := ⟨_, rfl⟩
 rw [← hD_, ← hp_] at hsh_
 refine L (cl (hsh_) ?_)
 rintro _ _ ⟨rfl, hdl_, hpl_, hph_⟩
 refine un ?_
 refine os 5 ?_
 refine kp [4, 3, 19, 12, 9, 6, 2, 0] ?_
 refine nsr ?_
 refine os 1 ?_
 refine oX (.int .i64 ((bS D).size : Int)) (.int .i64 (D.length : Int)) (congrArg (fun n_ : Nat => Value.int .i64 (n_ : Int)) (bS_size _)) ?_
 refine os 1 ?_
 refine nq ?_
 refine SW_block ?_
 refine sr ?_
 refine os 4 ?_
 refine tbp 33 (fun hg4 => ?_) (fun hg4 => ?_)
 ·replace hg4 : p ≥ (D.length : Int) := hg4
  refine os 4 ?_
  refine kp [29, 5, 4, 3, 19, 12, 9, 6, 2, 0] ?_
  refine nt ?_
  refine cdp (fun hc5 : p ≤ 21 => ?_) (fun hc5 => ?_)
  ·refine sr ?_
   refine os 4 ?_
   have hrl_ : (Lib.repeatL [48] (p - (D.length : Int)).toNat).length ≤ 2000 := by rw [Lib.repeatL_length, show ([48] : List UInt8).length = 1 from rfl]; omega
   refine L (cl (str_RepeatZ [48] (c := p - (D.length : Int)) (by omega) (by decide)) ?_)
   rintro _ _ rfl
   refine un ?_
   refine oV (.string (bS (D ++ (Lib.repeatL [48] (p - (D.length : Int)).toNat)))) ?_ (hs := (fun δ w_ => run_catB D (Lib.repeatL [48] (p - (D.length : Int)).toNat) (by first | omega | simp only [List.length_append, List.length_take, List.length_drop, List.length_cons, List.length_nil]; omega) rfl rfl))
   refine os 1 ?_
   refine kp [2, 29, 5, 4, 3, 19, 12, 9, 6, 0] ?_
   refine nt ?_
   refine SW_ret (r_in (r_then ?_))
   refine body_end (.string (bS (D ++ (Lib.repeatL [48] (p - (D.length : Int)).toNat)))) (fun _ => rfl) ?_
   rw [show printP0 a = formP D p from by rw [hD_, hp_]; unfold printP0; rw [if_neg (by omega), if_neg (by omega), if_neg (by omega)]]
   rw [form_a (by omega) (by omega)]
   exact ⟨(), ow, rfl, by simp only [List.length_append, List.length_take, List.length_drop, List.length_cons, List.length_nil]; omega⟩
  refine sr ?_
  refine os 3 ?_
  refine tbp 46 (fun hg6 => ?_) (fun hg6 => ?_)
  ·replace hg6 : p > 0 := hg6
   refine os 4 ?_
   refine kp [43, 29, 5, 4, 3, 19, 12, 9, 6, 2, 0] ?_
   refine nt ?_
   refine cdp (fun hc7 : p ≤ 21 => ?_) (fun hc7 => ?_)
   ·refine SW_seq ?_
    refine SW_draw [] [] (by kernel_rfl) rd_nil ?_
    refine aS 0 ?_
    refine aS 1 ?_
    refine tk 2 (.string (bS (D.take (p).toNat))) ?_ (hy := fun δ w => run_strTo (l := D) p .i64 Tryz.underlying9 rfl rfl (by omega) (by omega))
    rw [show (p).toNat = p.toNat from by omega]
    refine tk 3 (.string (bS ((D.take p.toNat) ++ [46]))) ?_ (hy := (fun δ w_ => run_catB (D.take p.toNat) [46] (by first | omega | simp only [List.length_append, List.length_take, List.length_drop, List.length_cons, List.length_nil]; omega) rfl rfl))
    refine aS 4 ?_
    refine aS 5 ?_
    refine tk 6 (.string (bS (D.drop (p).toNat))) ?_ (hy := fun δ w => run_strFrom (l := D) p .i64 Tryz.underlying9 rfl rfl (by omega) (by omega))
    rw [show (p).toNat = p.toNat from by omega]
    refine tk 7 (.string (bS (((D.take p.toNat) ++ [46]) ++ (D.drop p.toNat)))) ?_ (hy := (fun δ w_ => run_catB ((D.take p.toNat) ++ [46]) (D.drop p.toNat) (by first | omega | simp only [List.length_append, List.length_take, List.length_drop, List.length_cons, List.length_nil]; omega) rfl rfl))
    refine aS 8 ?_
    refine kpA [2, 43, 29, 5, 4, 3, 19, 12, 9, 6, 0] ?_
    refine SA_done (by kernel_rfl) (n_then ?_)
    refine SW_ret (r_in (r_then ?_))
    refine body_end (.string (bS (((D.take p.toNat) ++ [46]) ++ (D.drop p.toNat)))) (fun _ => rfl) ?_
    rw [show printP0 a = formP D p from by rw [hD_, hp_]; unfold printP0; rw [if_neg (by omega), if_neg (by omega), if_neg (by omega)]]
    rw [form_b (by omega) (by omega) (by omega)]
    exact ⟨(), ow, rfl, by simp only [List.length_append, List.length_take, List.length_drop, List.length_cons, List.length_nil]; omega⟩
   refine sr ?_
   refine os 3 ?_
   refine tbp 61 (fun hg8 => ?_) (fun hg8 => ?_)
   ·replace hg8 : p > (-6) := hg8
    refine os 4 ?_
    refine kp [58, 43, 29, 5, 4, 3, 19, 12, 9, 6, 2, 0] ?_
    refine nt ?_
    refine cdp (fun hc9 : p ≤ 0 => ?_) (fun hc9 => ?_)
    ·refine sr ?_
     refine os 1 ?_
     refine oX (.int .i64 (IntKind.wrap .i64 (0 - p))) (.int .i64 (-p)) (congrArg (Value.int .i64) ((IntWalk.i64_in _ (by omega)).trans (Int.zero_sub _))) ?_
     have hrl_ : (Lib.repeatL [48] (-p).toNat).length ≤ 2000 := by rw [Lib.repeatL_length, show ([48] : List UInt8).length = 1 from rfl]; omega
     refine L (cl (str_RepeatZ [48] (c := -p) (by omega) (by decide)) ?_)
     rintro _ _ rfl
     refine un ?_
     refine oV (.string (bS ([48, 46] ++ (Lib.repeatL [48] (-p).toNat)))) ?_ (hs := (fun δ w_ => run_catB [48, 46] (Lib.repeatL [48] (-p).toNat) (by first | omega | simp only [List.length_append, List.length_take, List.length_drop, List.length_cons, List.length_nil]; omega) rfl rfl))
     refine os 1 ?_
     refine oV (.string (bS (([48, 46] ++ (Lib.repeatL [48] (-p).toNat)) ++ D))) ?_ (hs := (fun δ w_ => run_catB ([48, 46] ++ (Lib.repeatL [48] (-p).toNat)) D (by first | omega | simp only [List.length_append, List.length_take, List.length_drop, List.length_cons, List.length_nil]; omega) rfl rfl))
     refine os 1 ?_
     refine kp [2, 58, 43, 29, 5, 4, 3, 19, 12, 9, 6, 0] ?_
     refine nt ?_
     refine SW_ret (r_in (r_then ?_))
     refine body_end (.string (bS (([48, 46] ++ (Lib.repeatL [48] (-p).toNat)) ++ D))) (fun _ => rfl) ?_
     rw [show printP0 a = formP D p from by rw [hD_, hp_]; unfold printP0; rw [if_neg (by omega), if_neg (by omega), if_neg (by omega)]]
     rw [form_c (by omega) (by omega) (by omega)]
     exact ⟨(), ow, rfl, by simp only [List.length_append, List.length_take, List.length_drop, List.length_cons, List.length_nil]; omega⟩
    refine SW_skip (n_in (n_then ?_))
    refine SW_seq ?_
    refine sr ?_
    refine os 2 ?_
    refine nt ?_
    refine cdp (fun hc10 : (D.length : Int) > 1 => ?_) (fun hc10 => ?_)
    ·refine SW_draw [] [] (by kernel_rfl) rd_nil ?_
     refine aS 0 ?_
     refine tk 1 (.string (bS (D.take 1))) ?_ (hy := fun δ w => run_strTo (l := D) 1 .i64 Tryz.underlying9 rfl rfl (by omega) (by omega))
     refine tk 2 (.string (bS ((D.take 1) ++ [46]))) ?_ (hy := (fun δ w_ => run_catB (D.take 1) [46] (by first | omega | simp only [List.length_append, List.length_take, List.length_drop, List.length_cons, List.length_nil]; omega) rfl rfl))
     refine aS 3 ?_
     refine tk 4 (.string (bS (D.drop 1))) ?_ (hy := fun δ w => run_strFrom (l := D) 1 .i64 Tryz.underlying9 rfl rfl (by omega) (by omega))
     refine tk 5 (.string (bS (((D.take 1) ++ [46]) ++ (D.drop 1)))) ?_ (hy := (fun δ w_ => run_catB ((D.take 1) ++ [46]) (D.drop 1) (by first | omega | simp only [List.length_append, List.length_take, List.length_drop, List.length_cons, List.length_nil]; omega) rfl rfl))
     refine aS 6 ?_
     refine SA_done (by kernel_rfl) (n_then ?_)
     refine SW_seq ?_
     refine sr ?_
     refine os 2 ?_
     refine kp [80, 3, 72, 58, 43, 29, 5, 4, 19, 12, 9, 6, 2, 0] ?_
     refine nt ?_
     refine cdp (fun hc11 : p > 0 => ?_) (fun hc11 => ?_)
     ·refine sr ?_
      refine os 1 ?_
      refine oV (.string (bS ((((D.take 1) ++ [46]) ++ (D.drop 1)) ++ [101, 43]))) ?_ (hs := (fun δ w_ => run_catB (((D.take 1) ++ [46]) ++ (D.drop 1)) [101, 43] (by first | omega | simp only [List.length_append, List.length_take, List.length_drop, List.length_cons, List.length_nil]; omega) rfl rfl))
      refine os 2 ?_
      have hil_ := Lib.itoa_length_le (p - 1) (by omega) (by omega)
      refine L (cl (str_ItoaN hL (p - 1) (by omega)) ?_)
      rintro _ _ rfl
      refine un ?_
      refine oV (.string (bS (((((D.take 1) ++ [46]) ++ (D.drop 1)) ++ [101, 43]) ++ (Lib.itoa (p - 1))))) ?_ (hs := (fun δ w_ => run_catB ((((D.take 1) ++ [46]) ++ (D.drop 1)) ++ [101, 43]) (Lib.itoa (p - 1)) (by first | omega | simp only [List.length_append, List.length_take, List.length_drop, List.length_cons, List.length_nil]; omega) rfl rfl))
      refine os 1 ?_
      refine kp [2, 80, 3, 72, 58, 43, 29, 5, 4, 19, 12, 9, 6, 0] ?_
      refine nt ?_
      refine SW_ret (r_then ?_)
      refine body_end (.string (bS (((((D.take 1) ++ [46]) ++ (D.drop 1)) ++ [101, 43]) ++ (Lib.itoa (p - 1))))) (fun _ => rfl) ?_
      rw [show printP0 a = formP D p from by rw [hD_, hp_]; unfold printP0; rw [if_neg (by omega), if_neg (by omega), if_neg (by omega)]]
      rw [form_d (by omega) (by omega) (by omega) (by omega), expo_t (by omega)]
      exact ⟨(), ow, rfl, by simp only [List.length_append, List.length_take, List.length_drop, List.length_cons, List.length_nil]; omega⟩
     refine SW_skip (n_then ?_)
     refine sr ?_
     refine os 1 ?_
     refine oV (.string (bS ((((D.take 1) ++ [46]) ++ (D.drop 1)) ++ [101]))) ?_ (hs := (fun δ w_ => run_catB (((D.take 1) ++ [46]) ++ (D.drop 1)) [101] (by first | omega | simp only [List.length_append, List.length_take, List.length_drop, List.length_cons, List.length_nil]; omega) rfl rfl))
     refine os 2 ?_
     have hil_ := Lib.itoa_length_le (p - 1) (by omega) (by omega)
     refine L (cl (str_ItoaN hL (p - 1) (by omega)) ?_)
     rintro _ _ rfl
     refine un ?_
     refine oV (.string (bS (((((D.take 1) ++ [46]) ++ (D.drop 1)) ++ [101]) ++ (Lib.itoa (p - 1))))) ?_ (hs := (fun δ w_ => run_catB ((((D.take 1) ++ [46]) ++ (D.drop 1)) ++ [101]) (Lib.itoa (p - 1)) (by first | omega | simp only [List.length_append, List.length_take, List.length_drop, List.length_cons, List.length_nil]; omega) rfl rfl))
     refine os 1 ?_
     refine kp [2, 80, 3, 72, 58, 43, 29, 5, 4, 19, 12, 9, 6, 0] ?_
     refine nt ?_
     refine SW_ret ?_
     refine body_end (.string (bS (((((D.take 1) ++ [46]) ++ (D.drop 1)) ++ [101]) ++ (Lib.itoa (p - 1))))) (fun _ => rfl) ?_
     rw [show printP0 a = formP D p from by rw [hD_, hp_]; unfold printP0; rw [if_neg (by omega), if_neg (by omega), if_neg (by omega)]]
     rw [form_e (by omega) (by omega) (by omega) (by omega), expo_t (by omega)]
     exact ⟨(), ow, rfl, by simp only [List.length_append, List.length_take, List.length_drop, List.length_cons, List.length_nil]; omega⟩
    refine SW_skip (n_then ?_)
    refine SW_seq ?_
    refine sr ?_
    refine os 2 ?_
    refine nt ?_
    refine cdp (fun hc12 : p > 0 => ?_) (fun hc12 => ?_)
    ·refine sr ?_
     refine os 1 ?_
     refine oV (.string (bS (D ++ [101, 43]))) ?_ (hs := (fun δ w_ => run_catB D [101, 43] (by first | omega | simp only [List.length_append, List.length_take, List.length_drop, List.length_cons, List.length_nil]; omega) rfl rfl))
     refine os 2 ?_
     have hil_ := Lib.itoa_length_le (p - 1) (by omega) (by omega)
     refine L (cl (str_ItoaN hL (p - 1) (by omega)) ?_)
     rintro _ _ rfl
     refine un ?_
     refine oV (.string (bS ((D ++ [101, 43]) ++ (Lib.itoa (p - 1))))) ?_ (hs := (fun δ w_ => run_catB (D ++ [101, 43]) (Lib.itoa (p - 1)) (by first | omega | simp only [List.length_append, List.length_take, List.length_drop, List.length_cons, List.length_nil]; omega) rfl rfl))
     refine os 1 ?_
     refine kp [2, 80, 72, 58, 43, 29, 5, 4, 3, 19, 12, 9, 6, 0] ?_
     refine nt ?_
     refine SW_ret (r_then ?_)
     refine body_end (.string (bS ((D ++ [101, 43]) ++ (Lib.itoa (p - 1))))) (fun _ => rfl) ?_
     rw [show printP0 a = formP D p from by rw [hD_, hp_]; unfold printP0; rw [if_neg (by omega), if_neg (by omega), if_neg (by omega)]]
     rw [form_d (by omega) (by omega) (by omega) (by omega), expo_f (by omega)]
     exact ⟨(), ow, rfl, by simp only [List.length_append, List.length_take, List.length_drop, List.length_cons, List.length_nil]; omega⟩
    refine SW_skip (n_then ?_)
    refine sr ?_
    refine os 1 ?_
    refine oV (.string (bS (D ++ [101]))) ?_ (hs := (fun δ w_ => run_catB D [101] (by first | omega | simp only [List.length_append, List.length_take, List.length_drop, List.length_cons, List.length_nil]; omega) rfl rfl))
    refine os 2 ?_
    have hil_ := Lib.itoa_length_le (p - 1) (by omega) (by omega)
    refine L (cl (str_ItoaN hL (p - 1) (by omega)) ?_)
    rintro _ _ rfl
    refine un ?_
    refine oV (.string (bS ((D ++ [101]) ++ (Lib.itoa (p - 1))))) ?_ (hs := (fun δ w_ => run_catB (D ++ [101]) (Lib.itoa (p - 1)) (by first | omega | simp only [List.length_append, List.length_take, List.length_drop, List.length_cons, List.length_nil]; omega) rfl rfl))
    refine os 1 ?_
    refine kp [2, 80, 72, 58, 43, 29, 5, 4, 3, 19, 12, 9, 6, 0] ?_
    refine nt ?_
    refine SW_ret ?_
    refine body_end (.string (bS ((D ++ [101]) ++ (Lib.itoa (p - 1))))) (fun _ => rfl) ?_
    rw [show printP0 a = formP D p from by rw [hD_, hp_]; unfold printP0; rw [if_neg (by omega), if_neg (by omega), if_neg (by omega)]]
    rw [form_e (by omega) (by omega) (by omega) (by omega), expo_f (by omega)]
    exact ⟨(), ow, rfl, by simp only [List.length_append, List.length_take, List.length_drop, List.length_cons, List.length_nil]; omega⟩
   replace hg8 : ¬ (p > (-6)) := hg8
   refine os 4 ?_
   refine kp [58, 43, 29, 5, 4, 3, 19, 12, 9, 6, 2, 0] ?_
   refine nt ?_
   refine cf ?_
   refine SW_skip (n_in (n_then ?_))
   refine SW_seq ?_
   refine sr ?_
   refine os 2 ?_
   refine nt ?_
   refine cdp (fun hc13 : (D.length : Int) > 1 => ?_) (fun hc13 => ?_)
   ·refine SW_draw [] [] (by kernel_rfl) rd_nil ?_
    refine aS 0 ?_
    refine tk 1 (.string (bS (D.take 1))) ?_ (hy := fun δ w => run_strTo (l := D) 1 .i64 Tryz.underlying9 rfl rfl (by omega) (by omega))
    refine tk 2 (.string (bS ((D.take 1) ++ [46]))) ?_ (hy := (fun δ w_ => run_catB (D.take 1) [46] (by first | omega | simp only [List.length_append, List.length_take, List.length_drop, List.length_cons, List.length_nil]; omega) rfl rfl))
    refine aS 3 ?_
    refine tk 4 (.string (bS (D.drop 1))) ?_ (hy := fun δ w => run_strFrom (l := D) 1 .i64 Tryz.underlying9 rfl rfl (by omega) (by omega))
    refine tk 5 (.string (bS (((D.take 1) ++ [46]) ++ (D.drop 1)))) ?_ (hy := (fun δ w_ => run_catB ((D.take 1) ++ [46]) (D.drop 1) (by first | omega | simp only [List.length_append, List.length_take, List.length_drop, List.length_cons, List.length_nil]; omega) rfl rfl))
    refine aS 6 ?_
    refine SA_done (by kernel_rfl) (n_then ?_)
    refine SW_seq ?_
    refine sr ?_
    refine os 2 ?_
    refine kp [80, 3, 72, 58, 43, 29, 5, 4, 19, 12, 9, 6, 2, 0] ?_
    refine nt ?_
    refine cdp (fun hc14 : p > 0 => ?_) (fun hc14 => ?_)
    ·refine sr ?_
     refine os 1 ?_
     refine oV (.string (bS ((((D.take 1) ++ [46]) ++ (D.drop 1)) ++ [101, 43]))) ?_ (hs := (fun δ w_ => run_catB (((D.take 1) ++ [46]) ++ (D.drop 1)) [101, 43] (by first | omega | simp only [List.length_append, List.length_take, List.length_drop, List.length_cons, List.length_nil]; omega) rfl rfl))
     refine os 2 ?_
     have hil_ := Lib.itoa_length_le (p - 1) (by omega) (by omega)
     refine L (cl (str_ItoaN hL (p - 1) (by omega)) ?_)
     rintro _ _ rfl
     refine un ?_
     refine oV (.string (bS (((((D.take 1) ++ [46]) ++ (D.drop 1)) ++ [101, 43]) ++ (Lib.itoa (p - 1))))) ?_ (hs := (fun δ w_ => run_catB ((((D.take 1) ++ [46]) ++ (D.drop 1)) ++ [101, 43]) (Lib.itoa (p - 1)) (by first | omega | simp only [List.length_append, List.length_take, List.length_drop, List.length_cons, List.length_nil]; omega) rfl rfl))
     refine os 1 ?_
     refine kp [2, 80, 3, 72, 58, 43, 29, 5, 4, 19, 12, 9, 6, 0] ?_
     refine nt ?_
     refine SW_ret (r_then ?_)
     refine body_end (.string (bS (((((D.take 1) ++ [46]) ++ (D.drop 1)) ++ [101, 43]) ++ (Lib.itoa (p - 1))))) (fun _ => rfl) ?_
     rw [show printP0 a = formP D p from by rw [hD_, hp_]; unfold printP0; rw [if_neg (by omega), if_neg (by omega), if_neg (by omega)]]
     rw [form_d (by omega) (by omega) (by omega) (by omega), expo_t (by omega)]
     exact ⟨(), ow, rfl, by simp only [List.length_append, List.length_take, List.length_drop, List.length_cons, List.length_nil]; omega⟩
    refine SW_skip (n_then ?_)
    refine sr ?_
    refine os 1 ?_
    refine oV (.string (bS ((((D.take 1) ++ [46]) ++ (D.drop 1)) ++ [101]))) ?_ (hs := (fun δ w_ => run_catB (((D.take 1) ++ [46]) ++ (D.drop 1)) [101] (by first | omega | simp only [List.length_append, List.length_take, List.length_drop, List.length_cons, List.length_nil]; omega) rfl rfl))
    refine os 2 ?_
    have hil_ := Lib.itoa_length_le (p - 1) (by omega) (by omega)
    refine L (cl (str_ItoaN hL (p - 1) (by omega)) ?_)
    rintro _ _ rfl
    refine un ?_
    refine oV (.string (bS (((((D.take 1) ++ [46]) ++ (D.drop 1)) ++ [101]) ++ (Lib.itoa (p - 1))))) ?_ (hs := (fun δ w_ => run_catB ((((D.take 1) ++ [46]) ++ (D.drop 1)) ++ [101]) (Lib.itoa (p - 1)) (by first | omega | simp only [List.length_append, List.length_take, List.length_drop, List.length_cons, List.length_nil]; omega) rfl rfl))
    refine os 1 ?_
    refine kp [2, 80, 3, 72, 58, 43, 29, 5, 4, 19, 12, 9, 6, 0] ?_
    refine nt ?_
    refine SW_ret ?_
    refine body_end (.string (bS (((((D.take 1) ++ [46]) ++ (D.drop 1)) ++ [101]) ++ (Lib.itoa (p - 1))))) (fun _ => rfl) ?_
    rw [show printP0 a = formP D p from by rw [hD_, hp_]; unfold printP0; rw [if_neg (by omega), if_neg (by omega), if_neg (by omega)]]
    rw [form_e (by omega) (by omega) (by omega) (by omega), expo_t (by omega)]
    exact ⟨(), ow, rfl, by simp only [List.length_append, List.length_take, List.length_drop, List.length_cons, List.length_nil]; omega⟩
   refine SW_skip (n_then ?_)
   refine SW_seq ?_
   refine sr ?_
   refine os 2 ?_
   refine nt ?_
   refine cdp (fun hc15 : p > 0 => ?_) (fun hc15 => ?_)
   ·refine sr ?_
    refine os 1 ?_
    refine oV (.string (bS (D ++ [101, 43]))) ?_ (hs := (fun δ w_ => run_catB D [101, 43] (by first | omega | simp only [List.length_append, List.length_take, List.length_drop, List.length_cons, List.length_nil]; omega) rfl rfl))
    refine os 2 ?_
    have hil_ := Lib.itoa_length_le (p - 1) (by omega) (by omega)
    refine L (cl (str_ItoaN hL (p - 1) (by omega)) ?_)
    rintro _ _ rfl
    refine un ?_
    refine oV (.string (bS ((D ++ [101, 43]) ++ (Lib.itoa (p - 1))))) ?_ (hs := (fun δ w_ => run_catB (D ++ [101, 43]) (Lib.itoa (p - 1)) (by first | omega | simp only [List.length_append, List.length_take, List.length_drop, List.length_cons, List.length_nil]; omega) rfl rfl))
    refine os 1 ?_
    refine kp [2, 80, 72, 58, 43, 29, 5, 4, 3, 19, 12, 9, 6, 0] ?_
    refine nt ?_
    refine SW_ret (r_then ?_)
    refine body_end (.string (bS ((D ++ [101, 43]) ++ (Lib.itoa (p - 1))))) (fun _ => rfl) ?_
    rw [show printP0 a = formP D p from by rw [hD_, hp_]; unfold printP0; rw [if_neg (by omega), if_neg (by omega), if_neg (by omega)]]
    rw [form_d (by omega) (by omega) (by omega) (by omega), expo_f (by omega)]
    exact ⟨(), ow, rfl, by simp only [List.length_append, List.length_take, List.length_drop, List.length_cons, List.length_nil]; omega⟩
   refine SW_skip (n_then ?_)
   refine sr ?_
   refine os 1 ?_
   refine oV (.string (bS (D ++ [101]))) ?_ (hs := (fun δ w_ => run_catB D [101] (by first | omega | simp only [List.length_append, List.length_take, List.length_drop, List.length_cons, List.length_nil]; omega) rfl rfl))
   refine os 2 ?_
   have hil_ := Lib.itoa_length_le (p - 1) (by omega) (by omega)
   refine L (cl (str_ItoaN hL (p - 1) (by omega)) ?_)
   rintro _ _ rfl
   refine un ?_
   refine oV (.string (bS ((D ++ [101]) ++ (Lib.itoa (p - 1))))) ?_ (hs := (fun δ w_ => run_catB (D ++ [101]) (Lib.itoa (p - 1)) (by first | omega | simp only [List.length_append, List.length_take, List.length_drop, List.length_cons, List.length_nil]; omega) rfl rfl))
   refine os 1 ?_
   refine kp [2, 80, 72, 58, 43, 29, 5, 4, 3, 19, 12, 9, 6, 0] ?_
   refine nt ?_
   refine SW_ret ?_
   refine body_end (.string (bS ((D ++ [101]) ++ (Lib.itoa (p - 1))))) (fun _ => rfl) ?_
   rw [show printP0 a = formP D p from by rw [hD_, hp_]; unfold printP0; rw [if_neg (by omega), if_neg (by omega), if_neg (by omega)]]
   rw [form_e (by omega) (by omega) (by omega) (by omega), expo_f (by omega)]
   exact ⟨(), ow, rfl, by simp only [List.length_append, List.length_take, List.length_drop, List.length_cons, List.length_nil]; omega⟩
  replace hg6 : ¬ (p > 0) := hg6
  refine os 4 ?_
  refine kp [43, 29, 5, 4, 3, 19, 12, 9, 6, 2, 0] ?_
  refine nt ?_
  refine cf ?_
  refine sr ?_
  refine os 3 ?_
  refine tbp 61 (fun hg16 => ?_) (fun hg16 => ?_)
  ·replace hg16 : p > (-6) := hg16
   refine os 4 ?_
   refine kp [58, 43, 29, 5, 4, 3, 19, 12, 9, 6, 2, 0] ?_
   refine nt ?_
   refine cdp (fun hc17 : p ≤ 0 => ?_) (fun hc17 => ?_)
   ·refine sr ?_
    refine os 1 ?_
    refine oX (.int .i64 (IntKind.wrap .i64 (0 - p))) (.int .i64 (-p)) (congrArg (Value.int .i64) ((IntWalk.i64_in _ (by omega)).trans (Int.zero_sub _))) ?_
    have hrl_ : (Lib.repeatL [48] (-p).toNat).length ≤ 2000 := by rw [Lib.repeatL_length, show ([48] : List UInt8).length = 1 from rfl]; omega
    refine L (cl (str_RepeatZ [48] (c := -p) (by omega) (by decide)) ?_)
    rintro _ _ rfl
    refine un ?_
    refine oV (.string (bS ([48, 46] ++ (Lib.repeatL [48] (-p).toNat)))) ?_ (hs := (fun δ w_ => run_catB [48, 46] (Lib.repeatL [48] (-p).toNat) (by first | omega | simp only [List.length_append, List.length_take, List.length_drop, List.length_cons, List.length_nil]; omega) rfl rfl))
    refine os 1 ?_
    refine oV (.string (bS (([48, 46] ++ (Lib.repeatL [48] (-p).toNat)) ++ D))) ?_ (hs := (fun δ w_ => run_catB ([48, 46] ++ (Lib.repeatL [48] (-p).toNat)) D (by first | omega | simp only [List.length_append, List.length_take, List.length_drop, List.length_cons, List.length_nil]; omega) rfl rfl))
    refine os 1 ?_
    refine kp [2, 58, 43, 29, 5, 4, 3, 19, 12, 9, 6, 0] ?_
    refine nt ?_
    refine SW_ret (r_in (r_then ?_))
    refine body_end (.string (bS (([48, 46] ++ (Lib.repeatL [48] (-p).toNat)) ++ D))) (fun _ => rfl) ?_
    rw [show printP0 a = formP D p from by rw [hD_, hp_]; unfold printP0; rw [if_neg (by omega), if_neg (by omega), if_neg (by omega)]]
    rw [form_c (by omega) (by omega) (by omega)]
    exact ⟨(), ow, rfl, by simp only [List.length_append, List.length_take, List.length_drop, List.length_cons, List.length_nil]; omega⟩
   refine SW_skip (n_in (n_then ?_))
   refine SW_seq ?_
   refine sr ?_
   refine os 2 ?_
   refine nt ?_
   refine cdp (fun hc18 : (D.length : Int) > 1 => ?_) (fun hc18 => ?_)
   ·refine SW_draw [] [] (by kernel_rfl) rd_nil ?_
    refine aS 0 ?_
    refine tk 1 (.string (bS (D.take 1))) ?_ (hy := fun δ w => run_strTo (l := D) 1 .i64 Tryz.underlying9 rfl rfl (by omega) (by omega))
    refine tk 2 (.string (bS ((D.take 1) ++ [46]))) ?_ (hy := (fun δ w_ => run_catB (D.take 1) [46] (by first | omega | simp only [List.length_append, List.length_take, List.length_drop, List.length_cons, List.length_nil]; omega) rfl rfl))
    refine aS 3 ?_
    refine tk 4 (.string (bS (D.drop 1))) ?_ (hy := fun δ w => run_strFrom (l := D) 1 .i64 Tryz.underlying9 rfl rfl (by omega) (by omega))
    refine tk 5 (.string (bS (((D.take 1) ++ [46]) ++ (D.drop 1)))) ?_ (hy := (fun δ w_ => run_catB ((D.take 1) ++ [46]) (D.drop 1) (by first | omega | simp only [List.length_append, List.length_take, List.length_drop, List.length_cons, List.length_nil]; omega) rfl rfl))
    refine aS 6 ?_
    refine SA_done (by kernel_rfl) (n_then ?_)
    refine SW_seq ?_
    refine sr ?_
    refine os 2 ?_
    refine kp [80, 3, 72, 58, 43, 29, 5, 4, 19, 12, 9, 6, 2, 0] ?_
    refine nt ?_
    refine cdp (fun hc19 : p > 0 => ?_) (fun hc19 => ?_)
    ·refine sr ?_
     refine os 1 ?_
     refine oV (.string (bS ((((D.take 1) ++ [46]) ++ (D.drop 1)) ++ [101, 43]))) ?_ (hs := (fun δ w_ => run_catB (((D.take 1) ++ [46]) ++ (D.drop 1)) [101, 43] (by first | omega | simp only [List.length_append, List.length_take, List.length_drop, List.length_cons, List.length_nil]; omega) rfl rfl))
     refine os 2 ?_
     have hil_ := Lib.itoa_length_le (p - 1) (by omega) (by omega)
     refine L (cl (str_ItoaN hL (p - 1) (by omega)) ?_)
     rintro _ _ rfl
     refine un ?_
     refine oV (.string (bS (((((D.take 1) ++ [46]) ++ (D.drop 1)) ++ [101, 43]) ++ (Lib.itoa (p - 1))))) ?_ (hs := (fun δ w_ => run_catB ((((D.take 1) ++ [46]) ++ (D.drop 1)) ++ [101, 43]) (Lib.itoa (p - 1)) (by first | omega | simp only [List.length_append, List.length_take, List.length_drop, List.length_cons, List.length_nil]; omega) rfl rfl))
     refine os 1 ?_
     refine kp [2, 80, 3, 72, 58, 43, 29, 5, 4, 19, 12, 9, 6, 0] ?_
     refine nt ?_
     refine SW_ret (r_then ?_)
     refine body_end (.string (bS (((((D.take 1) ++ [46]) ++ (D.drop 1)) ++ [101, 43]) ++ (Lib.itoa (p - 1))))) (fun _ => rfl) ?_
     rw [show printP0 a = formP D p from by rw [hD_, hp_]; unfold printP0; rw [if_neg (by omega), if_neg (by omega), if_neg (by omega)]]
     rw [form_d (by omega) (by omega) (by omega) (by omega), expo_t (by omega)]
     exact ⟨(), ow, rfl, by simp only [List.length_append, List.length_take, List.length_drop, List.length_cons, List.length_nil]; omega⟩
    refine SW_skip (n_then ?_)
    refine sr ?_
    refine os 1 ?_
    refine oV (.string (bS ((((D.take 1) ++ [46]) ++ (D.drop 1)) ++ [101]))) ?_ (hs := (fun δ w_ => run_catB (((D.take 1) ++ [46]) ++ (D.drop 1)) [101] (by first | omega | simp only [List.length_append, List.length_take, List.length_drop, List.length_cons, List.length_nil]; omega) rfl rfl))
    refine os 2 ?_
    have hil_ := Lib.itoa_length_le (p - 1) (by omega) (by omega)
    refine L (cl (str_ItoaN hL (p - 1) (by omega)) ?_)
    rintro _ _ rfl
    refine un ?_
    refine oV (.string (bS (((((D.take 1) ++ [46]) ++ (D.drop 1)) ++ [101]) ++ (Lib.itoa (p - 1))))) ?_ (hs := (fun δ w_ => run_catB ((((D.take 1) ++ [46]) ++ (D.drop 1)) ++ [101]) (Lib.itoa (p - 1)) (by first | omega | simp only [List.length_append, List.length_take, List.length_drop, List.length_cons, List.length_nil]; omega) rfl rfl))
    refine os 1 ?_
    refine kp [2, 80, 3, 72, 58, 43, 29, 5, 4, 19, 12, 9, 6, 0] ?_
    refine nt ?_
    refine SW_ret ?_
    refine body_end (.string (bS (((((D.take 1) ++ [46]) ++ (D.drop 1)) ++ [101]) ++ (Lib.itoa (p - 1))))) (fun _ => rfl) ?_
    rw [show printP0 a = formP D p from by rw [hD_, hp_]; unfold printP0; rw [if_neg (by omega), if_neg (by omega), if_neg (by omega)]]
    rw [form_e (by omega) (by omega) (by omega) (by omega), expo_t (by omega)]
    exact ⟨(), ow, rfl, by simp only [List.length_append, List.length_take, List.length_drop, List.length_cons, List.length_nil]; omega⟩
   refine SW_skip (n_then ?_)
   refine SW_seq ?_
   refine sr ?_
   refine os 2 ?_
   refine nt ?_
   refine cdp (fun hc20 : p > 0 => ?_) (fun hc20 => ?_)
   ·refine sr ?_
    refine os 1 ?_
    refine oV (.string (bS (D ++ [101, 43]))) ?_ (hs := (fun δ w_ => run_catB D [101, 43] (by first | omega | simp only [List.length_append, List.length_take, List.length_drop, List.length_cons, List.length_nil]; omega) rfl rfl))
    refine os 2 ?_
    have hil_ := Lib.itoa_length_le (p - 1) (by omega) (by omega)
    refine L (cl (str_ItoaN hL (p - 1) (by omega)) ?_)
    rintro _ _ rfl
    refine un ?_
    refine oV (.string (bS ((D ++ [101, 43]) ++ (Lib.itoa (p - 1))))) ?_ (hs := (fun δ w_ => run_catB (D ++ [101, 43]) (Lib.itoa (p - 1)) (by first | omega | simp only [List.length_append, List.length_take, List.length_drop, List.length_cons, List.length_nil]; omega) rfl rfl))
    refine os 1 ?_
    refine kp [2, 80, 72, 58, 43, 29, 5, 4, 3, 19, 12, 9, 6, 0] ?_
    refine nt ?_
    refine SW_ret (r_then ?_)
    refine body_end (.string (bS ((D ++ [101, 43]) ++ (Lib.itoa (p - 1))))) (fun _ => rfl) ?_
    rw [show printP0 a = formP D p from by rw [hD_, hp_]; unfold printP0; rw [if_neg (by omega), if_neg (by omega), if_neg (by omega)]]
    rw [form_d (by omega) (by omega) (by omega) (by omega), expo_f (by omega)]
    exact ⟨(), ow, rfl, by simp only [List.length_append, List.length_take, List.length_drop, List.length_cons, List.length_nil]; omega⟩
   refine SW_skip (n_then ?_)
   refine sr ?_
   refine os 1 ?_
   refine oV (.string (bS (D ++ [101]))) ?_ (hs := (fun δ w_ => run_catB D [101] (by first | omega | simp only [List.length_append, List.length_take, List.length_drop, List.length_cons, List.length_nil]; omega) rfl rfl))
   refine os 2 ?_
   have hil_ := Lib.itoa_length_le (p - 1) (by omega) (by omega)
   refine L (cl (str_ItoaN hL (p - 1) (by omega)) ?_)
   rintro _ _ rfl
   refine un ?_
   refine oV (.string (bS ((D ++ [101]) ++ (Lib.itoa (p - 1))))) ?_ (hs := (fun δ w_ => run_catB (D ++ [101]) (Lib.itoa (p - 1)) (by first | omega | simp only [List.length_append, List.length_take, List.length_drop, List.length_cons, List.length_nil]; omega) rfl rfl))
   refine os 1 ?_
   refine kp [2, 80, 72, 58, 43, 29, 5, 4, 3, 19, 12, 9, 6, 0] ?_
   refine nt ?_
   refine SW_ret ?_
   refine body_end (.string (bS ((D ++ [101]) ++ (Lib.itoa (p - 1))))) (fun _ => rfl) ?_
   rw [show printP0 a = formP D p from by rw [hD_, hp_]; unfold printP0; rw [if_neg (by omega), if_neg (by omega), if_neg (by omega)]]
   rw [form_e (by omega) (by omega) (by omega) (by omega), expo_f (by omega)]
   exact ⟨(), ow, rfl, by simp only [List.length_append, List.length_take, List.length_drop, List.length_cons, List.length_nil]; omega⟩
  replace hg16 : ¬ (p > (-6)) := hg16
  refine os 4 ?_
  refine kp [58, 43, 29, 5, 4, 3, 19, 12, 9, 6, 2, 0] ?_
  refine nt ?_
  refine cf ?_
  refine SW_skip (n_in (n_then ?_))
  refine SW_seq ?_
  refine sr ?_
  refine os 2 ?_
  refine nt ?_
  refine cdp (fun hc21 : (D.length : Int) > 1 => ?_) (fun hc21 => ?_)
  ·refine SW_draw [] [] (by kernel_rfl) rd_nil ?_
   refine aS 0 ?_
   refine tk 1 (.string (bS (D.take 1))) ?_ (hy := fun δ w => run_strTo (l := D) 1 .i64 Tryz.underlying9 rfl rfl (by omega) (by omega))
   refine tk 2 (.string (bS ((D.take 1) ++ [46]))) ?_ (hy := (fun δ w_ => run_catB (D.take 1) [46] (by first | omega | simp only [List.length_append, List.length_take, List.length_drop, List.length_cons, List.length_nil]; omega) rfl rfl))
   refine aS 3 ?_
   refine tk 4 (.string (bS (D.drop 1))) ?_ (hy := fun δ w => run_strFrom (l := D) 1 .i64 Tryz.underlying9 rfl rfl (by omega) (by omega))
   refine tk 5 (.string (bS (((D.take 1) ++ [46]) ++ (D.drop 1)))) ?_ (hy := (fun δ w_ => run_catB ((D.take 1) ++ [46]) (D.drop 1) (by first | omega | simp only [List.length_append, List.length_take, List.length_drop, List.length_cons, List.length_nil]; omega) rfl rfl))
   refine aS 6 ?_
   refine SA_done (by kernel_rfl) (n_then ?_)
   refine SW_seq ?_
   refine sr ?_
   refine os 2 ?_
   refine kp [80, 3, 72, 58, 43, 29, 5, 4, 19, 12, 9, 6, 2, 0] ?_
   refine nt ?_
   refine cdp (fun hc22 : p > 0 => ?_) (fun hc22 => ?_)
   ·refine sr ?_
    refine os 1 ?_
    refine oV (.string (bS ((((D.take 1) ++ [46]) ++ (D.drop 1)) ++ [101, 43]))) ?_ (hs := (fun δ w_ => run_catB (((D.take 1) ++ [46]) ++ (D.drop 1)) [101, 43] (by first | omega | simp only [List.length_append, List.length_take, List.length_drop, List.length_cons, List.length_nil]; omega) rfl rfl))
    refine os 2 ?_
    have hil_ := Lib.itoa_length_le (p - 1) (by omega) (by omega)
    refine L (cl (str_ItoaN hL (p - 1) (by omega)) ?_)
    rintro _ _ rfl
    refine un ?_
    refine oV (.string (bS (((((D.take 1) ++ [46]) ++ (D.drop 1)) ++ [101, 43]) ++ (Lib.itoa (p - 1))))) ?_ (hs := (fun δ w_ => run_catB ((((D.take 1) ++ [46]) ++ (D.drop 1)) ++ [101, 43]) (Lib.itoa (p - 1)) (by first | omega | simp only [List.length_append, List.length_take, List.length_drop, List.length_cons, List.length_nil]; omega) rfl rfl))
    refine os 1 ?_
    refine kp [2, 80, 3, 72, 58, 43, 29, 5, 4, 19, 12, 9, 6, 0] ?_
    refine nt ?_
    refine SW_ret (r_then ?_)
    refine body_end (.string (bS (((((D.take 1) ++ [46]) ++ (D.drop 1)) ++ [101, 43]) ++ (Lib.itoa (p - 1))))) (fun _ => rfl) ?_
    rw [show printP0 a = formP D p from by rw [hD_, hp_]; unfold printP0; rw [if_neg (by omega), if_neg (by omega), if_neg (by omega)]]
    rw [form_d (by omega) (by omega) (by omega) (by omega), expo_t (by omega)]
    exact ⟨(), ow, rfl, by simp only [List.length_append, List.length_take, List.length_drop, List.length_cons, List.length_nil]; omega⟩
   refine SW_skip (n_then ?_)
   refine sr ?_
   refine os 1 ?_
   refine oV (.string (bS ((((D.take 1) ++ [46]) ++ (D.drop 1)) ++ [101]))) ?_ (hs := (fun δ w_ => run_catB (((D.take 1) ++ [46]) ++ (D.drop 1)) [101] (by first | omega | simp only [List.length_append, List.length_take, List.length_drop, List.length_cons, List.length_nil]; omega) rfl rfl))
   refine os 2 ?_
   have hil_ := Lib.itoa_length_le (p - 1) (by omega) (by omega)
   refine L (cl (str_ItoaN hL (p - 1) (by omega)) ?_)
   rintro _ _ rfl
   refine un ?_
   refine oV (.string (bS (((((D.take 1) ++ [46]) ++ (D.drop 1)) ++ [101]) ++ (Lib.itoa (p - 1))))) ?_ (hs := (fun δ w_ => run_catB ((((D.take 1) ++ [46]) ++ (D.drop 1)) ++ [101]) (Lib.itoa (p - 1)) (by first | omega | simp only [List.length_append, List.length_take, List.length_drop, List.length_cons, List.length_nil]; omega) rfl rfl))
   refine os 1 ?_
   refine kp [2, 80, 3, 72, 58, 43, 29, 5, 4, 19, 12, 9, 6, 0] ?_
   refine nt ?_
   refine SW_ret ?_
   refine body_end (.string (bS (((((D.take 1) ++ [46]) ++ (D.drop 1)) ++ [101]) ++ (Lib.itoa (p - 1))))) (fun _ => rfl) ?_
   rw [show printP0 a = formP D p from by rw [hD_, hp_]; unfold printP0; rw [if_neg (by omega), if_neg (by omega), if_neg (by omega)]]
   rw [form_e (by omega) (by omega) (by omega) (by omega), expo_t (by omega)]
   exact ⟨(), ow, rfl, by simp only [List.length_append, List.length_take, List.length_drop, List.length_cons, List.length_nil]; omega⟩
  refine SW_skip (n_then ?_)
  refine SW_seq ?_
  refine sr ?_
  refine os 2 ?_
  refine nt ?_
  refine cdp (fun hc23 : p > 0 => ?_) (fun hc23 => ?_)
  ·refine sr ?_
   refine os 1 ?_
   refine oV (.string (bS (D ++ [101, 43]))) ?_ (hs := (fun δ w_ => run_catB D [101, 43] (by first | omega | simp only [List.length_append, List.length_take, List.length_drop, List.length_cons, List.length_nil]; omega) rfl rfl))
   refine os 2 ?_
   have hil_ := Lib.itoa_length_le (p - 1) (by omega) (by omega)
   refine L (cl (str_ItoaN hL (p - 1) (by omega)) ?_)
   rintro _ _ rfl
   refine un ?_
   refine oV (.string (bS ((D ++ [101, 43]) ++ (Lib.itoa (p - 1))))) ?_ (hs := (fun δ w_ => run_catB (D ++ [101, 43]) (Lib.itoa (p - 1)) (by first | omega | simp only [List.length_append, List.length_take, List.length_drop, List.length_cons, List.length_nil]; omega) rfl rfl))
   refine os 1 ?_
   refine kp [2, 80, 72, 58, 43, 29, 5, 4, 3, 19, 12, 9, 6, 0] ?_
   refine nt ?_
   refine SW_ret (r_then ?_)
   refine body_end (.string (bS ((D ++ [101, 43]) ++ (Lib.itoa (p - 1))))) (fun _ => rfl) ?_
   rw [show printP0 a = formP D p from by rw [hD_, hp_]; unfold printP0; rw [if_neg (by omega), if_neg (by omega), if_neg (by omega)]]
   rw [form_d (by omega) (by omega) (by omega) (by omega), expo_f (by omega)]
   exact ⟨(), ow, rfl, by simp only [List.length_append, List.length_take, List.length_drop, List.length_cons, List.length_nil]; omega⟩
  refine SW_skip (n_then ?_)
  refine sr ?_
  refine os 1 ?_
  refine oV (.string (bS (D ++ [101]))) ?_ (hs := (fun δ w_ => run_catB D [101] (by first | omega | simp only [List.length_append, List.length_take, List.length_drop, List.length_cons, List.length_nil]; omega) rfl rfl))
  refine os 2 ?_
  have hil_ := Lib.itoa_length_le (p - 1) (by omega) (by omega)
  refine L (cl (str_ItoaN hL (p - 1) (by omega)) ?_)
  rintro _ _ rfl
  refine un ?_
  refine oV (.string (bS ((D ++ [101]) ++ (Lib.itoa (p - 1))))) ?_ (hs := (fun δ w_ => run_catB (D ++ [101]) (Lib.itoa (p - 1)) (by first | omega | simp only [List.length_append, List.length_take, List.length_drop, List.length_cons, List.length_nil]; omega) rfl rfl))
  refine os 1 ?_
  refine kp [2, 80, 72, 58, 43, 29, 5, 4, 3, 19, 12, 9, 6, 0] ?_
  refine nt ?_
  refine SW_ret ?_
  refine body_end (.string (bS ((D ++ [101]) ++ (Lib.itoa (p - 1))))) (fun _ => rfl) ?_
  rw [show printP0 a = formP D p from by rw [hD_, hp_]; unfold printP0; rw [if_neg (by omega), if_neg (by omega), if_neg (by omega)]]
  rw [form_e (by omega) (by omega) (by omega) (by omega), expo_f (by omega)]
  exact ⟨(), ow, rfl, by simp only [List.length_append, List.length_take, List.length_drop, List.length_cons, List.length_nil]; omega⟩
 replace hg4 : ¬ (p ≥ (D.length : Int)) := hg4
 refine os 4 ?_
 refine kp [29, 5, 4, 3, 19, 12, 9, 6, 2, 0] ?_
 refine nt ?_
 refine cf ?_
 refine sr ?_
 refine os 3 ?_
 refine tbp 46 (fun hg24 => ?_) (fun hg24 => ?_)
 ·replace hg24 : p > 0 := hg24
  refine os 4 ?_
  refine kp [43, 29, 5, 4, 3, 19, 12, 9, 6, 2, 0] ?_
  refine nt ?_
  refine cdp (fun hc25 : p ≤ 21 => ?_) (fun hc25 => ?_)
  ·refine SW_seq ?_
   refine SW_draw [] [] (by kernel_rfl) rd_nil ?_
   refine aS 0 ?_
   refine aS 1 ?_
   refine tk 2 (.string (bS (D.take (p).toNat))) ?_ (hy := fun δ w => run_strTo (l := D) p .i64 Tryz.underlying9 rfl rfl (by omega) (by omega))
   rw [show (p).toNat = p.toNat from by omega]
   refine tk 3 (.string (bS ((D.take p.toNat) ++ [46]))) ?_ (hy := (fun δ w_ => run_catB (D.take p.toNat) [46] (by first | omega | simp only [List.length_append, List.length_take, List.length_drop, List.length_cons, List.length_nil]; omega) rfl rfl))
   refine aS 4 ?_
   refine aS 5 ?_
   refine tk 6 (.string (bS (D.drop (p).toNat))) ?_ (hy := fun δ w => run_strFrom (l := D) p .i64 Tryz.underlying9 rfl rfl (by omega) (by omega))
   rw [show (p).toNat = p.toNat from by omega]
   refine tk 7 (.string (bS (((D.take p.toNat) ++ [46]) ++ (D.drop p.toNat)))) ?_ (hy := (fun δ w_ => run_catB ((D.take p.toNat) ++ [46]) (D.drop p.toNat) (by first | omega | simp only [List.length_append, List.length_take, List.length_drop, List.length_cons, List.length_nil]; omega) rfl rfl))
   refine aS 8 ?_
   refine kpA [2, 43, 29, 5, 4, 3, 19, 12, 9, 6, 0] ?_
   refine SA_done (by kernel_rfl) (n_then ?_)
   refine SW_ret (r_in (r_then ?_))
   refine body_end (.string (bS (((D.take p.toNat) ++ [46]) ++ (D.drop p.toNat)))) (fun _ => rfl) ?_
   rw [show printP0 a = formP D p from by rw [hD_, hp_]; unfold printP0; rw [if_neg (by omega), if_neg (by omega), if_neg (by omega)]]
   rw [form_b (by omega) (by omega) (by omega)]
   exact ⟨(), ow, rfl, by simp only [List.length_append, List.length_take, List.length_drop, List.length_cons, List.length_nil]; omega⟩
  refine sr ?_
  refine os 3 ?_
  refine tbp 61 (fun hg26 => ?_) (fun hg26 => ?_)
  ·replace hg26 : p > (-6) := hg26
   refine os 4 ?_
   refine kp [58, 43, 29, 5, 4, 3, 19, 12, 9, 6, 2, 0] ?_
   refine nt ?_
   refine cdp (fun hc27 : p ≤ 0 => ?_) (fun hc27 => ?_)
   ·refine sr ?_
    refine os 1 ?_
    refine oX (.int .i64 (IntKind.wrap .i64 (0 - p))) (.int .i64 (-p)) (congrArg (Value.int .i64) ((IntWalk.i64_in _ (by omega)).trans (Int.zero_sub _))) ?_
    have hrl_ : (Lib.repeatL [48] (-p).toNat).length ≤ 2000 := by rw [Lib.repeatL_length, show ([48] : List UInt8).length = 1 from rfl]; omega
    refine L (cl (str_RepeatZ [48] (c := -p) (by omega) (by decide)) ?_)
    rintro _ _ rfl
    refine un ?_
    refine oV (.string (bS ([48, 46] ++ (Lib.repeatL [48] (-p).toNat)))) ?_ (hs := (fun δ w_ => run_catB [48, 46] (Lib.repeatL [48] (-p).toNat) (by first | omega | simp only [List.length_append, List.length_take, List.length_drop, List.length_cons, List.length_nil]; omega) rfl rfl))
    refine os 1 ?_
    refine oV (.string (bS (([48, 46] ++ (Lib.repeatL [48] (-p).toNat)) ++ D))) ?_ (hs := (fun δ w_ => run_catB ([48, 46] ++ (Lib.repeatL [48] (-p).toNat)) D (by first | omega | simp only [List.length_append, List.length_take, List.length_drop, List.length_cons, List.length_nil]; omega) rfl rfl))
    refine os 1 ?_
    refine kp [2, 58, 43, 29, 5, 4, 3, 19, 12, 9, 6, 0] ?_
    refine nt ?_
    refine SW_ret (r_in (r_then ?_))
    refine body_end (.string (bS (([48, 46] ++ (Lib.repeatL [48] (-p).toNat)) ++ D))) (fun _ => rfl) ?_
    rw [show printP0 a = formP D p from by rw [hD_, hp_]; unfold printP0; rw [if_neg (by omega), if_neg (by omega), if_neg (by omega)]]
    rw [form_c (by omega) (by omega) (by omega)]
    exact ⟨(), ow, rfl, by simp only [List.length_append, List.length_take, List.length_drop, List.length_cons, List.length_nil]; omega⟩
   refine SW_skip (n_in (n_then ?_))
   refine SW_seq ?_
   refine sr ?_
   refine os 2 ?_
   refine nt ?_
   refine cdp (fun hc28 : (D.length : Int) > 1 => ?_) (fun hc28 => ?_)
   ·refine SW_draw [] [] (by kernel_rfl) rd_nil ?_
    refine aS 0 ?_
    refine tk 1 (.string (bS (D.take 1))) ?_ (hy := fun δ w => run_strTo (l := D) 1 .i64 Tryz.underlying9 rfl rfl (by omega) (by omega))
    refine tk 2 (.string (bS ((D.take 1) ++ [46]))) ?_ (hy := (fun δ w_ => run_catB (D.take 1) [46] (by first | omega | simp only [List.length_append, List.length_take, List.length_drop, List.length_cons, List.length_nil]; omega) rfl rfl))
    refine aS 3 ?_
    refine tk 4 (.string (bS (D.drop 1))) ?_ (hy := fun δ w => run_strFrom (l := D) 1 .i64 Tryz.underlying9 rfl rfl (by omega) (by omega))
    refine tk 5 (.string (bS (((D.take 1) ++ [46]) ++ (D.drop 1)))) ?_ (hy := (fun δ w_ => run_catB ((D.take 1) ++ [46]) (D.drop 1) (by first | omega | simp only [List.length_append, List.length_take, List.length_drop, List.length_cons, List.length_nil]; omega) rfl rfl))
    refine aS 6 ?_
    refine SA_done (by kernel_rfl) (n_then ?_)
    refine SW_seq ?_
    refine sr ?_
    refine os 2 ?_
    refine kp [80, 3, 72, 58, 43, 29, 5, 4, 19, 12, 9, 6, 2, 0] ?_
    refine nt ?_
    refine cdp (fun hc29 : p > 0 => ?_) (fun hc29 => ?_)
    ·refine sr ?_
     refine os 1 ?_
     refine oV (.string (bS ((((D.take 1) ++ [46]) ++ (D.drop 1)) ++ [101, 43]))) ?_ (hs := (fun δ w_ => run_catB (((D.take 1) ++ [46]) ++ (D.drop 1)) [101, 43] (by first | omega | simp only [List.length_append, List.length_take, List.length_drop, List.length_cons, List.length_nil]; omega) rfl rfl))
     refine os 2 ?_
     have hil_ := Lib.itoa_length_le (p - 1) (by omega) (by omega)
     refine L (cl (str_ItoaN hL (p - 1) (by omega)) ?_)
     rintro _ _ rfl
     refine un ?_
     refine oV (.string (bS (((((D.take 1) ++ [46]) ++ (D.drop 1)) ++ [101, 43]) ++ (Lib.itoa (p - 1))))) ?_ (hs := (fun δ w_ => run_catB ((((D.take 1) ++ [46]) ++ (D.drop 1)) ++ [101, 43]) (Lib.itoa (p - 1)) (by first | omega | simp only [List.length_append, List.length_take, List.length_drop, List.length_cons, List.length_nil]; omega) rfl rfl))
     refine os 1 ?_
     refine kp [2, 80, 3, 72, 58, 43, 29, 5, 4, 19, 12, 9, 6, 0] ?_
     refine nt ?_
     refine SW_ret (r_then ?_)
     refine body_end (.string (bS (((((D.take 1) ++ [46]) ++ (D.drop 1)) ++ [101, 43]) ++ (Lib.itoa (p - 1))))) (fun _ => rfl) ?_
     rw [show printP0 a = formP D p from by rw [hD_, hp_]; unfold printP0; rw [if_neg (by omega), if_neg (by omega), if_neg (by omega)]]
     rw [form_d (by omega) (by omega) (by omega) (by omega), expo_t (by omega)]
     exact ⟨(), ow, rfl, by simp only [List.length_append, List.length_take, List.length_drop, List.length_cons, List.length_nil]; omega⟩
    refine SW_skip (n_then ?_)
    refine sr ?_
    refine os 1 ?_
    refine oV (.string (bS ((((D.take 1) ++ [46]) ++ (D.drop 1)) ++ [101]))) ?_ (hs := (fun δ w_ => run_catB (((D.take 1) ++ [46]) ++ (D.drop 1)) [101] (by first | omega | simp only [List.length_append, List.length_take, List.length_drop, List.length_cons, List.length_nil]; omega) rfl rfl))
    refine os 2 ?_
    have hil_ := Lib.itoa_length_le (p - 1) (by omega) (by omega)
    refine L (cl (str_ItoaN hL (p - 1) (by omega)) ?_)
    rintro _ _ rfl
    refine un ?_
    refine oV (.string (bS (((((D.take 1) ++ [46]) ++ (D.drop 1)) ++ [101]) ++ (Lib.itoa (p - 1))))) ?_ (hs := (fun δ w_ => run_catB ((((D.take 1) ++ [46]) ++ (D.drop 1)) ++ [101]) (Lib.itoa (p - 1)) (by first | omega | simp only [List.length_append, List.length_take, List.length_drop, List.length_cons, List.length_nil]; omega) rfl rfl))
    refine os 1 ?_
    refine kp [2, 80, 3, 72, 58, 43, 29, 5, 4, 19, 12, 9, 6, 0] ?_
    refine nt ?_
    refine SW_ret ?_
    refine body_end (.string (bS (((((D.take 1) ++ [46]) ++ (D.drop 1)) ++ [101]) ++ (Lib.itoa (p - 1))))) (fun _ => rfl) ?_
    rw [show printP0 a = formP D p from by rw [hD_, hp_]; unfold printP0; rw [if_neg (by omega), if_neg (by omega), if_neg (by omega)]]
    rw [form_e (by omega) (by omega) (by omega) (by omega), expo_t (by omega)]
    exact ⟨(), ow, rfl, by simp only [List.length_append, List.length_take, List.length_drop, List.length_cons, List.length_nil]; omega⟩
   refine SW_skip (n_then ?_)
   refine SW_seq ?_
   refine sr ?_
   refine os 2 ?_
   refine nt ?_
   refine cdp (fun hc30 : p > 0 => ?_) (fun hc30 => ?_)
   ·refine sr ?_
    refine os 1 ?_
    refine oV (.string (bS (D ++ [101, 43]))) ?_ (hs := (fun δ w_ => run_catB D [101, 43] (by first | omega | simp only [List.length_append, List.length_take, List.length_drop, List.length_cons, List.length_nil]; omega) rfl rfl))
    refine os 2 ?_
    have hil_ := Lib.itoa_length_le (p - 1) (by omega) (by omega)
    refine L (cl (str_ItoaN hL (p - 1) (by omega)) ?_)
    rintro _ _ rfl
    refine un ?_
    refine oV (.string (bS ((D ++ [101, 43]) ++ (Lib.itoa (p - 1))))) ?_ (hs := (fun δ w_ => run_catB (D ++ [101, 43]) (Lib.itoa (p - 1)) (by first | omega | simp only [List.length_append, List.length_take, List.length_drop, List.length_cons, List.length_nil]; omega) rfl rfl))
    refine os 1 ?_
    refine kp [2, 80, 72, 58, 43, 29, 5, 4, 3, 19, 12, 9, 6, 0] ?_
    refine nt ?_
    refine SW_ret (r_then ?_)
    refine body_end (.string (bS ((D ++ [101, 43]) ++ (Lib.itoa (p - 1))))) (fun _ => rfl) ?_
    rw [show printP0 a = formP D p from by rw [hD_, hp_]; unfold printP0; rw [if_neg (by omega), if_neg (by omega), if_neg (by omega)]]
    rw [form_d (by omega) (by omega) (by omega) (by omega), expo_f (by omega)]
    exact ⟨(), ow, rfl, by simp only [List.length_append, List.length_take, List.length_drop, List.length_cons, List.length_nil]; omega⟩
   refine SW_skip (n_then ?_)
   refine sr ?_
   refine os 1 ?_
   refine oV (.string (bS (D ++ [101]))) ?_ (hs := (fun δ w_ => run_catB D [101] (by first | omega | simp only [List.length_append, List.length_take, List.length_drop, List.length_cons, List.length_nil]; omega) rfl rfl))
   refine os 2 ?_
   have hil_ := Lib.itoa_length_le (p - 1) (by omega) (by omega)
   refine L (cl (str_ItoaN hL (p - 1) (by omega)) ?_)
   rintro _ _ rfl
   refine un ?_
   refine oV (.string (bS ((D ++ [101]) ++ (Lib.itoa (p - 1))))) ?_ (hs := (fun δ w_ => run_catB (D ++ [101]) (Lib.itoa (p - 1)) (by first | omega | simp only [List.length_append, List.length_take, List.length_drop, List.length_cons, List.length_nil]; omega) rfl rfl))
   refine os 1 ?_
   refine kp [2, 80, 72, 58, 43, 29, 5, 4, 3, 19, 12, 9, 6, 0] ?_
   refine nt ?_
   refine SW_ret ?_
   refine body_end (.string (bS ((D ++ [101]) ++ (Lib.itoa (p - 1))))) (fun _ => rfl) ?_
   rw [show printP0 a = formP D p from by rw [hD_, hp_]; unfold printP0; rw [if_neg (by omega), if_neg (by omega), if_neg (by omega)]]
   rw [form_e (by omega) (by omega) (by omega) (by omega), expo_f (by omega)]
   exact ⟨(), ow, rfl, by simp only [List.length_append, List.length_take, List.length_drop, List.length_cons, List.length_nil]; omega⟩
  replace hg26 : ¬ (p > (-6)) := hg26
  refine os 4 ?_
  refine kp [58, 43, 29, 5, 4, 3, 19, 12, 9, 6, 2, 0] ?_
  refine nt ?_
  refine cf ?_
  refine SW_skip (n_in (n_then ?_))
  refine SW_seq ?_
  refine sr ?_
  refine os 2 ?_
  refine nt ?_
  refine cdp (fun hc31 : (D.length : Int) > 1 => ?_) (fun hc31 => ?_)
  ·refine SW_draw [] [] (by kernel_rfl) rd_nil ?_
   refine aS 0 ?_
   refine tk 1 (.string (bS (D.take 1))) ?_ (hy := fun δ w => run_strTo (l := D) 1 .i64 Tryz.underlying9 rfl rfl (by omega) (by omega))
   refine tk 2 (.string (bS ((D.take 1) ++ [46]))) ?_ (hy := (fun δ w_ => run_catB (D.take 1) [46] (by first | omega | simp only [List.length_append, List.length_take, List.length_drop, List.length_cons, List.length_nil]; omega) rfl rfl))
   refine aS 3 ?_
   refine tk 4 (.string (bS (D.drop 1))) ?_ (hy := fun δ w => run_strFrom (l := D) 1 .i64 Tryz.underlying9 rfl rfl (by omega) (by omega))
   refine tk 5 (.string (bS (((D.take 1) ++ [46]) ++ (D.drop 1)))) ?_ (hy := (fun δ w_ => run_catB ((D.take 1) ++ [46]) (D.drop 1) (by first | omega | simp only [List.length_append, List.length_take, List.length_drop, List.length_cons, List.length_nil]; omega) rfl rfl))
   refine aS 6 ?_
   refine SA_done (by kernel_rfl) (n_then ?_)
   refine SW_seq ?_
   refine sr ?_
   refine os 2 ?_
   refine kp [80, 3, 72, 58, 43, 29, 5, 4, 19, 12, 9, 6, 2, 0] ?_
   refine nt ?_
   refine cdp (fun hc32 : p > 0 => ?_) (fun hc32 => ?_)
   ·refine sr ?_
    refine os 1 ?_
    refine oV (.string (bS ((((D.take 1) ++ [46]) ++ (D.drop 1)) ++ [101, 43]))) ?_ (hs := (fun δ w_ => run_catB (((D.take 1) ++ [46]) ++ (D.drop 1)) [101, 43] (by first | omega | simp only [List.length_append, List.length_take, List.length_drop, List.length_cons, List.length_nil]; omega) rfl rfl))
    refine os 2 ?_
    have hil_ := Lib.itoa_length_le (p - 1) (by omega) (by omega)
    refine L (cl (str_ItoaN hL (p - 1) (by omega)) ?_)
    rintro _ _ rfl
    refine un ?_
    refine oV (.string (bS (((((D.take 1) ++ [46]) ++ (D.drop 1)) ++ [101, 43]) ++ (Lib.itoa (p - 1))))) ?_ (hs := (fun δ w_ => run_catB ((((D.take 1) ++ [46]) ++ (D.drop 1)) ++ [101, 43]) (Lib.itoa (p - 1)) (by first | omega | simp only [List.length_append, List.length_take, List.length_drop, List.length_cons, List.length_nil]; omega) rfl rfl))
    refine os 1 ?_
    refine kp [2, 80, 3, 72, 58, 43, 29, 5, 4, 19, 12, 9, 6, 0] ?_
    refine nt ?_
    refine SW_ret (r_then ?_)
    refine body_end (.string (bS (((((D.take 1) ++ [46]) ++ (D.drop 1)) ++ [101, 43]) ++ (Lib.itoa (p - 1))))) (fun _ => rfl) ?_
    rw [show printP0 a = formP D p from by rw [hD_, hp_]; unfold printP0; rw [if_neg (by omega), if_neg (by omega), if_neg (by omega)]]
    rw [form_d (by omega) (by omega) (by omega) (by omega), expo_t (by omega)]
    exact ⟨(), ow, rfl, by simp only [List.length_append, List.length_take, List.length_drop, List.length_cons, List.length_nil]; omega⟩
   refine SW_skip (n_then ?_)
   refine sr ?_
   refine os 1 ?_
   refine oV (.string (bS ((((D.take 1) ++ [46]) ++ (D.drop 1)) ++ [101]))) ?_ (hs := (fun δ w_ => run_catB (((D.take 1) ++ [46]) ++ (D.drop 1)) [101] (by first | omega | simp only [List.length_append, List.length_take, List.length_drop, List.length_cons, List.length_nil]; omega) rfl rfl))
   refine os 2 ?_
   have hil_ := Lib.itoa_length_le (p - 1) (by omega) (by omega)
   refine L (cl (str_ItoaN hL (p - 1) (by omega)) ?_)
   rintro _ _ rfl
   refine un ?_
   refine oV (.string (bS (((((D.take 1) ++ [46]) ++ (D.drop 1)) ++ [101]) ++ (Lib.itoa (p - 1))))) ?_ (hs := (fun δ w_ => run_catB ((((D.take 1) ++ [46]) ++ (D.drop 1)) ++ [101]) (Lib.itoa (p - 1)) (by first | omega | simp only [List.length_append, List.length_take, List.length_drop, List.length_cons, List.length_nil]; omega) rfl rfl))
   refine os 1 ?_
   refine kp [2, 80, 3, 72, 58, 43, 29, 5, 4, 19, 12, 9, 6, 0] ?_
   refine nt ?_
   refine SW_ret ?_
   refine body_end (.string (bS (((((D.take 1) ++ [46]) ++ (D.drop 1)) ++ [101]) ++ (Lib.itoa (p - 1))))) (fun _ => rfl) ?_
   rw [show printP0 a = formP D p from by rw [hD_, hp_]; unfold printP0; rw [if_neg (by omega), if_neg (by omega), if_neg (by omega)]]
   rw [form_e (by omega) (by omega) (by omega) (by omega), expo_t (by omega)]
   exact ⟨(), ow, rfl, by simp only [List.length_append, List.length_take, List.length_drop, List.length_cons, List.length_nil]; omega⟩
  refine SW_skip (n_then ?_)
  refine SW_seq ?_
  refine sr ?_
  refine os 2 ?_
  refine nt ?_
  refine cdp (fun hc33 : p > 0 => ?_) (fun hc33 => ?_)
  ·refine sr ?_
   refine os 1 ?_
   refine oV (.string (bS (D ++ [101, 43]))) ?_ (hs := (fun δ w_ => run_catB D [101, 43] (by first | omega | simp only [List.length_append, List.length_take, List.length_drop, List.length_cons, List.length_nil]; omega) rfl rfl))
   refine os 2 ?_
   have hil_ := Lib.itoa_length_le (p - 1) (by omega) (by omega)
   refine L (cl (str_ItoaN hL (p - 1) (by omega)) ?_)
   rintro _ _ rfl
   refine un ?_
   refine oV (.string (bS ((D ++ [101, 43]) ++ (Lib.itoa (p - 1))))) ?_ (hs := (fun δ w_ => run_catB (D ++ [101, 43]) (Lib.itoa (p - 1)) (by first | omega | simp only [List.length_append, List.length_take, List.length_drop, List.length_cons, List.length_nil]; omega) rfl rfl))
   refine os 1 ?_
   refine kp [2, 80, 72, 58, 43, 29, 5, 4, 3, 19, 12, 9, 6, 0] ?_
   refine nt ?_
   refine SW_ret (r_then ?_)
   refine body_end (.string (bS ((D ++ [101, 43]) ++ (Lib.itoa (p - 1))))) (fun _ => rfl) ?_
   rw [show printP0 a = formP D p from by rw [hD_, hp_]; unfold printP0; rw [if_neg (by omega), if_neg (by omega), if_neg (by omega)]]
   rw [form_d (by omega) (by omega) (by omega) (by omega), expo_f (by omega)]
   exact ⟨(), ow, rfl, by simp only [List.length_append, List.length_take, List.length_drop, List.length_cons, List.length_nil]; omega⟩
  refine SW_skip (n_then ?_)
  refine sr ?_
  refine os 1 ?_
  refine oV (.string (bS (D ++ [101]))) ?_ (hs := (fun δ w_ => run_catB D [101] (by first | omega | simp only [List.length_append, List.length_take, List.length_drop, List.length_cons, List.length_nil]; omega) rfl rfl))
  refine os 2 ?_
  have hil_ := Lib.itoa_length_le (p - 1) (by omega) (by omega)
  refine L (cl (str_ItoaN hL (p - 1) (by omega)) ?_)
  rintro _ _ rfl
  refine un ?_
  refine oV (.string (bS ((D ++ [101]) ++ (Lib.itoa (p - 1))))) ?_ (hs := (fun δ w_ => run_catB (D ++ [101]) (Lib.itoa (p - 1)) (by first | omega | simp only [List.length_append, List.length_take, List.length_drop, List.length_cons, List.length_nil]; omega) rfl rfl))
  refine os 1 ?_
  refine kp [2, 80, 72, 58, 43, 29, 5, 4, 3, 19, 12, 9, 6, 0] ?_
  refine nt ?_
  refine SW_ret ?_
  refine body_end (.string (bS ((D ++ [101]) ++ (Lib.itoa (p - 1))))) (fun _ => rfl) ?_
  rw [show printP0 a = formP D p from by rw [hD_, hp_]; unfold printP0; rw [if_neg (by omega), if_neg (by omega), if_neg (by omega)]]
  rw [form_e (by omega) (by omega) (by omega) (by omega), expo_f (by omega)]
  exact ⟨(), ow, rfl, by simp only [List.length_append, List.length_take, List.length_drop, List.length_cons, List.length_nil]; omega⟩
 replace hg24 : ¬ (p > 0) := hg24
 refine os 4 ?_
 refine kp [43, 29, 5, 4, 3, 19, 12, 9, 6, 2, 0] ?_
 refine nt ?_
 refine cf ?_
 refine sr ?_
 refine os 3 ?_
 refine tbp 61 (fun hg34 => ?_) (fun hg34 => ?_)
 ·replace hg34 : p > (-6) := hg34
  refine os 4 ?_
  refine kp [58, 43, 29, 5, 4, 3, 19, 12, 9, 6, 2, 0] ?_
  refine nt ?_
  refine cdp (fun hc35 : p ≤ 0 => ?_) (fun hc35 => ?_)
  ·refine sr ?_
   refine os 1 ?_
   refine oX (.int .i64 (IntKind.wrap .i64 (0 - p))) (.int .i64 (-p)) (congrArg (Value.int .i64) ((IntWalk.i64_in _ (by omega)).trans (Int.zero_sub _))) ?_
   have hrl_ : (Lib.repeatL [48] (-p).toNat).length ≤ 2000 := by rw [Lib.repeatL_length, show ([48] : List UInt8).length = 1 from rfl]; omega
   refine L (cl (str_RepeatZ [48] (c := -p) (by omega) (by decide)) ?_)
   rintro _ _ rfl
   refine un ?_
   refine oV (.string (bS ([48, 46] ++ (Lib.repeatL [48] (-p).toNat)))) ?_ (hs := (fun δ w_ => run_catB [48, 46] (Lib.repeatL [48] (-p).toNat) (by first | omega | simp only [List.length_append, List.length_take, List.length_drop, List.length_cons, List.length_nil]; omega) rfl rfl))
   refine os 1 ?_
   refine oV (.string (bS (([48, 46] ++ (Lib.repeatL [48] (-p).toNat)) ++ D))) ?_ (hs := (fun δ w_ => run_catB ([48, 46] ++ (Lib.repeatL [48] (-p).toNat)) D (by first | omega | simp only [List.length_append, List.length_take, List.length_drop, List.length_cons, List.length_nil]; omega) rfl rfl))
   refine os 1 ?_
   refine kp [2, 58, 43, 29, 5, 4, 3, 19, 12, 9, 6, 0] ?_
   refine nt ?_
   refine SW_ret (r_in (r_then ?_))
   refine body_end (.string (bS (([48, 46] ++ (Lib.repeatL [48] (-p).toNat)) ++ D))) (fun _ => rfl) ?_
   rw [show printP0 a = formP D p from by rw [hD_, hp_]; unfold printP0; rw [if_neg (by omega), if_neg (by omega), if_neg (by omega)]]
   rw [form_c (by omega) (by omega) (by omega)]
   exact ⟨(), ow, rfl, by simp only [List.length_append, List.length_take, List.length_drop, List.length_cons, List.length_nil]; omega⟩
  refine SW_skip (n_in (n_then ?_))
  refine SW_seq ?_
  refine sr ?_
  refine os 2 ?_
  refine nt ?_
  refine cdp (fun hc36 : (D.length : Int) > 1 => ?_) (fun hc36 => ?_)
  ·refine SW_draw [] [] (by kernel_rfl) rd_nil ?_
   refine aS 0 ?_
   refine tk 1 (.string (bS (D.take 1))) ?_ (hy := fun δ w => run_strTo (l := D) 1 .i64 Tryz.underlying9 rfl rfl (by omega) (by omega))
   refine tk 2 (.string (bS ((D.take 1) ++ [46]))) ?_ (hy := (fun δ w_ => run_catB (D.take 1) [46] (by first | omega | simp only [List.length_append, List.length_take, List.length_drop, List.length_cons, List.length_nil]; omega) rfl rfl))
   refine aS 3 ?_
   refine tk 4 (.string (bS (D.drop 1))) ?_ (hy := fun δ w => run_strFrom (l := D) 1 .i64 Tryz.underlying9 rfl rfl (by omega) (by omega))
   refine tk 5 (.string (bS (((D.take 1) ++ [46]) ++ (D.drop 1)))) ?_ (hy := (fun δ w_ => run_catB ((D.take 1) ++ [46]) (D.drop 1) (by first | omega | simp only [List.length_append, List.length_take, List.length_drop, List.length_cons, List.length_nil]; omega) rfl rfl))
   refine aS 6 ?_
   refine SA_done (by kernel_rfl) (n_then ?_)
   refine SW_seq ?_
   refine sr ?_
   refine os 2 ?_
   refine kp [80, 3, 72, 58, 43, 29, 5, 4, 19, 12, 9, 6, 2, 0] ?_
   refine nt ?_
   refine cdp (fun hc37 : p > 0 => ?_) (fun hc37 => ?_)
   ·refine sr ?_
    refine os 1 ?_
    refine oV (.string (bS ((((D.take 1) ++ [46]) ++ (D.drop 1)) ++ [101, 43]))) ?_ (hs := (fun δ w_ => run_catB (((D.take 1) ++ [46]) ++ (D.drop 1)) [101, 43] (by first | omega | simp only [List.length_append, List.length_take, List.length_drop, List.length_cons, List.length_nil]; omega) rfl rfl))
    refine os 2 ?_
    have hil_ := Lib.itoa_length_le (p - 1) (by omega) (by omega)
    refine L (cl (str_ItoaN hL (p - 1) (by omega)) ?_)
    rintro _ _ rfl
    refine un ?_
    refine oV (.string (bS (((((D.take 1) ++ [46]) ++ (D.drop 1)) ++ [101, 43]) ++ (Lib.itoa (p - 1))))) ?_ (hs := (fun δ w_ => run_catB ((((D.take 1) ++ [46]) ++ (D.drop 1)) ++ [101, 43]) (Lib.itoa (p - 1)) (by first | omega | simp only [List.length_append, List.length_take, List.length_drop, List.length_cons, List.length_nil]; omega) rfl rfl))
    refine os 1 ?_
    refine kp [2, 80, 3, 72, 58, 43, 29, 5, 4, 19, 12, 9, 6, 0] ?_
    refine nt ?_
    refine SW_ret (r_then ?_)
    refine body_end (.string (bS (((((D.take 1) ++ [46]) ++ (D.drop 1)) ++ [101, 43]) ++ (Lib.itoa (p - 1))))) (fun _ => rfl) ?_
    rw [show printP0 a = formP D p from by rw [hD_, hp_]; unfold printP0; rw [if_neg (by omega), if_neg (by omega), if_neg (by omega)]]
    rw [form_d (by omega) (by omega) (by omega) (by omega), expo_t (by omega)]
    exact ⟨(), ow, rfl, by simp only [List.length_append, List.length_take, List.length_drop, List.length_cons, List.length_nil]; omega⟩
   refine SW_skip (n_then ?_)
   refine sr ?_
   refine os 1 ?_
   refine oV (.string (bS ((((D.take 1) ++ [46]) ++ (D.drop 1)) ++ [101]))) ?_ (hs := (fun δ w_ => run_catB (((D.take 1) ++ [46]) ++ (D.drop 1)) [101] (by first | omega | simp only [List.length_append, List.length_take, List.length_drop, List.length_cons, List.length_nil]; omega) rfl rfl))
   refine os 2 ?_
   have hil_ := Lib.itoa_length_le (p - 1) (by omega) (by omega)
   refine L (cl (str_ItoaN hL (p - 1) (by omega)) ?_)
   rintro _ _ rfl
   refine un ?_
   refine oV (.string (bS (((((D.take 1) ++ [46]) ++ (D.drop 1)) ++ [101]) ++ (Lib.itoa (p - 1))))) ?_ (hs := (fun δ w_ => run_catB ((((D.take 1) ++ [46]) ++ (D.drop 1)) ++ [101]) (Lib.itoa (p - 1)) (by first | omega | simp only [List.length_append, List.length_take, List.length_drop, List.length_cons, List.length_nil]; omega) rfl rfl))
   refine os 1 ?_
   refine kp [2, 80, 3, 72, 58, 43, 29, 5, 4, 19, 12, 9, 6, 0] ?_
   refine nt ?_
   refine SW_ret ?_
   refine body_end (.string (bS (((((D.take 1) ++ [46]) ++ (D.drop 1)) ++ [101]) ++ (Lib.itoa (p - 1))))) (fun _ => rfl) ?_
   rw [show printP0 a = formP D p from by rw [hD_, hp_]; unfold printP0; rw [if_neg (by omega), if_neg (by omega), if_neg (by omega)]]
   rw [form_e (by omega) (by omega) (by omega) (by omega), expo_t (by omega)]
   exact ⟨(), ow, rfl, by simp only [List.length_append, List.length_take, List.length_drop, List.length_cons, List.length_nil]; omega⟩
  refine SW_skip (n_then ?_)
  refine SW_seq ?_
  refine sr ?_
  refine os 2 ?_
  refine nt ?_
  refine cdp (fun hc38 : p > 0 => ?_) (fun hc38 => ?_)
  ·refine sr ?_
   refine os 1 ?_
   refine oV (.string (bS (D ++ [101, 43]))) ?_ (hs := (fun δ w_ => run_catB D [101, 43] (by first | omega | simp only [List.length_append, List.length_take, List.length_drop, List.length_cons, List.length_nil]; omega) rfl rfl))
   refine os 2 ?_
   have hil_ := Lib.itoa_length_le (p - 1) (by omega) (by omega)
   refine L (cl (str_ItoaN hL (p - 1) (by omega)) ?_)
   rintro _ _ rfl
   refine un ?_
   refine oV (.string (bS ((D ++ [101, 43]) ++ (Lib.itoa (p - 1))))) ?_ (hs := (fun δ w_ => run_catB (D ++ [101, 43]) (Lib.itoa (p - 1)) (by first | omega | simp only [List.length_append, List.length_take, List.length_drop, List.length_cons, List.length_nil]; omega) rfl rfl))
   refine os 1 ?_
   refine kp [2, 80, 72, 58, 43, 29, 5, 4, 3, 19, 12, 9, 6, 0] ?_
   refine nt ?_
   refine SW_ret (r_then ?_)
   refine body_end (.string (bS ((D ++ [101, 43]) ++ (Lib.itoa (p - 1))))) (fun _ => rfl) ?_
   rw [show printP0 a = formP D p from by rw [hD_, hp_]; unfold printP0; rw [if_neg (by omega), if_neg (by omega), if_neg (by omega)]]
   rw [form_d (by omega) (by omega) (by omega) (by omega), expo_f (by omega)]
   exact ⟨(), ow, rfl, by simp only [List.length_append, List.length_take, List.length_drop, List.length_cons, List.length_nil]; omega⟩
  refine SW_skip (n_then ?_)
  refine sr ?_
  refine os 1 ?_
  refine oV (.string (bS (D ++ [101]))) ?_ (hs := (fun δ w_ => run_catB D [101] (by first | omega | simp only [List.length_append, List.length_take, List.length_drop, List.length_cons, List.length_nil]; omega) rfl rfl))
  refine os 2 ?_
  have hil_ := Lib.itoa_length_le (p - 1) (by omega) (by omega)
  refine L (cl (str_ItoaN hL (p - 1) (by omega)) ?_)
  rintro _ _ rfl
  refine un ?_
  refine oV (.string (bS ((D ++ [101]) ++ (Lib.itoa (p - 1))))) ?_ (hs := (fun δ w_ => run_catB (D ++ [101]) (Lib.itoa (p - 1)) (by first | omega | simp only [List.length_append, List.length_take, List.length_drop, List.length_cons, List.length_nil]; omega) rfl rfl))
  refine os 1 ?_
  refine kp [2, 80, 72, 58, 43, 29, 5, 4, 3, 19, 12, 9, 6, 0] ?_
  refine nt ?_
  refine SW_ret ?_
  refine body_end (.string (bS ((D ++ [101]) ++ (Lib.itoa (p - 1))))) (fun _ => rfl) ?_
  rw [show printP0 a = formP D p from by rw [hD_, hp_]; unfold printP0; rw [if_neg (by omega), if_neg (by omega), if_neg (by omega)]]
  rw [form_e (by omega) (by omega) (by omega) (by omega), expo_f (by omega)]
  exact ⟨(), ow, rfl, by simp only [List.length_append, List.length_take, List.length_drop, List.length_cons, List.length_nil]; omega⟩
 replace hg34 : ¬ (p > (-6)) := hg34
 refine os 4 ?_
 refine kp [58, 43, 29, 5, 4, 3, 19, 12, 9, 6, 2, 0] ?_
 refine nt ?_
 refine cf ?_
 refine SW_skip (n_in (n_then ?_))
 refine SW_seq ?_
 refine sr ?_
 refine os 2 ?_
 refine nt ?_
 refine cdp (fun hc39 : (D.length : Int) > 1 => ?_) (fun hc39 => ?_)
 ·refine SW_draw [] [] (by kernel_rfl) rd_nil ?_
  refine aS 0 ?_
  refine tk 1 (.string (bS (D.take 1))) ?_ (hy := fun δ w => run_strTo (l := D) 1 .i64 Tryz.underlying9 rfl rfl (by omega) (by omega))
  refine tk 2 (.string (bS ((D.take 1) ++ [46]))) ?_ (hy := (fun δ w_ => run_catB (D.take 1) [46] (by first | omega | simp only [List.length_append, List.length_take, List.length_drop, List.length_cons, List.length_nil]; omega) rfl rfl))
  refine aS 3 ?_
  refine tk 4 (.string (bS (D.drop 1))) ?_ (hy := fun δ w => run_strFrom (l := D) 1 .i64 Tryz.underlying9 rfl rfl (by omega) (by omega))
  refine tk 5 (.string (bS (((D.take 1) ++ [46]) ++ (D.drop 1)))) ?_ (hy := (fun δ w_ => run_catB ((D.take 1) ++ [46]) (D.drop 1) (by first | omega | simp only [List.length_append, List.length_take, List.length_drop, List.length_cons, List.length_nil]; omega) rfl rfl))
  refine aS 6 ?_
  refine SA_done (by kernel_rfl) (n_then ?_)
  refine SW_seq ?_
  refine sr ?_
  refine os 2 ?_
  refine kp [80, 3, 72, 58, 43, 29, 5, 4, 19, 12, 9, 6, 2, 0] ?_
  refine nt ?_
  refine cdp (fun hc40 : p > 0 => ?_) (fun hc40 => ?_)
  ·refine sr ?_
   refine os 1 ?_
   refine oV (.string (bS ((((D.take 1) ++ [46]) ++ (D.drop 1)) ++ [101, 43]))) ?_ (hs := (fun δ w_ => run_catB (((D.take 1) ++ [46]) ++ (D.drop 1)) [101, 43] (by first | omega | simp only [List.length_append, List.length_take, List.length_drop, List.length_cons, List.length_nil]; omega) rfl rfl))
   refine os 2 ?_
   have hil_ := Lib.itoa_length_le (p - 1) (by omega) (by omega)
   refine L (cl (str_ItoaN hL (p - 1) (by omega)) ?_)
   rintro _ _ rfl
   refine un ?_
   refine oV (.string (bS (((((D.take 1) ++ [46]) ++ (D.drop 1)) ++ [101, 43]) ++ (Lib.itoa (p - 1))))) ?_ (hs := (fun δ w_ => run_catB ((((D.take 1) ++ [46]) ++ (D.drop 1)) ++ [101, 43]) (Lib.itoa (p - 1)) (by first | omega | simp only [List.length_append, List.length_take, List.length_drop, List.length_cons, List.length_nil]; omega) rfl rfl))
   refine os 1 ?_
   refine kp [2, 80, 3, 72, 58, 43, 29, 5, 4, 19, 12, 9, 6, 0] ?_
   refine nt ?_
   refine SW_ret (r_then ?_)
   refine body_end (.string (bS (((((D.take 1) ++ [46]) ++ (D.drop 1)) ++ [101, 43]) ++ (Lib.itoa (p - 1))))) (fun _ => rfl) ?_
   rw [show printP0 a = formP D p from by rw [hD_, hp_]; unfold printP0; rw [if_neg (by omega), if_neg (by omega), if_neg (by omega)]]
   rw [form_d (by omega) (by omega) (by omega) (by omega), expo_t (by omega)]
   exact ⟨(), ow, rfl, by simp only [List.length_append, List.length_take, List.length_drop, List.length_cons, List.length_nil]; omega⟩
  refine SW_skip (n_then ?_)
  refine sr ?_
  refine os 1 ?_
  refine oV (.string (bS ((((D.take 1) ++ [46]) ++ (D.drop 1)) ++ [101]))) ?_ (hs := (fun δ w_ => run_catB (((D.take 1) ++ [46]) ++ (D.drop 1)) [101] (by first | omega | simp only [List.length_append, List.length_take, List.length_drop, List.length_cons, List.length_nil]; omega) rfl rfl))
  refine os 2 ?_
  have hil_ := Lib.itoa_length_le (p - 1) (by omega) (by omega)
  refine L (cl (str_ItoaN hL (p - 1) (by omega)) ?_)
  rintro _ _ rfl
  refine un ?_
  refine oV (.string (bS (((((D.take 1) ++ [46]) ++ (D.drop 1)) ++ [101]) ++ (Lib.itoa (p - 1))))) ?_ (hs := (fun δ w_ => run_catB ((((D.take 1) ++ [46]) ++ (D.drop 1)) ++ [101]) (Lib.itoa (p - 1)) (by first | omega | simp only [List.length_append, List.length_take, List.length_drop, List.length_cons, List.length_nil]; omega) rfl rfl))
  refine os 1 ?_
  refine kp [2, 80, 3, 72, 58, 43, 29, 5, 4, 19, 12, 9, 6, 0] ?_
  refine nt ?_
  refine SW_ret ?_
  refine body_end (.string (bS (((((D.take 1) ++ [46]) ++ (D.drop 1)) ++ [101]) ++ (Lib.itoa (p - 1))))) (fun _ => rfl) ?_
  rw [show printP0 a = formP D p from by rw [hD_, hp_]; unfold printP0; rw [if_neg (by omega), if_neg (by omega), if_neg (by omega)]]
  rw [form_e (by omega) (by omega) (by omega) (by omega), expo_t (by omega)]
  exact ⟨(), ow, rfl, by simp only [List.length_append, List.length_take, List.length_drop, List.length_cons, List.length_nil]; omega⟩
 refine SW_skip (n_then ?_)
 refine SW_seq ?_
 refine sr ?_
 refine os 2 ?_
 refine nt ?_
 refine cdp (fun hc41 : p > 0 => ?_) (fun hc41 => ?_)
 ·refine sr ?_
  refine os 1 ?_
  refine oV (.string (bS (D ++ [101, 43]))) ?_ (hs := (fun δ w_ => run_catB D [101, 43] (by first | omega | simp only [List.length_append, List.length_take, List.length_drop, List.length_cons, List.length_nil]; omega) rfl rfl))
  refine os 2 ?_
  have hil_ := Lib.itoa_length_le (p - 1) (by omega) (by omega)
  refine L (cl (str_ItoaN hL (p - 1) (by omega)) ?_)
  rintro _ _ rfl
  refine un ?_
  refine oV (.string (bS ((D ++ [101, 43]) ++ (Lib.itoa (p - 1))))) ?_ (hs := (fun δ w_ => run_catB (D ++ [101, 43]) (Lib.itoa (p - 1)) (by first | omega | simp only [List.length_append, List.length_take, List.length_drop, List.length_cons, List.length_nil]; omega) rfl rfl))
  refine os 1 ?_
  refine kp [2, 80, 72, 58, 43, 29, 5, 4, 3, 19, 12, 9, 6, 0] ?_
  refine nt ?_
  refine SW_ret (r_then ?_)
  refine body_end (.string (bS ((D ++ [101, 43]) ++ (Lib.itoa (p - 1))))) (fun _ => rfl) ?_
  rw [show printP0 a = formP D p from by rw [hD_, hp_]; unfold printP0; rw [if_neg (by omega), if_neg (by omega), if_neg (by omega)]]
  rw [form_d (by omega) (by omega) (by omega) (by omega), expo_f (by omega)]
  exact ⟨(), ow, rfl, by simp only [List.length_append, List.length_take, List.length_drop, List.length_cons, List.length_nil]; omega⟩
 refine SW_skip (n_then ?_)
 refine sr ?_
 refine os 1 ?_
 refine oV (.string (bS (D ++ [101]))) ?_ (hs := (fun δ w_ => run_catB D [101] (by first | omega | simp only [List.length_append, List.length_take, List.length_drop, List.length_cons, List.length_nil]; omega) rfl rfl))
 refine os 2 ?_
 have hil_ := Lib.itoa_length_le (p - 1) (by omega) (by omega)
 refine L (cl (str_ItoaN hL (p - 1) (by omega)) ?_)
 rintro _ _ rfl
 refine un ?_
 refine oV (.string (bS ((D ++ [101]) ++ (Lib.itoa (p - 1))))) ?_ (hs := (fun δ w_ => run_catB (D ++ [101]) (Lib.itoa (p - 1)) (by first | omega | simp only [List.length_append, List.length_take, List.length_drop, List.length_cons, List.length_nil]; omega) rfl rfl))
 refine os 1 ?_
 refine kp [2, 80, 72, 58, 43, 29, 5, 4, 3, 19, 12, 9, 6, 0] ?_
 refine nt ?_
 refine SW_ret ?_
 refine body_end (.string (bS ((D ++ [101]) ++ (Lib.itoa (p - 1))))) (fun _ => rfl) ?_
 rw [show printP0 a = formP D p from by rw [hD_, hp_]; unfold printP0; rw [if_neg (by omega), if_neg (by omega), if_neg (by omega)]]
 rw [form_e (by omega) (by omega) (by omega) (by omega), expo_f (by omega)]
 exact ⟨(), ow, rfl, by simp only [List.length_append, List.length_take, List.length_drop, List.length_cons, List.length_nil]; omega⟩

theorem pr_neg {W0 : World} {a : Nat} {R} (h : 9223372036854775808 ≤ a) (hc : SC Tryz.prog W0 14 #[.int .u64 ((a - 9223372036854775808 : Nat) : Int)] [] R) : SC Tryz.prog W0 14 #[.int .u64 ((a : Int) - 9223372036854775808)] [] R := by rw [show ((a : Int) - 9223372036854775808) = ((a - 9223372036854775808 : Nat) : Int) from by omega]; exact hc

theorem num_Print1 {W0 : World} (hL : LaidN W0) {a : Nat} (h0 : 9223372036854775808 ≤ a) (ha : a < 18446744073709551616) : SC Tryz.prog W0 14 #[.int .u64 (a : Int)] [] (Ret (fun _ : Unit => []) (fun v _ => v = .string (bS (printP a)) ∧ (printP a).length ≤ 6000)) := by
 refine SC_body (fn := Tryz.f14) (n := 93) Tryz.func14 rfl (by kernel_rfl) (ρ := [(0, .int .u64 (a : Int))]) rfl ?_
 have hka_ := kind_all a
 refine sr ?_
 refine os 1 ?_
 refine nq ?_
 refine SW_block ?_
 refine sr ?_
 refine os 1 ?_
 have his_ := num_IsNaN (W0 := W0) (a := a) (by omega)
 refine L (cl (his_) ?_)
 rintro v1 _ hv1
 obtain rfl : v1 = .bool (kindP a == 3) := hv1.trans (rfl)
 refine un ?_
 refine os 1 ?_
 refine nt ?_
 refine cd (fun hc1 : (kindP a == 3) = true => ?_) (fun hc1 => ?_)
 ·simp only [beq_iff_eq, bne_iff_ne, ne_eq, beq_eq_false_iff_ne, bne_eq_false_iff_eq, Classical.not_not] at hc1
  refine sr ?_
  refine os 1 ?_
  refine nt ?_
  refine SW_ret (r_in (r_then ?_))
  refine body_end (.string (bS [78, 97, 78])) (fun _ => rfl) ?_
  rw [show printP a = [78, 97, 78] from (by unfold printP; rw [if_pos (by omega)])]
  exact ⟨(), ow, rfl, by simp only [List.length_append, List.length_cons, List.length_nil]; omega⟩
 simp only [beq_iff_eq, bne_iff_ne, ne_eq, beq_eq_false_iff_ne, bne_eq_false_iff_eq, Classical.not_not] at hc1
 refine sr ?_
 refine os 1 ?_
 have his_ := num_Equal0 (W0 := W0) (a := a) (by omega)
 refine L (cl (his_) ?_)
 rintro v2 _ hv2
 obtain rfl : v2 = .bool (kindP a == 0) := hv2.trans (rfl)
 refine un ?_
 refine os 1 ?_
 refine kp [9, 6, 2, 0] ?_
 refine nt ?_
 refine cd (fun hc2 : (kindP a == 0) = true => ?_) (fun hc2 => ?_)
 ·simp only [beq_iff_eq, bne_iff_ne, ne_eq, beq_eq_false_iff_ne, bne_eq_false_iff_eq, Classical.not_not] at hc2
  refine sr ?_
  refine os 1 ?_
  refine nt ?_
  refine SW_ret (r_in (r_then ?_))
  refine body_end (.string (bS [48])) (fun _ => rfl) ?_
  rw [show printP a = [48] from (by unfold printP; rw [if_neg (by omega), if_pos (by omega)])]
  exact ⟨(), ow, rfl, by simp only [List.length_append, List.length_cons, List.length_nil]; omega⟩
 simp only [beq_iff_eq, bne_iff_ne, ne_eq, beq_eq_false_iff_ne, bne_eq_false_iff_eq, Classical.not_not] at hc2
 refine sr ?_
 refine os 3 ?_
 refine nt ?_
 refine SW_true (fun _ => (congrArg Value.bool (show (decide ((a : Int) ≥ 9223372036854775808)) = true from (decide_eq_true (by omega))))) ?_
 refine sr ?_
 refine os 2 ?_
 refine L (cl (pr_neg h0 (num_Print0 hL (a := a - 9223372036854775808) (by omega))) ?_)
 rintro _ _ ⟨rfl, hpl_⟩
 refine un ?_
 refine oV (.string (bS ([45] ++ (printP0 (a - 9223372036854775808))))) ?_ (hs := (fun δ w_ => run_catB [45] (printP0 (a - 9223372036854775808)) (by simp only [List.length_cons, List.length_nil]; omega) rfl rfl))
 refine os 1 ?_
 refine kp [2, 12, 9, 6, 0] ?_
 refine nt ?_
 refine SW_ret (r_in (r_then ?_))
 refine body_end (.string (bS ([45] ++ (printP0 (a - 9223372036854775808))))) (fun _ => rfl) ?_
 rw [show printP a = ([45] ++ (printP0 (a - 9223372036854775808))) from (by unfold printP; rw [if_neg (by omega), if_neg (by omega), if_pos (by omega)])]
 exact ⟨(), ow, rfl, by simp only [List.length_append, List.length_cons, List.length_nil]; omega⟩

theorem num_Print {W0 : World} (hL : LaidN W0) {a : Nat} (ha : a < 18446744073709551616) : SC Tryz.prog W0 14 #[.int .u64 (a : Int)] [] (Ret (fun _ : Unit => []) (fun v _ => v = .string (bS (printP a)) ∧ (printP a).length ≤ 6000)) := by
 rcases Nat.lt_or_ge a 9223372036854775808 with h | h
 · refine SC.mono (num_Print0 hL h) ?_
   rintro v _ ⟨x, hw, hv, hl⟩
   rw [← printP_small h] at hv hl
   exact ⟨x, hw, hv, by omega⟩
 · exact num_Print1 hL h ha

end Go.Proofs.YtnhmmjogfkjceaaGreatDoor
namespace Go.Proofs.YtnhmmjogfkjceaaGreatDoor
open Go.Sl

theorem law_alive2 {W0 : World} (hL : LaidN W0) : SC Tryz.prog W0 16 #[] [] (Ret (fun _ : Unit => []) (fun v _ => v = .bool true)) := by
 refine SC_body (fn := Tryz.f16) (n := 20) Tryz.func16 rfl (by kernel_rfl) (ρ := []) rfl ?_
 refine sr ?_
 refine os 1 ?_
 refine nsr ?_
 have hli_ := num_Literal (W0 := W0) (X := [48, 120, 49, 48]) (by decide)
 rw [alive_lit] at hli_
 refine L (cl (hli_) ?_)
 rintro v1 _ hv1
 obtain rfl : v1 = .tuple #[.int .u64 4625196817309499392, .bool true] := hv1.trans (rfl)
 refine un ?_
 refine os 5 ?_
 refine kp [2, 1, 0] ?_
 refine nsr ?_
 have hpi_ := num_Print (W0 := W0) hL (a := 4599075939470750516) (by decide)
 rw [alive_print] at hpi_
 refine L (cl (hpi_) ?_)
 rintro v2 _ ⟨hv2, hpl_⟩
 obtain rfl : v2 = .string (bS [48, 46, 51, 48, 48, 48, 48, 48, 48, 48, 48, 48, 48, 48, 48, 48, 48, 48, 52]) := hv2.trans (rfl)
 refine un ?_
 refine oV (.bool true) ?_ (hs := (fun δ w_ => by kernel_rfl))
 refine os 1 ?_
 have hre_ := num_Read (W0 := W0) (X := [32, 49, 46, 53, 10]) (by decide)
 rw [alive_read] at hre_
 refine L (cl (hre_) ?_)
 rintro v3 _ hv3
 obtain rfl : v3 = .int .u64 4609434218613702656 := hv3.trans (rfl)
 refine un ?_
 refine oV (.bool true) ?_
 refine os 6 ?_
 refine oV (.bool true) ?_
 refine os 2 ?_
 refine kp [0, 2, 1] ?_
 refine nt ?_
 refine SW_ret ?_
 refine body_end (.bool true) (fun _ => rfl) ?_
 exact ⟨(), ow, congrArg Value.bool (by decide)⟩

end Go.Proofs.YtnhmmjogfkjceaaGreatDoor
namespace Go.Proofs.YtnhmmjogfkjceaaGreatDoor
open Go.Sl

def ofP (a : Nat) : Nat := if mag a > 9218868437227405312 then 9221120237041090560 else a
theorem r1_Of {W0 : World} {a : Nat} (ha : a < 18446744073709551616) : SC Tryz.prog W0 13 #[.float .f64 a] [] (Ret (fun _ : Unit => []) (fun v _ => v = .int .u64 (ofP a : Int))) := by
 refine SC_body (fn := Tryz.f13) (n := 8) Tryz.func13 rfl (by kernel_rfl) (ρ := [(0, .float .f64 a)]) rfl ?_
 refine sr ?_
 refine os 1 ?_
 refine nq ?_
 refine sr ?_
 refine os 2 ?_
 refine oV (.bool (decide (mag a > 9218868437227405312))) ?_ (hs := (fun δ w_ => run_fne (f_nan ha) rfl rfl))
 refine nt ?_
 refine cdp (fun hc1 : mag a > 9218868437227405312 => ?_) (fun hc1 => ?_)
 ·refine sr ?_
  refine os 1 ?_
  refine nt ?_
  refine SW_ret (r_then ?_)
  refine body_end (.int .u64 9221120237041090560) (fun _ => rfl) ?_
  exact ⟨(), ow, by unfold ofP; rw [if_pos hc1]; rfl⟩
 refine SW_skip (n_then ?_)
 refine sr ?_
 refine os 1 ?_
 refine oV (.int .u64 (a : Int)) ?_
 refine os 1 ?_
 refine kp [2, 5, 0] ?_
 refine nt ?_
 refine SW_ret ?_
 refine body_end (.int .u64 (a : Int)) (fun _ => rfl) ?_
 exact ⟨(), ow, by unfold ofP; rw [if_neg hc1]⟩

end Go.Proofs.YtnhmmjogfkjceaaGreatDoor
namespace Go.Proofs.YtnhmmjogfkjceaaGreatDoor
open Go.Sl

theorem clamp_eq (e : Int) : (if 5000 < (if -5000 > e then -5000 else e) then 5000 else (if -5000 > e then -5000 else e)) = clampE e := clampE_eq e
theorem shr_man {m c : Nat} {z : Int} (hz : z = (c : Int)) (hc : c < 64) : Int.fdiv (m : Int) (2 ^ min z.toNat IntKind.u64.bits) = ((m / 2 ^ c : Nat) : Int) := by
 rw [hz, Int.toNat_natCast, show IntKind.u64.bits = 64 from rfl, Nat.min_eq_left (by omega), Int.fdiv_eq_ediv_of_nonneg _ (by exact_mod_cast Nat.zero_le _)]
 simp
theorem shl_man {g c m : Nat} {z : Int} (hz : z = (c : Int)) (hc : c ≤ 64) (h : g * 2 ^ c ≤ m) (hm : m < 18446744073709551616) : IntKind.wrap .u64 ((g : Int) * 2 ^ min z.toNat IntKind.u64.bits) = ((g * 2 ^ c : Nat) : Int) := by
 rw [hz, Int.toNat_natCast, show IntKind.u64.bits = 64 from rfl, Nat.min_eq_left (by omega), wrap64]
 have h1 : (g : Int) * 2 ^ c = ((g * 2 ^ c : Nat) : Int) := by simp
 rw [h1]
 generalize g * 2 ^ c = z at *
 omega
theorem one_shlZ {c : Nat} {z : Int} (hz : z = (c : Int)) (h : c < 64) : IntKind.wrap .u64 ((1 : Int) * 2 ^ min z.toNat IntKind.u64.bits) = ((2 ^ c : Nat) : Int) := by rw [hz]; exact one_shl h

theorem r1_Near {W0 : World} {man : Nat} {e : Int} {half : Bool} (hm : man < 18446744073709551616) (he : -4611686018427387904 ≤ e ∧ e ≤ 4611686018427387904) : SC Tryz.prog W0 106 #[.int .u64 (man : Int), .int .i64 e, .bool half] [] (Ret (fun _ : Unit => []) (fun v _ => v = .int .u64 (nearN man e half : Int))) := by
 refine SC_body (fn := Tryz.f106) (n := 86) Tryz.func106 rfl (by kernel_rfl) (ρ := [(0, .int .u64 (man : Int)), (1, .int .i64 e), (2, .bool half)]) rfl ?_
 refine sr ?_
 refine os 1 ?_
 refine nsr ?_
 refine os 1 ?_
 refine oV (.int .i64 (if -5000 > e then -5000 else e)) ?_
 refine oV (.int .i64 (if 5000 < if -5000 > e then -5000 else e then 5000 else if -5000 > e then -5000 else e)) ?_
 refine os 1 ?_
 refine kp [1, 6, 0, 2] ?_
 refine nq ?_
 refine SW_seq ?_
 rw [clamp_eq]
 have hce_ := clampE_in e
 refine SW_cut3 (fun ρ_ σ_ => Fits ρ_ σ_ [(0, .int .u64 (((if half = true ∧ man < 9223372036854775808 then 2 * man + 1 else man : Nat)) : Int)), (1, .int .i64 (if half = true ∧ man < 9223372036854775808 then clampE e - 1 else clampE e)), (2, .bool (if half = true ∧ man < 9223372036854775808 then false else half))] ([])) ?_ ?_
 ·refine SW_region ?_
  refine os 2 ?_
  refine tb 16 (fun hg1 => ?_) (fun hg1 => ?_)
  ·replace hg1 : half = true := hg1
   refine os 3 ?_
   refine kp [19, 0, 1, 2] ?_
   refine nt ?_
   refine cdp (fun hc2 : (man : Int) < 9223372036854775808 => ?_) (fun hc2 => ?_)
   ·refine sr ?_
    refine os 4 ?_
    refine kp [0, 19, 1, 2] ?_
    refine nsr ?_
    refine os 3 ?_
    refine nr ?_
    refine os 1 ?_
    refine nt ?_
    have hcc_ : (half = true ∧ man < 9223372036854775808) := ⟨by assumption, by omega⟩
    rw [if_pos hcc_, if_pos hcc_, if_pos hcc_]
    rw [show ((2 * man + 1 : Nat) : Int) = 2 * (man : Int) + 1 from by omega]
    exact ⟨fun _ => rfl, ow⟩
   refine SW_skip (n_then ?_)
   have hcc_ : ¬ (half = true ∧ man < 9223372036854775808) := by rintro ⟨q1_, q2_⟩; first | omega | simp_all
   rw [if_neg hcc_, if_neg hcc_, if_neg hcc_]
   rw [show half = true from by assumption]
   exact ⟨fun _ => rfl, ow⟩
  replace hg1 : half = false := hg1
  refine os 3 ?_
  refine kp [19, 0, 1, 2] ?_
  refine nt ?_
  refine cf ?_
  refine SW_skip (n_then ?_)
  have hcc_ : ¬ (half = true ∧ man < 9223372036854775808) := by rintro ⟨q1_, q2_⟩; first | omega | simp_all
  rw [if_neg hcc_, if_neg hcc_, if_neg hcc_]
  rw [show half = false from by assumption]
  exact ⟨fun _ => rfl, ow⟩
 ·rintro ρ_ σ_ hfit
  refine SW_fits hfit ?_
  clear hfit
  refine SW_seq ?_
  obtain ⟨m1, e1, h1, hm1_, he1_, hh1_, hN0_, hN_⟩ := near1_state (half := half) (e := e) hm
  rw [← hm1_.1, ← he1_.1, ← hh1_.1]
  have hm1b_ := hm1_.2
  have he1b_ := he1_.2
  have hh1b_ := hh1_.2
  clear hm1_ he1_ hh1_
  generalize hNN_ : nearN man e half = NN at *
  have hb64_ := bitsN_64 hm1b_
  refine SW_region ?_
  refine os 2 ?_
  refine L (cl (r1_bits (n := m1) hm1b_ hb64_) ?_)
  rintro _ _ rfl
  refine un ?_
  refine os 2 ?_
  refine oV (.int .i64 (if -1074 > (e1 + (bitsN m1 : Int)) - 53 then -1074 else (e1 + (bitsN m1 : Int)) - 53)) ?_
  refine os 1 ?_
  refine kp [7, 0, 1, 2] ?_
  refine nsr ?_
  refine os 4 ?_
  refine kp [8, 7, 0, 1, 2] ?_
  refine nq ?_
  refine SW_seq ?_
  obtain ⟨last, hlast_⟩ : ∃ z, z = if -1074 > (e1 + (bitsN m1 : Int)) - 53 then -1074 else (e1 + (bitsN m1 : Int)) - 53 := ⟨_, rfl⟩
  rw [← hlast_]
  have hlr_ : (last = e1 + (bitsN m1 : Int) - 53 ∧ -1074 ≤ last) ∨ (last = -1074 ∧ e1 + (bitsN m1 : Int) - 53 ≤ last) := by rw [hlast_]; split <;> omega
  clear hlast_
  refine SW_region ?_
  refine os 3 ?_
  refine tb 36 (fun hg3 => ?_) (fun hg3 => ?_)
  ·replace hg3 : ((m1 : Int) == 0) = true := hg3
   simp only [beq_iff_eq, bne_iff_ne, ne_eq, beq_eq_false_iff_ne, bne_eq_false_iff_eq, Classical.not_not] at hg3
   refine os 3 ?_
   refine kp [39, 8, 7, 0, 1, 2] ?_
   refine nt ?_
   refine ct ?_
   refine sr ?_
   refine os 1 ?_
   refine nt ?_
   refine SW_ret (r_then ?_)
   refine body_end (.int .u64 0) (fun _ => rfl) ?_
   by_cases hm0_ : m1 = 0
   · rw [hN0_ hm0_]; exact ⟨(), ow, rfl⟩
   · have hre_ := isRN_uniq (Nat.two_pow_pos _) (hN_ (by omega)) (near1_zero (M := 2 * m1 + hN h1) (E := e1 - 1 + 1074) (by unfold hN; split <;> omega) (by omega))
     rw [hre_]; exact ⟨(), ow, rfl⟩
  replace hg3 : ((m1 : Int) == 0) = false := hg3
  simp only [beq_iff_eq, bne_iff_ne, ne_eq, beq_eq_false_iff_ne, bne_eq_false_iff_eq, Classical.not_not] at hg3
  refine os 3 ?_
  refine kp [39, 8, 7, 0, 1, 2] ?_
  refine nt ?_
  refine cdp (fun hc4 : (last - e1) > 64 => ?_) (fun hc4 => ?_)
  ·refine sr ?_
   refine os 1 ?_
   refine nt ?_
   refine SW_ret (r_then ?_)
   refine body_end (.int .u64 0) (fun _ => rfl) ?_
   by_cases hm0_ : m1 = 0
   · rw [hN0_ hm0_]; exact ⟨(), ow, rfl⟩
   · have hre_ := isRN_uniq (Nat.two_pow_pos _) (hN_ (by omega)) (near1_zero (M := 2 * m1 + hN h1) (E := e1 - 1 + 1074) (by unfold hN; split <;> omega) (by omega))
     rw [hre_]; exact ⟨(), ow, rfl⟩
  refine SW_skip (n_then ?_)
  refine SW_seq ?_
  refine sr ?_
  refine os 2 ?_
  refine nt ?_
  refine cdp (fun hc5 : (last - e1) ≤ 0 => ?_) (fun hc5 => ?_)
  ·refine SW_seq ?_
   have h1p_ : 0 < m1 := by omega
   have hbl_ : m1 ≤ 9007199254740992 := by have h2_ := bitsN_lt m1; have h3_ : 2 ^ bitsN m1 ≤ 2 ^ 53 := Nat.pow_le_pow_right (by decide) (by omega); omega
   have hz_ : h1 = false := by cases hq_ : h1; rfl; exfalso; have h2_ := hh1b_ hq_; omega
   refine SW_region ?_
   refine os 1 ?_
   refine oV (.float .f64 (ldP m1 0)) ?_ (hs := (fun δ w_ => run_i2f (n := m1) Tryz.underlying29 Tryz.underlying30 rfl))
   refine os 1 ?_
   refine L (cl (f_LdexpM (m := m1) (e := e1) hbl_ (by omega)) ?_)
   rintro _ _ rfl
   refine un ?_
   have hof_ : ldP m1 e1 ≤ 9218868437227405312 := ldP_lt (by omega)
   refine L (cl (r1_Of (a := ldP m1 e1) (by omega)) ?_)
   rintro _ _ rfl
   refine un ?_
   refine os 1 ?_
   refine kp [6, 41, 39, 8, 7, 0, 1, 2] ?_
   refine nt ?_
   refine SW_ret (r_then ?_)
   refine body_end (.int .u64 (ofP (ldP m1 e1) : Int)) (fun _ => rfl) ?_
   have hre_ := isRN_uniq (Nat.two_pow_pos _) (hN_ h1p_) (by rw [hz_]; exact near1_whole (man := m1) (e := e1) h1p_ (by omega) rfl)
   rw [hre_, show ofP (ldP m1 e1) = ldP m1 e1 from by unfold ofP mag; rw [if_neg (by omega)]]
   exact ⟨(), ow, rfl⟩
  refine SW_skip (n_then ?_)
  refine SW_seq ?_
  obtain ⟨c, hcz_⟩ : ∃ c : Nat, last - e1 = (c : Int) := ⟨(last - e1).toNat, by omega⟩
  have hc0_ : 0 < c := by omega
  have hdm_ := Nat.div_add_mod m1 (2 ^ c)
  rw [Nat.mul_comm] at hdm_
  have hrm_ := Nat.mod_lt m1 (Nat.two_pow_pos c)
  have h1p_ : 0 < m1 := by omega
  refine SW_region ?_
  refine os 1 ?_
  refine nq ?_
  refine SW_seq ?_
  refine SW_cut3 (fun ρ_ σ_ => Fits ρ_ σ_ [(0, .int .u64 (m1 : Int)), (1, .int .i64 e1), (2, .bool h1), (7, .int .i64 last), (8, .int .i64 (last - e1)), (9, .int .u64 ((m1 / 2 ^ c : Nat) : Int))] ([])) ?_ ?_
  ·refine SW_region ?_
   refine os 2 ?_
   refine nt ?_
   refine cdp (fun hc6 : (last - e1) < 64 => ?_) (fun hc6 => ?_)
   ·refine SW_region ?_
    refine os 2 ?_
    refine oV (.int .u64 ((m1 / 2 ^ c : Nat) : Int)) ?_ (hs := shrR (m := (m1 : Int)) (c := (last - e1)) _ (by omega) (shr_man hcz_ (by omega)))
    refine os 1 ?_
    refine kp [9, 48, 41, 39, 8, 7, 0, 1, 2] ?_
    refine nt ?_
    exact ⟨fun _ => rfl, ow⟩
   refine SW_skip (n_then ?_)
   rw [show m1 / 2 ^ c = 0 from Nat.div_eq_of_lt (Nat.lt_of_lt_of_le hm1b_ (Nat.pow_le_pow_right (show 0 < 2 by decide) (show 64 ≤ c by omega)))]
   exact ⟨fun _ => rfl, ow⟩
  ·rintro ρ_ σ_ hfit
   refine SW_fits hfit ?_
   clear hfit
   refine sr ?_
   refine os 3 ?_
   refine oV (.int .u64 (((m1 / 2 ^ c) * 2 ^ c : Nat) : Int)) ?_ (hs := shlR (m := ((m1 / 2 ^ c : Nat) : Int)) (c := (last - e1)) _ (by omega) (shl_man (g := m1 / 2 ^ c) (m := m1) hcz_ (by omega) (Nat.div_mul_le_self _ _) hm1b_))
   refine os 2 ?_
   refine kp [10, 0, 1, 2, 7, 8, 9] ?_
   refine nq ?_
   refine SW_seq ?_
   refine SW_cut3 (fun ρ_ σ_ => Fits ρ_ σ_ [(0, .int .u64 (m1 : Int)), (1, .int .i64 e1), (2, .bool h1), (7, .int .i64 last), (8, .int .i64 (last - e1)), (9, .int .u64 ((m1 / 2 ^ c : Nat) : Int)), (10, .int .u64 ((m1 % 2 ^ c : Nat) : Int))] ([])) ?_ ?_
   ·refine SW_region ?_
    refine os 2 ?_
    refine nt ?_
    refine cd (fun hc7 : ((last - e1) == 64) = true => ?_) (fun hc7 => ?_)
    ·simp only [beq_iff_eq, bne_iff_ne, ne_eq, beq_eq_false_iff_ne, bne_eq_false_iff_eq, Classical.not_not] at hc7
     refine SW_region ?_
     refine os 2 ?_
     refine nt ?_
     rw [show m1 % 2 ^ c = m1 from Nat.mod_eq_of_lt (Nat.lt_of_lt_of_le hm1b_ (Nat.pow_le_pow_right (show 0 < 2 by decide) (show 64 ≤ c by omega)))]
     exact ⟨fun _ => rfl, ow⟩
    simp only [beq_iff_eq, bne_iff_ne, ne_eq, beq_eq_false_iff_ne, bne_eq_false_iff_eq, Classical.not_not] at hc7
    refine SW_skip (n_then ?_)
    rw [show ((m1 % 2 ^ c : Nat) : Int) = (m1 : Int) - (((m1 / 2 ^ c) * 2 ^ c : Nat) : Int) from by omega]
    exact ⟨fun _ => rfl, ow⟩
   ·rintro ρ_ σ_ hfit
    refine SW_fits hfit ?_
    clear hfit
    refine SW_seq ?_
    obtain ⟨g, hg_⟩ : ∃ g, g = m1 / 2 ^ c := ⟨_, rfl⟩
    obtain ⟨r, hr_⟩ : ∃ r, r = m1 % 2 ^ c := ⟨_, rfl⟩
    have hbc_ := bits_cut (man := m1) (c := c) rfl h1p_ (by omega)
    rw [← hg_] at hbc_ ⊢
    rw [← hr_]
    refine SW_region ?_
    refine os 2 ?_
    refine oV (.int .u64 ((2 ^ (c - 1) : Nat) : Int)) ?_ (hs := shlR (m := 1) (c := (last - e1) - 1) _ (by omega) (one_shlZ (c := c - 1) (by omega) (by omega)))
    refine os 1 ?_
    refine kp [11, 0, 1, 2, 7, 8, 9, 10] ?_
    refine nq ?_
    refine SW_seq ?_
    obtain ⟨md, hmd_⟩ : ∃ z : Nat, z = 2 ^ (c - 1) := ⟨_, rfl⟩
    rw [← hmd_]
    refine SW_cut3 (fun ρ_ σ_ => Fits ρ_ σ_ [(1, .int .i64 e1), (7, .int .i64 last), (9, .int .u64 (((if (r > 2 ^ (c - 1) ∨ (r = 2 ^ (c - 1) ∧ (h1 = true ∨ g % 2 = 1))) then g + 1 else g : Nat)) : Int))] ([])) ?_ ?_
    ·refine SW_region ?_
     refine os 4 ?_
     refine tbp 66 (fun hg8 => ?_) (fun hg8 => ?_)
     ·replace hg8 : (r : Int) > (md : Int) := hg8
      refine os 12 ?_
      refine kp [78, 11, 0, 1, 2, 7, 8, 9, 10] ?_
      refine nt ?_
      refine ct ?_
      refine SW_region ?_
      refine os 3 ?_
      refine nt ?_
      have hup_ : (r > 2 ^ (c - 1) ∨ (r = 2 ^ (c - 1) ∧ (h1 = true ∨ g % 2 = 1))) := (by rw [← hmd_]; first | (left; omega) | (right; refine ⟨by omega, .inl (by assumption)⟩) | (right; refine ⟨by omega, .inr (by omega)⟩))
      rw [if_pos hup_]
      rw [show ((g + 1 : Nat) : Int) = (g : Int) + 1 from by omega]
      exact ⟨fun _ => rfl, ow⟩
     replace hg8 : ¬ ((r : Int) > (md : Int)) := hg8
     refine os 4 ?_
     refine kp [70, 66, 11, 0, 1, 2, 7, 8, 9, 10] ?_
     refine tb 70 (fun hg9 => ?_) (fun hg9 => ?_)
     ·replace hg9 : ((r : Int) == (md : Int)) = true := hg9
      simp only [beq_iff_eq, bne_iff_ne, ne_eq, beq_eq_false_iff_ne, bne_eq_false_iff_eq, Classical.not_not] at hg9
      refine os 2 ?_
      refine tb 72 (fun hg10 => ?_) (fun hg10 => ?_)
      ·replace hg10 : h1 = true := hg10
       refine os 6 ?_
       refine kp [78, 11, 0, 1, 2, 7, 8, 9, 10] ?_
       refine nt ?_
       refine ct ?_
       refine SW_region ?_
       refine os 3 ?_
       refine nt ?_
       have hup_ : (r > 2 ^ (c - 1) ∨ (r = 2 ^ (c - 1) ∧ (h1 = true ∨ g % 2 = 1))) := (by rw [← hmd_]; first | (left; omega) | (right; refine ⟨by omega, .inl (by assumption)⟩) | (right; refine ⟨by omega, .inr (by omega)⟩))
       rw [if_pos hup_]
       rw [show ((g + 1 : Nat) : Int) = (g : Int) + 1 from by omega]
       exact ⟨fun _ => rfl, ow⟩
      replace hg10 : h1 = false := hg10
      refine os 1 ?_
      refine oX (.int .u64 (Int.tmod (g : Int) 2)) (.int .u64 ((g : Int) % 2)) (congrArg (Value.int .u64) (rem_nn (by first | omega | exact Int.natCast_nonneg _))) ?_
      refine os 4 ?_
      refine kp [78, 11, 0, 1, 2, 7, 8, 9, 10] ?_
      refine nt ?_
      refine cd (fun hc11 : (((g : Int) % 2) == 1) = true => ?_) (fun hc11 => ?_)
      ·simp only [beq_iff_eq, bne_iff_ne, ne_eq, beq_eq_false_iff_ne, bne_eq_false_iff_eq, Classical.not_not] at hc11
       refine SW_region ?_
       refine os 3 ?_
       refine nt ?_
       have hup_ : (r > 2 ^ (c - 1) ∨ (r = 2 ^ (c - 1) ∧ (h1 = true ∨ g % 2 = 1))) := (by rw [← hmd_]; first | (left; omega) | (right; refine ⟨by omega, .inl (by assumption)⟩) | (right; refine ⟨by omega, .inr (by omega)⟩))
       rw [if_pos hup_]
       rw [show ((g + 1 : Nat) : Int) = (g : Int) + 1 from by omega]
       exact ⟨fun _ => rfl, ow⟩
      simp only [beq_iff_eq, bne_iff_ne, ne_eq, beq_eq_false_iff_ne, bne_eq_false_iff_eq, Classical.not_not] at hc11
      refine SW_skip (n_then ?_)
      have hup_ : ¬ (r > 2 ^ (c - 1) ∨ (r = 2 ^ (c - 1) ∧ (h1 = true ∨ g % 2 = 1))) := (by rw [← hmd_]; rintro (q_ | ⟨q_, q2_ | q2_⟩) <;> first | omega | simp_all)
      rw [if_neg hup_]
      exact ⟨fun _ => rfl, ow⟩
     replace hg9 : ((r : Int) == (md : Int)) = false := hg9
     simp only [beq_iff_eq, bne_iff_ne, ne_eq, beq_eq_false_iff_ne, bne_eq_false_iff_eq, Classical.not_not] at hg9
     refine os 8 ?_
     refine kp [78, 11, 0, 1, 2, 7, 8, 9, 10] ?_
     refine nt ?_
     refine cf ?_
     refine SW_skip (n_then ?_)
     have hup_ : ¬ (r > 2 ^ (c - 1) ∨ (r = 2 ^ (c - 1) ∧ (h1 = true ∨ g % 2 = 1))) := (by rw [← hmd_]; rintro (q_ | ⟨q_, q2_ | q2_⟩) <;> first | omega | simp_all)
     rw [if_neg hup_]
     exact ⟨fun _ => rfl, ow⟩
    ·rintro ρ_ σ_ hfit
     refine SW_fits hfit ?_
     clear hfit
     refine SW_seq ?_
     obtain ⟨G, hG_⟩ : ∃ G, G = (if (r > 2 ^ (c - 1) ∨ (r = 2 ^ (c - 1) ∧ (h1 = true ∨ g % 2 = 1))) then g + 1 else g) := ⟨_, rfl⟩
     have hGb_ : G ≤ 9007199254740992 := by rw [hG_]; split <;> omega
     have hcut_ := near1_cut (man := m1) (c := c) (g := g) (r := r) (u := (last + 1074).toNat) (half := h1) (E := e1 - 1 + 1074) (last := last) (up := (r > 2 ^ (c - 1) ∨ (r = 2 ^ (c - 1) ∧ (h1 = true ∨ g % 2 = 1)))) hc0_ hg_ hr_ (by omega) (by omega) hbc_.1 (by rcases hlr_ with q_ | q_; (right; exact hbc_.2 (by omega)); (left; omega)) Iff.rfl
     rw [← hG_] at hcut_ ⊢
     have hre_ := isRN_uniq (Nat.two_pow_pos _) (hN_ h1p_) hcut_
     refine SW_region ?_
     refine os 1 ?_
     refine oV (.float .f64 (ldP G 0)) ?_ (hs := (fun δ w_ => run_i2f (n := G) Tryz.underlying29 Tryz.underlying30 rfl))
     refine os 1 ?_
     refine L (cl (f_LdexpM (m := G) (e := last) hGb_ (by omega)) ?_)
     rintro _ _ rfl
     refine un ?_
     have hof_ : ldP G last ≤ 9218868437227405312 := ldP_lt (by omega)
     refine L (cl (r1_Of (a := ldP G last) (by omega)) ?_)
     rintro _ _ rfl
     refine un ?_
     refine os 1 ?_
     refine kp [6, 1, 7, 9] ?_
     refine nt ?_
     refine SW_ret ?_
     refine body_end (.int .u64 (ofP (ldP G last) : Int)) (fun _ => rfl) ?_
     rw [hre_, show ofP (ldP G last) = ldP G last from by unfold ofP mag; rw [if_neg (by omega)]]
     exact ⟨(), ow, rfl⟩

end Go.Proofs.YtnhmmjogfkjceaaGreatDoor
namespace Go.Proofs.YtnhmmjogfkjceaaGreatDoor
open Go.Sl

theorem up2_step {x m n a0 : Nat} (h : x * 2 ^ m = a0 * 2 ^ n) (hm : 31 ≤ m) : x * 2147483648 * 2 ^ (m - 31) = a0 * 2 ^ n := by
 rw [← h, show m = 31 + (m - 31) by omega, Nat.pow_add, ← Nat.mul_assoc, show 31 + (m - 31) - 31 = m - 31 by omega]
theorem ten2_step {x m n a0 c k : Nat} (h : x * 10 ^ m = a0 * 10 ^ n) (hc : c = 10 ^ k) (hm : k ≤ m) : x * c * 10 ^ (m - k) = a0 * 10 ^ n := by
 rw [← h, show m = k + (m - k) by omega, Nat.pow_add, ← Nat.mul_assoc, ← hc, show k + (m - k) - k = m - k by omega]
theorem le_mul_pow2 (x m : Nat) : x ≤ x * 2 ^ m := Nat.le_mul_of_pos_right _ (Nat.two_pow_pos m)
theorem le_mul_pow10 (x m : Nat) : x ≤ x * 10 ^ m := Nat.le_mul_of_pos_right _ (Nat.pow_pos (by decide))
theorem one_shl32 {k : Nat} (h : k < 32) : IntKind.wrap .u32 ((1 : Int) * 2 ^ min (k : Int).toNat IntKind.u32.bits) = ((2 ^ k : Nat) : Int) := by
 rw [Int.toNat_natCast, show IntKind.u32.bits = 32 from rfl, Nat.min_eq_left (by omega), wrap_u32]
 have h1 : (1 : Int) * 2 ^ k = ((2 ^ k : Nat) : Int) := by simp
 have h2 : 2 ^ k ≤ 2 ^ 31 := Nat.pow_le_pow_right (by decide) (by omega)
 rw [h1]
 generalize 2 ^ k = z at *
 omega

theorem r2_up {W0 : World} {a : Gs} {a0 n : Nat} (hk : Gs.ok 1 (lim a0).length a ((lim a0).map encP)) (hb : (lim (a0 * 2 ^ n)).length ≤ 1048576) (hn : n ≤ 1048576) : SC Tryz.prog W0 174 #[a.val (lim a0).length, .int .i64 (n : Int)] (Gs.ent 87 1 a ((lim a0).map encP)) (Ret (fun g : Gs => Gs.ent 87 1 g ((lim (a0 * 2 ^ n)).map encP) ++ (Gs.ent 87 1 a ((lim a0).map encP))) (fun v g => v = g.val (lim (a0 * 2 ^ n)).length ∧ Gs.ok 1 (lim (a0 * 2 ^ n)).length g ((lim (a0 * 2 ^ n)).map encP))) := by
 refine SC_body (fn := Tryz.f174) (n := 15) Tryz.func174 rfl (by kernel_rfl) (ρ := [(0, Gs.val a ((lim a0).length)), (1, .int .i64 (n : Int))]) rfl ?_
 refine SW_sig ((Gs.ent 87 1 a ((lim a0).map encP)) ++ ([])) (by simp only [List.append_nil, List.append_assoc]) ?_
 refine sr ?_
 refine os 1 ?_
 refine nq ?_
 refine SW_block ?_
 refine SW_sig (Gs.ent 87 1 a ((lim a0).map encP) ++ ([] ++ [])) rfl ?_
 refine SW_loop (α := Nat × Gs × Heaplet × Nat) (fun z_ ρ_ σ_ => Fits ρ_ σ_ [(0, Gs.val z_.2.1 ((lim z_.1).length)), (1, .int .i64 (z_.2.2.2 : Int))] ((Gs.ent 87 1 z_.2.1 ((lim z_.1).map encP)) ++ (z_.2.2.1 ++ ([]))) ∧ Gs.ok 1 (lim z_.1).length z_.2.1 ((lim z_.1).map encP) ∧ z_.1 * 2 ^ z_.2.2.2 = a0 * 2 ^ n ∧ ((a = z_.2.1 ∧ [] = z_.2.2.1 ∧ a0 = z_.1) ∨ z_.2.2.1 = Gs.ent 87 1 a ((lim a0).map encP)) ∧ z_.2.2.2 ≤ n) (fun z_ => z_.2.2.2) (a0, a, [], n) ⟨⟨fun _ => rfl, ⟨[], List.Perm.of_eq (List.append_nil _).symm⟩⟩, hk, rfl, .inl ⟨rfl, rfl, rfl⟩, Nat.le_refl _⟩ ?_
 rintro ⟨x, g, R, m⟩ ρ_ σ_ ⟨hfit, hi0, hi1, hi2, hi3⟩
 refine SW_fits hfit ?_
 clear hfit
 simp only [] at hi0 hi1 hi2 hi3 ⊢
 refine SW_seq ?_
 refine sr ?_
 refine os 2 ?_
 refine nt ?_
 refine cdp (fun hc1 : (m : Int) ≥ 31 => ?_) (fun hc1 => ?_)
 ·refine SW_skip (n_then ?_)
  refine SW_block ?_
  refine sr ?_
  refine os 1 ?_
  have hq_ := r2_times (W0 := W0) (a0 := x) (n := 2147483648) (more := 0) hi0 (len_mono (by rw [← hi1]; exact le_mul_pow2 _ _) hb) (by decide) (by decide)
  rw [Nat.add_zero] at hq_
  refine L (cl (hq_) ?_)
  rintro _ u2 ⟨rfl, hku2⟩
  refine un ?_
  refine os 1 ?_
  refine kp [0, 6, 1] ?_
  refine nr ?_
  refine os 3 ?_
  refine SL_nil (n_in (n_then ?_))
  rw [show (m : Int) - 31 = ((m - 31 : Nat) : Int) from by omega]
  rcases hi2 with ⟨q1_, q2_, q3_⟩ | q2_
  · subst q1_ q2_ q3_
    exact ⟨(a0 * 2147483648, u2, Gs.ent 87 1 a ((lim a0).map encP), m - 31), by simp only []; omega, ⟨fun _ => rfl, ow⟩, hku2, up2_step hi1 (by omega), .inr rfl, by simp only []; omega⟩
  · subst q2_
    exact ⟨(x * 2147483648, u2, Gs.ent 87 1 a ((lim a0).map encP), m - 31), by simp only []; omega, ⟨fun _ => rfl, ow⟩, hku2, up2_step hi1 (by omega), .inr rfl, by simp only []; omega⟩
 refine SW_exit (x_then (x_then (x_in (n_then ?_))))
 refine sr ?_
 refine os 2 ?_
 refine oV (.int .u32 ((2 ^ m : Nat) : Int)) ?_ (hs := shlR (k := .u32) (m := 1) (c := (m : Int)) _ (by omega) (one_shl32 (k := m) (by omega)))
 have hq_ := r2_times (W0 := W0) (a0 := x) (n := 2 ^ m) (more := 0) hi0 (len_mono (by rw [← hi1]; exact le_mul_pow2 _ _) hb) (Nat.pow_lt_pow_right (by decide) (show m < 32 by omega)) (by decide)
 rw [Nat.add_zero, hi1] at hq_
 refine L (cl (hq_) ?_)
 rintro _ u3 ⟨rfl, hku3⟩
 refine un ?_
 refine os 1 ?_
 refine kp [4, 6, 0, 1] ?_
 refine nt ?_
 refine SW_ret ?_
 refine body_end (Gs.val u3 ((lim (a0 * 2 ^ n)).length)) (fun _ => rfl) ?_
 rcases hi2 with ⟨q1_, q2_, q3_⟩ | q2_
 · subst q1_ q2_ q3_
   exact ⟨u3, ow, rfl, hku3⟩
 · subst q2_
   exact ⟨u3, ow, rfl, hku3⟩

theorem r2_tens {W0 : World} {a : Gs} {a0 n : Nat} (hk : Gs.ok 1 (lim a0).length a ((lim a0).map encP)) (hb : (lim (a0 * 10 ^ n)).length ≤ 1048576) (hn : n ≤ 1048576) : SC Tryz.prog W0 144 #[a.val (lim a0).length, .int .i64 (n : Int)] (Gs.ent 87 1 a ((lim a0).map encP)) (Ret (fun g : Gs => Gs.ent 87 1 g ((lim (a0 * 10 ^ n)).map encP)) (fun v g => v = g.val (lim (a0 * 10 ^ n)).length ∧ Gs.ok 1 (lim (a0 * 10 ^ n)).length g ((lim (a0 * 10 ^ n)).map encP))) := by
 refine SC_body (fn := Tryz.f144) (n := 18) Tryz.func144 rfl (by kernel_rfl) (ρ := [(0, Gs.val a ((lim a0).length)), (1, .int .i64 (n : Int))]) rfl ?_
 refine SW_sig ((Gs.ent 87 1 a ((lim a0).map encP)) ++ ([])) (by simp only [List.append_nil, List.append_assoc]) ?_
 refine sr ?_
 refine os 1 ?_
 refine nq ?_
 refine SW_block ?_
 refine SW_loop (α := Nat × Gs × Nat) (fun z_ ρ_ σ_ => Fits ρ_ σ_ [(0, Gs.val z_.2.1 ((lim z_.1).length)), (1, .int .i64 (z_.2.2 : Int))] ((Gs.ent 87 1 z_.2.1 ((lim z_.1).map encP)) ++ ([])) ∧ Gs.ok 1 (lim z_.1).length z_.2.1 ((lim z_.1).map encP) ∧ z_.1 * 10 ^ z_.2.2 = a0 * 10 ^ n ∧ z_.2.2 ≤ n) (fun z_ => z_.2.2) (a0, a, n) ⟨⟨fun _ => rfl, ow⟩, hk, rfl, Nat.le_refl _⟩ ?_
 rintro ⟨x, g, m⟩ ρ_ σ_ ⟨hfit, hi0, hi1, hi2⟩
 refine SW_fits hfit ?_
 clear hfit
 simp only [] at hi0 hi1 hi2 ⊢
 refine SW_seq ?_
 refine sr ?_
 refine os 2 ?_
 refine nt ?_
 refine cdp (fun hc1 : (m : Int) ≥ 9 => ?_) (fun hc1 => ?_)
 ·refine SW_skip (n_then ?_)
  refine SW_block ?_
  refine sr ?_
  refine os 1 ?_
  have hq_ := r2_times (W0 := W0) (a0 := x) (n := 1000000000) (more := 0) hi0 (len_mono (by rw [← hi1]; exact le_mul_pow10 _ _) hb) (by decide) (by decide)
  rw [Nat.add_zero] at hq_
  refine L (cl (hq_) ?_)
  rintro _ u2 ⟨rfl, hku2⟩
  refine un ?_
  refine os 1 ?_
  refine kp [0, 6, 1] ?_
  refine nr ?_
  refine os 3 ?_
  refine SL_nil (n_in (n_then ?_))
  rw [show (m : Int) - 9 = ((m - 9 : Nat) : Int) from by omega]
  exact ⟨(x * 1000000000, u2, m - 9), by simp only []; omega, ⟨fun _ => rfl, ow⟩, hku2, ten2_step (k := 9) hi1 rfl (by omega), by simp only []; omega⟩
 refine SW_exit (x_then (x_then (x_in (n_then ?_))))
 refine SW_seq ?_
 refine SW_block ?_
 refine SW_loop (α := Nat × Gs × Nat) (fun z_ ρ_ σ_ => Fits ρ_ σ_ [(0, Gs.val z_.2.1 ((lim z_.1).length)), (1, .int .i64 (z_.2.2 : Int))] ((Gs.ent 87 1 z_.2.1 ((lim z_.1).map encP)) ++ ([])) ∧ Gs.ok 1 (lim z_.1).length z_.2.1 ((lim z_.1).map encP) ∧ z_.1 * 10 ^ z_.2.2 = a0 * 10 ^ n ∧ z_.2.2 ≤ n) (fun z_ => z_.2.2) (x, g, m) ⟨⟨fun _ => rfl, ow⟩, hi0, hi1, hi2⟩ ?_
 rintro ⟨x, g, m⟩ ρ_ σ_ ⟨hfit, hi0, hi1, hi2⟩
 refine SW_fits hfit ?_
 clear hfit
 simp only [] at hi0 hi1 hi2 ⊢
 refine SW_seq ?_
 refine sr ?_
 refine os 2 ?_
 refine nt ?_
 refine cdp (fun hc3 : (m : Int) > 0 => ?_) (fun hc3 => ?_)
 ·refine SW_skip (n_then ?_)
  refine SW_block ?_
  refine sr ?_
  refine os 1 ?_
  have hq_ := r2_times (W0 := W0) (a0 := x) (n := 10) (more := 0) hi0 (len_mono (by rw [← hi1]; exact le_mul_pow10 _ _) hb) (by decide) (by decide)
  rw [Nat.add_zero] at hq_
  refine L (cl (hq_) ?_)
  rintro _ u4 ⟨rfl, hku4⟩
  refine un ?_
  refine os 1 ?_
  refine kp [0, 12, 1] ?_
  refine nr ?_
  refine os 3 ?_
  refine SL_nil (n_in (n_then ?_))
  rw [show (m : Int) - 1 = ((m - 1 : Nat) : Int) from by omega]
  exact ⟨(x * 10, u4, m - 1), by simp only []; omega, ⟨fun _ => rfl, ow⟩, hku4, ten2_step (k := 1) hi1 rfl (by omega), by simp only []; omega⟩
 refine SW_exit (x_then (x_then (x_in (n_then ?_))))
 refine sr ?_
 refine os 2 ?_
 refine nt ?_
 refine SW_ret ?_
 refine body_end (Gs.val g ((lim x).length)) (fun _ => rfl) ?_
 obtain rfl : m = 0 := by omega
 rw [Nat.pow_zero, Nat.mul_one] at hi1
 subst hi1
 exact ⟨g, ow, rfl, hi0⟩

theorem r2_order {W0 : World} {a b : Gs} {a0 b0 : Nat} (hka : Gs.ok 1 (lim a0).length a ((lim a0).map encP)) (hkb : Gs.ok 1 (lim b0).length b ((lim b0).map encP)) (hsa : (lim a0).length ≤ 1048576) : SC Tryz.prog W0 173 #[a.val (lim a0).length, b.val (lim b0).length] (Gs.ent 87 1 a ((lim a0).map encP) ++ Gs.ent 87 1 b ((lim b0).map encP)) (Ret (fun _ : Unit => Gs.ent 87 1 a ((lim a0).map encP) ++ Gs.ent 87 1 b ((lim b0).map encP)) (fun v _ => v = .int .i64 (cmpN a0 b0))) := by
 refine SC_body (fn := Tryz.f173) (n := 41) Tryz.func173 rfl (by kernel_rfl) (ρ := [(0, Gs.val a ((lim a0).length)), (1, Gs.val b ((lim b0).length))]) rfl ?_
 refine SW_sig ((Gs.ent 87 1 a ((lim a0).map encP)) ++ ((Gs.ent 87 1 b ((lim b0).map encP)) ++ ([]))) (by simp only [List.append_nil, List.append_assoc]) ?_
 refine sr ?_
 refine os 1 ?_
 refine nq ?_
 refine sr ?_
 refine os 5 ?_
 refine kp [10, 4, 0, 1] ?_
 refine nt ?_
 refine cdp (fun hc1 : ((((lim a0).length : Nat)) : Int) < ((((lim b0).length : Nat)) : Int) => ?_) (fun hc1 => ?_)
 ·refine sr ?_
  refine os 1 ?_
  refine nt ?_
  refine SW_ret (r_then ?_)
  refine body_end (.int .i64 (-1)) (fun _ => rfl) ?_
  exact ⟨(), ow, by rw [cmp_lt (order_len (by omega))]⟩
 refine SW_skip (n_then ?_)
 refine SW_seq ?_
 refine sr ?_
 refine os 5 ?_
 refine kp [15, 10, 4, 0, 1] ?_
 refine nt ?_
 refine cdp (fun hc2 : ((((lim a0).length : Nat)) : Int) > ((((lim b0).length : Nat)) : Int) => ?_) (fun hc2 => ?_)
 ·refine sr ?_
  refine os 1 ?_
  refine nt ?_
  refine SW_ret (r_then ?_)
  refine body_end (.int .i64 1) (fun _ => rfl) ?_
  exact ⟨(), ow, by rw [cmp_gt (order_len (by omega))]⟩
 refine SW_skip (n_then ?_)
 refine SW_seq ?_
 refine sr ?_
 refine os 4 ?_
 refine kp [5, 15, 10, 4, 0, 1] ?_
 refine nt ?_
 refine SW_block ?_
 have hle_ : (lim a0).length = (lim b0).length := by omega
 refine SW_loop (α := Nat) (fun z_ ρ_ σ_ => Fits ρ_ σ_ [(0, Gs.val a ((lim a0).length)), (1, Gs.val b ((lim b0).length)), (5, .int .i64 ((z_ : Int) - 1))] ((Gs.ent 87 1 a ((lim a0).map encP)) ++ ((Gs.ent 87 1 b ((lim b0).map encP)) ++ ([]))) ∧ z_ ≤ (lim a0).length ∧ (lim a0).drop z_ = (lim b0).drop z_) (fun z_ => z_) ((lim a0).length) ⟨⟨fun _ => rfl, ow⟩, Nat.le_refl _, by rw [List.drop_length, hle_, List.drop_length]⟩ ?_
 rintro j ρ_ σ_ ⟨hfit, hi0, hi1⟩
 refine SW_fits hfit ?_
 clear hfit
 refine SW_seq ?_
 refine sr ?_
 refine os 2 ?_
 refine nt ?_
 refine cdp (fun hc3 : ((j : Int) - 1) ≥ 0 => ?_) (fun hc3 => ?_)
 ·refine SW_skip (n_then ?_)
  refine SW_seq ?_
  refine SW_block ?_
  refine SW_seq ?_
  refine SW_seq ?_
  obtain ⟨e1, he1⟩ : ∃ y_, (lim a0)[j - 1]? = some y_ := ⟨_, List.getElem?_eq_getElem (by omega)⟩
  obtain ⟨e2, he2⟩ : ∃ y_, (lim b0)[j - 1]? = some y_ := ⟨_, List.getElem?_eq_getElem (by omega)⟩
  refine SW_draw [((Gs.blk a), j - 1, .int .u32 e1), ((Gs.blk b), j - 1, .int .u32 e2)] [0, 1, 2, 3, 4, 5, 6, 7] (by kernel_rfl) (rd_cons (Gs.cell hka (fun e he => (mem_h he)) (map_cell he1 rfl)) (rd_cons (Gs.cell hkb (fun e he => (mem_a (mem_h he))) (map_cell he2 rfl)) rd_nil)) ?_
  refine aS 0 ?_
  refine aS 1 ?_
  refine aI 2 ((j : Int) - 1) (j - 1) hka Tryz.underlying149 ?_
  refine aL 3 ?_
  refine aS 4 ?_
  refine aS 5 ?_
  refine aI 6 ((j : Int) - 1) (j - 1) hkb Tryz.underlying149 ?_
  refine aL 7 ?_
  refine aS 8 ?_
  refine kpA [31, 20, 0, 1, 5] ?_
  refine SA_done (by kernel_rfl) (n_then ?_)
  refine cdp (fun hc4 : e1 < e2 => ?_) (fun hc4 => ?_)
  ·refine sr ?_
   refine os 1 ?_
   refine nt ?_
   refine SW_ret (r_then (r_in (r_then (r_then (r_in (r_then ?_))))))
   refine body_end (.int .i64 (-1)) (fun _ => rfl) ?_
   exact ⟨(), ow, by rw [cmp_lt (order_top hle_ (by omega) hi1 he1 he2 (by omega))]⟩
  refine SW_skip (n_then ?_)
  refine SW_seq ?_
  refine SW_draw [((Gs.blk a), j - 1, .int .u32 e1), ((Gs.blk b), j - 1, .int .u32 e2)] [0, 1, 2, 3, 4, 5, 6, 7] (by kernel_rfl) (rd_cons (Gs.cell hka (fun e he => (mem_h he)) (map_cell he1 rfl)) (rd_cons (Gs.cell hkb (fun e he => (mem_a (mem_h he))) (map_cell he2 rfl)) rd_nil)) ?_
  refine aS 0 ?_
  refine aS 1 ?_
  refine aI 2 ((j : Int) - 1) (j - 1) hka Tryz.underlying149 ?_
  refine aL 3 ?_
  refine aS 4 ?_
  refine aS 5 ?_
  refine aI 6 ((j : Int) - 1) (j - 1) hkb Tryz.underlying149 ?_
  refine aL 7 ?_
  refine aS 8 ?_
  refine kpA [40, 31, 20, 0, 1, 5] ?_
  refine SA_done (by kernel_rfl) (n_then ?_)
  refine cdp (fun hc5 : e1 > e2 => ?_) (fun hc5 => ?_)
  ·refine sr ?_
   refine os 1 ?_
   refine nt ?_
   refine SW_ret (r_in (r_then (r_then (r_in (r_then ?_)))))
   refine body_end (.int .i64 1) (fun _ => rfl) ?_
   exact ⟨(), ow, by rw [cmp_gt (order_top hle_.symm (by omega) hi1.symm he2 he1 (by omega))]⟩
  refine SW_skip (n_in (n_then ?_))
  refine SW_region ?_
  refine os 3 ?_
  refine nt ?_
  rw [show (j : Int) - 1 - 1 = ((j - 1 : Nat) : Int) - 1 from by omega]
  exact ⟨j - 1, by omega, ⟨fun _ => rfl, ow⟩, by omega, order_next (by omega) he1 he2 (by omega) hi1⟩
 refine SW_exit (x_then (x_then (x_in (n_then ?_))))
 refine sr ?_
 refine os 1 ?_
 refine nt ?_
 refine SW_ret ?_
 refine body_end (.int .i64 0) (fun _ => rfl) ?_
 exact ⟨(), ow, by rw [cmp_eq (by rw [show j = 0 from by omega] at hi1; exact order_same hi1)]⟩

end Go.Proofs.YtnhmmjogfkjceaaGreatDoor
namespace Go.Proofs.YtnhmmjogfkjceaaGreatDoor
open Go.Sl

theorem r2_by {W0 : World} {a : Gs} {a0 n : Nat} (hk : Gs.ok 1 (lim a0).length a ((lim a0).map encP)) (hs : (lim a0).length ≤ 1048576) (hn : n < 18446744073709551616) : SC Tryz.prog W0 175 #[a.val (lim a0).length, .int .u64 (n : Int)] (Gs.ent 87 1 a ((lim a0).map encP)) (Ret (fun g : Gs => Gs.ent 87 1 g ((lim (a0 * n)).map encP) ++ (Gs.ent 87 1 a ((lim a0).map encP))) (fun v g => v = g.val (lim (a0 * n)).length ∧ Gs.ok 1 (lim (a0 * n)).length g ((lim (a0 * n)).map encP))) := by
 refine SC_body (fn := Tryz.f175) (n := 68) Tryz.func175 rfl (by kernel_rfl) (ρ := [(0, Gs.val a ((lim a0).length)), (1, .int .u64 (n : Int))]) rfl ?_
 refine SW_sig ((Gs.ent 87 1 a ((lim a0).map encP)) ++ ([])) (by simp only [List.append_nil, List.append_assoc]) ?_
 refine sr ?_
 refine os 1 ?_
 refine nsr ?_
 refine os 2 ?_
 refine oX (.int .u64 (Int.tmod (n : Int) 4294967296)) (.int .u64 ((n : Int) % 4294967296)) (congrArg (Value.int .u64) (rem_nn (by first | omega | exact Int.natCast_nonneg _))) ?_
 refine os 1 ?_
 have hqlo_ := r2_times (W0 := W0) (a0 := a0) (n := n % 4294967296) (more := 0) hk hs (by omega) (by decide)
 rw [Nat.add_zero, show ((n % 4294967296 : Nat) : Int) = (n : Int) % 4294967296 from by omega] at hqlo_
 have hllo_ := by_low (a0 := a0) (n := n % 4294967296) rfl (by omega)
 refine L (cl (hqlo_) ?_)
 rintro _ lo ⟨rfl, hklo⟩
 refine un ?_
 refine os 1 ?_
 refine kp [5, 4, 0, 1] ?_
 refine nsr ?_
 refine os 2 ?_
 refine oX (.int .u64 (IntKind.wrap .u64 (Int.tdiv (n : Int) 4294967296))) (.int .u64 ((n : Int) / 4294967296)) (congrArg (Value.int .u64) (quo_u64 (by omega) (by omega) (by decide))) ?_
 refine os 1 ?_
 have hqhi_ := r2_times (W0 := W0) (a0 := a0) (n := n / 4294967296) (more := 0) hk hs (by omega) (by decide)
 rw [Nat.add_zero, show ((n / 4294967296 : Nat) : Int) = (n : Int) / 4294967296 from by omega] at hqhi_
 have hlhi_ := by_low (a0 := a0) (n := n / 4294967296) rfl (by omega)
 refine L (cl (hqhi_) ?_)
 rintro _ hi ⟨rfl, hkhi⟩
 refine un ?_
 refine os 1 ?_
 refine kp [6, 5, 4, 0, 1] ?_
 refine nsr ?_
 refine os 3 ?_
 refine L (O_make1 (bytes := 4) ((lim a0).length + 3) (.int .u32 0) (fun _ => rfl) (fun _ => rfl) Tryz.underlying149 (by kernel_rfl) rfl (by omega) (by omega) rfl ?_)
 intro b1 hlb1 hnb1
 have hmkb1 : Gs.ok 1 ((lim a0).length + 3) (Gs.at b1 ((lim a0).length + 3)) ((List.replicate ((lim a0).length + 3) 0).map encP) := Gs.ok_make (by simp) (by unfold maxLen; omega)
 refine SL_sig ((Gs.ent 87 1 (Gs.at b1 ((lim a0).length + 3)) ((List.replicate ((lim a0).length + 3) 0).map encP)) ++ ((Gs.ent 87 1 hi ((lim (a0 * (n / 4294967296))).map encP)) ++ ((Gs.ent 87 1 a ((lim a0).map encP)) ++ ((Gs.ent 87 1 lo ((lim (a0 * (n % 4294967296))).map encP)) ++ ([]))))) (by rw [show ((List.replicate ((lim a0).length + 3) 0).map encP) = List.replicate ((lim a0).length + 3) (.int .u32 0) from by simp]) ?_
 refine os 1 ?_
 refine kp [7, 6, 5, 4, 0, 1] ?_
 refine nsr ?_
 refine os 1 ?_
 refine nq ?_
 refine sr ?_
 refine os 1 ?_
 refine nt ?_
 refine SW_block ?_
 have hkr0_ := hmkb1
 rw [show (List.replicate ((lim a0).length + 3) 0 : List Int) = [] ++ List.replicate ((lim a0).length + 3 - 0) 0 from rfl]
 refine SW_loop (α := Nat × List Int × Int) (fun z_ ρ_ σ_ => Fits ρ_ σ_ [(0, Gs.val a ((lim a0).length)), (5, Gs.val lo ((lim (a0 * (n % 4294967296))).length)), (6, Gs.val hi ((lim (a0 * (n / 4294967296))).length)), (7, Gs.val (Gs.at b1 ((lim a0).length + 3)) ((lim a0).length + 3)), (8, .int .u64 z_.2.2), (9, .int .i64 (z_.1 : Int))] ((Gs.ent 87 1 (Gs.at b1 ((lim a0).length + 3)) ((z_.2.1 ++ List.replicate ((lim a0).length + 3 - z_.1) 0).map encP)) ++ ((Gs.ent 87 1 hi ((lim (a0 * (n / 4294967296))).map encP)) ++ ((Gs.ent 87 1 a ((lim a0).map encP)) ++ ((Gs.ent 87 1 lo ((lim (a0 * (n % 4294967296))).map encP)) ++ ([]))))) ∧ z_.1 ≤ (lim a0).length + 3 ∧ (z_.2.1.length = z_.1 ∧ LimOk z_.2.1 ∧ (0 ≤ z_.2.2 ∧ z_.2.2 ≤ 2)) ∧ limV z_.2.1 + 4294967296 ^ z_.1 * z_.2.2.toNat = limV ((lim (a0 * (n % 4294967296))).take z_.1) + 4294967296 * limV ((lim (a0 * (n / 4294967296))).take (z_.1 - 1))) (fun z_ => (lim a0).length + 3 - z_.1) (0, [], 0) ⟨⟨fun _ => rfl, ow⟩, Nat.zero_le _, ⟨rfl, (fun x hx => by cases hx), (show 0 ≤ (0 : Int) ∧ (0 : Int) ≤ 2 from by omega)⟩, by simp [limV]⟩ ?_
 rintro ⟨i, ys, c⟩ ρ_ σ_ ⟨hfit, hi0, hi1, hi2⟩
 refine SW_fits hfit ?_
 clear hfit
 simp only [] at hi0 hi1 hi2 ⊢
 obtain ⟨hyl, hyo, hc⟩ := hi1
 have hrl_ : (ys ++ List.replicate ((lim a0).length + 3 - i) 0).length = (lim a0).length + 3 := by simp; omega
 have hkr_ : Gs.ok 1 ((lim a0).length + 3) (Gs.at b1 ((lim a0).length + 3)) ((ys ++ List.replicate ((lim a0).length + 3 - i) 0).map encP) := Gs.ok.relen hkr0_ (by simp; omega)
 refine SW_seq ?_
 refine sr ?_
 refine os 4 ?_
 refine kp [27, 0, 5, 6, 7, 8, 9] ?_
 refine nt ?_
 refine cdp (fun hc2 : (i : Int) < (((((lim a0).length + 3) : Nat)) : Int) => ?_) (fun hc2 => ?_)
 ·refine SW_skip (n_then ?_)
  refine SW_seq ?_
  refine SW_block ?_
  refine SW_seq ?_
  refine sr ?_
  refine os 4 ?_
  refine kp [33, 27, 0, 5, 6, 7, 8, 9] ?_
  refine nt ?_
  refine cdp (fun hc3 : (i : Int) < ((((lim (a0 * (n % 4294967296))).length : Nat)) : Int) => ?_) (fun hc3 => ?_)
  ·obtain ⟨e1, he1⟩ : ∃ y_, (lim (a0 * (n % 4294967296)))[i]? = some y_ := ⟨_, List.getElem?_eq_getElem (by omega)⟩
   have hxo_ := lim_ok (a0 * (n % 4294967296)) _ (List.mem_of_getElem? he1)
   refine SW_region ?_
   refine os 3 ?_
   refine L (ixg (i : Int) (i) hklo Tryz.underlying149 ?_)
   refine L (ld ?_ (hc := Gs.cell hklo (fun e he => (mem_a (mem_a (mem_a (mem_h he))))) (map_cell he1 rfl)))
   refine os 3 ?_
   refine kp [8, 33, 27, 0, 5, 6, 7, 9] ?_
   refine nq ?_
   refine sr ?_
   refine os 3 ?_
   refine tbp 43 (fun hg4 => ?_) (fun hg4 => ?_)
   ·replace hg4 : (i : Int) > 0 := hg4
    refine os 6 ?_
    refine kp [49, 8, 33, 27, 0, 5, 6, 7, 9] ?_
    refine nt ?_
    refine cdp (fun hc5 : ((i : Int) - 1) < ((((lim (a0 * (n / 4294967296))).length : Nat)) : Int) => ?_) (fun hc5 => ?_)
    ·obtain ⟨e2, he2⟩ : ∃ y_, (lim (a0 * (n / 4294967296)))[i - 1]? = some y_ := ⟨_, List.getElem?_eq_getElem (by omega)⟩
     have hyo2_ := lim_ok (a0 * (n / 4294967296)) _ (List.mem_of_getElem? he2)
     refine SW_region ?_
     refine os 4 ?_
     refine L (ixg ((i : Int) - 1) (i - 1) hkhi Tryz.underlying149 ?_)
     refine L (ld ?_ (hc := Gs.cell hkhi (fun e he => (mem_a (mem_h he))) (map_cell he2 rfl)))
     refine os 3 ?_
     refine kp [8, 49, 33, 27, 0, 5, 6, 7, 9] ?_
     refine nsr ?_
     refine os 3 ?_
     refine oX (.int .u64 (Int.tmod ((c + e1) + e2) 4294967296)) (.int .u64 (((c + e1) + e2) % 4294967296)) (congrArg (Value.int .u64) (rem_nn (by first | omega | exact Int.natCast_nonneg _))) ?_
     refine os 1 ?_
     refine L (ixg (i : Int) (i) hkr_ Tryz.underlying149 ?_)
     obtain ⟨e3, he3⟩ : ∃ y_, (ys ++ List.replicate ((lim a0).length + 3 - i) 0)[i]? = some y_ := ⟨_, List.getElem?_eq_getElem (by omega)⟩
     have hok1 := Gs.ok.relen (ys := (((ys ++ List.replicate ((lim a0).length + 3 - i) 0).set i (((c + e1) + e2) % 4294967296)).map encP)) hkr_ (by simp)
     refine L (O_storeG (ys := (((ys ++ List.replicate ((lim a0).length + 3 - i) 0).set i (((c + e1) + e2) % 4294967296)).map encP)) (Gs.at b1 ((lim a0).length + 3)) (i) (.int .u32 (((c + e1) + e2) % 4294967296)) [.int .u32 (((c + e1) + e2) % 4294967296)] (Gs.ok.ne hkr_ (by first | omega | (simp; omega))) (fun _ => rfl) (fun _ => rfl) rfl (by kernel_rfl) rfl (by simp; omega) (row_lay_map (((c + e1) + e2) % 4294967296) (by omega)) rfl ?_)
     refine nr ?_
     refine os 1 ?_
     refine oX (.int .u64 (IntKind.wrap .u64 (Int.tdiv ((c + e1) + e2) 4294967296))) (.int .u64 (((c + e1) + e2) / 4294967296)) (congrArg (Value.int .u64) (quo_u64 (by omega) (by omega) (by decide))) ?_
     refine os 1 ?_
     refine kp [8, 49, 33, 27, 0, 5, 6, 7, 9] ?_
     refine SL_nil (n_in (n_then ?_))
     refine SW_region ?_
     refine os 3 ?_
     refine nt ?_
     obtain ⟨q1_, q2_, q3_, q4_⟩ := by_body (x := e1) (y := e2) (t := (c + e1) + e2) hyl hyo (by rw [he1]; rfl) (by rw [if_pos (by omega), he2]; rfl) (hxo_) (hyo2_) hc (by omega) hi2
     have hst_ := set_rep (v := ((c + e1) + e2) % 4294967296) (m := (lim a0).length + 3 - i) (m' := (lim a0).length + 3 - (i + 1)) hyl (by omega)
     refine ⟨(i + 1, ys ++ [((c + e1) + e2) % 4294967296], ((c + e1) + e2) / 4294967296), by simp only []; omega, ?_⟩
     simp only []
     refine ⟨⟨fun _ => rfl, ?_⟩, by omega, ⟨q1_, q2_, q3_⟩, q4_⟩
     rw [← hst_]
     exact ow
    refine SW_skip (n_then ?_)
    refine sr ?_
    refine os 3 ?_
    refine oX (.int .u64 (Int.tmod (c + e1) 4294967296)) (.int .u64 ((c + e1) % 4294967296)) (congrArg (Value.int .u64) (rem_nn (by first | omega | exact Int.natCast_nonneg _))) ?_
    refine os 1 ?_
    refine L (ixg (i : Int) (i) hkr_ Tryz.underlying149 ?_)
    obtain ⟨e4, he4⟩ : ∃ y_, (ys ++ List.replicate ((lim a0).length + 3 - i) 0)[i]? = some y_ := ⟨_, List.getElem?_eq_getElem (by omega)⟩
    have hok2 := Gs.ok.relen (ys := (((ys ++ List.replicate ((lim a0).length + 3 - i) 0).set i ((c + e1) % 4294967296)).map encP)) hkr_ (by simp)
    refine L (O_storeG (ys := (((ys ++ List.replicate ((lim a0).length + 3 - i) 0).set i ((c + e1) % 4294967296)).map encP)) (Gs.at b1 ((lim a0).length + 3)) (i) (.int .u32 ((c + e1) % 4294967296)) [.int .u32 ((c + e1) % 4294967296)] (Gs.ok.ne hkr_ (by first | omega | (simp; omega))) (fun _ => rfl) (fun _ => rfl) rfl (by kernel_rfl) rfl (by simp; omega) (row_lay_map ((c + e1) % 4294967296) (by omega)) rfl ?_)
    refine nr ?_
    refine os 1 ?_
    refine oX (.int .u64 (IntKind.wrap .u64 (Int.tdiv (c + e1) 4294967296))) (.int .u64 ((c + e1) / 4294967296)) (congrArg (Value.int .u64) (quo_u64 (by omega) (by omega) (by decide))) ?_
    refine os 1 ?_
    refine kp [8, 49, 33, 27, 0, 5, 6, 7, 9] ?_
    refine SL_nil (n_in (n_then ?_))
    refine SW_region ?_
    refine os 3 ?_
    refine nt ?_
    obtain ⟨q1_, q2_, q3_, q4_⟩ := by_body (x := e1) (y := 0) (t := c + e1) hyl hyo (by rw [he1]; rfl) ((by first | rw [if_neg (by omega)] | rw [if_pos (by omega), List.getElem?_eq_none (by omega)]; rfl)) (hxo_) (by omega) hc (by omega) hi2
    have hst_ := set_rep (v := (c + e1) % 4294967296) (m := (lim a0).length + 3 - i) (m' := (lim a0).length + 3 - (i + 1)) hyl (by omega)
    refine ⟨(i + 1, ys ++ [(c + e1) % 4294967296], (c + e1) / 4294967296), by simp only []; omega, ?_⟩
    simp only []
    refine ⟨⟨fun _ => rfl, ?_⟩, by omega, ⟨q1_, q2_, q3_⟩, q4_⟩
    rw [← hst_]
    exact ow
   replace hg4 : ¬ ((i : Int) > 0) := hg4
   refine os 6 ?_
   refine kp [49, 8, 33, 27, 0, 5, 6, 7, 9] ?_
   refine nt ?_
   refine cf ?_
   refine SW_skip (n_then ?_)
   refine sr ?_
   refine os 3 ?_
   refine oX (.int .u64 (Int.tmod (c + e1) 4294967296)) (.int .u64 ((c + e1) % 4294967296)) (congrArg (Value.int .u64) (rem_nn (by first | omega | exact Int.natCast_nonneg _))) ?_
   refine os 1 ?_
   refine L (ixg (i : Int) (i) hkr_ Tryz.underlying149 ?_)
   obtain ⟨e5, he5⟩ : ∃ y_, (ys ++ List.replicate ((lim a0).length + 3 - i) 0)[i]? = some y_ := ⟨_, List.getElem?_eq_getElem (by omega)⟩
   have hok3 := Gs.ok.relen (ys := (((ys ++ List.replicate ((lim a0).length + 3 - i) 0).set i ((c + e1) % 4294967296)).map encP)) hkr_ (by simp)
   refine L (O_storeG (ys := (((ys ++ List.replicate ((lim a0).length + 3 - i) 0).set i ((c + e1) % 4294967296)).map encP)) (Gs.at b1 ((lim a0).length + 3)) (i) (.int .u32 ((c + e1) % 4294967296)) [.int .u32 ((c + e1) % 4294967296)] (Gs.ok.ne hkr_ (by first | omega | (simp; omega))) (fun _ => rfl) (fun _ => rfl) rfl (by kernel_rfl) rfl (by simp; omega) (row_lay_map ((c + e1) % 4294967296) (by omega)) rfl ?_)
   refine nr ?_
   refine os 1 ?_
   refine oX (.int .u64 (IntKind.wrap .u64 (Int.tdiv (c + e1) 4294967296))) (.int .u64 ((c + e1) / 4294967296)) (congrArg (Value.int .u64) (quo_u64 (by omega) (by omega) (by decide))) ?_
   refine os 1 ?_
   refine kp [8, 49, 33, 27, 0, 5, 6, 7, 9] ?_
   refine SL_nil (n_in (n_then ?_))
   refine SW_region ?_
   refine os 3 ?_
   refine nt ?_
   obtain ⟨q1_, q2_, q3_, q4_⟩ := by_body (x := e1) (y := 0) (t := c + e1) hyl hyo (by rw [he1]; rfl) ((by first | rw [if_neg (by omega)] | rw [if_pos (by omega), List.getElem?_eq_none (by omega)]; rfl)) (hxo_) (by omega) hc (by omega) hi2
   have hst_ := set_rep (v := (c + e1) % 4294967296) (m := (lim a0).length + 3 - i) (m' := (lim a0).length + 3 - (i + 1)) hyl (by omega)
   refine ⟨(i + 1, ys ++ [(c + e1) % 4294967296], (c + e1) / 4294967296), by simp only []; omega, ?_⟩
   simp only []
   refine ⟨⟨fun _ => rfl, ?_⟩, by omega, ⟨q1_, q2_, q3_⟩, q4_⟩
   rw [← hst_]
   exact ow
  refine SW_skip (n_then ?_)
  refine SW_seq ?_
  refine sr ?_
  refine os 3 ?_
  refine tbp 43 (fun hg6 => ?_) (fun hg6 => ?_)
  ·replace hg6 : (i : Int) > 0 := hg6
   refine os 6 ?_
   refine kp [49, 33, 27, 0, 5, 6, 7, 8, 9] ?_
   refine nt ?_
   refine cdp (fun hc7 : ((i : Int) - 1) < ((((lim (a0 * (n / 4294967296))).length : Nat)) : Int) => ?_) (fun hc7 => ?_)
   ·obtain ⟨e6, he6⟩ : ∃ y_, (lim (a0 * (n / 4294967296)))[i - 1]? = some y_ := ⟨_, List.getElem?_eq_getElem (by omega)⟩
    have hyo2_ := lim_ok (a0 * (n / 4294967296)) _ (List.mem_of_getElem? he6)
    refine SW_region ?_
    refine os 4 ?_
    refine L (ixg ((i : Int) - 1) (i - 1) hkhi Tryz.underlying149 ?_)
    refine L (ld ?_ (hc := Gs.cell hkhi (fun e he => (mem_a (mem_h he))) (map_cell he6 rfl)))
    refine os 3 ?_
    refine kp [8, 49, 33, 27, 0, 5, 6, 7, 9] ?_
    refine nsr ?_
    refine os 3 ?_
    refine oX (.int .u64 (Int.tmod (c + e6) 4294967296)) (.int .u64 ((c + e6) % 4294967296)) (congrArg (Value.int .u64) (rem_nn (by first | omega | exact Int.natCast_nonneg _))) ?_
    refine os 1 ?_
    refine L (ixg (i : Int) (i) hkr_ Tryz.underlying149 ?_)
    obtain ⟨e7, he7⟩ : ∃ y_, (ys ++ List.replicate ((lim a0).length + 3 - i) 0)[i]? = some y_ := ⟨_, List.getElem?_eq_getElem (by omega)⟩
    have hok4 := Gs.ok.relen (ys := (((ys ++ List.replicate ((lim a0).length + 3 - i) 0).set i ((c + e6) % 4294967296)).map encP)) hkr_ (by simp)
    refine L (O_storeG (ys := (((ys ++ List.replicate ((lim a0).length + 3 - i) 0).set i ((c + e6) % 4294967296)).map encP)) (Gs.at b1 ((lim a0).length + 3)) (i) (.int .u32 ((c + e6) % 4294967296)) [.int .u32 ((c + e6) % 4294967296)] (Gs.ok.ne hkr_ (by first | omega | (simp; omega))) (fun _ => rfl) (fun _ => rfl) rfl (by kernel_rfl) rfl (by simp; omega) (row_lay_map ((c + e6) % 4294967296) (by omega)) rfl ?_)
    refine nr ?_
    refine os 1 ?_
    refine oX (.int .u64 (IntKind.wrap .u64 (Int.tdiv (c + e6) 4294967296))) (.int .u64 ((c + e6) / 4294967296)) (congrArg (Value.int .u64) (quo_u64 (by omega) (by omega) (by decide))) ?_
    refine os 1 ?_
    refine kp [8, 49, 33, 27, 0, 5, 6, 7, 9] ?_
    refine SL_nil (n_in (n_then ?_))
    refine SW_region ?_
    refine os 3 ?_
    refine nt ?_
    obtain ⟨q1_, q2_, q3_, q4_⟩ := by_body (x := 0) (y := e6) (t := c + e6) hyl hyo (by rw [List.getElem?_eq_none (by omega)]; rfl) (by rw [if_pos (by omega), he6]; rfl) (by omega) (hyo2_) hc (by omega) hi2
    have hst_ := set_rep (v := (c + e6) % 4294967296) (m := (lim a0).length + 3 - i) (m' := (lim a0).length + 3 - (i + 1)) hyl (by omega)
    refine ⟨(i + 1, ys ++ [(c + e6) % 4294967296], (c + e6) / 4294967296), by simp only []; omega, ?_⟩
    simp only []
    refine ⟨⟨fun _ => rfl, ?_⟩, by omega, ⟨q1_, q2_, q3_⟩, q4_⟩
    rw [← hst_]
    exact ow
   refine SW_skip (n_then ?_)
   refine sr ?_
   refine os 3 ?_
   refine oX (.int .u64 (Int.tmod c 4294967296)) (.int .u64 (c % 4294967296)) (congrArg (Value.int .u64) (rem_nn (by first | omega | exact Int.natCast_nonneg _))) ?_
   refine os 1 ?_
   refine L (ixg (i : Int) (i) hkr_ Tryz.underlying149 ?_)
   obtain ⟨e8, he8⟩ : ∃ y_, (ys ++ List.replicate ((lim a0).length + 3 - i) 0)[i]? = some y_ := ⟨_, List.getElem?_eq_getElem (by omega)⟩
   have hok5 := Gs.ok.relen (ys := (((ys ++ List.replicate ((lim a0).length + 3 - i) 0).set i (c % 4294967296)).map encP)) hkr_ (by simp)
   refine L (O_storeG (ys := (((ys ++ List.replicate ((lim a0).length + 3 - i) 0).set i (c % 4294967296)).map encP)) (Gs.at b1 ((lim a0).length + 3)) (i) (.int .u32 (c % 4294967296)) [.int .u32 (c % 4294967296)] (Gs.ok.ne hkr_ (by first | omega | (simp; omega))) (fun _ => rfl) (fun _ => rfl) rfl (by kernel_rfl) rfl (by simp; omega) (row_lay_map (c % 4294967296) (by omega)) rfl ?_)
   refine nr ?_
   refine os 1 ?_
   refine oX (.int .u64 (IntKind.wrap .u64 (Int.tdiv c 4294967296))) (.int .u64 (c / 4294967296)) (congrArg (Value.int .u64) (quo_u64 (by omega) (by omega) (by decide))) ?_
   refine os 1 ?_
   refine kp [8, 49, 33, 27, 0, 5, 6, 7, 9] ?_
   refine SL_nil (n_in (n_then ?_))
   refine SW_region ?_
   refine os 3 ?_
   refine nt ?_
   obtain ⟨q1_, q2_, q3_, q4_⟩ := by_body (x := 0) (y := 0) (t := c) hyl hyo (by rw [List.getElem?_eq_none (by omega)]; rfl) ((by first | rw [if_neg (by omega)] | rw [if_pos (by omega), List.getElem?_eq_none (by omega)]; rfl)) (by omega) (by omega) hc (by omega) hi2
   have hst_ := set_rep (v := c % 4294967296) (m := (lim a0).length + 3 - i) (m' := (lim a0).length + 3 - (i + 1)) hyl (by omega)
   refine ⟨(i + 1, ys ++ [c % 4294967296], c / 4294967296), by simp only []; omega, ?_⟩
   simp only []
   refine ⟨⟨fun _ => rfl, ?_⟩, by omega, ⟨q1_, q2_, q3_⟩, q4_⟩
   rw [← hst_]
   exact ow
  replace hg6 : ¬ ((i : Int) > 0) := hg6
  refine os 6 ?_
  refine kp [49, 33, 27, 0, 5, 6, 7, 8, 9] ?_
  refine nt ?_
  refine cf ?_
  refine SW_skip (n_then ?_)
  refine sr ?_
  refine os 3 ?_
  refine oX (.int .u64 (Int.tmod c 4294967296)) (.int .u64 (c % 4294967296)) (congrArg (Value.int .u64) (rem_nn (by first | omega | exact Int.natCast_nonneg _))) ?_
  refine os 1 ?_
  refine L (ixg (i : Int) (i) hkr_ Tryz.underlying149 ?_)
  obtain ⟨e9, he9⟩ : ∃ y_, (ys ++ List.replicate ((lim a0).length + 3 - i) 0)[i]? = some y_ := ⟨_, List.getElem?_eq_getElem (by omega)⟩
  have hok6 := Gs.ok.relen (ys := (((ys ++ List.replicate ((lim a0).length + 3 - i) 0).set i (c % 4294967296)).map encP)) hkr_ (by simp)
  refine L (O_storeG (ys := (((ys ++ List.replicate ((lim a0).length + 3 - i) 0).set i (c % 4294967296)).map encP)) (Gs.at b1 ((lim a0).length + 3)) (i) (.int .u32 (c % 4294967296)) [.int .u32 (c % 4294967296)] (Gs.ok.ne hkr_ (by first | omega | (simp; omega))) (fun _ => rfl) (fun _ => rfl) rfl (by kernel_rfl) rfl (by simp; omega) (row_lay_map (c % 4294967296) (by omega)) rfl ?_)
  refine nr ?_
  refine os 1 ?_
  refine oX (.int .u64 (IntKind.wrap .u64 (Int.tdiv c 4294967296))) (.int .u64 (c / 4294967296)) (congrArg (Value.int .u64) (quo_u64 (by omega) (by omega) (by decide))) ?_
  refine os 1 ?_
  refine kp [8, 49, 33, 27, 0, 5, 6, 7, 9] ?_
  refine SL_nil (n_in (n_then ?_))
  refine SW_region ?_
  refine os 3 ?_
  refine nt ?_
  obtain ⟨q1_, q2_, q3_, q4_⟩ := by_body (x := 0) (y := 0) (t := c) hyl hyo (by rw [List.getElem?_eq_none (by omega)]; rfl) ((by first | rw [if_neg (by omega)] | rw [if_pos (by omega), List.getElem?_eq_none (by omega)]; rfl)) (by omega) (by omega) hc (by omega) hi2
  have hst_ := set_rep (v := c % 4294967296) (m := (lim a0).length + 3 - i) (m' := (lim a0).length + 3 - (i + 1)) hyl (by omega)
  refine ⟨(i + 1, ys ++ [c % 4294967296], c / 4294967296), by simp only []; omega, ?_⟩
  simp only []
  refine ⟨⟨fun _ => rfl, ?_⟩, by omega, ⟨q1_, q2_, q3_⟩, q4_⟩
  rw [← hst_]
  exact ow
 refine SW_exit (x_then (x_then (x_in (n_then ?_))))
 refine sr ?_
 refine os 1 ?_
 have hie_ : i = (lim a0).length + 3 := by omega
 have hv_ := by_end (a0 := a0) (n := n) rfl hn hie_ hyl hc hi2
 have hrw_ : (ys ++ List.replicate ((lim a0).length + 3 - i) 0) = ys := by rw [show (lim a0).length + 3 - i = 0 from by omega]; simp
 have hkz_ := hkr_
 rw [hrw_] at hkz_ ⊢
 have hln_ : ys.length = (lim a0).length + 3 := by omega
 have hok_ : Gs.ok 1 ys.length (Gs.at b1 ((lim a0).length + 3)) (ys.map encP) := by rw [hln_]; exact hkz_
 have hq_ := r2_trim (W0 := W0) (l := ys) hyo hok_
 rw [hv_, hln_] at hq_
 refine L (cl (hq_) ?_)
 rintro _ _ ⟨rfl, hkt_⟩
 refine os 1 ?_
 refine nt ?_
 refine SW_ret ?_
 refine body_end (Gs.val (Gs.at b1 ((lim a0).length + 3)) ((lim (a0 * n)).length)) (fun _ => rfl) ?_
 exact ⟨(Gs.at b1 ((lim a0).length + 3)), ow, rfl, hkt_⟩

end Go.Proofs.YtnhmmjogfkjceaaGreatDoor
