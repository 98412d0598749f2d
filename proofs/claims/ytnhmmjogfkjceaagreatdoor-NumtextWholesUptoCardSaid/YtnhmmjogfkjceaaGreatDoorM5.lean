/-
  NumtextWholes, within the bound on what it reads, and tied to the program's text: it returns true whatever it is given, and leaves its arguments as they were. Conditions: the arguments' bulk is at most 1048576; the listed library variables stand as their text lays them, as the statement says.
-/
import Derived.Test.YtnhmmjogfkjceaaGreatDoorProg
import Derived.Test.YtnhmmjogfkjceaaGreatDoorM4
import Derived.Test.YtnhmmjogfkjceaaGreatDoorM2
import Derived.Laws.Cover2
import Derived.Test.YtnhmmjogfkjceaaGreatDoorM1
set_option linter.unusedVariables false
set_option linter.unusedSimpArgs false
set_option maxRecDepth 100000
set_option maxHeartbeats 4000000
namespace Go.Proofs.YtnhmmjogfkjceaaGreatDoor
open Go.Sl

theorem str_RepeatZ {W0 : World} {σ : Heaplet} (s : List UInt8) {c : Int} (hc : 0 ≤ c ∧ c ≤ 1048576) (hs : s.length ≤ 1048576) : SC Tryz.prog W0 37 #[.string (bS s), .int .i64 c] σ (Ret (fun _ : Unit => σ) (fun v _ => v = .string (bS (Lib.repeatL s c.toNat)))) := by
 obtain ⟨n, rfl⟩ := Int.eq_ofNat_of_zero_le hc.1
 exact str_RepeatN s n (by omega) hs

theorem num_Print0 {W0 : World} (hL : LaidN W0) {a : Nat} (ha : a < 9223372036854775808) : SC Tryz.prog W0 14 #[.int .u64 (a : Int)] [] (Ret (fun _ : Unit => []) (fun v _ => v = .string (bS (printP0 a)) ∧ (printP0 a).length ≤ 5000)) := by
 refine SC_body (fn := Tryz.f14) (n := 93) Tryz.func14 rfl (by kernel_rfl) (ρ := [(0, .int .u64 (a : Int))]) rfl ?_
 have hka_ := kind_all a
 refine sr ?_
 refine os 1 ?_
 refine nq ?_
 refine SW_block ?_
 refine sr ?_
 refine os 1 ?_
 have his_ := num_IsNaN (W0 := W0) (a := a) (by omega)
 refine L (cl (his_) ?_)
 rintro v1 _ hv1
 obtain rfl : v1 = .bool (kindP a == 3) := hv1.trans (rfl)
 refine un ?_
 refine os 1 ?_
 refine nt ?_
 refine cd (fun hc1 : (kindP a == 3) = true => ?_) (fun hc1 => ?_)
 ·simp only [beq_iff_eq, bne_iff_ne, ne_eq, beq_eq_false_iff_ne, bne_eq_false_iff_eq, Classical.not_not] at hc1
  refine sr ?_
  refine os 1 ?_
  refine nt ?_
  refine SW_ret (r_in (r_then ?_))
  refine body_end (.string (bS [78, 97, 78])) (fun _ => rfl) ?_
  rw [show printP0 a = [78, 97, 78] from by unfold printP0; rw [if_pos (by omega)]]
  exact ⟨(), ow, rfl, by simp only [List.length_append, List.length_take, List.length_drop, List.length_cons, List.length_nil]; omega⟩
 simp only [beq_iff_eq, bne_iff_ne, ne_eq, beq_eq_false_iff_ne, bne_eq_false_iff_eq, Classical.not_not] at hc1
 refine sr ?_
 refine os 1 ?_
 have his_ := num_Equal0 (W0 := W0) (a := a) (by omega)
 refine L (cl (his_) ?_)
 rintro v2 _ hv2
 obtain rfl : v2 = .bool (kindP a == 0) := hv2.trans (rfl)
 refine un ?_
 refine os 1 ?_
 refine kp [9, 6, 2, 0] ?_
 refine nt ?_
 refine cd (fun hc2 : (kindP a == 0) = true => ?_) (fun hc2 => ?_)
 ·simp only [beq_iff_eq, bne_iff_ne, ne_eq, beq_eq_false_iff_ne, bne_eq_false_iff_eq, Classical.not_not] at hc2
  refine sr ?_
  refine os 1 ?_
  refine nt ?_
  refine SW_ret (r_in (r_then ?_))
  refine body_end (.string (bS [48])) (fun _ => rfl) ?_
  rw [show printP0 a = [48] from by unfold printP0; rw [if_neg (by omega), if_pos (by omega)]]
  exact ⟨(), ow, rfl, by simp only [List.length_append, List.length_take, List.length_drop, List.length_cons, List.length_nil]; omega⟩
 simp only [beq_iff_eq, bne_iff_ne, ne_eq, beq_eq_false_iff_ne, bne_eq_false_iff_eq, Classical.not_not] at hc2
 refine sr ?_
 refine os 3 ?_
 refine nt ?_
 refine SW_false (fun _ => (congrArg Value.bool (show (decide ((a : Int) ≥ 9223372036854775808)) = false from (decide_eq_false (by omega))))) ?_
 refine sr ?_
 refine os 1 ?_
 have his_ := num_IsInf (W0 := W0) (a := a) (by omega)
 refine L (cl (his_) ?_)
 rintro v3 _ hv3
 obtain rfl : v3 = .bool (kindP a == 2) := hv3.trans (rfl)
 refine un ?_
 refine os 1 ?_
 refine kp [19, 12, 9, 6, 2, 0] ?_
 refine nt ?_
 refine cd (fun hc3 : (kindP a == 2) = true => ?_) (fun hc3 => ?_)
 ·simp only [beq_iff_eq, bne_iff_ne, ne_eq, beq_eq_false_iff_ne, bne_eq_false_iff_eq, Classical.not_not] at hc3
  refine sr ?_
  refine os 1 ?_
  refine nt ?_
  refine SW_ret (r_in (r_then ?_))
  refine body_end (.string (bS [73, 110, 102, 105, 110, 105, 116, 121])) (fun _ => rfl) ?_
  rw [show printP0 a = [73, 110, 102, 105, 110, 105, 116, 121] from by unfold printP0; rw [if_neg (by omega), if_neg (by omega), if_pos (by omega)]]
  exact ⟨(), ow, rfl, by simp only [List.length_append, List.length_take, List.length_drop, List.length_cons, List.length_nil]; omega⟩
 simp only [beq_iff_eq, bne_iff_ne, ne_eq, beq_eq_false_iff_ne, bne_eq_false_iff_eq, Classical.not_not] at hc3
 refine SW_skip (n_in (n_then ?_))
 refine sr ?_
 refine os 1 ?_
 have hsh_ := num_shortest (W0 := W0) hL (a := a) (by omega) (by omega)
 obtain ⟨D, hD_⟩ : ∃ D, D = (shortP a).1 := ⟨_, rfl⟩
 obtain ⟨p, hp_⟩ : ∃ p, p = (shortP a).2 := ⟨_, rfl⟩
 rw [← hD_, ← hp_] at hsh_
 refine L (cl (hsh_) ?_)
 rintro _ _ ⟨rfl, hdl_, hpl_, hph_⟩
 refine un ?_
 refine os 5 ?_
 refine kp [4, 3, 19, 12, 9, 6, 2, 0] ?_
 refine nsr ?_
 refine os 1 ?_
 refine oX (.int .i64 ((bS D).size : Int)) (.int .i64 (D.length : Int)) (congrArg (fun n_ : Nat => Value.int .i64 (n_ : Int)) (bS_size _)) ?_
 refine os 1 ?_
 refine nq ?_
 refine SW_block ?_
 refine sr ?_
 refine os 4 ?_
 refine tbp 33 (fun hg4 => ?_) (fun hg4 => ?_)
 ·replace hg4 : p ≥ (D.length : Int) := hg4
  refine os 4 ?_
  refine kp [29, 5, 4, 3, 19, 12, 9, 6, 2, 0] ?_
  refine nt ?_
  refine cdp (fun hc5 : p ≤ 21 => ?_) (fun hc5 => ?_)
  ·refine sr ?_
   refine os 4 ?_
   have hrl_ : (Lib.repeatL [48] (p - (D.length : Int)).toNat).length ≤ 2000 := by rw [Lib.repeatL_length, show ([48] : List UInt8).length = 1 from rfl]; omega
   refine L (cl (str_RepeatZ [48] (c := p - (D.length : Int)) (by omega) (by decide)) ?_)
   rintro _ _ rfl
   refine un ?_
   refine oV (.string (bS (D ++ (Lib.repeatL [48] (p - (D.length : Int)).toNat)))) ?_ (hs := (fun δ w_ => run_catB D (Lib.repeatL [48] (p - (D.length : Int)).toNat) (by first | omega | simp only [List.length_append, List.length_take, List.length_drop, List.length_cons, List.length_nil]; omega) rfl rfl))
   refine os 1 ?_
   refine kp [2, 29, 5, 4, 3, 19, 12, 9, 6, 0] ?_
   refine nt ?_
   refine SW_ret (r_in (r_then ?_))
   refine body_end (.string (bS (D ++ (Lib.repeatL [48] (p - (D.length : Int)).toNat)))) (fun _ => rfl) ?_
   rw [show printP0 a = formP D p from by rw [hD_, hp_]; unfold printP0; rw [if_neg (by omega), if_neg (by omega), if_neg (by omega)]]
   rw [form_a (by omega) (by omega)]
   exact ⟨(), ow, rfl, by simp only [List.length_append, List.length_take, List.length_drop, List.length_cons, List.length_nil]; omega⟩
  refine sr ?_
  refine os 3 ?_
  refine tbp 46 (fun hg6 => ?_) (fun hg6 => ?_)
  ·replace hg6 : p > 0 := hg6
   refine os 4 ?_
   refine kp [43, 29, 5, 4, 3, 19, 12, 9, 6, 2, 0] ?_
   refine nt ?_
   refine cdp (fun hc7 : p ≤ 21 => ?_) (fun hc7 => ?_)
   ·refine SW_seq ?_
    refine SW_draw [] [] (by kernel_rfl) rd_nil ?_
    refine aS 0 ?_
    refine aS 1 ?_
    refine tk 2 (.string (bS (D.take (p).toNat))) ?_ (hy := fun δ w => run_strTo (l := D) p .i64 Tryz.underlying9 rfl rfl (by omega) (by omega))
    rw [show (p).toNat = p.toNat from by omega]
    refine tk 3 (.string (bS ((D.take p.toNat) ++ [46]))) ?_ (hy := (fun δ w_ => run_catB (D.take p.toNat) [46] (by first | omega | simp only [List.length_append, List.length_take, List.length_drop, List.length_cons, List.length_nil]; omega) rfl rfl))
    refine aS 4 ?_
    refine aS 5 ?_
    refine tk 6 (.string (bS (D.drop (p).toNat))) ?_ (hy := fun δ w => run_strFrom (l := D) p .i64 Tryz.underlying9 rfl rfl (by omega) (by omega))
    rw [show (p).toNat = p.toNat from by omega]
    refine tk 7 (.string (bS (((D.take p.toNat) ++ [46]) ++ (D.drop p.toNat)))) ?_ (hy := (fun δ w_ => run_catB ((D.take p.toNat) ++ [46]) (D.drop p.toNat) (by first | omega | simp only [List.length_append, List.length_take, List.length_drop, List.length_cons, List.length_nil]; omega) rfl rfl))
    refine aS 8 ?_
    refine kpA [2, 43, 29, 5, 4, 3, 19, 12, 9, 6, 0] ?_
    refine SA_done (by kernel_rfl) (n_then ?_)
    refine SW_ret (r_in (r_then ?_))
    refine body_end (.string (bS (((D.take p.toNat) ++ [46]) ++ (D.drop p.toNat)))) (fun _ => rfl) ?_
    rw [show printP0 a = formP D p from by rw [hD_, hp_]; unfold printP0; rw [if_neg (by omega), if_neg (by omega), if_neg (by omega)]]
    rw [form_b (by omega) (by omega) (by omega)]
    exact ⟨(), ow, rfl, by simp only [List.length_append, List.length_take, List.length_drop, List.length_cons, List.length_nil]; omega⟩
   refine sr ?_
   refine os 3 ?_
   refine tbp 61 (fun hg8 => ?_) (fun hg8 => ?_)
   ·replace hg8 : p > (-6) := hg8
    refine os 4 ?_
    refine kp [58, 43, 29, 5, 4, 3, 19, 12, 9, 6, 2, 0] ?_
    refine nt ?_
    refine cdp (fun hc9 : p ≤ 0 => ?_) (fun hc9 => ?_)
    ·refine sr ?_
     refine os 1 ?_
     refine oX (.int .i64 (IntKind.wrap .i64 (0 - p))) (.int .i64 (-p)) (congrArg (Value.int .i64) ((IntWalk.i64_in _ (by omega)).trans (Int.zero_sub _))) ?_
     have hrl_ : (Lib.repeatL [48] (-p).toNat).length ≤ 2000 := by rw [Lib.repeatL_length, show ([48] : List UInt8).length = 1 from rfl]; omega
     refine L (cl (str_RepeatZ [48] (c := -p) (by omega) (by decide)) ?_)
     rintro _ _ rfl
     refine un ?_
     refine oV (.string (bS ([48, 46] ++ (Lib.repeatL [48] (-p).toNat)))) ?_ (hs := (fun δ w_ => run_catB [48, 46] (Lib.repeatL [48] (-p).toNat) (by first | omega | simp only [List.length_append, List.length_take, List.length_drop, List.length_cons, List.length_nil]; omega) rfl rfl))
     refine os 1 ?_
     refine oV (.string (bS (([48, 46] ++ (Lib.repeatL [48] (-p).toNat)) ++ D))) ?_ (hs := (fun δ w_ => run_catB ([48, 46] ++ (Lib.repeatL [48] (-p).toNat)) D (by first | omega | simp only [List.length_append, List.length_take, List.length_drop, List.length_cons, List.length_nil]; omega) rfl rfl))
     refine os 1 ?_
     refine kp [2, 58, 43, 29, 5, 4, 3, 19, 12, 9, 6, 0] ?_
     refine nt ?_
     refine SW_ret (r_in (r_then ?_))
     refine body_end (.string (bS (([48, 46] ++ (Lib.repeatL [48] (-p).toNat)) ++ D))) (fun _ => rfl) ?_
     rw [show printP0 a = formP D p from by rw [hD_, hp_]; unfold printP0; rw [if_neg (by omega), if_neg (by omega), if_neg (by omega)]]
     rw [form_c (by omega) (by omega) (by omega)]
     exact ⟨(), ow, rfl, by simp only [List.length_append, List.length_take, List.length_drop, List.length_cons, List.length_nil]; omega⟩
    refine SW_skip (n_in (n_then ?_))
    refine SW_seq ?_
    refine sr ?_
    refine os 2 ?_
    refine nt ?_
    refine cdp (fun hc10 : (D.length : Int) > 1 => ?_) (fun hc10 => ?_)
    ·refine SW_draw [] [] (by kernel_rfl) rd_nil ?_
     refine aS 0 ?_
     refine tk 1 (.string (bS (D.take 1))) ?_ (hy := fun δ w => run_strTo (l := D) 1 .i64 Tryz.underlying9 rfl rfl (by omega) (by omega))
     refine tk 2 (.string (bS ((D.take 1) ++ [46]))) ?_ (hy := (fun δ w_ => run_catB (D.take 1) [46] (by first | omega | simp only [List.length_append, List.length_take, List.length_drop, List.length_cons, List.length_nil]; omega) rfl rfl))
     refine aS 3 ?_
     refine tk 4 (.string (bS (D.drop 1))) ?_ (hy := fun δ w => run_strFrom (l := D) 1 .i64 Tryz.underlying9 rfl rfl (by omega) (by omega))
     refine tk 5 (.string (bS (((D.take 1) ++ [46]) ++ (D.drop 1)))) ?_ (hy := (fun δ w_ => run_catB ((D.take 1) ++ [46]) (D.drop 1) (by first | omega | simp only [List.length_append, List.length_take, List.length_drop, List.length_cons, List.length_nil]; omega) rfl rfl))
     refine aS 6 ?_
     refine SA_done (by kernel_rfl) (n_then ?_)
     refine SW_seq ?_
     refine sr ?_
     refine os 2 ?_
     refine kp [80, 3, 72, 58, 43, 29, 5, 4, 19, 12, 9, 6, 2, 0] ?_
     refine nt ?_
     refine cdp (fun hc11 : p > 0 => ?_) (fun hc11 => ?_)
     ·refine sr ?_
      refine os 1 ?_
      refine oV (.string (bS ((((D.take 1) ++ [46]) ++ (D.drop 1)) ++ [101, 43]))) ?_ (hs := (fun δ w_ => run_catB (((D.take 1) ++ [46]) ++ (D.drop 1)) [101, 43] (by first | omega | simp only [List.length_append, List.length_take, List.length_drop, List.length_cons, List.length_nil]; omega) rfl rfl))
      refine os 2 ?_
      have hil_ := Lib.itoa_length_le (p - 1) (by omega) (by omega)
      refine L (cl (str_ItoaN hL (p - 1) (by omega)) ?_)
      rintro _ _ rfl
      refine un ?_
      refine oV (.string (bS (((((D.take 1) ++ [46]) ++ (D.drop 1)) ++ [101, 43]) ++ (Lib.itoa (p - 1))))) ?_ (hs := (fun δ w_ => run_catB ((((D.take 1) ++ [46]) ++ (D.drop 1)) ++ [101, 43]) (Lib.itoa (p - 1)) (by first | omega | simp only [List.length_append, List.length_take, List.length_drop, List.length_cons, List.length_nil]; omega) rfl rfl))
      refine os 1 ?_
      refine kp [2, 80, 3, 72, 58, 43, 29, 5, 4, 19, 12, 9, 6, 0] ?_
      refine nt ?_
      refine SW_ret (r_then ?_)
      refine body_end (.string (bS (((((D.take 1) ++ [46]) ++ (D.drop 1)) ++ [101, 43]) ++ (Lib.itoa (p - 1))))) (fun _ => rfl) ?_
      rw [show printP0 a = formP D p from by rw [hD_, hp_]; unfold printP0; rw [if_neg (by omega), if_neg (by omega), if_neg (by omega)]]
      rw [form_d (by omega) (by omega) (by omega) (by omega), expo_t (by omega)]
      exact ⟨(), ow, rfl, by simp only [List.length_append, List.length_take, List.length_drop, List.length_cons, List.length_nil]; omega⟩
     refine SW_skip (n_then ?_)
     refine sr ?_
     refine os 1 ?_
     refine oV (.string (bS ((((D.take 1) ++ [46]) ++ (D.drop 1)) ++ [101]))) ?_ (hs := (fun δ w_ => run_catB (((D.take 1) ++ [46]) ++ (D.drop 1)) [101] (by first | omega | simp only [List.length_append, List.length_take, List.length_drop, List.length_cons, List.length_nil]; omega) rfl rfl))
     refine os 2 ?_
     have hil_ := Lib.itoa_length_le (p - 1) (by omega) (by omega)
     refine L (cl (str_ItoaN hL (p - 1) (by omega)) ?_)
     rintro _ _ rfl
     refine un ?_
     refine oV (.string (bS (((((D.take 1) ++ [46]) ++ (D.drop 1)) ++ [101]) ++ (Lib.itoa (p - 1))))) ?_ (hs := (fun δ w_ => run_catB ((((D.take 1) ++ [46]) ++ (D.drop 1)) ++ [101]) (Lib.itoa (p - 1)) (by first | omega | simp only [List.length_append, List.length_take, List.length_drop, List.length_cons, List.length_nil]; omega) rfl rfl))
     refine os 1 ?_
     refine kp [2, 80, 3, 72, 58, 43, 29, 5, 4, 19, 12, 9, 6, 0] ?_
     refine nt ?_
     refine SW_ret ?_
     refine body_end (.string (bS (((((D.take 1) ++ [46]) ++ (D.drop 1)) ++ [101]) ++ (Lib.itoa (p - 1))))) (fun _ => rfl) ?_
     rw [show printP0 a = formP D p from by rw [hD_, hp_]; unfold printP0; rw [if_neg (by omega), if_neg (by omega), if_neg (by omega)]]
     rw [form_e (by omega) (by omega) (by omega) (by omega), expo_t (by omega)]
     exact ⟨(), ow, rfl, by simp only [List.length_append, List.length_take, List.length_drop, List.length_cons, List.length_nil]; omega⟩
    refine SW_skip (n_then ?_)
    refine SW_seq ?_
    refine sr ?_
    refine os 2 ?_
    refine nt ?_
    refine cdp (fun hc12 : p > 0 => ?_) (fun hc12 => ?_)
    ·refine sr ?_
     refine os 1 ?_
     refine oV (.string (bS (D ++ [101, 43]))) ?_ (hs := (fun δ w_ => run_catB D [101, 43] (by first | omega | simp only [List.length_append, List.length_take, List.length_drop, List.length_cons, List.length_nil]; omega) rfl rfl))
     refine os 2 ?_
     have hil_ := Lib.itoa_length_le (p - 1) (by omega) (by omega)
     refine L (cl (str_ItoaN hL (p - 1) (by omega)) ?_)
     rintro _ _ rfl
     refine un ?_
     refine oV (.string (bS ((D ++ [101, 43]) ++ (Lib.itoa (p - 1))))) ?_ (hs := (fun δ w_ => run_catB (D ++ [101, 43]) (Lib.itoa (p - 1)) (by first | omega | simp only [List.length_append, List.length_take, List.length_drop, List.length_cons, List.length_nil]; omega) rfl rfl))
     refine os 1 ?_
     refine kp [2, 80, 72, 58, 43, 29, 5, 4, 3, 19, 12, 9, 6, 0] ?_
     refine nt ?_
     refine SW_ret (r_then ?_)
     refine body_end (.string (bS ((D ++ [101, 43]) ++ (Lib.itoa (p - 1))))) (fun _ => rfl) ?_
     rw [show printP0 a = formP D p from by rw [hD_, hp_]; unfold printP0; rw [if_neg (by omega), if_neg (by omega), if_neg (by omega)]]
     rw [form_d (by omega) (by omega) (by omega) (by omega), expo_f (by omega)]
     exact ⟨(), ow, rfl, by simp only [List.length_append, List.length_take, List.length_drop, List.length_cons, List.length_nil]; omega⟩
    refine SW_skip (n_then ?_)
    refine sr ?_
    refine os 1 ?_
    refine oV (.string (bS (D ++ [101]))) ?_ (hs := (fun δ w_ => run_catB D [101] (by first | omega | simp only [List.length_append, List.length_take, List.length_drop, List.length_cons, List.length_nil]; omega) rfl rfl))
    refine os 2 ?_
    have hil_ := Lib.itoa_length_le (p - 1) (by omega) (by omega)
    refine L (cl (str_ItoaN hL (p - 1) (by omega)) ?_)
    rintro _ _ rfl
    refine un ?_
    refine oV (.string (bS ((D ++ [101]) ++ (Lib.itoa (p - 1))))) ?_ (hs := (fun δ w_ => run_catB (D ++ [101]) (Lib.itoa (p - 1)) (by first | omega | simp only [List.length_append, List.length_take, List.length_drop, List.length_cons, List.length_nil]; omega) rfl rfl))
    refine os 1 ?_
    refine kp [2, 80, 72, 58, 43, 29, 5, 4, 3, 19, 12, 9, 6, 0] ?_
    refine nt ?_
    refine SW_ret ?_
    refine body_end (.string (bS ((D ++ [101]) ++ (Lib.itoa (p - 1))))) (fun _ => rfl) ?_
    rw [show printP0 a = formP D p from by rw [hD_, hp_]; unfold printP0; rw [if_neg (by omega), if_neg (by omega), if_neg (by omega)]]
    rw [form_e (by omega) (by omega) (by omega) (by omega), expo_f (by omega)]
    exact ⟨(), ow, rfl, by simp only [List.length_append, List.length_take, List.length_drop, List.length_cons, List.length_nil]; omega⟩
   replace hg8 : ¬ (p > (-6)) := hg8
   refine os 4 ?_
   refine kp [58, 43, 29, 5, 4, 3, 19, 12, 9, 6, 2, 0] ?_
   refine nt ?_
   refine cf ?_
   refine SW_skip (n_in (n_then ?_))
   refine SW_seq ?_
   refine sr ?_
   refine os 2 ?_
   refine nt ?_
   refine cdp (fun hc13 : (D.length : Int) > 1 => ?_) (fun hc13 => ?_)
   ·refine SW_draw [] [] (by kernel_rfl) rd_nil ?_
    refine aS 0 ?_
    refine tk 1 (.string (bS (D.take 1))) ?_ (hy := fun δ w => run_strTo (l := D) 1 .i64 Tryz.underlying9 rfl rfl (by omega) (by omega))
    refine tk 2 (.string (bS ((D.take 1) ++ [46]))) ?_ (hy := (fun δ w_ => run_catB (D.take 1) [46] (by first | omega | simp only [List.length_append, List.length_take, List.length_drop, List.length_cons, List.length_nil]; omega) rfl rfl))
    refine aS 3 ?_
    refine tk 4 (.string (bS (D.drop 1))) ?_ (hy := fun δ w => run_strFrom (l := D) 1 .i64 Tryz.underlying9 rfl rfl (by omega) (by omega))
    refine tk 5 (.string (bS (((D.take 1) ++ [46]) ++ (D.drop 1)))) ?_ (hy := (fun δ w_ => run_catB ((D.take 1) ++ [46]) (D.drop 1) (by first | omega | simp only [List.length_append, List.length_take, List.length_drop, List.length_cons, List.length_nil]; omega) rfl rfl))
    refine aS 6 ?_
    refine SA_done (by kernel_rfl) (n_then ?_)
    refine SW_seq ?_
    refine sr ?_
    refine os 2 ?_
    refine kp [80, 3, 72, 58, 43, 29, 5, 4, 19, 12, 9, 6, 2, 0] ?_
    refine nt ?_
    refine cdp (fun hc14 : p > 0 => ?_) (fun hc14 => ?_)
    ·refine sr ?_
     refine os 1 ?_
     refine oV (.string (bS ((((D.take 1) ++ [46]) ++ (D.drop 1)) ++ [101, 43]))) ?_ (hs := (fun δ w_ => run_catB (((D.take 1) ++ [46]) ++ (D.drop 1)) [101, 43] (by first | omega | simp only [List.length_append, List.length_take, List.length_drop, List.length_cons, List.length_nil]; omega) rfl rfl))
     refine os 2 ?_
     have hil_ := Lib.itoa_length_le (p - 1) (by omega) (by omega)
     refine L (cl (str_ItoaN hL (p - 1) (by omega)) ?_)
     rintro _ _ rfl
     refine un ?_
     refine oV (.string (bS (((((D.take 1) ++ [46]) ++ (D.drop 1)) ++ [101, 43]) ++ (Lib.itoa (p - 1))))) ?_ (hs := (fun δ w_ => run_catB ((((D.take 1) ++ [46]) ++ (D.drop 1)) ++ [101, 43]) (Lib.itoa (p - 1)) (by first | omega | simp only [List.length_append, List.length_take, List.length_drop, List.length_cons, List.length_nil]; omega) rfl rfl))
     refine os 1 ?_
     refine kp [2, 80, 3, 72, 58, 43, 29, 5, 4, 19, 12, 9, 6, 0] ?_
     refine nt ?_
     refine SW_ret (r_then ?_)
     refine body_end (.string (bS (((((D.take 1) ++ [46]) ++ (D.drop 1)) ++ [101, 43]) ++ (Lib.itoa (p - 1))))) (fun _ => rfl) ?_
     rw [show printP0 a = formP D p from by rw [hD_, hp_]; unfold printP0; rw [if_neg (by omega), if_neg (by omega), if_neg (by omega)]]
     rw [form_d (by omega) (by omega) (by omega) (by omega), expo_t (by omega)]
     exact ⟨(), ow, rfl, by simp only [List.length_append, List.length_take, List.length_drop, List.length_cons, List.length_nil]; omega⟩
    refine SW_skip (n_then ?_)
    refine sr ?_
    refine os 1 ?_
    refine oV (.string (bS ((((D.take 1) ++ [46]) ++ (D.drop 1)) ++ [101]))) ?_ (hs := (fun δ w_ => run_catB (((D.take 1) ++ [46]) ++ (D.drop 1)) [101] (by first | omega | simp only [List.length_append, List.length_take, List.length_drop, List.length_cons, List.length_nil]; omega) rfl rfl))
    refine os 2 ?_
    have hil_ := Lib.itoa_length_le (p - 1) (by omega) (by omega)
    refine L (cl (str_ItoaN hL (p - 1) (by omega)) ?_)
    rintro _ _ rfl
    refine un ?_
    refine oV (.string (bS (((((D.take 1) ++ [46]) ++ (D.drop 1)) ++ [101]) ++ (Lib.itoa (p - 1))))) ?_ (hs := (fun δ w_ => run_catB ((((D.take 1) ++ [46]) ++ (D.drop 1)) ++ [101]) (Lib.itoa (p - 1)) (by first | omega | simp only [List.length_append, List.length_take, List.length_drop, List.length_cons, List.length_nil]; omega) rfl rfl))
    refine os 1 ?_
    refine kp [2, 80, 3, 72, 58, 43, 29, 5, 4, 19, 12, 9, 6, 0] ?_
    refine nt ?_
    refine SW_ret ?_
    refine body_end (.string (bS (((((D.take 1) ++ [46]) ++ (D.drop 1)) ++ [101]) ++ (Lib.itoa (p - 1))))) (fun _ => rfl) ?_
    rw [show printP0 a = formP D p from by rw [hD_, hp_]; unfold printP0; rw [if_neg (by omega), if_neg (by omega), if_neg (by omega)]]
    rw [form_e (by omega) (by omega) (by omega) (by omega), expo_t (by omega)]
    exact ⟨(), ow, rfl, by simp only [List.length_append, List.length_take, List.length_drop, List.length_cons, List.length_nil]; omega⟩
   refine SW_skip (n_then ?_)
   refine SW_seq ?_
   refine sr ?_
   refine os 2 ?_
   refine nt ?_
   refine cdp (fun hc15 : p > 0 => ?_) (fun hc15 => ?_)
   ·refine sr ?_
    refine os 1 ?_
    refine oV (.string (bS (D ++ [101, 43]))) ?_ (hs := (fun δ w_ => run_catB D [101, 43] (by first | omega | simp only [List.length_append, List.length_take, List.length_drop, List.length_cons, List.length_nil]; omega) rfl rfl))
    refine os 2 ?_
    have hil_ := Lib.itoa_length_le (p - 1) (by omega) (by omega)
    refine L (cl (str_ItoaN hL (p - 1) (by omega)) ?_)
    rintro _ _ rfl
    refine un ?_
    refine oV (.string (bS ((D ++ [101, 43]) ++ (Lib.itoa (p - 1))))) ?_ (hs := (fun δ w_ => run_catB (D ++ [101, 43]) (Lib.itoa (p - 1)) (by first | omega | simp only [List.length_append, List.length_take, List.length_drop, List.length_cons, List.length_nil]; omega) rfl rfl))
    refine os 1 ?_
    refine kp [2, 80, 72, 58, 43, 29, 5, 4, 3, 19, 12, 9, 6, 0] ?_
    refine nt ?_
    refine SW_ret (r_then ?_)
    refine body_end (.string (bS ((D ++ [101, 43]) ++ (Lib.itoa (p - 1))))) (fun _ => rfl) ?_
    rw [show printP0 a = formP D p from by rw [hD_, hp_]; unfold printP0; rw [if_neg (by omega), if_neg (by omega), if_neg (by omega)]]
    rw [form_d (by omega) (by omega) (by omega) (by omega), expo_f (by omega)]
    exact ⟨(), ow, rfl, by simp only [List.length_append, List.length_take, List.length_drop, List.length_cons, List.length_nil]; omega⟩
   refine SW_skip (n_then ?_)
   refine sr ?_
   refine os 1 ?_
   refine oV (.string (bS (D ++ [101]))) ?_ (hs := (fun δ w_ => run_catB D [101] (by first | omega | simp only [List.length_append, List.length_take, List.length_drop, List.length_cons, List.length_nil]; omega) rfl rfl))
   refine os 2 ?_
   have hil_ := Lib.itoa_length_le (p - 1) (by omega) (by omega)
   refine L (cl (str_ItoaN hL (p - 1) (by omega)) ?_)
   rintro _ _ rfl
   refine un ?_
   refine oV (.string (bS ((D ++ [101]) ++ (Lib.itoa (p - 1))))) ?_ (hs := (fun δ w_ => run_catB (D ++ [101]) (Lib.itoa (p - 1)) (by first | omega | simp only [List.length_append, List.length_take, List.length_drop, List.length_cons, List.length_nil]; omega) rfl rfl))
   refine os 1 ?_
   refine kp [2, 80, 72, 58, 43, 29, 5, 4, 3, 19, 12, 9, 6, 0] ?_
   refine nt ?_
   refine SW_ret ?_
   refine body_end (.string (bS ((D ++ [101]) ++ (Lib.itoa (p - 1))))) (fun _ => rfl) ?_
   rw [show printP0 a = formP D p from by rw [hD_, hp_]; unfold printP0; rw [if_neg (by omega), if_neg (by omega), if_neg (by omega)]]
   rw [form_e (by omega) (by omega) (by omega) (by omega), expo_f (by omega)]
   exact ⟨(), ow, rfl, by simp only [List.length_append, List.length_take, List.length_drop, List.length_cons, List.length_nil]; omega⟩
  replace hg6 : ¬ (p > 0) := hg6
  refine os 4 ?_
  refine kp [43, 29, 5, 4, 3, 19, 12, 9, 6, 2, 0] ?_
  refine nt ?_
  refine cf ?_
  refine sr ?_
  refine os 3 ?_
  refine tbp 61 (fun hg16 => ?_) (fun hg16 => ?_)
  ·replace hg16 : p > (-6) := hg16
   refine os 4 ?_
   refine kp [58, 43, 29, 5, 4, 3, 19, 12, 9, 6, 2, 0] ?_
   refine nt ?_
   refine cdp (fun hc17 : p ≤ 0 => ?_) (fun hc17 => ?_)
   ·refine sr ?_
    refine os 1 ?_
    refine oX (.int .i64 (IntKind.wrap .i64 (0 - p))) (.int .i64 (-p)) (congrArg (Value.int .i64) ((IntWalk.i64_in _ (by omega)).trans (Int.zero_sub _))) ?_
    have hrl_ : (Lib.repeatL [48] (-p).toNat).length ≤ 2000 := by rw [Lib.repeatL_length, show ([48] : List UInt8).length = 1 from rfl]; omega
    refine L (cl (str_RepeatZ [48] (c := -p) (by omega) (by decide)) ?_)
    rintro _ _ rfl
    refine un ?_
    refine oV (.string (bS ([48, 46] ++ (Lib.repeatL [48] (-p).toNat)))) ?_ (hs := (fun δ w_ => run_catB [48, 46] (Lib.repeatL [48] (-p).toNat) (by first | omega | simp only [List.length_append, List.length_take, List.length_drop, List.length_cons, List.length_nil]; omega) rfl rfl))
    refine os 1 ?_
    refine oV (.string (bS (([48, 46] ++ (Lib.repeatL [48] (-p).toNat)) ++ D))) ?_ (hs := (fun δ w_ => run_catB ([48, 46] ++ (Lib.repeatL [48] (-p).toNat)) D (by first | omega | simp only [List.length_append, List.length_take, List.length_drop, List.length_cons, List.length_nil]; omega) rfl rfl))
    refine os 1 ?_
    refine kp [2, 58, 43, 29, 5, 4, 3, 19, 12, 9, 6, 0] ?_
    refine nt ?_
    refine SW_ret (r_in (r_then ?_))
    refine body_end (.string (bS (([48, 46] ++ (Lib.repeatL [48] (-p).toNat)) ++ D))) (fun _ => rfl) ?_
    rw [show printP0 a = formP D p from by rw [hD_, hp_]; unfold printP0; rw [if_neg (by omega), if_neg (by omega), if_neg (by omega)]]
    rw [form_c (by omega) (by omega) (by omega)]
    exact ⟨(), ow, rfl, by simp only [List.length_append, List.length_take, List.length_drop, List.length_cons, List.length_nil]; omega⟩
   refine SW_skip (n_in (n_then ?_))
   refine SW_seq ?_
   refine sr ?_
   refine os 2 ?_
   refine nt ?_
   refine cdp (fun hc18 : (D.length : Int) > 1 => ?_) (fun hc18 => ?_)
   ·refine SW_draw [] [] (by kernel_rfl) rd_nil ?_
    refine aS 0 ?_
    refine tk 1 (.string (bS (D.take 1))) ?_ (hy := fun δ w => run_strTo (l := D) 1 .i64 Tryz.underlying9 rfl rfl (by omega) (by omega))
    refine tk 2 (.string (bS ((D.take 1) ++ [46]))) ?_ (hy := (fun δ w_ => run_catB (D.take 1) [46] (by first | omega | simp only [List.length_append, List.length_take, List.length_drop, List.length_cons, List.length_nil]; omega) rfl rfl))
    refine aS 3 ?_
    refine tk 4 (.string (bS (D.drop 1))) ?_ (hy := fun δ w => run_strFrom (l := D) 1 .i64 Tryz.underlying9 rfl rfl (by omega) (by omega))
    refine tk 5 (.string (bS (((D.take 1) ++ [46]) ++ (D.drop 1)))) ?_ (hy := (fun δ w_ => run_catB ((D.take 1) ++ [46]) (D.drop 1) (by first | omega | simp only [List.length_append, List.length_take, List.length_drop, List.length_cons, List.length_nil]; omega) rfl rfl))
    refine aS 6 ?_
    refine SA_done (by kernel_rfl) (n_then ?_)
    refine SW_seq ?_
    refine sr ?_
    refine os 2 ?_
    refine kp [80, 3, 72, 58, 43, 29, 5, 4, 19, 12, 9, 6, 2, 0] ?_
    refine nt ?_
    refine cdp (fun hc19 : p > 0 => ?_) (fun hc19 => ?_)
    ·refine sr ?_
     refine os 1 ?_
     refine oV (.string (bS ((((D.take 1) ++ [46]) ++ (D.drop 1)) ++ [101, 43]))) ?_ (hs := (fun δ w_ => run_catB (((D.take 1) ++ [46]) ++ (D.drop 1)) [101, 43] (by first | omega | simp only [List.length_append, List.length_take, List.length_drop, List.length_cons, List.length_nil]; omega) rfl rfl))
     refine os 2 ?_
     have hil_ := Lib.itoa_length_le (p - 1) (by omega) (by omega)
     refine L (cl (str_ItoaN hL (p - 1) (by omega)) ?_)
     rintro _ _ rfl
     refine un ?_
     refine oV (.string (bS (((((D.take 1) ++ [46]) ++ (D.drop 1)) ++ [101, 43]) ++ (Lib.itoa (p - 1))))) ?_ (hs := (fun δ w_ => run_catB ((((D.take 1) ++ [46]) ++ (D.drop 1)) ++ [101, 43]) (Lib.itoa (p - 1)) (by first | omega | simp only [List.length_append, List.length_take, List.length_drop, List.length_cons, List.length_nil]; omega) rfl rfl))
     refine os 1 ?_
     refine kp [2, 80, 3, 72, 58, 43, 29, 5, 4, 19, 12, 9, 6, 0] ?_
     refine nt ?_
     refine SW_ret (r_then ?_)
     refine body_end (.string (bS (((((D.take 1) ++ [46]) ++ (D.drop 1)) ++ [101, 43]) ++ (Lib.itoa (p - 1))))) (fun _ => rfl) ?_
     rw [show printP0 a = formP D p from by rw [hD_, hp_]; unfold printP0; rw [if_neg (by omega), if_neg (by omega), if_neg (by omega)]]
     rw [form_d (by omega) (by omega) (by omega) (by omega), expo_t (by omega)]
     exact ⟨(), ow, rfl, by simp only [List.length_append, List.length_take, List.length_drop, List.length_cons, List.length_nil]; omega⟩
    refine SW_skip (n_then ?_)
    refine sr ?_
    refine os 1 ?_
    refine oV (.string (bS ((((D.take 1) ++ [46]) ++ (D.drop 1)) ++ [101]))) ?_ (hs := (fun δ w_ => run_catB (((D.take 1) ++ [46]) ++ (D.drop 1)) [101] (by first | omega | simp only [List.length_append, List.length_take, List.length_drop, List.length_cons, List.length_nil]; omega) rfl rfl))
    refine os 2 ?_
    have hil_ := Lib.itoa_length_le (p - 1) (by omega) (by omega)
    refine L (cl (str_ItoaN hL (p - 1) (by omega)) ?_)
    rintro _ _ rfl
    refine un ?_
    refine oV (.string (bS (((((D.take 1) ++ [46]) ++ (D.drop 1)) ++ [101]) ++ (Lib.itoa (p - 1))))) ?_ (hs := (fun δ w_ => run_catB ((((D.take 1) ++ [46]) ++ (D.drop 1)) ++ [101]) (Lib.itoa (p - 1)) (by first | omega | simp only [List.length_append, List.length_take, List.length_drop, List.length_cons, List.length_nil]; omega) rfl rfl))
    refine os 1 ?_
    refine kp [2, 80, 3, 72, 58, 43, 29, 5, 4, 19, 12, 9, 6, 0] ?_
    refine nt ?_
    refine SW_ret ?_
    refine body_end (.string (bS (((((D.take 1) ++ [46]) ++ (D.drop 1)) ++ [101]) ++ (Lib.itoa (p - 1))))) (fun _ => rfl) ?_
    rw [show printP0 a = formP D p from by rw [hD_, hp_]; unfold printP0; rw [if_neg (by omega), if_neg (by omega), if_neg (by omega)]]
    rw [form_e (by omega) (by omega) (by omega) (by omega), expo_t (by omega)]
    exact ⟨(), ow, rfl, by simp only [List.length_append, List.length_take, List.length_drop, List.length_cons, List.length_nil]; omega⟩
   refine SW_skip (n_then ?_)
   refine SW_seq ?_
   refine sr ?_
   refine os 2 ?_
   refine nt ?_
   refine cdp (fun hc20 : p > 0 => ?_) (fun hc20 => ?_)
   ·refine sr ?_
    refine os 1 ?_
    refine oV (.string (bS (D ++ [101, 43]))) ?_ (hs := (fun δ w_ => run_catB D [101, 43] (by first | omega | simp only [List.length_append, List.length_take, List.length_drop, List.length_cons, List.length_nil]; omega) rfl rfl))
    refine os 2 ?_
    have hil_ := Lib.itoa_length_le (p - 1) (by omega) (by omega)
    refine L (cl (str_ItoaN hL (p - 1) (by omega)) ?_)
    rintro _ _ rfl
    refine un ?_
    refine oV (.string (bS ((D ++ [101, 43]) ++ (Lib.itoa (p - 1))))) ?_ (hs := (fun δ w_ => run_catB (D ++ [101, 43]) (Lib.itoa (p - 1)) (by first | omega | simp only [List.length_append, List.length_take, List.length_drop, List.length_cons, List.length_nil]; omega) rfl rfl))
    refine os 1 ?_
    refine kp [2, 80, 72, 58, 43, 29, 5, 4, 3, 19, 12, 9, 6, 0] ?_
    refine nt ?_
    refine SW_ret (r_then ?_)
    refine body_end (.string (bS ((D ++ [101, 43]) ++ (Lib.itoa (p - 1))))) (fun _ => rfl) ?_
    rw [show printP0 a = formP D p from by rw [hD_, hp_]; unfold printP0; rw [if_neg (by omega), if_neg (by omega), if_neg (by omega)]]
    rw [form_d (by omega) (by omega) (by omega) (by omega), expo_f (by omega)]
    exact ⟨(), ow, rfl, by simp only [List.length_append, List.length_take, List.length_drop, List.length_cons, List.length_nil]; omega⟩
   refine SW_skip (n_then ?_)
   refine sr ?_
   refine os 1 ?_
   refine oV (.string (bS (D ++ [101]))) ?_ (hs := (fun δ w_ => run_catB D [101] (by first | omega | simp only [List.length_append, List.length_take, List.length_drop, List.length_cons, List.length_nil]; omega) rfl rfl))
   refine os 2 ?_
   have hil_ := Lib.itoa_length_le (p - 1) (by omega) (by omega)
   refine L (cl (str_ItoaN hL (p - 1) (by omega)) ?_)
   rintro _ _ rfl
   refine un ?_
   refine oV (.string (bS ((D ++ [101]) ++ (Lib.itoa (p - 1))))) ?_ (hs := (fun δ w_ => run_catB (D ++ [101]) (Lib.itoa (p - 1)) (by first | omega | simp only [List.length_append, List.length_take, List.length_drop, List.length_cons, List.length_nil]; omega) rfl rfl))
   refine os 1 ?_
   refine kp [2, 80, 72, 58, 43, 29, 5, 4, 3, 19, 12, 9, 6, 0] ?_
   refine nt ?_
   refine SW_ret ?_
   refine body_end (.string (bS ((D ++ [101]) ++ (Lib.itoa (p - 1))))) (fun _ => rfl) ?_
   rw [show printP0 a = formP D p from by rw [hD_, hp_]; unfold printP0; rw [if_neg (by omega), if_neg (by omega), if_neg (by omega)]]
   rw [form_e (by omega) (by omega) (by omega) (by omega), expo_f (by omega)]
   exact ⟨(), ow, rfl, by simp only [List.length_append, List.length_take, List.length_drop, List.length_cons, List.length_nil]; omega⟩
  replace hg16 : ¬ (p > (-6)) := hg16
  refine os 4 ?_
  refine kp [58, 43, 29, 5, 4, 3, 19, 12, 9, 6, 2, 0] ?_
  refine nt ?_
  refine cf ?_
  refine SW_skip (n_in (n_then ?_))
  refine SW_seq ?_
  refine sr ?_
  refine os 2 ?_
  refine nt ?_
  refine cdp (fun hc21 : (D.length : Int) > 1 => ?_) (fun hc21 => ?_)
  ·refine SW_draw [] [] (by kernel_rfl) rd_nil ?_
   refine aS 0 ?_
   refine tk 1 (.string (bS (D.take 1))) ?_ (hy := fun δ w => run_strTo (l := D) 1 .i64 Tryz.underlying9 rfl rfl (by omega) (by omega))
   refine tk 2 (.string (bS ((D.take 1) ++ [46]))) ?_ (hy := (fun δ w_ => run_catB (D.take 1) [46] (by first | omega | simp only [List.length_append, List.length_take, List.length_drop, List.length_cons, List.length_nil]; omega) rfl rfl))
   refine aS 3 ?_
   refine tk 4 (.string (bS (D.drop 1))) ?_ (hy := fun δ w => run_strFrom (l := D) 1 .i64 Tryz.underlying9 rfl rfl (by omega) (by omega))
   refine tk 5 (.string (bS (((D.take 1) ++ [46]) ++ (D.drop 1)))) ?_ (hy := (fun δ w_ => run_catB ((D.take 1) ++ [46]) (D.drop 1) (by first | omega | simp only [List.length_append, List.length_take, List.length_drop, List.length_cons, List.length_nil]; omega) rfl rfl))
   refine aS 6 ?_
   refine SA_done (by kernel_rfl) (n_then ?_)
   refine SW_seq ?_
   refine sr ?_
   refine os 2 ?_
   refine kp [80, 3, 72, 58, 43, 29, 5, 4, 19, 12, 9, 6, 2, 0] ?_
   refine nt ?_
   refine cdp (fun hc22 : p > 0 => ?_) (fun hc22 => ?_)
   ·refine sr ?_
    refine os 1 ?_
    refine oV (.string (bS ((((D.take 1) ++ [46]) ++ (D.drop 1)) ++ [101, 43]))) ?_ (hs := (fun δ w_ => run_catB (((D.take 1) ++ [46]) ++ (D.drop 1)) [101, 43] (by first | omega | simp only [List.length_append, List.length_take, List.length_drop, List.length_cons, List.length_nil]; omega) rfl rfl))
    refine os 2 ?_
    have hil_ := Lib.itoa_length_le (p - 1) (by omega) (by omega)
    refine L (cl (str_ItoaN hL (p - 1) (by omega)) ?_)
    rintro _ _ rfl
    refine un ?_
    refine oV (.string (bS (((((D.take 1) ++ [46]) ++ (D.drop 1)) ++ [101, 43]) ++ (Lib.itoa (p - 1))))) ?_ (hs := (fun δ w_ => run_catB ((((D.take 1) ++ [46]) ++ (D.drop 1)) ++ [101, 43]) (Lib.itoa (p - 1)) (by first | omega | simp only [List.length_append, List.length_take, List.length_drop, List.length_cons, List.length_nil]; omega) rfl rfl))
    refine os 1 ?_
    refine kp [2, 80, 3, 72, 58, 43, 29, 5, 4, 19, 12, 9, 6, 0] ?_
    refine nt ?_
    refine SW_ret (r_then ?_)
    refine body_end (.string (bS (((((D.take 1) ++ [46]) ++ (D.drop 1)) ++ [101, 43]) ++ (Lib.itoa (p - 1))))) (fun _ => rfl) ?_
    rw [show printP0 a = formP D p from by rw [hD_, hp_]; unfold printP0; rw [if_neg (by omega), if_neg (by omega), if_neg (by omega)]]
    rw [form_d (by omega) (by omega) (by omega) (by omega), expo_t (by omega)]
    exact ⟨(), ow, rfl, by simp only [List.length_append, List.length_take, List.length_drop, List.length_cons, List.length_nil]; omega⟩
   refine SW_skip (n_then ?_)
   refine sr ?_
   refine os 1 ?_
   refine oV (.string (bS ((((D.take 1) ++ [46]) ++ (D.drop 1)) ++ [101]))) ?_ (hs := (fun δ w_ => run_catB (((D.take 1) ++ [46]) ++ (D.drop 1)) [101] (by first | omega | simp only [List.length_append, List.length_take, List.length_drop, List.length_cons, List.length_nil]; omega) rfl rfl))
   refine os 2 ?_
   have hil_ := Lib.itoa_length_le (p - 1) (by omega) (by omega)
   refine L (cl (str_ItoaN hL (p - 1) (by omega)) ?_)
   rintro _ _ rfl
   refine un ?_
   refine oV (.string (bS (((((D.take 1) ++ [46]) ++ (D.drop 1)) ++ [101]) ++ (Lib.itoa (p - 1))))) ?_ (hs := (fun δ w_ => run_catB ((((D.take 1) ++ [46]) ++ (D.drop 1)) ++ [101]) (Lib.itoa (p - 1)) (by first | omega | simp only [List.length_append, List.length_take, List.length_drop, List.length_cons, List.length_nil]; omega) rfl rfl))
   refine os 1 ?_
   refine kp [2, 80, 3, 72, 58, 43, 29, 5, 4, 19, 12, 9, 6, 0] ?_
   refine nt ?_
   refine SW_ret ?_
   refine body_end (.string (bS (((((D.take 1) ++ [46]) ++ (D.drop 1)) ++ [101]) ++ (Lib.itoa (p - 1))))) (fun _ => rfl) ?_
   rw [show printP0 a = formP D p from by rw [hD_, hp_]; unfold printP0; rw [if_neg (by omega), if_neg (by omega), if_neg (by omega)]]
   rw [form_e (by omega) (by omega) (by omega) (by omega), expo_t (by omega)]
   exact ⟨(), ow, rfl, by simp only [List.length_append, List.length_take, List.length_drop, List.length_cons, List.length_nil]; omega⟩
  refine SW_skip (n_then ?_)
  refine SW_seq ?_
  refine sr ?_
  refine os 2 ?_
  refine nt ?_
  refine cdp (fun hc23 : p > 0 => ?_) (fun hc23 => ?_)
  ·refine sr ?_
   refine os 1 ?_
   refine oV (.string (bS (D ++ [101, 43]))) ?_ (hs := (fun δ w_ => run_catB D [101, 43] (by first | omega | simp only [List.length_append, List.length_take, List.length_drop, List.length_cons, List.length_nil]; omega) rfl rfl))
   refine os 2 ?_
   have hil_ := Lib.itoa_length_le (p - 1) (by omega) (by omega)
   refine L (cl (str_ItoaN hL (p - 1) (by omega)) ?_)
   rintro _ _ rfl
   refine un ?_
   refine oV (.string (bS ((D ++ [101, 43]) ++ (Lib.itoa (p - 1))))) ?_ (hs := (fun δ w_ => run_catB (D ++ [101, 43]) (Lib.itoa (p - 1)) (by first | omega | simp only [List.length_append, List.length_take, List.length_drop, List.length_cons, List.length_nil]; omega) rfl rfl))
   refine os 1 ?_
   refine kp [2, 80, 72, 58, 43, 29, 5, 4, 3, 19, 12, 9, 6, 0] ?_
   refine nt ?_
   refine SW_ret (r_then ?_)
   refine body_end (.string (bS ((D ++ [101, 43]) ++ (Lib.itoa (p - 1))))) (fun _ => rfl) ?_
   rw [show printP0 a = formP D p from by rw [hD_, hp_]; unfold printP0; rw [if_neg (by omega), if_neg (by omega), if_neg (by omega)]]
   rw [form_d (by omega) (by omega) (by omega) (by omega), expo_f (by omega)]
   exact ⟨(), ow, rfl, by simp only [List.length_append, List.length_take, List.length_drop, List.length_cons, List.length_nil]; omega⟩
  refine SW_skip (n_then ?_)
  refine sr ?_
  refine os 1 ?_
  refine oV (.string (bS (D ++ [101]))) ?_ (hs := (fun δ w_ => run_catB D [101] (by first | omega | simp only [List.length_append, List.length_take, List.length_drop, List.length_cons, List.length_nil]; omega) rfl rfl))
  refine os 2 ?_
  have hil_ := Lib.itoa_length_le (p - 1) (by omega) (by omega)
  refine L (cl (str_ItoaN hL (p - 1) (by omega)) ?_)
  rintro _ _ rfl
  refine un ?_
  refine oV (.string (bS ((D ++ [101]) ++ (Lib.itoa (p - 1))))) ?_ (hs := (fun δ w_ => run_catB (D ++ [101]) (Lib.itoa (p - 1)) (by first | omega | simp only [List.length_append, List.length_take, List.length_drop, List.length_cons, List.length_nil]; omega) rfl rfl))
  refine os 1 ?_
  refine kp [2, 80, 72, 58, 43, 29, 5, 4, 3, 19, 12, 9, 6, 0] ?_
  refine nt ?_
  refine SW_ret ?_
  refine body_end (.string (bS ((D ++ [101]) ++ (Lib.itoa (p - 1))))) (fun _ => rfl) ?_
  rw [show printP0 a = formP D p from by rw [hD_, hp_]; unfold printP0; rw [if_neg (by omega), if_neg (by omega), if_neg (by omega)]]
  rw [form_e (by omega) (by omega) (by omega) (by omega), expo_f (by omega)]
  exact ⟨(), ow, rfl, by simp only [List.length_append, List.length_take, List.length_drop, List.length_cons, List.length_nil]; omega⟩
 replace hg4 : ¬ (p ≥ (D.length : Int)) := hg4
 refine os 4 ?_
 refine kp [29, 5, 4, 3, 19, 12, 9, 6, 2, 0] ?_
 refine nt ?_
 refine cf ?_
 refine sr ?_
 refine os 3 ?_
 refine tbp 46 (fun hg24 => ?_) (fun hg24 => ?_)
 ·replace hg24 : p > 0 := hg24
  refine os 4 ?_
  refine kp [43, 29, 5, 4, 3, 19, 12, 9, 6, 2, 0] ?_
  refine nt ?_
  refine cdp (fun hc25 : p ≤ 21 => ?_) (fun hc25 => ?_)
  ·refine SW_seq ?_
   refine SW_draw [] [] (by kernel_rfl) rd_nil ?_
   refine aS 0 ?_
   refine aS 1 ?_
   refine tk 2 (.string (bS (D.take (p).toNat))) ?_ (hy := fun δ w => run_strTo (l := D) p .i64 Tryz.underlying9 rfl rfl (by omega) (by omega))
   rw [show (p).toNat = p.toNat from by omega]
   refine tk 3 (.string (bS ((D.take p.toNat) ++ [46]))) ?_ (hy := (fun δ w_ => run_catB (D.take p.toNat) [46] (by first | omega | simp only [List.length_append, List.length_take, List.length_drop, List.length_cons, List.length_nil]; omega) rfl rfl))
   refine aS 4 ?_
   refine aS 5 ?_
   refine tk 6 (.string (bS (D.drop (p).toNat))) ?_ (hy := fun δ w => run_strFrom (l := D) p .i64 Tryz.underlying9 rfl rfl (by omega) (by omega))
   rw [show (p).toNat = p.toNat from by omega]
   refine tk 7 (.string (bS (((D.take p.toNat) ++ [46]) ++ (D.drop p.toNat)))) ?_ (hy := (fun δ w_ => run_catB ((D.take p.toNat) ++ [46]) (D.drop p.toNat) (by first | omega | simp only [List.length_append, List.length_take, List.length_drop, List.length_cons, List.length_nil]; omega) rfl rfl))
   refine aS 8 ?_
   refine kpA [2, 43, 29, 5, 4, 3, 19, 12, 9, 6, 0] ?_
   refine SA_done (by kernel_rfl) (n_then ?_)
   refine SW_ret (r_in (r_then ?_))
   refine body_end (.string (bS (((D.take p.toNat) ++ [46]) ++ (D.drop p.toNat)))) (fun _ => rfl) ?_
   rw [show printP0 a = formP D p from by rw [hD_, hp_]; unfold printP0; rw [if_neg (by omega), if_neg (by omega), if_neg (by omega)]]
   rw [form_b (by omega) (by omega) (by omega)]
   exact ⟨(), ow, rfl, by simp only [List.length_append, List.length_take, List.length_drop, List.length_cons, List.length_nil]; omega⟩
  refine sr ?_
  refine os 3 ?_
  refine tbp 61 (fun hg26 => ?_) (fun hg26 => ?_)
  ·replace hg26 : p > (-6) := hg26
   refine os 4 ?_
   refine kp [58, 43, 29, 5, 4, 3, 19, 12, 9, 6, 2, 0] ?_
   refine nt ?_
   refine cdp (fun hc27 : p ≤ 0 => ?_) (fun hc27 => ?_)
   ·refine sr ?_
    refine os 1 ?_
    refine oX (.int .i64 (IntKind.wrap .i64 (0 - p))) (.int .i64 (-p)) (congrArg (Value.int .i64) ((IntWalk.i64_in _ (by omega)).trans (Int.zero_sub _))) ?_
    have hrl_ : (Lib.repeatL [48] (-p).toNat).length ≤ 2000 := by rw [Lib.repeatL_length, show ([48] : List UInt8).length = 1 from rfl]; omega
    refine L (cl (str_RepeatZ [48] (c := -p) (by omega) (by decide)) ?_)
    rintro _ _ rfl
    refine un ?_
    refine oV (.string (bS ([48, 46] ++ (Lib.repeatL [48] (-p).toNat)))) ?_ (hs := (fun δ w_ => run_catB [48, 46] (Lib.repeatL [48] (-p).toNat) (by first | omega | simp only [List.length_append, List.length_take, List.length_drop, List.length_cons, List.length_nil]; omega) rfl rfl))
    refine os 1 ?_
    refine oV (.string (bS (([48, 46] ++ (Lib.repeatL [48] (-p).toNat)) ++ D))) ?_ (hs := (fun δ w_ => run_catB ([48, 46] ++ (Lib.repeatL [48] (-p).toNat)) D (by first | omega | simp only [List.length_append, List.length_take, List.length_drop, List.length_cons, List.length_nil]; omega) rfl rfl))
    refine os 1 ?_
    refine kp [2, 58, 43, 29, 5, 4, 3, 19, 12, 9, 6, 0] ?_
    refine nt ?_
    refine SW_ret (r_in (r_then ?_))
    refine body_end (.string (bS (([48, 46] ++ (Lib.repeatL [48] (-p).toNat)) ++ D))) (fun _ => rfl) ?_
    rw [show printP0 a = formP D p from by rw [hD_, hp_]; unfold printP0; rw [if_neg (by omega), if_neg (by omega), if_neg (by omega)]]
    rw [form_c (by omega) (by omega) (by omega)]
    exact ⟨(), ow, rfl, by simp only [List.length_append, List.length_take, List.length_drop, List.length_cons, List.length_nil]; omega⟩
   refine SW_skip (n_in (n_then ?_))
   refine SW_seq ?_
   refine sr ?_
   refine os 2 ?_
   refine nt ?_
   refine cdp (fun hc28 : (D.length : Int) > 1 => ?_) (fun hc28 => ?_)
   ·refine SW_draw [] [] (by kernel_rfl) rd_nil ?_
    refine aS 0 ?_
    refine tk 1 (.string (bS (D.take 1))) ?_ (hy := fun δ w => run_strTo (l := D) 1 .i64 Tryz.underlying9 rfl rfl (by omega) (by omega))
    refine tk 2 (.string (bS ((D.take 1) ++ [46]))) ?_ (hy := (fun δ w_ => run_catB (D.take 1) [46] (by first | omega | simp only [List.length_append, List.length_take, List.length_drop, List.length_cons, List.length_nil]; omega) rfl rfl))
    refine aS 3 ?_
    refine tk 4 (.string (bS (D.drop 1))) ?_ (hy := fun δ w => run_strFrom (l := D) 1 .i64 Tryz.underlying9 rfl rfl (by omega) (by omega))
    refine tk 5 (.string (bS (((D.take 1) ++ [46]) ++ (D.drop 1)))) ?_ (hy := (fun δ w_ => run_catB ((D.take 1) ++ [46]) (D.drop 1) (by first | omega | simp only [List.length_append, List.length_take, List.length_drop, List.length_cons, List.length_nil]; omega) rfl rfl))
    refine aS 6 ?_
    refine SA_done (by kernel_rfl) (n_then ?_)
    refine SW_seq ?_
    refine sr ?_
    refine os 2 ?_
    refine kp [80, 3, 72, 58, 43, 29, 5, 4, 19, 12, 9, 6, 2, 0] ?_
    refine nt ?_
    refine cdp (fun hc29 : p > 0 => ?_) (fun hc29 => ?_)
    ·refine sr ?_
     refine os 1 ?_
     refine oV (.string (bS ((((D.take 1) ++ [46]) ++ (D.drop 1)) ++ [101, 43]))) ?_ (hs := (fun δ w_ => run_catB (((D.take 1) ++ [46]) ++ (D.drop 1)) [101, 43] (by first | omega | simp only [List.length_append, List.length_take, List.length_drop, List.length_cons, List.length_nil]; omega) rfl rfl))
     refine os 2 ?_
     have hil_ := Lib.itoa_length_le (p - 1) (by omega) (by omega)
     refine L (cl (str_ItoaN hL (p - 1) (by omega)) ?_)
     rintro _ _ rfl
     refine un ?_
     refine oV (.string (bS (((((D.take 1) ++ [46]) ++ (D.drop 1)) ++ [101, 43]) ++ (Lib.itoa (p - 1))))) ?_ (hs := (fun δ w_ => run_catB ((((D.take 1) ++ [46]) ++ (D.drop 1)) ++ [101, 43]) (Lib.itoa (p - 1)) (by first | omega | simp only [List.length_append, List.length_take, List.length_drop, List.length_cons, List.length_nil]; omega) rfl rfl))
     refine os 1 ?_
     refine kp [2, 80, 3, 72, 58, 43, 29, 5, 4, 19, 12, 9, 6, 0] ?_
     refine nt ?_
     refine SW_ret (r_then ?_)
     refine body_end (.string (bS (((((D.take 1) ++ [46]) ++ (D.drop 1)) ++ [101, 43]) ++ (Lib.itoa (p - 1))))) (fun _ => rfl) ?_
     rw [show printP0 a = formP D p from by rw [hD_, hp_]; unfold printP0; rw [if_neg (by omega), if_neg (by omega), if_neg (by omega)]]
     rw [form_d (by omega) (by omega) (by omega) (by omega), expo_t (by omega)]
     exact ⟨(), ow, rfl, by simp only [List.length_append, List.length_take, List.length_drop, List.length_cons, List.length_nil]; omega⟩
    refine SW_skip (n_then ?_)
    refine sr ?_
    refine os 1 ?_
    refine oV (.string (bS ((((D.take 1) ++ [46]) ++ (D.drop 1)) ++ [101]))) ?_ (hs := (fun δ w_ => run_catB (((D.take 1) ++ [46]) ++ (D.drop 1)) [101] (by first | omega | simp only [List.length_append, List.length_take, List.length_drop, List.length_cons, List.length_nil]; omega) rfl rfl))
    refine os 2 ?_
    have hil_ := Lib.itoa_length_le (p - 1) (by omega) (by omega)
    refine L (cl (str_ItoaN hL (p - 1) (by omega)) ?_)
    rintro _ _ rfl
    refine un ?_
    refine oV (.string (bS (((((D.take 1) ++ [46]) ++ (D.drop 1)) ++ [101]) ++ (Lib.itoa (p - 1))))) ?_ (hs := (fun δ w_ => run_catB ((((D.take 1) ++ [46]) ++ (D.drop 1)) ++ [101]) (Lib.itoa (p - 1)) (by first | omega | simp only [List.length_append, List.length_take, List.length_drop, List.length_cons, List.length_nil]; omega) rfl rfl))
    refine os 1 ?_
    refine kp [2, 80, 3, 72, 58, 43, 29, 5, 4, 19, 12, 9, 6, 0] ?_
    refine nt ?_
    refine SW_ret ?_
    refine body_end (.string (bS (((((D.take 1) ++ [46]) ++ (D.drop 1)) ++ [101]) ++ (Lib.itoa (p - 1))))) (fun _ => rfl) ?_
    rw [show printP0 a = formP D p from by rw [hD_, hp_]; unfold printP0; rw [if_neg (by omega), if_neg (by omega), if_neg (by omega)]]
    rw [form_e (by omega) (by omega) (by omega) (by omega), expo_t (by omega)]
    exact ⟨(), ow, rfl, by simp only [List.length_append, List.length_take, List.length_drop, List.length_cons, List.length_nil]; omega⟩
   refine SW_skip (n_then ?_)
   refine SW_seq ?_
   refine sr ?_
   refine os 2 ?_
   refine nt ?_
   refine cdp (fun hc30 : p > 0 => ?_) (fun hc30 => ?_)
   ·refine sr ?_
    refine os 1 ?_
    refine oV (.string (bS (D ++ [101, 43]))) ?_ (hs := (fun δ w_ => run_catB D [101, 43] (by first | omega | simp only [List.length_append, List.length_take, List.length_drop, List.length_cons, List.length_nil]; omega) rfl rfl))
    refine os 2 ?_
    have hil_ := Lib.itoa_length_le (p - 1) (by omega) (by omega)
    refine L (cl (str_ItoaN hL (p - 1) (by omega)) ?_)
    rintro _ _ rfl
    refine un ?_
    refine oV (.string (bS ((D ++ [101, 43]) ++ (Lib.itoa (p - 1))))) ?_ (hs := (fun δ w_ => run_catB (D ++ [101, 43]) (Lib.itoa (p - 1)) (by first | omega | simp only [List.length_append, List.length_take, List.length_drop, List.length_cons, List.length_nil]; omega) rfl rfl))
    refine os 1 ?_
    refine kp [2, 80, 72, 58, 43, 29, 5, 4, 3, 19, 12, 9, 6, 0] ?_
    refine nt ?_
    refine SW_ret (r_then ?_)
    refine body_end (.string (bS ((D ++ [101, 43]) ++ (Lib.itoa (p - 1))))) (fun _ => rfl) ?_
    rw [show printP0 a = formP D p from by rw [hD_, hp_]; unfold printP0; rw [if_neg (by omega), if_neg (by omega), if_neg (by omega)]]
    rw [form_d (by omega) (by omega) (by omega) (by omega), expo_f (by omega)]
    exact ⟨(), ow, rfl, by simp only [List.length_append, List.length_take, List.length_drop, List.length_cons, List.length_nil]; omega⟩
   refine SW_skip (n_then ?_)
   refine sr ?_
   refine os 1 ?_
   refine oV (.string (bS (D ++ [101]))) ?_ (hs := (fun δ w_ => run_catB D [101] (by first | omega | simp only [List.length_append, List.length_take, List.length_drop, List.length_cons, List.length_nil]; omega) rfl rfl))
   refine os 2 ?_
   have hil_ := Lib.itoa_length_le (p - 1) (by omega) (by omega)
   refine L (cl (str_ItoaN hL (p - 1) (by omega)) ?_)
   rintro _ _ rfl
   refine un ?_
   refine oV (.string (bS ((D ++ [101]) ++ (Lib.itoa (p - 1))))) ?_ (hs := (fun δ w_ => run_catB (D ++ [101]) (Lib.itoa (p - 1)) (by first | omega | simp only [List.length_append, List.length_take, List.length_drop, List.length_cons, List.length_nil]; omega) rfl rfl))
   refine os 1 ?_
   refine kp [2, 80, 72, 58, 43, 29, 5, 4, 3, 19, 12, 9, 6, 0] ?_
   refine nt ?_
   refine SW_ret ?_
   refine body_end (.string (bS ((D ++ [101]) ++ (Lib.itoa (p - 1))))) (fun _ => rfl) ?_
   rw [show printP0 a = formP D p from by rw [hD_, hp_]; unfold printP0; rw [if_neg (by omega), if_neg (by omega), if_neg (by omega)]]
   rw [form_e (by omega) (by omega) (by omega) (by omega), expo_f (by omega)]
   exact ⟨(), ow, rfl, by simp only [List.length_append, List.length_take, List.length_drop, List.length_cons, List.length_nil]; omega⟩
  replace hg26 : ¬ (p > (-6)) := hg26
  refine os 4 ?_
  refine kp [58, 43, 29, 5, 4, 3, 19, 12, 9, 6, 2, 0] ?_
  refine nt ?_
  refine cf ?_
  refine SW_skip (n_in (n_then ?_))
  refine SW_seq ?_
  refine sr ?_
  refine os 2 ?_
  refine nt ?_
  refine cdp (fun hc31 : (D.length : Int) > 1 => ?_) (fun hc31 => ?_)
  ·refine SW_draw [] [] (by kernel_rfl) rd_nil ?_
   refine aS 0 ?_
   refine tk 1 (.string (bS (D.take 1))) ?_ (hy := fun δ w => run_strTo (l := D) 1 .i64 Tryz.underlying9 rfl rfl (by omega) (by omega))
   refine tk 2 (.string (bS ((D.take 1) ++ [46]))) ?_ (hy := (fun δ w_ => run_catB (D.take 1) [46] (by first | omega | simp only [List.length_append, List.length_take, List.length_drop, List.length_cons, List.length_nil]; omega) rfl rfl))
   refine aS 3 ?_
   refine tk 4 (.string (bS (D.drop 1))) ?_ (hy := fun δ w => run_strFrom (l := D) 1 .i64 Tryz.underlying9 rfl rfl (by omega) (by omega))
   refine tk 5 (.string (bS (((D.take 1) ++ [46]) ++ (D.drop 1)))) ?_ (hy := (fun δ w_ => run_catB ((D.take 1) ++ [46]) (D.drop 1) (by first | omega | simp only [List.length_append, List.length_take, List.length_drop, List.length_cons, List.length_nil]; omega) rfl rfl))
   refine aS 6 ?_
   refine SA_done (by kernel_rfl) (n_then ?_)
   refine SW_seq ?_
   refine sr ?_
   refine os 2 ?_
   refine kp [80, 3, 72, 58, 43, 29, 5, 4, 19, 12, 9, 6, 2, 0] ?_
   refine nt ?_
   refine cdp (fun hc32 : p > 0 => ?_) (fun hc32 => ?_)
   ·refine sr ?_
    refine os 1 ?_
    refine oV (.string (bS ((((D.take 1) ++ [46]) ++ (D.drop 1)) ++ [101, 43]))) ?_ (hs := (fun δ w_ => run_catB (((D.take 1) ++ [46]) ++ (D.drop 1)) [101, 43] (by first | omega | simp only [List.length_append, List.length_take, List.length_drop, List.length_cons, List.length_nil]; omega) rfl rfl))
    refine os 2 ?_
    have hil_ := Lib.itoa_length_le (p - 1) (by omega) (by omega)
    refine L (cl (str_ItoaN hL (p - 1) (by omega)) ?_)
    rintro _ _ rfl
    refine un ?_
    refine oV (.string (bS (((((D.take 1) ++ [46]) ++ (D.drop 1)) ++ [101, 43]) ++ (Lib.itoa (p - 1))))) ?_ (hs := (fun δ w_ => run_catB ((((D.take 1) ++ [46]) ++ (D.drop 1)) ++ [101, 43]) (Lib.itoa (p - 1)) (by first | omega | simp only [List.length_append, List.length_take, List.length_drop, List.length_cons, List.length_nil]; omega) rfl rfl))
    refine os 1 ?_
    refine kp [2, 80, 3, 72, 58, 43, 29, 5, 4, 19, 12, 9, 6, 0] ?_
    refine nt ?_
    refine SW_ret (r_then ?_)
    refine body_end (.string (bS (((((D.take 1) ++ [46]) ++ (D.drop 1)) ++ [101, 43]) ++ (Lib.itoa (p - 1))))) (fun _ => rfl) ?_
    rw [show printP0 a = formP D p from by rw [hD_, hp_]; unfold printP0; rw [if_neg (by omega), if_neg (by omega), if_neg (by omega)]]
    rw [form_d (by omega) (by omega) (by omega) (by omega), expo_t (by omega)]
    exact ⟨(), ow, rfl, by simp only [List.length_append, List.length_take, List.length_drop, List.length_cons, List.length_nil]; omega⟩
   refine SW_skip (n_then ?_)
   refine sr ?_
   refine os 1 ?_
   refine oV (.string (bS ((((D.take 1) ++ [46]) ++ (D.drop 1)) ++ [101]))) ?_ (hs := (fun δ w_ => run_catB (((D.take 1) ++ [46]) ++ (D.drop 1)) [101] (by first | omega | simp only [List.length_append, List.length_take, List.length_drop, List.length_cons, List.length_nil]; omega) rfl rfl))
   refine os 2 ?_
   have hil_ := Lib.itoa_length_le (p - 1) (by omega) (by omega)
   refine L (cl (str_ItoaN hL (p - 1) (by omega)) ?_)
   rintro _ _ rfl
   refine un ?_
   refine oV (.string (bS (((((D.take 1) ++ [46]) ++ (D.drop 1)) ++ [101]) ++ (Lib.itoa (p - 1))))) ?_ (hs := (fun δ w_ => run_catB ((((D.take 1) ++ [46]) ++ (D.drop 1)) ++ [101]) (Lib.itoa (p - 1)) (by first | omega | simp only [List.length_append, List.length_take, List.length_drop, List.length_cons, List.length_nil]; omega) rfl rfl))
   refine os 1 ?_
   refine kp [2, 80, 3, 72, 58, 43, 29, 5, 4, 19, 12, 9, 6, 0] ?_
   refine nt ?_
   refine SW_ret ?_
   refine body_end (.string (bS (((((D.take 1) ++ [46]) ++ (D.drop 1)) ++ [101]) ++ (Lib.itoa (p - 1))))) (fun _ => rfl) ?_
   rw [show printP0 a = formP D p from by rw [hD_, hp_]; unfold printP0; rw [if_neg (by omega), if_neg (by omega), if_neg (by omega)]]
   rw [form_e (by omega) (by omega) (by omega) (by omega), expo_t (by omega)]
   exact ⟨(), ow, rfl, by simp only [List.length_append, List.length_take, List.length_drop, List.length_cons, List.length_nil]; omega⟩
  refine SW_skip (n_then ?_)
  refine SW_seq ?_
  refine sr ?_
  refine os 2 ?_
  refine nt ?_
  refine cdp (fun hc33 : p > 0 => ?_) (fun hc33 => ?_)
  ·refine sr ?_
   refine os 1 ?_
   refine oV (.string (bS (D ++ [101, 43]))) ?_ (hs := (fun δ w_ => run_catB D [101, 43] (by first | omega | simp only [List.length_append, List.length_take, List.length_drop, List.length_cons, List.length_nil]; omega) rfl rfl))
   refine os 2 ?_
   have hil_ := Lib.itoa_length_le (p - 1) (by omega) (by omega)
   refine L (cl (str_ItoaN hL (p - 1) (by omega)) ?_)
   rintro _ _ rfl
   refine un ?_
   refine oV (.string (bS ((D ++ [101, 43]) ++ (Lib.itoa (p - 1))))) ?_ (hs := (fun δ w_ => run_catB (D ++ [101, 43]) (Lib.itoa (p - 1)) (by first | omega | simp only [List.length_append, List.length_take, List.length_drop, List.length_cons, List.length_nil]; omega) rfl rfl))
   refine os 1 ?_
   refine kp [2, 80, 72, 58, 43, 29, 5, 4, 3, 19, 12, 9, 6, 0] ?_
   refine nt ?_
   refine SW_ret (r_then ?_)
   refine body_end (.string (bS ((D ++ [101, 43]) ++ (Lib.itoa (p - 1))))) (fun _ => rfl) ?_
   rw [show printP0 a = formP D p from by rw [hD_, hp_]; unfold printP0; rw [if_neg (by omega), if_neg (by omega), if_neg (by omega)]]
   rw [form_d (by omega) (by omega) (by omega) (by omega), expo_f (by omega)]
   exact ⟨(), ow, rfl, by simp only [List.length_append, List.length_take, List.length_drop, List.length_cons, List.length_nil]; omega⟩
  refine SW_skip (n_then ?_)
  refine sr ?_
  refine os 1 ?_
  refine oV (.string (bS (D ++ [101]))) ?_ (hs := (fun δ w_ => run_catB D [101] (by first | omega | simp only [List.length_append, List.length_take, List.length_drop, List.length_cons, List.length_nil]; omega) rfl rfl))
  refine os 2 ?_
  have hil_ := Lib.itoa_length_le (p - 1) (by omega) (by omega)
  refine L (cl (str_ItoaN hL (p - 1) (by omega)) ?_)
  rintro _ _ rfl
  refine un ?_
  refine oV (.string (bS ((D ++ [101]) ++ (Lib.itoa (p - 1))))) ?_ (hs := (fun δ w_ => run_catB (D ++ [101]) (Lib.itoa (p - 1)) (by first | omega | simp only [List.length_append, List.length_take, List.length_drop, List.length_cons, List.length_nil]; omega) rfl rfl))
  refine os 1 ?_
  refine kp [2, 80, 72, 58, 43, 29, 5, 4, 3, 19, 12, 9, 6, 0] ?_
  refine nt ?_
  refine SW_ret ?_
  refine body_end (.string (bS ((D ++ [101]) ++ (Lib.itoa (p - 1))))) (fun _ => rfl) ?_
  rw [show printP0 a = formP D p from by rw [hD_, hp_]; unfold printP0; rw [if_neg (by omega), if_neg (by omega), if_neg (by omega)]]
  rw [form_e (by omega) (by omega) (by omega) (by omega), expo_f (by omega)]
  exact ⟨(), ow, rfl, by simp only [List.length_append, List.length_take, List.length_drop, List.length_cons, List.length_nil]; omega⟩
 replace hg24 : ¬ (p > 0) := hg24
 refine os 4 ?_
 refine kp [43, 29, 5, 4, 3, 19, 12, 9, 6, 2, 0] ?_
 refine nt ?_
 refine cf ?_
 refine sr ?_
 refine os 3 ?_
 refine tbp 61 (fun hg34 => ?_) (fun hg34 => ?_)
 ·replace hg34 : p > (-6) := hg34
  refine os 4 ?_
  refine kp [58, 43, 29, 5, 4, 3, 19, 12, 9, 6, 2, 0] ?_
  refine nt ?_
  refine cdp (fun hc35 : p ≤ 0 => ?_) (fun hc35 => ?_)
  ·refine sr ?_
   refine os 1 ?_
   refine oX (.int .i64 (IntKind.wrap .i64 (0 - p))) (.int .i64 (-p)) (congrArg (Value.int .i64) ((IntWalk.i64_in _ (by omega)).trans (Int.zero_sub _))) ?_
   have hrl_ : (Lib.repeatL [48] (-p).toNat).length ≤ 2000 := by rw [Lib.repeatL_length, show ([48] : List UInt8).length = 1 from rfl]; omega
   refine L (cl (str_RepeatZ [48] (c := -p) (by omega) (by decide)) ?_)
   rintro _ _ rfl
   refine un ?_
   refine oV (.string (bS ([48, 46] ++ (Lib.repeatL [48] (-p).toNat)))) ?_ (hs := (fun δ w_ => run_catB [48, 46] (Lib.repeatL [48] (-p).toNat) (by first | omega | simp only [List.length_append, List.length_take, List.length_drop, List.length_cons, List.length_nil]; omega) rfl rfl))
   refine os 1 ?_
   refine oV (.string (bS (([48, 46] ++ (Lib.repeatL [48] (-p).toNat)) ++ D))) ?_ (hs := (fun δ w_ => run_catB ([48, 46] ++ (Lib.repeatL [48] (-p).toNat)) D (by first | omega | simp only [List.length_append, List.length_take, List.length_drop, List.length_cons, List.length_nil]; omega) rfl rfl))
   refine os 1 ?_
   refine kp [2, 58, 43, 29, 5, 4, 3, 19, 12, 9, 6, 0] ?_
   refine nt ?_
   refine SW_ret (r_in (r_then ?_))
   refine body_end (.string (bS (([48, 46] ++ (Lib.repeatL [48] (-p).toNat)) ++ D))) (fun _ => rfl) ?_
   rw [show printP0 a = formP D p from by rw [hD_, hp_]; unfold printP0; rw [if_neg (by omega), if_neg (by omega), if_neg (by omega)]]
   rw [form_c (by omega) (by omega) (by omega)]
   exact ⟨(), ow, rfl, by simp only [List.length_append, List.length_take, List.length_drop, List.length_cons, List.length_nil]; omega⟩
  refine SW_skip (n_in (n_then ?_))
  refine SW_seq ?_
  refine sr ?_
  refine os 2 ?_
  refine nt ?_
  refine cdp (fun hc36 : (D.length : Int) > 1 => ?_) (fun hc36 => ?_)
  ·refine SW_draw [] [] (by kernel_rfl) rd_nil ?_
   refine aS 0 ?_
   refine tk 1 (.string (bS (D.take 1))) ?_ (hy := fun δ w => run_strTo (l := D) 1 .i64 Tryz.underlying9 rfl rfl (by omega) (by omega))
   refine tk 2 (.string (bS ((D.take 1) ++ [46]))) ?_ (hy := (fun δ w_ => run_catB (D.take 1) [46] (by first | omega | simp only [List.length_append, List.length_take, List.length_drop, List.length_cons, List.length_nil]; omega) rfl rfl))
   refine aS 3 ?_
   refine tk 4 (.string (bS (D.drop 1))) ?_ (hy := fun δ w => run_strFrom (l := D) 1 .i64 Tryz.underlying9 rfl rfl (by omega) (by omega))
   refine tk 5 (.string (bS (((D.take 1) ++ [46]) ++ (D.drop 1)))) ?_ (hy := (fun δ w_ => run_catB ((D.take 1) ++ [46]) (D.drop 1) (by first | omega | simp only [List.length_append, List.length_take, List.length_drop, List.length_cons, List.length_nil]; omega) rfl rfl))
   refine aS 6 ?_
   refine SA_done (by kernel_rfl) (n_then ?_)
   refine SW_seq ?_
   refine sr ?_
   refine os 2 ?_
   refine kp [80, 3, 72, 58, 43, 29, 5, 4, 19, 12, 9, 6, 2, 0] ?_
   refine nt ?_
   refine cdp (fun hc37 : p > 0 => ?_) (fun hc37 => ?_)
   ·refine sr ?_
    refine os 1 ?_
    refine oV (.string (bS ((((D.take 1) ++ [46]) ++ (D.drop 1)) ++ [101, 43]))) ?_ (hs := (fun δ w_ => run_catB (((D.take 1) ++ [46]) ++ (D.drop 1)) [101, 43] (by first | omega | simp only [List.length_append, List.length_take, List.length_drop, List.length_cons, List.length_nil]; omega) rfl rfl))
    refine os 2 ?_
    have hil_ := Lib.itoa_length_le (p - 1) (by omega) (by omega)
    refine L (cl (str_ItoaN hL (p - 1) (by omega)) ?_)
    rintro _ _ rfl
    refine un ?_
    refine oV (.string (bS (((((D.take 1) ++ [46]) ++ (D.drop 1)) ++ [101, 43]) ++ (Lib.itoa (p - 1))))) ?_ (hs := (fun δ w_ => run_catB ((((D.take 1) ++ [46]) ++ (D.drop 1)) ++ [101, 43]) (Lib.itoa (p - 1)) (by first | omega | simp only [List.length_append, List.length_take, List.length_drop, List.length_cons, List.length_nil]; omega) rfl rfl))
    refine os 1 ?_
    refine kp [2, 80, 3, 72, 58, 43, 29, 5, 4, 19, 12, 9, 6, 0] ?_
    refine nt ?_
    refine SW_ret (r_then ?_)
    refine body_end (.string (bS (((((D.take 1) ++ [46]) ++ (D.drop 1)) ++ [101, 43]) ++ (Lib.itoa (p - 1))))) (fun _ => rfl) ?_
    rw [show printP0 a = formP D p from by rw [hD_, hp_]; unfold printP0; rw [if_neg (by omega), if_neg (by omega), if_neg (by omega)]]
    rw [form_d (by omega) (by omega) (by omega) (by omega), expo_t (by omega)]
    exact ⟨(), ow, rfl, by simp only [List.length_append, List.length_take, List.length_drop, List.length_cons, List.length_nil]; omega⟩
   refine SW_skip (n_then ?_)
   refine sr ?_
   refine os 1 ?_
   refine oV (.string (bS ((((D.take 1) ++ [46]) ++ (D.drop 1)) ++ [101]))) ?_ (hs := (fun δ w_ => run_catB (((D.take 1) ++ [46]) ++ (D.drop 1)) [101] (by first | omega | simp only [List.length_append, List.length_take, List.length_drop, List.length_cons, List.length_nil]; omega) rfl rfl))
   refine os 2 ?_
   have hil_ := Lib.itoa_length_le (p - 1) (by omega) (by omega)
   refine L (cl (str_ItoaN hL (p - 1) (by omega)) ?_)
   rintro _ _ rfl
   refine un ?_
   refine oV (.string (bS (((((D.take 1) ++ [46]) ++ (D.drop 1)) ++ [101]) ++ (Lib.itoa (p - 1))))) ?_ (hs := (fun δ w_ => run_catB ((((D.take 1) ++ [46]) ++ (D.drop 1)) ++ [101]) (Lib.itoa (p - 1)) (by first | omega | simp only [List.length_append, List.length_take, List.length_drop, List.length_cons, List.length_nil]; omega) rfl rfl))
   refine os 1 ?_
   refine kp [2, 80, 3, 72, 58, 43, 29, 5, 4, 19, 12, 9, 6, 0] ?_
   refine nt ?_
   refine SW_ret ?_
   refine body_end (.string (bS (((((D.take 1) ++ [46]) ++ (D.drop 1)) ++ [101]) ++ (Lib.itoa (p - 1))))) (fun _ => rfl) ?_
   rw [show printP0 a = formP D p from by rw [hD_, hp_]; unfold printP0; rw [if_neg (by omega), if_neg (by omega), if_neg (by omega)]]
   rw [form_e (by omega) (by omega) (by omega) (by omega), expo_t (by omega)]
   exact ⟨(), ow, rfl, by simp only [List.length_append, List.length_take, List.length_drop, List.length_cons, List.length_nil]; omega⟩
  refine SW_skip (n_then ?_)
  refine SW_seq ?_
  refine sr ?_
  refine os 2 ?_
  refine nt ?_
  refine cdp (fun hc38 : p > 0 => ?_) (fun hc38 => ?_)
  ·refine sr ?_
   refine os 1 ?_
   refine oV (.string (bS (D ++ [101, 43]))) ?_ (hs := (fun δ w_ => run_catB D [101, 43] (by first | omega | simp only [List.length_append, List.length_take, List.length_drop, List.length_cons, List.length_nil]; omega) rfl rfl))
   refine os 2 ?_
   have hil_ := Lib.itoa_length_le (p - 1) (by omega) (by omega)
   refine L (cl (str_ItoaN hL (p - 1) (by omega)) ?_)
   rintro _ _ rfl
   refine un ?_
   refine oV (.string (bS ((D ++ [101, 43]) ++ (Lib.itoa (p - 1))))) ?_ (hs := (fun δ w_ => run_catB (D ++ [101, 43]) (Lib.itoa (p - 1)) (by first | omega | simp only [List.length_append, List.length_take, List.length_drop, List.length_cons, List.length_nil]; omega) rfl rfl))
   refine os 1 ?_
   refine kp [2, 80, 72, 58, 43, 29, 5, 4, 3, 19, 12, 9, 6, 0] ?_
   refine nt ?_
   refine SW_ret (r_then ?_)
   refine body_end (.string (bS ((D ++ [101, 43]) ++ (Lib.itoa (p - 1))))) (fun _ => rfl) ?_
   rw [show printP0 a = formP D p from by rw [hD_, hp_]; unfold printP0; rw [if_neg (by omega), if_neg (by omega), if_neg (by omega)]]
   rw [form_d (by omega) (by omega) (by omega) (by omega), expo_f (by omega)]
   exact ⟨(), ow, rfl, by simp only [List.length_append, List.length_take, List.length_drop, List.length_cons, List.length_nil]; omega⟩
  refine SW_skip (n_then ?_)
  refine sr ?_
  refine os 1 ?_
  refine oV (.string (bS (D ++ [101]))) ?_ (hs := (fun δ w_ => run_catB D [101] (by first | omega | simp only [List.length_append, List.length_take, List.length_drop, List.length_cons, List.length_nil]; omega) rfl rfl))
  refine os 2 ?_
  have hil_ := Lib.itoa_length_le (p - 1) (by omega) (by omega)
  refine L (cl (str_ItoaN hL (p - 1) (by omega)) ?_)
  rintro _ _ rfl
  refine un ?_
  refine oV (.string (bS ((D ++ [101]) ++ (Lib.itoa (p - 1))))) ?_ (hs := (fun δ w_ => run_catB (D ++ [101]) (Lib.itoa (p - 1)) (by first | omega | simp only [List.length_append, List.length_take, List.length_drop, List.length_cons, List.length_nil]; omega) rfl rfl))
  refine os 1 ?_
  refine kp [2, 80, 72, 58, 43, 29, 5, 4, 3, 19, 12, 9, 6, 0] ?_
  refine nt ?_
  refine SW_ret ?_
  refine body_end (.string (bS ((D ++ [101]) ++ (Lib.itoa (p - 1))))) (fun _ => rfl) ?_
  rw [show printP0 a = formP D p from by rw [hD_, hp_]; unfold printP0; rw [if_neg (by omega), if_neg (by omega), if_neg (by omega)]]
  rw [form_e (by omega) (by omega) (by omega) (by omega), expo_f (by omega)]
  exact ⟨(), ow, rfl, by simp only [List.length_append, List.length_take, List.length_drop, List.length_cons, List.length_nil]; omega⟩
 replace hg34 : ¬ (p > (-6)) := hg34
 refine os 4 ?_
 refine kp [58, 43, 29, 5, 4, 3, 19, 12, 9, 6, 2, 0] ?_
 refine nt ?_
 refine cf ?_
 refine SW_skip (n_in (n_then ?_))
 refine SW_seq ?_
 refine sr ?_
 refine os 2 ?_
 refine nt ?_
 refine cdp (fun hc39 : (D.length : Int) > 1 => ?_) (fun hc39 => ?_)
 ·refine SW_draw [] [] (by kernel_rfl) rd_nil ?_
  refine aS 0 ?_
  refine tk 1 (.string (bS (D.take 1))) ?_ (hy := fun δ w => run_strTo (l := D) 1 .i64 Tryz.underlying9 rfl rfl (by omega) (by omega))
  refine tk 2 (.string (bS ((D.take 1) ++ [46]))) ?_ (hy := (fun δ w_ => run_catB (D.take 1) [46] (by first | omega | simp only [List.length_append, List.length_take, List.length_drop, List.length_cons, List.length_nil]; omega) rfl rfl))
  refine aS 3 ?_
  refine tk 4 (.string (bS (D.drop 1))) ?_ (hy := fun δ w => run_strFrom (l := D) 1 .i64 Tryz.underlying9 rfl rfl (by omega) (by omega))
  refine tk 5 (.string (bS (((D.take 1) ++ [46]) ++ (D.drop 1)))) ?_ (hy := (fun δ w_ => run_catB ((D.take 1) ++ [46]) (D.drop 1) (by first | omega | simp only [List.length_append, List.length_take, List.length_drop, List.length_cons, List.length_nil]; omega) rfl rfl))
  refine aS 6 ?_
  refine SA_done (by kernel_rfl) (n_then ?_)
  refine SW_seq ?_
  refine sr ?_
  refine os 2 ?_
  refine kp [80, 3, 72, 58, 43, 29, 5, 4, 19, 12, 9, 6, 2, 0] ?_
  refine nt ?_
  refine cdp (fun hc40 : p > 0 => ?_) (fun hc40 => ?_)
  ·refine sr ?_
   refine os 1 ?_
   refine oV (.string (bS ((((D.take 1) ++ [46]) ++ (D.drop 1)) ++ [101, 43]))) ?_ (hs := (fun δ w_ => run_catB (((D.take 1) ++ [46]) ++ (D.drop 1)) [101, 43] (by first | omega | simp only [List.length_append, List.length_take, List.length_drop, List.length_cons, List.length_nil]; omega) rfl rfl))
   refine os 2 ?_
   have hil_ := Lib.itoa_length_le (p - 1) (by omega) (by omega)
   refine L (cl (str_ItoaN hL (p - 1) (by omega)) ?_)
   rintro _ _ rfl
   refine un ?_
   refine oV (.string (bS (((((D.take 1) ++ [46]) ++ (D.drop 1)) ++ [101, 43]) ++ (Lib.itoa (p - 1))))) ?_ (hs := (fun δ w_ => run_catB ((((D.take 1) ++ [46]) ++ (D.drop 1)) ++ [101, 43]) (Lib.itoa (p - 1)) (by first | omega | simp only [List.length_append, List.length_take, List.length_drop, List.length_cons, List.length_nil]; omega) rfl rfl))
   refine os 1 ?_
   refine kp [2, 80, 3, 72, 58, 43, 29, 5, 4, 19, 12, 9, 6, 0] ?_
   refine nt ?_
   refine SW_ret (r_then ?_)
   refine body_end (.string (bS (((((D.take 1) ++ [46]) ++ (D.drop 1)) ++ [101, 43]) ++ (Lib.itoa (p - 1))))) (fun _ => rfl) ?_
   rw [show printP0 a = formP D p from by rw [hD_, hp_]; unfold printP0; rw [if_neg (by omega), if_neg (by omega), if_neg (by omega)]]
   rw [form_d (by omega) (by omega) (by omega) (by omega), expo_t (by omega)]
   exact ⟨(), ow, rfl, by simp only [List.length_append, List.length_take, List.length_drop, List.length_cons, List.length_nil]; omega⟩
  refine SW_skip (n_then ?_)
  refine sr ?_
  refine os 1 ?_
  refine oV (.string (bS ((((D.take 1) ++ [46]) ++ (D.drop 1)) ++ [101]))) ?_ (hs := (fun δ w_ => run_catB (((D.take 1) ++ [46]) ++ (D.drop 1)) [101] (by first | omega | simp only [List.length_append, List.length_take, List.length_drop, List.length_cons, List.length_nil]; omega) rfl rfl))
  refine os 2 ?_
  have hil_ := Lib.itoa_length_le (p - 1) (by omega) (by omega)
  refine L (cl (str_ItoaN hL (p - 1) (by omega)) ?_)
  rintro _ _ rfl
  refine un ?_
  refine oV (.string (bS (((((D.take 1) ++ [46]) ++ (D.drop 1)) ++ [101]) ++ (Lib.itoa (p - 1))))) ?_ (hs := (fun δ w_ => run_catB ((((D.take 1) ++ [46]) ++ (D.drop 1)) ++ [101]) (Lib.itoa (p - 1)) (by first | omega | simp only [List.length_append, List.length_take, List.length_drop, List.length_cons, List.length_nil]; omega) rfl rfl))
  refine os 1 ?_
  refine kp [2, 80, 3, 72, 58, 43, 29, 5, 4, 19, 12, 9, 6, 0] ?_
  refine nt ?_
  refine SW_ret ?_
  refine body_end (.string (bS (((((D.take 1) ++ [46]) ++ (D.drop 1)) ++ [101]) ++ (Lib.itoa (p - 1))))) (fun _ => rfl) ?_
  rw [show printP0 a = formP D p from by rw [hD_, hp_]; unfold printP0; rw [if_neg (by omega), if_neg (by omega), if_neg (by omega)]]
  rw [form_e (by omega) (by omega) (by omega) (by omega), expo_t (by omega)]
  exact ⟨(), ow, rfl, by simp only [List.length_append, List.length_take, List.length_drop, List.length_cons, List.length_nil]; omega⟩
 refine SW_skip (n_then ?_)
 refine SW_seq ?_
 refine sr ?_
 refine os 2 ?_
 refine nt ?_
 refine cdp (fun hc41 : p > 0 => ?_) (fun hc41 => ?_)
 ·refine sr ?_
  refine os 1 ?_
  refine oV (.string (bS (D ++ [101, 43]))) ?_ (hs := (fun δ w_ => run_catB D [101, 43] (by first | omega | simp only [List.length_append, List.length_take, List.length_drop, List.length_cons, List.length_nil]; omega) rfl rfl))
  refine os 2 ?_
  have hil_ := Lib.itoa_length_le (p - 1) (by omega) (by omega)
  refine L (cl (str_ItoaN hL (p - 1) (by omega)) ?_)
  rintro _ _ rfl
  refine un ?_
  refine oV (.string (bS ((D ++ [101, 43]) ++ (Lib.itoa (p - 1))))) ?_ (hs := (fun δ w_ => run_catB (D ++ [101, 43]) (Lib.itoa (p - 1)) (by first | omega | simp only [List.length_append, List.length_take, List.length_drop, List.length_cons, List.length_nil]; omega) rfl rfl))
  refine os 1 ?_
  refine kp [2, 80, 72, 58, 43, 29, 5, 4, 3, 19, 12, 9, 6, 0] ?_
  refine nt ?_
  refine SW_ret (r_then ?_)
  refine body_end (.string (bS ((D ++ [101, 43]) ++ (Lib.itoa (p - 1))))) (fun _ => rfl) ?_
  rw [show printP0 a = formP D p from by rw [hD_, hp_]; unfold printP0; rw [if_neg (by omega), if_neg (by omega), if_neg (by omega)]]
  rw [form_d (by omega) (by omega) (by omega) (by omega), expo_f (by omega)]
  exact ⟨(), ow, rfl, by simp only [List.length_append, List.length_take, List.length_drop, List.length_cons, List.length_nil]; omega⟩
 refine SW_skip (n_then ?_)
 refine sr ?_
 refine os 1 ?_
 refine oV (.string (bS (D ++ [101]))) ?_ (hs := (fun δ w_ => run_catB D [101] (by first | omega | simp only [List.length_append, List.length_take, List.length_drop, List.length_cons, List.length_nil]; omega) rfl rfl))
 refine os 2 ?_
 have hil_ := Lib.itoa_length_le (p - 1) (by omega) (by omega)
 refine L (cl (str_ItoaN hL (p - 1) (by omega)) ?_)
 rintro _ _ rfl
 refine un ?_
 refine oV (.string (bS ((D ++ [101]) ++ (Lib.itoa (p - 1))))) ?_ (hs := (fun δ w_ => run_catB (D ++ [101]) (Lib.itoa (p - 1)) (by first | omega | simp only [List.length_append, List.length_take, List.length_drop, List.length_cons, List.length_nil]; omega) rfl rfl))
 refine os 1 ?_
 refine kp [2, 80, 72, 58, 43, 29, 5, 4, 3, 19, 12, 9, 6, 0] ?_
 refine nt ?_
 refine SW_ret ?_
 refine body_end (.string (bS ((D ++ [101]) ++ (Lib.itoa (p - 1))))) (fun _ => rfl) ?_
 rw [show printP0 a = formP D p from by rw [hD_, hp_]; unfold printP0; rw [if_neg (by omega), if_neg (by omega), if_neg (by omega)]]
 rw [form_e (by omega) (by omega) (by omega) (by omega), expo_f (by omega)]
 exact ⟨(), ow, rfl, by simp only [List.length_append, List.length_take, List.length_drop, List.length_cons, List.length_nil]; omega⟩

theorem pr_neg {W0 : World} {a : Nat} {R} (h : 9223372036854775808 ≤ a) (hc : SC Tryz.prog W0 14 #[.int .u64 ((a - 9223372036854775808 : Nat) : Int)] [] R) : SC Tryz.prog W0 14 #[.int .u64 ((a : Int) - 9223372036854775808)] [] R := by rw [show ((a : Int) - 9223372036854775808) = ((a - 9223372036854775808 : Nat) : Int) from by omega]; exact hc

theorem num_Print1 {W0 : World} (hL : LaidN W0) {a : Nat} (h0 : 9223372036854775808 ≤ a) (ha : a < 18446744073709551616) : SC Tryz.prog W0 14 #[.int .u64 (a : Int)] [] (Ret (fun _ : Unit => []) (fun v _ => v = .string (bS (printP a)) ∧ (printP a).length ≤ 6000)) := by
 refine SC_body (fn := Tryz.f14) (n := 93) Tryz.func14 rfl (by kernel_rfl) (ρ := [(0, .int .u64 (a : Int))]) rfl ?_
 have hka_ := kind_all a
 refine sr ?_
 refine os 1 ?_
 refine nq ?_
 refine SW_block ?_
 refine sr ?_
 refine os 1 ?_
 have his_ := num_IsNaN (W0 := W0) (a := a) (by omega)
 refine L (cl (his_) ?_)
 rintro v1 _ hv1
 obtain rfl : v1 = .bool (kindP a == 3) := hv1.trans (rfl)
 refine un ?_
 refine os 1 ?_
 refine nt ?_
 refine cd (fun hc1 : (kindP a == 3) = true => ?_) (fun hc1 => ?_)
 ·simp only [beq_iff_eq, bne_iff_ne, ne_eq, beq_eq_false_iff_ne, bne_eq_false_iff_eq, Classical.not_not] at hc1
  refine sr ?_
  refine os 1 ?_
  refine nt ?_
  refine SW_ret (r_in (r_then ?_))
  refine body_end (.string (bS [78, 97, 78])) (fun _ => rfl) ?_
  rw [show printP a = [78, 97, 78] from (by unfold printP; rw [if_pos (by omega)])]
  exact ⟨(), ow, rfl, by simp only [List.length_append, List.length_cons, List.length_nil]; omega⟩
 simp only [beq_iff_eq, bne_iff_ne, ne_eq, beq_eq_false_iff_ne, bne_eq_false_iff_eq, Classical.not_not] at hc1
 refine sr ?_
 refine os 1 ?_
 have his_ := num_Equal0 (W0 := W0) (a := a) (by omega)
 refine L (cl (his_) ?_)
 rintro v2 _ hv2
 obtain rfl : v2 = .bool (kindP a == 0) := hv2.trans (rfl)
 refine un ?_
 refine os 1 ?_
 refine kp [9, 6, 2, 0] ?_
 refine nt ?_
 refine cd (fun hc2 : (kindP a == 0) = true => ?_) (fun hc2 => ?_)
 ·simp only [beq_iff_eq, bne_iff_ne, ne_eq, beq_eq_false_iff_ne, bne_eq_false_iff_eq, Classical.not_not] at hc2
  refine sr ?_
  refine os 1 ?_
  refine nt ?_
  refine SW_ret (r_in (r_then ?_))
  refine body_end (.string (bS [48])) (fun _ => rfl) ?_
  rw [show printP a = [48] from (by unfold printP; rw [if_neg (by omega), if_pos (by omega)])]
  exact ⟨(), ow, rfl, by simp only [List.length_append, List.length_cons, List.length_nil]; omega⟩
 simp only [beq_iff_eq, bne_iff_ne, ne_eq, beq_eq_false_iff_ne, bne_eq_false_iff_eq, Classical.not_not] at hc2
 refine sr ?_
 refine os 3 ?_
 refine nt ?_
 refine SW_true (fun _ => (congrArg Value.bool (show (decide ((a : Int) ≥ 9223372036854775808)) = true from (decide_eq_true (by omega))))) ?_
 refine sr ?_
 refine os 2 ?_
 refine L (cl (pr_neg h0 (num_Print0 hL (a := a - 9223372036854775808) (by omega))) ?_)
 rintro _ _ ⟨rfl, hpl_⟩
 refine un ?_
 refine oV (.string (bS ([45] ++ (printP0 (a - 9223372036854775808))))) ?_ (hs := (fun δ w_ => run_catB [45] (printP0 (a - 9223372036854775808)) (by simp only [List.length_cons, List.length_nil]; omega) rfl rfl))
 refine os 1 ?_
 refine kp [2, 12, 9, 6, 0] ?_
 refine nt ?_
 refine SW_ret (r_in (r_then ?_))
 refine body_end (.string (bS ([45] ++ (printP0 (a - 9223372036854775808))))) (fun _ => rfl) ?_
 rw [show printP a = ([45] ++ (printP0 (a - 9223372036854775808))) from (by unfold printP; rw [if_neg (by omega), if_neg (by omega), if_pos (by omega)])]
 exact ⟨(), ow, rfl, by simp only [List.length_append, List.length_cons, List.length_nil]; omega⟩

theorem num_Print {W0 : World} (hL : LaidN W0) {a : Nat} (ha : a < 18446744073709551616) : SC Tryz.prog W0 14 #[.int .u64 (a : Int)] [] (Ret (fun _ : Unit => []) (fun v _ => v = .string (bS (printP a)) ∧ (printP a).length ≤ 6000)) := by
 rcases Nat.lt_or_ge a 9223372036854775808 with h | h
 · refine SC.mono (num_Print0 hL h) ?_
   rintro v _ ⟨x, hw, hv, hl⟩
   rw [← printP_small h] at hv hl
   exact ⟨x, hw, hv, by omega⟩
 · exact num_Print1 hL h ha

end Go.Proofs.YtnhmmjogfkjceaaGreatDoor
namespace Go.Proofs.YtnhmmjogfkjceaaGreatDoor
open Go.Sl

theorem law_alive2 {W0 : World} (hL : LaidN W0) : SC Tryz.prog W0 16 #[] [] (Ret (fun _ : Unit => []) (fun v _ => v = .bool true)) := by
 refine SC_body (fn := Tryz.f16) (n := 20) Tryz.func16 rfl (by kernel_rfl) (ρ := []) rfl ?_
 refine sr ?_
 refine os 1 ?_
 refine nsr ?_
 have hli_ := num_Literal (W0 := W0) (X := [48, 120, 49, 48]) (by decide)
 rw [alive_lit] at hli_
 refine L (cl (hli_) ?_)
 rintro v1 _ hv1
 obtain rfl : v1 = .tuple #[.int .u64 4625196817309499392, .bool true] := hv1.trans (rfl)
 refine un ?_
 refine os 5 ?_
 refine kp [2, 1, 0] ?_
 refine nsr ?_
 have hpi_ := num_Print (W0 := W0) hL (a := 4599075939470750516) (by decide)
 rw [alive_print] at hpi_
 refine L (cl (hpi_) ?_)
 rintro v2 _ ⟨hv2, hpl_⟩
 obtain rfl : v2 = .string (bS [48, 46, 51, 48, 48, 48, 48, 48, 48, 48, 48, 48, 48, 48, 48, 48, 48, 48, 52]) := hv2.trans (rfl)
 refine un ?_
 refine oV (.bool true) ?_ (hs := (fun δ w_ => by kernel_rfl))
 refine os 1 ?_
 have hre_ := num_Read (W0 := W0) (X := [32, 49, 46, 53, 10]) (by decide)
 rw [alive_read] at hre_
 refine L (cl (hre_) ?_)
 rintro v3 _ hv3
 obtain rfl : v3 = .int .u64 4609434218613702656 := hv3.trans (rfl)
 refine un ?_
 refine oV (.bool true) ?_
 refine os 6 ?_
 refine oV (.bool true) ?_
 refine os 2 ?_
 refine kp [0, 2, 1] ?_
 refine nt ?_
 refine SW_ret ?_
 refine body_end (.bool true) (fun _ => rfl) ?_
 exact ⟨(), ow, congrArg Value.bool (by decide)⟩

end Go.Proofs.YtnhmmjogfkjceaaGreatDoor
namespace Go.Proofs.YtnhmmjogfkjceaaGreatDoor
open Go Go.Sl
section
variable {P : Program} {ρ : Fr} {δ : Nat → Value} {w : World} {dst : Option Tmp} {t t2 ty : TypeId} {x y : Operand} {pos : String} {after : Array Edge} {gd : Option (Nat × Bool)} {a b : Nat} {r : Bool}
theorem run_fne (h : (Ieee.double.order a b != some .eq) = r) (hx : ev δ ρ x = .float .f64 a) (hy : ev δ ρ y = .float .f64 b) : (execOp (ev δ ρ) ⟨dst, .binOp .neq t x y t2, ty, pos, after, gd⟩).run P w = .ok (.value (.bool r)) w := by
 simp only [execOp, hx, hy, Sem.run_bind]
 rw [← h]
 rfl
end
end Go.Proofs.YtnhmmjogfkjceaaGreatDoor
namespace Go.Proofs.YtnhmmjogfkjceaaGreatDoor
open Go.Sl

def ofP (a : Nat) : Nat := if mag a > 9218868437227405312 then 9221120237041090560 else a
theorem r1_Of {W0 : World} {a : Nat} (ha : a < 18446744073709551616) : SC Tryz.prog W0 13 #[.float .f64 a] [] (Ret (fun _ : Unit => []) (fun v _ => v = .int .u64 (ofP a : Int))) := by
 refine SC_body (fn := Tryz.f13) (n := 8) Tryz.func13 rfl (by kernel_rfl) (ρ := [(0, .float .f64 a)]) rfl ?_
 refine sr ?_
 refine os 1 ?_
 refine nq ?_
 refine sr ?_
 refine os 2 ?_
 refine oV (.bool (decide (mag a > 9218868437227405312))) ?_ (hs := (fun δ w_ => run_fne (f_nan ha) rfl rfl))
 refine nt ?_
 refine cdp (fun hc1 : mag a > 9218868437227405312 => ?_) (fun hc1 => ?_)
 ·refine sr ?_
  refine os 1 ?_
  refine nt ?_
  refine SW_ret (r_then ?_)
  refine body_end (.int .u64 9221120237041090560) (fun _ => rfl) ?_
  exact ⟨(), ow, by unfold ofP; rw [if_pos hc1]; rfl⟩
 refine SW_skip (n_then ?_)
 refine sr ?_
 refine os 1 ?_
 refine oV (.int .u64 (a : Int)) ?_
 refine os 1 ?_
 refine kp [2, 5, 0] ?_
 refine nt ?_
 refine SW_ret ?_
 refine body_end (.int .u64 (a : Int)) (fun _ => rfl) ?_
 exact ⟨(), ow, by unfold ofP; rw [if_neg hc1]⟩

theorem wf_i64 {n : Int} (h : (Lit.int .i64 n).wf = true) : -9223372036854775808 ≤ n ∧ n ≤ 9223372036854775807 := by
 simp [Lit.wf, IntKind.min, IntKind.max, IntKind.bits, IntKind.signed] at h
 omega
end Go.Proofs.YtnhmmjogfkjceaaGreatDoor
namespace Go.Proofs.YtnhmmjogfkjceaaGreatDoor
open Go.Sl Go.RowKit «Sort»
structure LaidT (W0 : World) : Prop where
  num : LaidN W0
  tz : ∀ w, Below W0.heap.size W0 w → TabAt 10 Lib.deBruijn64tab w
variable {W0 : World} {σ : Heaplet}
theorem str_tz16 (hT : LaidT W0) : SC Tryz.prog W0 140 #[.int .u64 16] σ (Ret (fun _ : Unit => σ) (fun v _ => v = .int .i64 4)) := by
 refine SC.of_below fun w hb => ?_
 refine (Any7.bits_TrailingZeros Tryz.lays7n27 16 (by decide) w (fun _ => hT.tz w hb)).mono ?_
 rintro e w' ⟨rfl, rfl⟩
 exact ⟨_, rfl, Below.refl _ _, by rw [show Lib.ctz 64 16 = 4 by decide +kernel]; rfl⟩
def pad65 (Y : Bytes) : List Value := List.replicate (65 - Y.length) (.int .u8 0) ++ Y.map fun c => Value.int .u8 (c.toNat : Int)
theorem pad_len {Y : Bytes} (h : Y.length ≤ 65) : (pad65 Y).length = 65 := by
 unfold pad65
 rw [List.length_append, List.length_replicate, List.length_map]
 omega
theorem pad_lay {Y : Bytes} {i : Nat} (c : UInt8) (h : Y.length + 1 + i = 65) : lay (pad65 Y) i [.int .u8 (c.toNat : Int)] = pad65 (c :: Y) := by
 unfold lay pad65
 have e1 : 65 - Y.length = i + 1 := by omega
 have e2 : 65 - (c :: Y).length = i := by rw [List.length_cons]; omega
 rw [e1, e2, List.replicate_succ', List.length_singleton]
 have hA : (List.replicate i (Value.int .u8 0)).length = i := List.length_replicate
 generalize List.replicate i (Value.int .u8 0) = A at *
 have t1 : (A ++ [Value.int .u8 0] ++ Y.map fun c => Value.int .u8 (c.toNat : Int)).take i = A := by rw [List.append_assoc, List.take_left' hA]
 have t2 : (A ++ [Value.int .u8 0] ++ Y.map fun c => Value.int .u8 (c.toNat : Int)).drop (i + 1) = Y.map fun c => Value.int .u8 (c.toNat : Int) := List.drop_left' (by rw [List.length_append, hA]; rfl)
 rw [t1, t2, List.append_assoc]
 rfl
theorem pad_drop {Y : Bytes} {i : Nat} (h : Y.length + i = 65) : (pad65 Y).drop i = Y.map fun c => Value.int .u8 (c.toNat : Int) := by
 unfold pad65
 rw [show 65 - Y.length = i by omega, List.drop_left' (by simp)]
theorem cells65 {b i : Nat} {Y : Bytes} (h : (b, Blk.cells 145 65 (pad65 Y)) ∈ σ) (hi : Y.length + i = 65) : Cells W0 σ b i ((Y.map fun c => (c.toNat : Int)).map (Value.int .u8)) := by
 refine Cells.own h ?_
 rw [pad_drop hi, List.map_map, List.length_map, List.take_of_length_le (by simp)]
 rfl
theorem run_at65 {w : World} {δ : Nat → Value} {ρ : Fr} (b : Nat) (i : Int) (n : Nat) (h0 : 0 ≤ i) (h1 : i < 65) (hn : i.toNat = n) {dst : Option Tmp} {ty : TypeId} {x ix : Operand} {pos : String} {after : Array Edge} {gd : Option (Nat × Bool)}
   (hx : ev δ ρ x = .pointer (some ⟨b, 0, none⟩)) (hi : ev δ ρ ix = .int .i64 i) :
   (execOp (ev δ ρ) ⟨dst, .indexAddr 145 x ix, ty, pos, after, gd⟩).run Tryz.prog w = .ok (.value (.pointer (some ⟨b, n, none⟩))) w := by
 have ha : Tryz.prog.arrayLen 145 = 65 := by kernel_rfl
 have hz : (sizeOf (Tryz.prog.elem 145)).run Tryz.prog w = .ok 1 w := by kernel_rfl
 simp only [execOp, hx, hi, Sem.run_bind]
 rw [run_indexAt_array w 145 ⟨b, 0, none⟩ .i64 i (by rw [ha]; exact Tryz.underlying145), hz, ha, if_pos ⟨h0, by omega⟩]
 simp [Addr.add, hn]
 omega
theorem run_from65 {w : World} {δ : Nat → Value} {ρ : Fr} (b : Nat) (i : Int) (n l : Nat) (h0 : 0 ≤ i) (h1 : i < 65) (hn : i.toNat = n) (hnl : 65 - n = l) {dst : Option Tmp} {ty : TypeId} {x lx : Operand} {pos : String} {after : Array Edge} {gd : Option (Nat × Bool)}
   (hx : ev δ ρ x = .pointer (some ⟨b, 0, none⟩)) (hl : ev δ ρ lx = .int .i64 i) :
   (execOp (ev δ ρ) ⟨dst, .slice 145 x (some lx) none none, ty, pos, after, gd⟩).run Tryz.prog w = .ok (.value (.slice (some ⟨b, n, none⟩) l l)) w := by
 subst hnl
 have ha : Tryz.prog.arrayLen 145 = 65 := by kernel_rfl
 have hz : (sizeOf (Tryz.prog.elem 145)).run Tryz.prog w = .ok 1 w := by kernel_rfl
 simp only [execOp, hx, hl, Sem.run_bind, Option.map_some, Option.map_none]
 rw [run_sliceAt_array_l w 145 ⟨b, 0, none⟩ (by rw [ha]; exact Tryz.underlying145) .i64 i (by omega) (by rw [ha]; omega), hz, ha]
 simp [slicedAt, Addr.add, hn]
 rw [if_neg (by omega)]
 split
 · next q => rw [q]
 · rfl
theorem nibs36 (d : Fin 16) : ([48, 49, 50, 51, 52, 53, 54, 55, 56, 57, 97, 98, 99, 100, 101, 102, 103, 104, 105, 106, 107, 108, 109, 110, 111, 112, 113, 114, 115, 116, 117, 118, 119, 120, 121, 122] : Bytes)[d.val]? = some (nibC d.val) := by
 revert d; decide +kernel
theorem and15 (m : Nat) (h : m < 18446744073709551616) : IntKind.wrap .u64 ((BitVec.ofInt 64 (m : Int) &&& BitVec.ofInt 64 15).toNat) = ((m % 16 : Nat) : Int) := by
 have h1 : (BitVec.ofInt 64 (m : Int)).toNat = m := by rw [BitVec.ofInt_natCast, BitVec.toNat_ofNat]; exact Nat.mod_eq_of_lt (by omega)
 have h2 : (BitVec.ofInt 64 15).toNat = 2 ^ 4 - 1 := by decide
 rw [BitVec.toNat_and, h1, h2, Nat.and_two_pow_sub_one_eq_mod]
 simp [IntKind.wrap, IntKind.bits, IntKind.signed]
 omega
theorem hexU_low {n : Nat} (h : n < 16) : hexU n = [nibC n] := by rw [hexU, dif_pos h]
theorem hexU_up {n : Nat} (h : ¬ n < 16) : hexU n = hexU (n / 16) ++ [nibC (n % 16)] := by rw [hexU, dif_neg h]
theorem hexU_len : ∀ (k n : Nat), n < 16 ^ (k + 1) → (hexU n).length ≤ k + 1
 | 0, n, h => by rw [hexU_low (by simpa using h)]; exact Nat.le_refl _
 | k + 1, n, h => by
   by_cases h1 : n < 16
   · rw [hexU_low h1, List.length_singleton]; omega
   · rw [hexU_up h1, len_snoc]
     have := hexU_len k (n / 16) (by rw [Nat.pow_succ] at h; omega)
     omega
theorem hexU_16 {n : Nat} (h : n < 18446744073709551616) : (hexU n).length ≤ 16 := hexU_len 15 n h
def uP (n : Int) : Nat := (n % 18446744073709551616).toNat
theorem uP_lt (n : Int) : uP n < 18446744073709551616 := by unfold uP; omega
theorem uP_eq (n : Int) : IntKind.wrap .u64 n = (uP n : Int) := by
 rw [IntKind.wrap_u64]
 unfold uP
 omega
theorem of_fl (z : Int) : ofP (flP z) = flP z := by unfold ofP; rw [if_neg (by have := (fl_in (z := z)).2; omega)]
theorem of_ld (u : Nat) : ofP (ldP u 0) = ldP u 0 := by
 have h := (whole_rn (m := u) rfl).1
 unfold ofP mag
 rw [if_neg (by omega)]
theorem str_FormatInt (hL : LaidN W0) (n : Int) (h : -9223372036854775808 ≤ n ∧ n ≤ 9223372036854775807) : SC Tryz.prog W0 18 #[.int .i64 n, .int .i64 10] σ (Ret (fun _ : Unit => σ) (fun v _ => v = .string (bS (Lib.itoa n)))) := by
 refine SC.of_below fun w hb => ?_
 refine (Any.strconv_FormatInt_10 Tryz.laysM173 n h.1 h.2 w (hL.tab w hb)).mono ?_
 rintro e w' ⟨rfl, k, os, rfl⟩
 exact ⟨_, rfl, Lib.below_grow _ w (Nat.le_refl _) k os, rfl⟩
end Go.Proofs.YtnhmmjogfkjceaaGreatDoor
namespace Go.Proofs.YtnhmmjogfkjceaaGreatDoor
open Go.Sl Go.ChangeShapes Go.WideShapes Go.ChangeAt Go.RowKit Go.Deep
theorem tab_at {P : Program} {W w : World} {name : String} {k : IntKind} {zs : List Int} {g : Nat} (hg : P.globalNamed name = some g) (hb : Below W.heap.size W w) (h : Lib.TabIs P W name k zs) {j : Nat} {z : Int} (hz : zs[j]? = some z) : w.cell? ⟨g, j, none⟩ = some (.int k z) := by
 have hv := var_below hb h
 unfold World.var? at hv
 rw [hg] at hv
 simp only [Option.bind_some] at hv
 split at hv
 · next cs' _ _ hh =>
   have e := Option.some.inj hv
   subst e
   simp [World.cell?, hh, hz]
 · cases hv
theorem bits_at : ∀ j, j < Lib.deBruijn64tab.length → (Lib.deBruijn64tab.map fun n : Nat => (n : Int))[j]? = some ((Lib.deBruijn64tab.getD j 0 : Nat) : Int) := by
 intro j hj
 rw [List.getElem?_map, List.getElem?_eq_getElem hj]
 simp [List.getD, List.getElem?_eq_getElem hj]
theorem laid_numT {W : World} (h : laidMet Tryz.prog laidNum W) (hs : W.ShapedOpen Tryz.prog) : LaidT W := by
 refine ⟨laid_num h hs, fun w hb => ?_⟩
 obtain ⟨ps, h, _⟩ := h
 obtain ⟨q1, h1⟩ := laidVars_drop (l1 := [("math/bits.deBruijn32tab", Rows.laid_math_bits_deBruijn32tab)]) (l2 := [("math/bits.deBruijn64tab", Rows.laid_math_bits_deBruijn64tab), ("internal/strconv.uint64pow10", Rows.laid_internal_strconv_uint64pow10), ("unicode/utf8.acceptRanges", Rows.laid_unicode_utf8_acceptRanges), ("unicode/utf8.first", Rows.laid_unicode_utf8_first)]) h
 have ht : Lib.TabIs Tryz.prog W "math/bits.deBruijn64tab" .u8 (Lib.deBruijn64tab.map fun n : Nat => (n : Int)) := laid_tab (g := 10) (t := 190) (by kernel_rfl) (by kernel_rfl) Tryz.underlying190 Tryz.underlying5 (by kernel_rfl) (by kernel_rfl) h1
 intro j hj
 exact tab_at (g := 10) (by kernel_rfl) hb ht (bits_at j hj)
end Go.Proofs.YtnhmmjogfkjceaaGreatDoor
namespace Go.Proofs.YtnhmmjogfkjceaaGreatDoor
open Go Go.Sl
section
variable {P : Program} {ρ : Fr} {δ : Nat → Value} {w : World} {dst : Option Tmp} {t t2 ty s d : TypeId} {x y : Operand} {pos : String} {after : Array Edge} {gd : Option (Nat × Bool)} {a b r : Nat}
theorem run_i2f {n : Nat} (hs : P.underlying s = some (.int .u64)) (hd : P.underlying d = some (.float .f64)) (hx : ev δ ρ x = .int .u64 (n : Int)) : (execOp (ev δ ρ) ⟨dst, .convert s d x, ty, pos, after, gd⟩).run P w = .ok (.value (.float .f64 (ldP n 0))) w := by
 have hc : (convert s d (.int .u64 (n : Int))).run P w = .ok (.float .f64 (ldP n 0)) w := by
   have e : FloatKind.f64.nearest (n : Int) = ldP n 0 := by
     unfold FloatKind.nearest FloatKind.encode ldP
     rw [show decide ((n : Int) < 0) = false from decide_eq_false (by omega)]
     rfl
   simp only [convert, run_underlying hs, run_underlying hd, Sem.run_bind, Result.andThen_ok]
   unfold Conv.intToFloat
   rw [e]; rfl
 simp only [execOp, hx, Sem.run_bind, hc, Result.andThen_ok, Sem.run_pure]
theorem run_i2fS {z : Int} {b : Nat} (hz : FloatKind.f64.nearest z = b) (hs : P.underlying s = some (.int .i64)) (hd : P.underlying d = some (.float .f64)) (hx : ev δ ρ x = .int .i64 z) : (execOp (ev δ ρ) ⟨dst, .convert s d x, ty, pos, after, gd⟩).run P w = .ok (.value (.float .f64 b)) w := by
 have hc : (convert s d (.int .i64 z)).run P w = .ok (.float .f64 b) w := by
   simp only [convert, run_underlying hs, run_underlying hd, Sem.run_bind, Result.andThen_ok]
   unfold Conv.intToFloat
   rw [hz]; rfl
 simp only [execOp, hx, Sem.run_bind, hc, Result.andThen_ok, Sem.run_pure]
end
end Go.Proofs.YtnhmmjogfkjceaaGreatDoor
namespace Go.Proofs.YtnhmmjogfkjceaaGreatDoor
open Go.Sl

theorem str_isTwo16 {W0 : World}  : SC Tryz.prog W0 139 #[.int .i64 16] [] (Ret (fun _ : Unit => []) (fun v _ => v = .bool true)) := by
 refine SC_body (fn := Tryz.f139) (n := 8) Tryz.func139 rfl (by kernel_rfl) (ρ := [(0, .int .i64 16)]) rfl ?_
 refine sr ?_
 refine os 1 ?_
 refine nsr ?_
 refine os 2 ?_
 refine oV (.int .i64 15) ?_
 refine oV (.int .i64 0) ?_
 refine oV (.bool true) ?_
 refine os 1 ?_
 refine kp [2, 0] ?_
 refine nt ?_
 refine SW_ret ?_
 refine body_end (.bool true) (fun _ => rfl) ?_
 exact ⟨(), ow, rfl⟩

theorem str_formatBits {W0 : World} (hT : LaidT W0) {u : Nat} (hu : u < 18446744073709551616) : SC Tryz.prog W0 104 #[.slice none 0 0, .int .u64 (u : Int), .int .i64 16, .bool false, .bool false] [] (Ret (fun _ : Unit => []) (fun v _ => v = .tuple #[.slice none 0 0, .string (bS (hexU u))])) := by
 refine SC_body (fn := Tryz.f104) (n := 102) Tryz.func104 rfl (by kernel_rfl) (ρ := [(0, .slice none 0 0), (1, .int .u64 (u : Int)), (2, .int .i64 16), (3, .bool false), (4, .bool false)]) rfl ?_
 refine sr ?_
 refine os 2 ?_
 refine nq ?_
 refine sr ?_
 refine os 1 ?_
 refine oV (.bool false) ?_
 refine os 2 ?_
 refine oV (.bool false) ?_
 refine os 3 ?_
 refine oV (.bool false) ?_
 refine os 1 ?_
 refine kp [28, 11, 10, 0, 1, 2, 3, 4] ?_
 refine nt ?_
 refine cf ?_
 refine SW_skip (n_then ?_)
 refine sr ?_
 refine L (nw 145 65 [.int .u8 0, .int .u8 0, .int .u8 0, .int .u8 0, .int .u8 0, .int .u8 0, .int .u8 0, .int .u8 0, .int .u8 0, .int .u8 0, .int .u8 0, .int .u8 0, .int .u8 0, .int .u8 0, .int .u8 0, .int .u8 0, .int .u8 0, .int .u8 0, .int .u8 0, .int .u8 0, .int .u8 0, .int .u8 0, .int .u8 0, .int .u8 0, .int .u8 0, .int .u8 0, .int .u8 0, .int .u8 0, .int .u8 0, .int .u8 0, .int .u8 0, .int .u8 0, .int .u8 0, .int .u8 0, .int .u8 0, .int .u8 0, .int .u8 0, .int .u8 0, .int .u8 0, .int .u8 0, .int .u8 0, .int .u8 0, .int .u8 0, .int .u8 0, .int .u8 0, .int .u8 0, .int .u8 0, .int .u8 0, .int .u8 0, .int .u8 0, .int .u8 0, .int .u8 0, .int .u8 0, .int .u8 0, .int .u8 0, .int .u8 0, .int .u8 0, .int .u8 0, .int .u8 0, .int .u8 0, .int .u8 0, .int .u8 0, .int .u8 0, .int .u8 0, .int .u8 0] ?_)
 intro b1
 refine nq ?_
 refine SW_sig ((b1, .cells 145 65 (pad65 [])) :: ([])) rfl ?_
 refine SW_region ?_
 refine os 1 ?_
 refine nq ?_
 refine sr ?_
 refine os 1 ?_
 refine nt ?_
 refine cf ?_
 refine SW_skip (n_then ?_)
 refine SW_seq ?_
 refine sr ?_
 refine os 1 ?_
 refine L (cl (str_isTwo16) ?_)
 rintro _ _ rfl
 refine un ?_
 refine nt ?_
 refine ct ?_
 refine sr ?_
 refine os 1 ?_
 refine oV (.int .u64 16) ?_
 refine L (cl (str_tz16 hT) ?_)
 rintro _ _ rfl
 refine un ?_
 refine oV (.int .u64 4) ?_
 refine os 1 ?_
 refine kp [14, 34, 30, 13, 12, 28, 11, 10, 0, 1, 2, 3, 4] ?_
 refine nsr ?_
 refine os 1 ?_
 refine oV (.int .u64 16) ?_
 refine os 1 ?_
 refine nsr ?_
 refine os 1 ?_
 refine oV (.int .u64 16) ?_
 refine oV (.int .u64 15) ?_
 refine os 1 ?_
 refine kp [16, 15, 14, 34, 30, 13, 12, 28, 11, 10, 0, 1, 2, 3, 4] ?_
 refine nq ?_
 refine SW_block ?_
 refine SW_loop (α := Nat × Bytes × Nat) (fun z_ ρ_ σ_ => Fits ρ_ σ_ [(16, .int .u64 15), (15, .int .u64 16), (14, .int .u64 4), (12, pt b1 0), (11, .string (bS [])), (10, .slice none 0 0), (0, .slice none 0 0), (3, .bool false), (4, .bool false), (1, .int .u64 (z_.1 : Int)), (13, .int .i64 (65 - (z_.2.1.length : Int)))] ((b1, .cells 145 65 (pad65 z_.2.1)) :: ([])) ∧ hexU u = hexU z_.1 ++ z_.2.1 ∧ (z_.2.1.length + z_.2.2 = 15 ∧ z_.1 < 18446744073709551616) ∧ z_.1 < 16 ^ (z_.2.2 + 1)) (fun z_ => z_.2.2) (u, ([] : Bytes), 15) ⟨⟨fun _ => rfl, ow⟩, (List.append_nil _).symm, ⟨rfl, hu⟩, hu⟩ ?_
 rintro ⟨m, Y, k⟩ ρ_ σ_ ⟨hfit, hi0, hi1, hi2⟩
 refine SW_fits hfit ?_
 clear hfit
 simp only [] at hi0 hi1 hi2 ⊢
 have hk0_ : k = 0 → m < 16 := fun z_ => by rw [z_] at hi2; exact hi2
 refine SW_seq ?_
 refine sr ?_
 refine os 3 ?_
 refine nt ?_
 refine cdp (fun hc2 : (m : Int) ≥ 16 => ?_) (fun hc2 => ?_)
 ·refine SW_skip (n_then ?_)
  refine SW_block ?_
  refine sr ?_
  refine os 3 ?_
  refine kp [13, 46, 16, 15, 14, 12, 11, 10, 0, 3, 4, 1] ?_
  refine nq ?_
  have hnib_ := nibs36 ⟨m % 16, by omega⟩
  refine SW_region ?_
  refine os 3 ?_
  refine oV (.int .u64 ((m % 16 : Nat) : Int)) ?_ (hs := andR (m := (m : Int)) (c := 15) _ (and15 m (by omega)))
  refine ixb ((m % 16 : Nat) : Int) ([48, 49, 50, 51, 52, 53, 54, 55, 56, 57, 97, 98, 99, 100, 101, 102, 103, 104, 105, 106, 107, 108, 109, 110, 111, 112, 113, 114, 115, 116, 117, 118, 119, 120, 121, 122]) .u64 (nibC (m % 16)) Tryz.underlying9 (by rw [show (((m % 16 : Nat) : Int)).toNat = (m % 16) from by omega]; exact hnib_) ?_
  refine L (O_val (.pointer (some ⟨b1, (64 - Y.length), none⟩)) rfl (fun δ w _ => run_at65 b1 ((65 - (Y.length : Int)) - 1) (64 - Y.length) (by omega) (by omega) (by omega) rfl rfl) ?_)
  refine L (O_store b1 (64 - Y.length) (.int .u8 ((nibC (m % 16)).toNat : Int)) [.int .u8 ((nibC (m % 16)).toNat : Int)] (fun _ => rfl) (fun _ => rfl) rfl (by kernel_rfl) rfl (by rw [pad_len (by omega), List.length_singleton]; omega) rfl ?_)
  rw [pad_lay ((nibC (m % 16))) (by omega)]
  refine nr ?_
  refine os 2 ?_
  refine oX (.int .u64 (Int.fdiv (m : Int) 16)) (.int .u64 ((m : Int) / 16)) (congrArg (Value.int .u64) (Int.fdiv_eq_ediv_of_nonneg _ (by omega))) ?_
  refine os 1 ?_
  refine kp [1, 13, 46, 16, 15, 14, 12, 11, 10, 0, 3, 4] ?_
  refine SL_nil (n_in (n_then ?_))
  rw [show (m : Int) / 16 = ((m / 16 : Nat) : Int) from by omega, show 65 - (Y.length : Int) - 1 = 65 - ((nibC (m % 16) :: Y).length : Int) from by rw [List.length_cons]; omega]
  exact ⟨(m / 16, nibC (m % 16) :: Y, k - 1), by simp only []; omega, ⟨fun _ => rfl, ow⟩, by simp only []; rw [hi0, hexU_up (by omega), List.append_assoc]; rfl, by simp only [List.length_cons]; omega, by simp only []; rw [show k - 1 + 1 = k by omega]; rw [Nat.pow_succ] at hi2; omega⟩
 refine SW_exit (x_then (x_then (x_in (n_then ?_))))
 refine sr ?_
 refine os 3 ?_
 refine kp [13, 46, 16, 15, 14, 12, 11, 10, 0, 3, 4, 1] ?_
 refine nt ?_
 have hnib_ := nibs36 ⟨m, by omega⟩
 refine SW_region ?_
 refine os 2 ?_
 refine ixb (m : Int) ([48, 49, 50, 51, 52, 53, 54, 55, 56, 57, 97, 98, 99, 100, 101, 102, 103, 104, 105, 106, 107, 108, 109, 110, 111, 112, 113, 114, 115, 116, 117, 118, 119, 120, 121, 122]) .u64 (nibC m) Tryz.underlying9 hnib_ ?_
 refine L (O_val (.pointer (some ⟨b1, (64 - Y.length), none⟩)) rfl (fun δ w _ => run_at65 b1 ((65 - (Y.length : Int)) - 1) (64 - Y.length) (by omega) (by omega) (by omega) rfl rfl) ?_)
 refine L (O_store b1 (64 - Y.length) (.int .u8 ((nibC m).toNat : Int)) [.int .u8 ((nibC m).toNat : Int)] (fun _ => rfl) (fun _ => rfl) rfl (by kernel_rfl) rfl (by rw [pad_len (by omega), List.length_singleton]; omega) rfl ?_)
 rw [pad_lay ((nibC m)) (by omega)]
 refine nq ?_
 refine sr ?_
 refine os 1 ?_
 refine kp [89, 13, 46, 16, 15, 14, 12, 11, 10, 0, 3, 4, 1] ?_
 refine nt ?_
 refine cf ?_
 refine SW_skip (n_then ?_)
 refine SW_seq ?_
 refine sr ?_
 refine os 1 ?_
 refine nt ?_
 refine cf ?_
 refine SW_skip (n_then ?_)
 refine sr ?_
 refine os 1 ?_
 refine L (O_val (.slice (some ⟨b1, (64 - Y.length), none⟩) (Y.length + 1) (Y.length + 1)) rfl (fun δ w _ => run_from65 b1 ((65 - (Y.length : Int)) - 1) (64 - Y.length) (Y.length + 1) (by omega) (by omega) (by omega) (by omega) rfl rfl) ?_)
 refine L (O_bytes ((nibC m :: Y).map fun c => (c.toNat : Int)) b1 (64 - Y.length) (Y.length + 1) Tryz.underlying95 Tryz.underlying5 Tryz.underlying9 (cells65 mem_z (by rw [List.length_cons]; omega)) (by intro δ; rw [List.length_map, List.length_cons]; rfl) rfl ?_)
 rw [of_nums]
 refine os 1 ?_
 refine kp [11, 94, 89, 13, 46, 16, 15, 14, 12, 10, 0, 3, 4, 1] ?_
 refine nt ?_
 refine SW_ret ?_
 refine body_end (.tuple #[.slice none 0 0, .string (bS (nibC m :: Y))]) (fun _ => rfl) ?_
 rw [hi0, hexU_low (by omega)]
 exact ⟨(), ow, rfl⟩

theorem str_FormatUint16I {W0 : World} (hT : LaidT W0) {u : Nat} (hu : u < 18446744073709551616) : SC Tryz.prog W0 46 #[.int .u64 (u : Int), .int .i64 16] [] (Ret (fun _ : Unit => []) (fun v _ => v = .string (bS (hexU u)))) := by
 refine SC_body (fn := Tryz.f46) (n := 32) Tryz.func46 rfl (by kernel_rfl) (ρ := [(0, .int .u64 (u : Int)), (1, .int .i64 16)]) rfl ?_
 refine sr ?_
 refine os 1 ?_
 refine nq ?_
 refine sr ?_
 refine os 1 ?_
 refine oV (.bool false) ?_
 refine nt ?_
 refine cf ?_
 refine SW_skip (n_then ?_)
 refine sr ?_
 refine os 2 ?_
 refine L (cl (str_formatBits hT hu) ?_)
 rintro _ _ rfl
 refine un ?_
 refine os 5 ?_
 refine kp [8, 10, 4, 0, 1] ?_
 refine nsr ?_
 refine os 2 ?_
 refine nt ?_
 refine SW_ret ?_
 refine body_end (.string (bS (hexU u))) (fun _ => rfl) ?_
 exact ⟨(), ow, rfl⟩

theorem str_FormatUint16 {W0 : World} (hT : LaidT W0) {u : Nat} (hu : u < 18446744073709551616) : SC Tryz.prog W0 19 #[.int .u64 (u : Int), .int .i64 16] [] (Ret (fun _ : Unit => []) (fun v _ => v = .string (bS (hexU u)))) := by
 refine SC_body (fn := Tryz.f19) (n := 8) Tryz.func19 rfl (by kernel_rfl) (ρ := [(0, .int .u64 (u : Int)), (1, .int .i64 16)]) rfl ?_
 refine sr ?_
 refine os 1 ?_
 refine nsr ?_
 refine os 2 ?_
 refine L (cl (str_FormatUint16I hT hu) ?_)
 rintro _ _ rfl
 refine un ?_
 refine os 1 ?_
 refine kp [4, 0, 1] ?_
 refine nt ?_
 refine SW_ret ?_
 refine body_end (.string (bS (hexU u))) (fun _ => rfl) ?_
 exact ⟨(), ow, rfl⟩

end Go.Proofs.YtnhmmjogfkjceaaGreatDoor
namespace Go.Proofs.YtnhmmjogfkjceaaGreatDoor
open Go.Sl

theorem law_NumtextWholes {W0 : World} (hT : LaidT W0) {n : Int} (hn : -9223372036854775808 ≤ n ∧ n ≤ 9223372036854775807) : SC Tryz.prog W0 5 #[.int .i64 n] [] (Ret (fun _ : Unit => []) (fun v _ => v = .bool true)) := by
 refine SC_body (fn := Tryz.f5) (n := 57) Tryz.func5 rfl (by kernel_rfl) (ρ := [(0, .int .i64 n)]) rfl ?_
 have hil_ := Lib.itoa_length_le n hn.1 hn.2
 refine sr ?_
 refine os 1 ?_
 refine nsr ?_
 refine os 1 ?_
 refine oV (.float .f64 (flP n)) ?_ (hs := (fun δ w_ => run_i2fS (z := n) (fl_nearest n) Tryz.underlying2 Tryz.underlying30 rfl))
 have q1 := r1_Of (W0 := W0) (a := flP n) fl_in.1
 rw [of_fl] at q1
 refine L (cl (q1) ?_)
 rintro _ _ rfl
 refine un ?_
 refine os 1 ?_
 refine kp [3, 2, 0] ?_
 refine nsr ?_
 refine os 1 ?_
 refine L (cl (str_FormatInt hT.num n hn) ?_)
 rintro _ _ rfl
 refine un ?_
 refine os 1 ?_
 refine nq ?_
 refine sr ?_
 refine os 3 ?_
 refine tbp 15 (fun hg2 => ?_) (fun hg2 => ?_)
 ·replace hg2 : n > (-9007199254740992) := hg2
  refine os 4 ?_
  refine kp [19, 4, 3, 2, 0] ?_
  refine tbp 19 (fun hg3 => ?_) (fun hg3 => ?_)
  ·replace hg3 : n < 9007199254740992 := hg3
   refine os 1 ?_
   refine L (cl (num_Print (W0 := W0) hT.num (a := flP n) fl_in.1) ?_)
   rintro _ _ ⟨rfl, hpl_⟩
   refine un ?_
   refine os 1 ?_
   refine oX (.bool (!((bS (printP (flP n))).toList == (bS (Lib.itoa n)).toList))) (.bool (!(decide ((printP (flP n)) = (Lib.itoa n))))) (congrArg Value.bool (by rw [strB_eq])) ?_
   refine os 1 ?_
   refine kp [24, 4, 3, 2, 0] ?_
   refine nt ?_
   refine SW_false (fun _ => (congrArg Value.bool (show (!(decide ((printP (flP n)) = (Lib.itoa n)))) = false from (by rw [print_fl (by omega) (by omega)]; simp)))) ?_
   refine SW_skip (n_then ?_)
   refine SW_seq ?_
   refine sr ?_
   refine os 1 ?_
   refine L (cl (num_Read (X := Lib.itoa n) (by first | omega | (simp only [List.length_append, List.length_cons, List.length_nil]; omega))) ?_)
   rintro _ _ rfl
   refine un ?_
   refine os 2 ?_
   refine kp [28, 24, 4, 3, 2, 0] ?_
   refine nt ?_
   refine SW_false (fun _ => (congrArg Value.bool (show ((readP (Lib.itoa n) : Int) != ((flP n) : Int)) = false from (bne_eq_false_iff_eq.2 (congrArg (fun n_ : Nat => (n_ : Int)) (read_fl hn.1 hn.2)))))) ?_
   refine SW_skip (n_then ?_)
   refine sr ?_
   refine os 1 ?_
   refine oV (.int .u64 (IntKind.wrap .u64 (n))) ?_
   refine os 1 ?_
   refine nq ?_
   obtain ⟨u, hud_⟩ : ∃ u, u = uP n := ⟨_, rfl⟩
   have hu : u < 18446744073709551616 := by rw [hud_]; exact uP_lt n
   have hul_ := hexU_16 hu
   rw [uP_eq, ← hud_]
   refine SW_region ?_
   refine os 1 ?_
   refine L (cl (str_FormatUint16 hT hu) ?_)
   rintro _ _ rfl
   refine un ?_
   refine oV (.string (bS ([48, 120] ++ (hexU u)))) ?_ (hs := (fun δ w_ => run_catB [48, 120] (hexU u) (by first | omega | (simp only [List.length_append, List.length_cons, List.length_nil]; omega)) rfl rfl))
   have hli_ := num_Literal (W0 := W0) (X := [48, 120] ++ (hexU u)) (by simp only [List.length_append, List.length_cons, List.length_nil]; omega)
   rw [lit_hex hu] at hli_
   refine L (cl (hli_) ?_)
   rintro _ _ rfl
   refine un ?_
   refine os 5 ?_
   refine kp [7, 6, 5, 28, 24, 4, 3, 2, 0] ?_
   refine nsr ?_
   refine L (cl (law_alive2 hT.num) ?_)
   rintro _ _ rfl
   refine un ?_
   refine os 6 ?_
   refine oV (.float .f64 (ldP u 0)) ?_ (hs := (fun δ w_ => run_i2f (n := u) Tryz.underlying29 Tryz.underlying30 rfl))
   have q4 := r1_Of (W0 := W0) (a := ldP u 0) (by have q_ := (whole_rn (m := u) rfl).1; omega)
   rw [of_ld] at q4
   refine L (cl (q4) ?_)
   rintro _ _ rfl
   refine un ?_
   refine os 3 ?_
   refine kp [49, 7, 6, 5, 28, 24, 4, 3, 2, 0] ?_
   refine pn 49 (show (((ldP u 0 : Nat) : Int) == ((ldP u 0) : Int)) = true from (beq_iff_eq.2 rfl)) ?_
   refine os 1 ?_
   refine L (cl (str_FormatUint16 hT hu) ?_)
   rintro _ _ rfl
   refine un ?_
   refine oV (.string (bS ([32, 48, 88] ++ (hexU u)))) ?_ (hs := (fun δ w_ => run_catB [32, 48, 88] (hexU u) (by first | omega | (simp only [List.length_append, List.length_cons, List.length_nil]; omega)) rfl rfl))
   refine L (cl (num_Read (X := [32, 48, 88] ++ (hexU u)) (by first | omega | (simp only [List.length_append, List.length_cons, List.length_nil]; omega))) ?_)
   rintro _ _ rfl
   refine un ?_
   refine os 4 ?_
   refine kp [2, 7, 6, 5, 28, 24, 4, 3, 0] ?_
   refine nt ?_
   refine SW_ret ?_
   refine body_end (.bool ((readP ([32, 48, 88] ++ (hexU u)) : Int) == ((ldP u 0 : Nat) : Int))) (fun _ => rfl) ?_
   exact ⟨(), ow, congrArg Value.bool (beq_iff_eq.2 (congrArg (fun n_ : Nat => (n_ : Int)) (read_hex hu)))⟩
  replace hg3 : ¬ (n < 9007199254740992) := hg3
  refine os 5 ?_
  refine kp [24, 4, 3, 2, 0] ?_
  refine nt ?_
  refine cf ?_
  refine SW_skip (n_then ?_)
  refine SW_seq ?_
  refine sr ?_
  refine os 1 ?_
  refine L (cl (num_Read (X := Lib.itoa n) (by first | omega | (simp only [List.length_append, List.length_cons, List.length_nil]; omega))) ?_)
  rintro _ _ rfl
  refine un ?_
  refine os 2 ?_
  refine kp [28, 24, 4, 3, 2, 0] ?_
  refine nt ?_
  refine SW_false (fun _ => (congrArg Value.bool (show ((readP (Lib.itoa n) : Int) != ((flP n) : Int)) = false from (bne_eq_false_iff_eq.2 (congrArg (fun n_ : Nat => (n_ : Int)) (read_fl hn.1 hn.2)))))) ?_
  refine SW_skip (n_then ?_)
  refine sr ?_
  refine os 1 ?_
  refine oV (.int .u64 (IntKind.wrap .u64 (n))) ?_
  refine os 1 ?_
  refine nq ?_
  obtain ⟨u, hud_⟩ : ∃ u, u = uP n := ⟨_, rfl⟩
  have hu : u < 18446744073709551616 := by rw [hud_]; exact uP_lt n
  have hul_ := hexU_16 hu
  rw [uP_eq, ← hud_]
  refine SW_region ?_
  refine os 1 ?_
  refine L (cl (str_FormatUint16 hT hu) ?_)
  rintro _ _ rfl
  refine un ?_
  refine oV (.string (bS ([48, 120] ++ (hexU u)))) ?_ (hs := (fun δ w_ => run_catB [48, 120] (hexU u) (by first | omega | (simp only [List.length_append, List.length_cons, List.length_nil]; omega)) rfl rfl))
  have hli_ := num_Literal (W0 := W0) (X := [48, 120] ++ (hexU u)) (by simp only [List.length_append, List.length_cons, List.length_nil]; omega)
  rw [lit_hex hu] at hli_
  refine L (cl (hli_) ?_)
  rintro _ _ rfl
  refine un ?_
  refine os 5 ?_
  refine kp [7, 6, 5, 28, 24, 4, 3, 2, 0] ?_
  refine nsr ?_
  refine L (cl (law_alive2 hT.num) ?_)
  rintro _ _ rfl
  refine un ?_
  refine os 6 ?_
  refine oV (.float .f64 (ldP u 0)) ?_ (hs := (fun δ w_ => run_i2f (n := u) Tryz.underlying29 Tryz.underlying30 rfl))
  have q6 := r1_Of (W0 := W0) (a := ldP u 0) (by have q_ := (whole_rn (m := u) rfl).1; omega)
  rw [of_ld] at q6
  refine L (cl (q6) ?_)
  rintro _ _ rfl
  refine un ?_
  refine os 3 ?_
  refine kp [49, 7, 6, 5, 28, 24, 4, 3, 2, 0] ?_
  refine pn 49 (show (((ldP u 0 : Nat) : Int) == ((ldP u 0) : Int)) = true from (beq_iff_eq.2 rfl)) ?_
  refine os 1 ?_
  refine L (cl (str_FormatUint16 hT hu) ?_)
  rintro _ _ rfl
  refine un ?_
  refine oV (.string (bS ([32, 48, 88] ++ (hexU u)))) ?_ (hs := (fun δ w_ => run_catB [32, 48, 88] (hexU u) (by first | omega | (simp only [List.length_append, List.length_cons, List.length_nil]; omega)) rfl rfl))
  refine L (cl (num_Read (X := [32, 48, 88] ++ (hexU u)) (by first | omega | (simp only [List.length_append, List.length_cons, List.length_nil]; omega))) ?_)
  rintro _ _ rfl
  refine un ?_
  refine os 4 ?_
  refine kp [2, 7, 6, 5, 28, 24, 4, 3, 0] ?_
  refine nt ?_
  refine SW_ret ?_
  refine body_end (.bool ((readP ([32, 48, 88] ++ (hexU u)) : Int) == ((ldP u 0 : Nat) : Int))) (fun _ => rfl) ?_
  exact ⟨(), ow, congrArg Value.bool (beq_iff_eq.2 (congrArg (fun n_ : Nat => (n_ : Int)) (read_hex hu)))⟩
 replace hg2 : ¬ (n > (-9007199254740992)) := hg2
 refine os 9 ?_
 refine kp [24, 4, 3, 2, 0] ?_
 refine nt ?_
 refine cf ?_
 refine SW_skip (n_then ?_)
 refine SW_seq ?_
 refine sr ?_
 refine os 1 ?_
 refine L (cl (num_Read (X := Lib.itoa n) (by first | omega | (simp only [List.length_append, List.length_cons, List.length_nil]; omega))) ?_)
 rintro _ _ rfl
 refine un ?_
 refine os 2 ?_
 refine kp [28, 24, 4, 3, 2, 0] ?_
 refine nt ?_
 refine SW_false (fun _ => (congrArg Value.bool (show ((readP (Lib.itoa n) : Int) != ((flP n) : Int)) = false from (bne_eq_false_iff_eq.2 (congrArg (fun n_ : Nat => (n_ : Int)) (read_fl hn.1 hn.2)))))) ?_
 refine SW_skip (n_then ?_)
 refine sr ?_
 refine os 1 ?_
 refine oV (.int .u64 (IntKind.wrap .u64 (n))) ?_
 refine os 1 ?_
 refine nq ?_
 obtain ⟨u, hud_⟩ : ∃ u, u = uP n := ⟨_, rfl⟩
 have hu : u < 18446744073709551616 := by rw [hud_]; exact uP_lt n
 have hul_ := hexU_16 hu
 rw [uP_eq, ← hud_]
 refine SW_region ?_
 refine os 1 ?_
 refine L (cl (str_FormatUint16 hT hu) ?_)
 rintro _ _ rfl
 refine un ?_
 refine oV (.string (bS ([48, 120] ++ (hexU u)))) ?_ (hs := (fun δ w_ => run_catB [48, 120] (hexU u) (by first | omega | (simp only [List.length_append, List.length_cons, List.length_nil]; omega)) rfl rfl))
 have hli_ := num_Literal (W0 := W0) (X := [48, 120] ++ (hexU u)) (by simp only [List.length_append, List.length_cons, List.length_nil]; omega)
 rw [lit_hex hu] at hli_
 refine L (cl (hli_) ?_)
 rintro _ _ rfl
 refine un ?_
 refine os 5 ?_
 refine kp [7, 6, 5, 28, 24, 4, 3, 2, 0] ?_
 refine nsr ?_
 refine L (cl (law_alive2 hT.num) ?_)
 rintro _ _ rfl
 refine un ?_
 refine os 6 ?_
 refine oV (.float .f64 (ldP u 0)) ?_ (hs := (fun δ w_ => run_i2f (n := u) Tryz.underlying29 Tryz.underlying30 rfl))
 have q8 := r1_Of (W0 := W0) (a := ldP u 0) (by have q_ := (whole_rn (m := u) rfl).1; omega)
 rw [of_ld] at q8
 refine L (cl (q8) ?_)
 rintro _ _ rfl
 refine un ?_
 refine os 3 ?_
 refine kp [49, 7, 6, 5, 28, 24, 4, 3, 2, 0] ?_
 refine pn 49 (show (((ldP u 0 : Nat) : Int) == ((ldP u 0) : Int)) = true from (beq_iff_eq.2 rfl)) ?_
 refine os 1 ?_
 refine L (cl (str_FormatUint16 hT hu) ?_)
 rintro _ _ rfl
 refine un ?_
 refine oV (.string (bS ([32, 48, 88] ++ (hexU u)))) ?_ (hs := (fun δ w_ => run_catB [32, 48, 88] (hexU u) (by first | omega | (simp only [List.length_append, List.length_cons, List.length_nil]; omega)) rfl rfl))
 refine L (cl (num_Read (X := [32, 48, 88] ++ (hexU u)) (by first | omega | (simp only [List.length_append, List.length_cons, List.length_nil]; omega))) ?_)
 rintro _ _ rfl
 refine un ?_
 refine os 4 ?_
 refine kp [2, 7, 6, 5, 28, 24, 4, 3, 0] ?_
 refine nt ?_
 refine SW_ret ?_
 refine body_end (.bool ((readP ([32, 48, 88] ++ (hexU u)) : Int) == ((ldP u 0 : Nat) : Int))) (fun _ => rfl) ?_
 exact ⟨(), ow, congrArg Value.bool (beq_iff_eq.2 (congrArg (fun n_ : Nat => (n_ : Int)) (read_hex hu)))⟩

theorem law_NumtextWholesZ {W0 : World} (hT : LaidT W0) {n : Int} (h0 : (Lit.int .i64 n).wf = true) : SC Tryz.prog W0 5 #[.int .i64 n] [] (Ret (fun _ : Unit => []) (fun v _ => v = .bool true)) := law_NumtextWholes hT (wf_i64 h0)

end Go.Proofs.YtnhmmjogfkjceaaGreatDoor
namespace Go.Proofs.YtnhmmjogfkjceaaGreatDoor
open Go.Sl Go.ChangeShapes Go.WideShapes Go.ChangeAt Go.RowKit

theorem NumtextWholes_contract (H : Type) (enc : TypeId × Value → H) (W : World) (base : Nat) (args : Array Value) (ds gs : List (DataW H)) (before : List MemPlace)
   (hval : ∀ (j : Nat) t v, Tryz.f5.params[j]? = some t → args[j]? = some v → Value.okWide Tryz.prog W .any base t v)
   (hW : DataW.Whole enc Tryz.prog Tryz.f5.params.toList Rows.numtextWholesSpec.vars false W args.toList ds gs before) (hk : Rows.uptoSmall H (ds ++ gs) = true) (hLd : laidMetH Tryz.prog Rows.numtextWholesUptoRow.laid W) (hsh : W.ShapedOpen Tryz.prog) :
   Calls Tryz.prog 5 args W fun e W' => ∃ v, e = .returned v ∧ Rows.numtextWholesSpec.post enc Tryz.prog Tryz.f5 false true false false W args v W' := by
 have hL := laid_numT hLd hsh
 have hW' := hW
 obtain ⟨p, q, hA0, hV, rfl, hfz, hnd⟩ := hW
 have hA : DataW.TrodAll enc Tryz.prog W 0 (fun _ => true) true Tryz.f5.params.toList args.toList ds p := hA0
 rw [Tryz.params5] at hA hval
 obtain ⟨v0, vs0, d0, ds0, p0, q0, hargs, rfl, rfl, h0, r0⟩ := trodAll_cons hA
 obtain ⟨rfl, rfl, rfl⟩ := trodAll_nil r0
 obtain rfl : args = #[v0] := by cases args; simp_all
 obtain ⟨rfl, rfl⟩ := trodVars_none hV
 obtain ⟨a0, rfl, rfl, rfl, w0⟩ := open_int Tryz.underlying2 (hval 0 2 v0 rfl rfl) h0
 refine (calls_law (law_NumtextWholesZ hL w0)).mono fun e W' ⟨he, hb⟩ => ?_
 subst he
 exact ⟨_, rfl, post_law (tb := 4) hW' (by rw [Tryz.params5]; decide) rfl rfl rfl rfl rfl Tryz.underlying4 hb⟩

theorem NumtextWholes_reads (os : Os) {H : Type} (enc : TypeId × Value → H) : ∃ places, DataW.whole enc Tryz.prog ((laidWorldN os).forCall (fun _ _ => 0) ⟨#[], #[.int .i64 0], []⟩).memory Tryz.f5.params.toList Rows.numtextWholesSpec.vars false #[.int .i64 0].toList 8 = some ([.lit (.int .i64 0)], [], places) :=
 ⟨[], by kernel_rfl⟩
theorem NumtextWholes_lifted (os : Os) (started : os.Started) (H : Type) (enc : TypeId × Value → H) (F : Stop.Interp) :
   ReturnsInHanded {} Tryz.checked os 5 .any ((Rows.OpenSpec.upto Rows.numtextWholesSpec).preRow enc Tryz.prog Tryz.f5 Rows.numtextWholesUptoRow.domain false Rows.numtextWholesUptoRow.laid) (((Rows.OpenSpec.upto Rows.numtextWholesSpec).at F).post enc Tryz.prog Tryz.f5 false true false false) := by
 obtain ⟨places, hx⟩ := NumtextWholes_reads os enc
 refine returnsInHanded_of_row (C := Tryz.checked) (s := Rows.OpenSpec.upto Rows.numtextWholesSpec) rown started (by kernel_rfl) Tryz.func5
   (witness_row_atRef (enc := enc) (C := Tryz.checked) false (laidWorldN os) #[.int .i64 0] rfl (by kernel_rfl) (by kernel_rfl) (by kernel_rfl)
     (OpenSpec.preRow_of_cond 8 hx (by kernel_rfl) (fun k hk => by cases hk; kernel_rfl) (by kernel_rfl) (laid_metN os _))) ?_
 intro W base args ds gs before hval hW _ hcond _ hL hsh _
 exact NumtextWholes_contract H enc W base args ds gs before hval hW (hcond _ rfl) hL hsh

theorem NumtextWholes_row : Rows.NumtextWholesUptoSaid :=
 OpenClaim.holds_of_cond 5 Tryz.f5 rfl rfl rfl rfl rfl rfl rfl ⟨rfl, rfl, rfl, rfl, rfl⟩ rfl rfl rfl rfl rfl (by kernel_rfl) Tryz.func5 (by kernel_rfl)
   (of_decide_eq_true (by kernel_rfl)) (by unfold Func.isWrapper; first | (rw [if_pos (by decide +kernel)]; kernel_rfl) | (rw [if_neg (by decide +kernel)]; exact ⟨rfl, rfl⟩))
   (fun os started H enc _ F => by rw [OpenClaim.pre_eq_preRow]; exact NumtextWholes_lifted os started H enc F)
theorem NumtextWholes_plain (f : FuncId) (fn : Func) (hf : Tryz.pinned.checked.prog.funcNamed "brazier/brazierlaw02.NumtextWholes" = some f) (hfn : Tryz.pinned.checked.prog.funcs[f]? = some fn) :
   true = Tryz.pinned.checked.prog.looks [] ∧ ∀ (j : Nat) t, fn.params[j]? = some t → Tryz.pinned.checked.prog.wantsStandIn t = false := by
 obtain rfl : f = 5 := Option.some.inj ((show Tryz.prog.funcNamed "brazier/brazierlaw02.NumtextWholes" = some 5 by kernel_rfl).symm.trans hf) |>.symm
 obtain rfl : fn = Tryz.f5 := (Option.some.inj (Tryz.func5.symm.trans hfn)).symm
 refine ⟨by kernel_rfl, fun j t ht => ?_⟩
 rw [Tryz.params5] at ht
 have hm : t = 2 := by simpa using Array.mem_of_getElem? ht
 rcases hm with rfl
 · exact (show Tryz.prog.wantsStandIn 2 = false by kernel_rfl)
theorem NumtextWholes_proved : Rows.NumtextWholesUptoCardSaid :=
 Claim7.holds_tied_plain_at .later [] _ _ _ _ NumtextWholes_row (fun _ h => by cases h) (by kernel_rfl) (fun _ h => by cases h) numtextWholesUpto_row_tie rfl ⟨rfl, rfl⟩ (by kernel_rfl) rfl NumtextWholes_plain (by kernel_rfl)
end Go.Proofs.YtnhmmjogfkjceaaGreatDoor
