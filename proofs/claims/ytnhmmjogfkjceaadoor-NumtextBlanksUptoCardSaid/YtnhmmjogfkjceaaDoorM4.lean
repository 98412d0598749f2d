/-
  NumtextBlanks, within the bound on what it reads, and tied to the program's text: it returns true whatever it is given, and leaves its arguments as they were. Conditions: the arguments' bulk is at most 1048576; the listed library variables stand as their text lays them, as the statement says.
-/
import Derived.Test.YtnhmmjogfkjceaaDoorProg
import Derived.Test.YtnhmmjogfkjceaaDoorM3
import Derived.Test.YtnhmmjogfkjceaaDoorM1
set_option linter.unusedVariables false
set_option linter.unusedSimpArgs false
set_option maxRecDepth 100000
set_option maxHeartbeats 4000000
namespace Go.Proofs.YtnhmmjogfkjceaaDoor
open Go.Sl

theorem str_RepeatZ {W0 : World} {σ : Heaplet} (s : List UInt8) {c : Int} (hc : 0 ≤ c ∧ c ≤ 1048576) (hs : s.length ≤ 1048576) : SC Tryd.prog W0 48 #[.string (bS s), .int .i64 c] σ (Ret (fun _ : Unit => σ) (fun v _ => v = .string (bS (Lib.repeatL s c.toNat)))) := by
 obtain ⟨n, rfl⟩ := Int.eq_ofNat_of_zero_le hc.1
 exact str_RepeatN s n (by omega) hs

theorem num_Print0 {W0 : World} (hL : LaidN W0) {a : Nat} (ha : a < 9223372036854775808) : SC Tryd.prog W0 25 #[.int .u64 (a : Int)] [] (Ret (fun _ : Unit => []) (fun v _ => v = .string (bS (printP0 a)) ∧ (printP0 a).length ≤ 5000)) := by
 refine SC_body (fn := Tryd.f25) (n := 93) Tryd.func25 rfl (by kernel_rfl) (ρ := [(0, .int .u64 (a : Int))]) rfl ?_
 have hka_ := kind_all a
 refine sr ?_
 refine os 1 ?_
 refine nq ?_
 refine SW_block ?_
 refine sr ?_
 refine os 1 ?_
 have his_ := num_IsNaN (W0 := W0) (a := a) (by omega)
 refine L (cl (his_) ?_)
 rintro v1 _ hv1
 obtain rfl : v1 = .bool (kindP a == 3) := hv1.trans (rfl)
 refine un ?_
 refine os 1 ?_
 refine nt ?_
 refine cd (fun hc1 : (kindP a == 3) = true => ?_) (fun hc1 => ?_)
 ·simp only [beq_iff_eq, bne_iff_ne, ne_eq, beq_eq_false_iff_ne, bne_eq_false_iff_eq, Classical.not_not] at hc1
  refine sr ?_
  refine os 1 ?_
  refine nt ?_
  refine SW_ret (r_in (r_then ?_))
  refine body_end (.string (bS [78, 97, 78])) (fun _ => rfl) ?_
  rw [show printP0 a = [78, 97, 78] from by unfold printP0; rw [if_pos (by omega)]]
  exact ⟨(), ow, rfl, by simp only [List.length_append, List.length_take, List.length_drop, List.length_cons, List.length_nil]; omega⟩
 simp only [beq_iff_eq, bne_iff_ne, ne_eq, beq_eq_false_iff_ne, bne_eq_false_iff_eq, Classical.not_not] at hc1
 refine sr ?_
 refine os 1 ?_
 have his_ := num_Equal0 (W0 := W0) (a := a) (by omega)
 refine L (cl (his_) ?_)
 rintro v2 _ hv2
 obtain rfl : v2 = .bool (kindP a == 0) := hv2.trans (rfl)
 refine un ?_
 refine os 1 ?_
 refine kp [9, 6, 2, 0] ?_
 refine nt ?_
 refine cd (fun hc2 : (kindP a == 0) = true => ?_) (fun hc2 => ?_)
 ·simp only [beq_iff_eq, bne_iff_ne, ne_eq, beq_eq_false_iff_ne, bne_eq_false_iff_eq, Classical.not_not] at hc2
  refine sr ?_
  refine os 1 ?_
  refine nt ?_
  refine SW_ret (r_in (r_then ?_))
  refine body_end (.string (bS [48])) (fun _ => rfl) ?_
  rw [show printP0 a = [48] from by unfold printP0; rw [if_neg (by omega), if_pos (by omega)]]
  exact ⟨(), ow, rfl, by simp only [List.length_append, List.length_take, List.length_drop, List.length_cons, List.length_nil]; omega⟩
 simp only [beq_iff_eq, bne_iff_ne, ne_eq, beq_eq_false_iff_ne, bne_eq_false_iff_eq, Classical.not_not] at hc2
 refine sr ?_
 refine os 3 ?_
 refine nt ?_
 refine SW_false (fun _ => (congrArg Value.bool (show (decide ((a : Int) ≥ 9223372036854775808)) = false from (decide_eq_false (by omega))))) ?_
 refine sr ?_
 refine os 1 ?_
 have his_ := num_IsInf (W0 := W0) (a := a) (by omega)
 refine L (cl (his_) ?_)
 rintro v3 _ hv3
 obtain rfl : v3 = .bool (kindP a == 2) := hv3.trans (rfl)
 refine un ?_
 refine os 1 ?_
 refine kp [19, 12, 9, 6, 2, 0] ?_
 refine nt ?_
 refine cd (fun hc3 : (kindP a == 2) = true => ?_) (fun hc3 => ?_)
 ·simp only [beq_iff_eq, bne_iff_ne, ne_eq, beq_eq_false_iff_ne, bne_eq_false_iff_eq, Classical.not_not] at hc3
  refine sr ?_
  refine os 1 ?_
  refine nt ?_
  refine SW_ret (r_in (r_then ?_))
  refine body_end (.string (bS [73, 110, 102, 105, 110, 105, 116, 121])) (fun _ => rfl) ?_
  rw [show printP0 a = [73, 110, 102, 105, 110, 105, 116, 121] from by unfold printP0; rw [if_neg (by omega), if_neg (by omega), if_pos (by omega)]]
  exact ⟨(), ow, rfl, by simp only [List.length_append, List.length_take, List.length_drop, List.length_cons, List.length_nil]; omega⟩
 simp only [beq_iff_eq, bne_iff_ne, ne_eq, beq_eq_false_iff_ne, bne_eq_false_iff_eq, Classical.not_not] at hc3
 refine SW_skip (n_in (n_then ?_))
 refine sr ?_
 refine os 1 ?_
 have hsh_ := num_shortest (W0 := W0) hL (a := a) (by omega) (by omega)
 obtain ⟨D, hD_⟩ : ∃ D, D = (shortP a).1 := ⟨_, rfl⟩
 obtain ⟨p, hp_⟩ : ∃ p, p = (shortP a).2 := ⟨_, rfl⟩
 rw [← hD_, ← hp_] at hsh_
 refine L (cl (hsh_) ?_)
 rintro _ _ ⟨rfl, hdl_, hpl_, hph_⟩
 refine un ?_
 refine os 5 ?_
 refine kp [4, 3, 19, 12, 9, 6, 2, 0] ?_
 refine nsr ?_
 refine os 1 ?_
 refine oX (.int .i64 ((bS D).size : Int)) (.int .i64 (D.length : Int)) (congrArg (fun n_ : Nat => Value.int .i64 (n_ : Int)) (bS_size _)) ?_
 refine os 1 ?_
 refine nq ?_
 refine SW_block ?_
 refine sr ?_
 refine os 4 ?_
 refine tbp 33 (fun hg4 => ?_) (fun hg4 => ?_)
 ·replace hg4 : p ≥ (D.length : Int) := hg4
  refine os 4 ?_
  refine kp [29, 5, 4, 3, 19, 12, 9, 6, 2, 0] ?_
  refine nt ?_
  refine cdp (fun hc5 : p ≤ 21 => ?_) (fun hc5 => ?_)
  ·refine sr ?_
   refine os 4 ?_
   have hrl_ : (Lib.repeatL [48] (p - (D.length : Int)).toNat).length ≤ 2000 := by rw [Lib.repeatL_length, show ([48] : List UInt8).length = 1 from rfl]; omega
   refine L (cl (str_RepeatZ [48] (c := p - (D.length : Int)) (by omega) (by decide)) ?_)
   rintro _ _ rfl
   refine un ?_
   refine oV (.string (bS (D ++ (Lib.repeatL [48] (p - (D.length : Int)).toNat)))) ?_ (hs := (fun δ w_ => run_catB D (Lib.repeatL [48] (p - (D.length : Int)).toNat) (by first | omega | simp only [List.length_append, List.length_take, List.length_drop, List.length_cons, List.length_nil]; omega) rfl rfl))
   refine os 1 ?_
   refine kp [2, 29, 5, 4, 3, 19, 12, 9, 6, 0] ?_
   refine nt ?_
   refine SW_ret (r_in (r_then ?_))
   refine body_end (.string (bS (D ++ (Lib.repeatL [48] (p - (D.length : Int)).toNat)))) (fun _ => rfl) ?_
   rw [show printP0 a = formP D p from by rw [hD_, hp_]; unfold printP0; rw [if_neg (by omega), if_neg (by omega), if_neg (by omega)]]
   rw [form_a (by omega) (by omega)]
   exact ⟨(), ow, rfl, by simp only [List.length_append, List.length_take, List.length_drop, List.length_cons, List.length_nil]; omega⟩
  refine sr ?_
  refine os 3 ?_
  refine tbp 46 (fun hg6 => ?_) (fun hg6 => ?_)
  ·replace hg6 : p > 0 := hg6
   refine os 4 ?_
   refine kp [43, 29, 5, 4, 3, 19, 12, 9, 6, 2, 0] ?_
   refine nt ?_
   refine cdp (fun hc7 : p ≤ 21 => ?_) (fun hc7 => ?_)
   ·refine SW_seq ?_
    refine SW_draw [] [] (by kernel_rfl) rd_nil ?_
    refine aS 0 ?_
    refine aS 1 ?_
    refine tk 2 (.string (bS (D.take (p).toNat))) ?_ (hy := fun δ w => run_strTo (l := D) p .i64 Tryd.underlying9 rfl rfl (by omega) (by omega))
    rw [show (p).toNat = p.toNat from by omega]
    refine tk 3 (.string (bS ((D.take p.toNat) ++ [46]))) ?_ (hy := (fun δ w_ => run_catB (D.take p.toNat) [46] (by first | omega | simp only [List.length_append, List.length_take, List.length_drop, List.length_cons, List.length_nil]; omega) rfl rfl))
    refine aS 4 ?_
    refine aS 5 ?_
    refine tk 6 (.string (bS (D.drop (p).toNat))) ?_ (hy := fun δ w => run_strFrom (l := D) p .i64 Tryd.underlying9 rfl rfl (by omega) (by omega))
    rw [show (p).toNat = p.toNat from by omega]
    refine tk 7 (.string (bS (((D.take p.toNat) ++ [46]) ++ (D.drop p.toNat)))) ?_ (hy := (fun δ w_ => run_catB ((D.take p.toNat) ++ [46]) (D.drop p.toNat) (by first | omega | simp only [List.length_append, List.length_take, List.length_drop, List.length_cons, List.length_nil]; omega) rfl rfl))
    refine aS 8 ?_
    refine kpA [2, 43, 29, 5, 4, 3, 19, 12, 9, 6, 0] ?_
    refine SA_done (by kernel_rfl) (n_then ?_)
    refine SW_ret (r_in (r_then ?_))
    refine body_end (.string (bS (((D.take p.toNat) ++ [46]) ++ (D.drop p.toNat)))) (fun _ => rfl) ?_
    rw [show printP0 a = formP D p from by rw [hD_, hp_]; unfold printP0; rw [if_neg (by omega), if_neg (by omega), if_neg (by omega)]]
    rw [form_b (by omega) (by omega) (by omega)]
    exact ⟨(), ow, rfl, by simp only [List.length_append, List.length_take, List.length_drop, List.length_cons, List.length_nil]; omega⟩
   refine sr ?_
   refine os 3 ?_
   refine tbp 61 (fun hg8 => ?_) (fun hg8 => ?_)
   ·replace hg8 : p > (-6) := hg8
    refine os 4 ?_
    refine kp [58, 43, 29, 5, 4, 3, 19, 12, 9, 6, 2, 0] ?_
    refine nt ?_
    refine cdp (fun hc9 : p ≤ 0 => ?_) (fun hc9 => ?_)
    ·refine sr ?_
     refine os 1 ?_
     refine oX (.int .i64 (IntKind.wrap .i64 (0 - p))) (.int .i64 (-p)) (congrArg (Value.int .i64) ((IntWalk.i64_in _ (by omega)).trans (Int.zero_sub _))) ?_
     have hrl_ : (Lib.repeatL [48] (-p).toNat).length ≤ 2000 := by rw [Lib.repeatL_length, show ([48] : List UInt8).length = 1 from rfl]; omega
     refine L (cl (str_RepeatZ [48] (c := -p) (by omega) (by decide)) ?_)
     rintro _ _ rfl
     refine un ?_
     refine oV (.string (bS ([48, 46] ++ (Lib.repeatL [48] (-p).toNat)))) ?_ (hs := (fun δ w_ => run_catB [48, 46] (Lib.repeatL [48] (-p).toNat) (by first | omega | simp only [List.length_append, List.length_take, List.length_drop, List.length_cons, List.length_nil]; omega) rfl rfl))
     refine os 1 ?_
     refine oV (.string (bS (([48, 46] ++ (Lib.repeatL [48] (-p).toNat)) ++ D))) ?_ (hs := (fun δ w_ => run_catB ([48, 46] ++ (Lib.repeatL [48] (-p).toNat)) D (by first | omega | simp only [List.length_append, List.length_take, List.length_drop, List.length_cons, List.length_nil]; omega) rfl rfl))
     refine os 1 ?_
     refine kp [2, 58, 43, 29, 5, 4, 3, 19, 12, 9, 6, 0] ?_
     refine nt ?_
     refine SW_ret (r_in (r_then ?_))
     refine body_end (.string (bS (([48, 46] ++ (Lib.repeatL [48] (-p).toNat)) ++ D))) (fun _ => rfl) ?_
     rw [show printP0 a = formP D p from by rw [hD_, hp_]; unfold printP0; rw [if_neg (by omega), if_neg (by omega), if_neg (by omega)]]
     rw [form_c (by omega) (by omega) (by omega)]
     exact ⟨(), ow, rfl, by simp only [List.length_append, List.length_take, List.length_drop, List.length_cons, List.length_nil]; omega⟩
    refine SW_skip (n_in (n_then ?_))
    refine SW_seq ?_
    refine sr ?_
    refine os 2 ?_
    refine nt ?_
    refine cdp (fun hc10 : (D.length : Int) > 1 => ?_) (fun hc10 => ?_)
    ·refine SW_draw [] [] (by kernel_rfl) rd_nil ?_
     refine aS 0 ?_
     refine tk 1 (.string (bS (D.take 1))) ?_ (hy := fun δ w => run_strTo (l := D) 1 .i64 Tryd.underlying9 rfl rfl (by omega) (by omega))
     refine tk 2 (.string (bS ((D.take 1) ++ [46]))) ?_ (hy := (fun δ w_ => run_catB (D.take 1) [46] (by first | omega | simp only [List.length_append, List.length_take, List.length_drop, List.length_cons, List.length_nil]; omega) rfl rfl))
     refine aS 3 ?_
     refine tk 4 (.string (bS (D.drop 1))) ?_ (hy := fun δ w => run_strFrom (l := D) 1 .i64 Tryd.underlying9 rfl rfl (by omega) (by omega))
     refine tk 5 (.string (bS (((D.take 1) ++ [46]) ++ (D.drop 1)))) ?_ (hy := (fun δ w_ => run_catB ((D.take 1) ++ [46]) (D.drop 1) (by first | omega | simp only [List.length_append, List.length_take, List.length_drop, List.length_cons, List.length_nil]; omega) rfl rfl))
     refine aS 6 ?_
     refine SA_done (by kernel_rfl) (n_then ?_)
     refine SW_seq ?_
     refine sr ?_
     refine os 2 ?_
     refine kp [80, 3, 72, 58, 43, 29, 5, 4, 19, 12, 9, 6, 2, 0] ?_
     refine nt ?_
     refine cdp (fun hc11 : p > 0 => ?_) (fun hc11 => ?_)
     ·refine sr ?_
      refine os 1 ?_
      refine oV (.string (bS ((((D.take 1) ++ [46]) ++ (D.drop 1)) ++ [101, 43]))) ?_ (hs := (fun δ w_ => run_catB (((D.take 1) ++ [46]) ++ (D.drop 1)) [101, 43] (by first | omega | simp only [List.length_append, List.length_take, List.length_drop, List.length_cons, List.length_nil]; omega) rfl rfl))
      refine os 2 ?_
      have hil_ := Lib.itoa_length_le (p - 1) (by omega) (by omega)
      refine L (cl (str_ItoaN hL (p - 1) (by omega)) ?_)
      rintro _ _ rfl
      refine un ?_
      refine oV (.string (bS (((((D.take 1) ++ [46]) ++ (D.drop 1)) ++ [101, 43]) ++ (Lib.itoa (p - 1))))) ?_ (hs := (fun δ w_ => run_catB ((((D.take 1) ++ [46]) ++ (D.drop 1)) ++ [101, 43]) (Lib.itoa (p - 1)) (by first | omega | simp only [List.length_append, List.length_take, List.length_drop, List.length_cons, List.length_nil]; omega) rfl rfl))
      refine os 1 ?_
      refine kp [2, 80, 3, 72, 58, 43, 29, 5, 4, 19, 12, 9, 6, 0] ?_
      refine nt ?_
      refine SW_ret (r_then ?_)
      refine body_end (.string (bS (((((D.take 1) ++ [46]) ++ (D.drop 1)) ++ [101, 43]) ++ (Lib.itoa (p - 1))))) (fun _ => rfl) ?_
      rw [show printP0 a = formP D p from by rw [hD_, hp_]; unfold printP0; rw [if_neg (by omega), if_neg (by omega), if_neg (by omega)]]
      rw [form_d (by omega) (by omega) (by omega) (by omega), expo_t (by omega)]
      exact ⟨(), ow, rfl, by simp only [List.length_append, List.length_take, List.length_drop, List.length_cons, List.length_nil]; omega⟩
     refine SW_skip (n_then ?_)
     refine sr ?_
     refine os 1 ?_
     refine oV (.string (bS ((((D.take 1) ++ [46]) ++ (D.drop 1)) ++ [101]))) ?_ (hs := (fun δ w_ => run_catB (((D.take 1) ++ [46]) ++ (D.drop 1)) [101] (by first | omega | simp only [List.length_append, List.length_take, List.length_drop, List.length_cons, List.length_nil]; omega) rfl rfl))
     refine os 2 ?_
     have hil_ := Lib.itoa_length_le (p - 1) (by omega) (by omega)
     refine L (cl (str_ItoaN hL (p - 1) (by omega)) ?_)
     rintro _ _ rfl
     refine un ?_
     refine oV (.string (bS (((((D.take 1) ++ [46]) ++ (D.drop 1)) ++ [101]) ++ (Lib.itoa (p - 1))))) ?_ (hs := (fun δ w_ => run_catB ((((D.take 1) ++ [46]) ++ (D.drop 1)) ++ [101]) (Lib.itoa (p - 1)) (by first | omega | simp only [List.length_append, List.length_take, List.length_drop, List.length_cons, List.length_nil]; omega) rfl rfl))
     refine os 1 ?_
     refine kp [2, 80, 3, 72, 58, 43, 29, 5, 4, 19, 12, 9, 6, 0] ?_
     refine nt ?_
     refine SW_ret ?_
     refine body_end (.string (bS (((((D.take 1) ++ [46]) ++ (D.drop 1)) ++ [101]) ++ (Lib.itoa (p - 1))))) (fun _ => rfl) ?_
     rw [show printP0 a = formP D p from by rw [hD_, hp_]; unfold printP0; rw [if_neg (by omega), if_neg (by omega), if_neg (by omega)]]
     rw [form_e (by omega) (by omega) (by omega) (by omega), expo_t (by omega)]
     exact ⟨(), ow, rfl, by simp only [List.length_append, List.length_take, List.length_drop, List.length_cons, List.length_nil]; omega⟩
    refine SW_skip (n_then ?_)
    refine SW_seq ?_
    refine sr ?_
    refine os 2 ?_
    refine nt ?_
    refine cdp (fun hc12 : p > 0 => ?_) (fun hc12 => ?_)
    ·refine sr ?_
     refine os 1 ?_
     refine oV (.string (bS (D ++ [101, 43]))) ?_ (hs := (fun δ w_ => run_catB D [101, 43] (by first | omega | simp only [List.length_append, List.length_take, List.length_drop, List.length_cons, List.length_nil]; omega) rfl rfl))
     refine os 2 ?_
     have hil_ := Lib.itoa_length_le (p - 1) (by omega) (by omega)
     refine L (cl (str_ItoaN hL (p - 1) (by omega)) ?_)
     rintro _ _ rfl
     refine un ?_
     refine oV (.string (bS ((D ++ [101, 43]) ++ (Lib.itoa (p - 1))))) ?_ (hs := (fun δ w_ => run_catB (D ++ [101, 43]) (Lib.itoa (p - 1)) (by first | omega | simp only [List.length_append, List.length_take, List.length_drop, List.length_cons, List.length_nil]; omega) rfl rfl))
     refine os 1 ?_
     refine kp [2, 80, 72, 58, 43, 29, 5, 4, 3, 19, 12, 9, 6, 0] ?_
     refine nt ?_
     refine SW_ret (r_then ?_)
     refine body_end (.string (bS ((D ++ [101, 43]) ++ (Lib.itoa (p - 1))))) (fun _ => rfl) ?_
     rw [show printP0 a = formP D p from by rw [hD_, hp_]; unfold printP0; rw [if_neg (by omega), if_neg (by omega), if_neg (by omega)]]
     rw [form_d (by omega) (by omega) (by omega) (by omega), expo_f (by omega)]
     exact ⟨(), ow, rfl, by simp only [List.length_append, List.length_take, List.length_drop, List.length_cons, List.length_nil]; omega⟩
    refine SW_skip (n_then ?_)
    refine sr ?_
    refine os 1 ?_
    refine oV (.string (bS (D ++ [101]))) ?_ (hs := (fun δ w_ => run_catB D [101] (by first | omega | simp only [List.length_append, List.length_take, List.length_drop, List.length_cons, List.length_nil]; omega) rfl rfl))
    refine os 2 ?_
    have hil_ := Lib.itoa_length_le (p - 1) (by omega) (by omega)
    refine L (cl (str_ItoaN hL (p - 1) (by omega)) ?_)
    rintro _ _ rfl
    refine un ?_
    refine oV (.string (bS ((D ++ [101]) ++ (Lib.itoa (p - 1))))) ?_ (hs := (fun δ w_ => run_catB (D ++ [101]) (Lib.itoa (p - 1)) (by first | omega | simp only [List.length_append, List.length_take, List.length_drop, List.length_cons, List.length_nil]; omega) rfl rfl))
    refine os 1 ?_
    refine kp [2, 80, 72, 58, 43, 29, 5, 4, 3, 19, 12, 9, 6, 0] ?_
    refine nt ?_
    refine SW_ret ?_
    refine body_end (.string (bS ((D ++ [101]) ++ (Lib.itoa (p - 1))))) (fun _ => rfl) ?_
    rw [show printP0 a = formP D p from by rw [hD_, hp_]; unfold printP0; rw [if_neg (by omega), if_neg (by omega), if_neg (by omega)]]
    rw [form_e (by omega) (by omega) (by omega) (by omega), expo_f (by omega)]
    exact ⟨(), ow, rfl, by simp only [List.length_append, List.length_take, List.length_drop, List.length_cons, List.length_nil]; omega⟩
   replace hg8 : ¬ (p > (-6)) := hg8
   refine os 4 ?_
   refine kp [58, 43, 29, 5, 4, 3, 19, 12, 9, 6, 2, 0] ?_
   refine nt ?_
   refine cf ?_
   refine SW_skip (n_in (n_then ?_))
   refine SW_seq ?_
   refine sr ?_
   refine os 2 ?_
   refine nt ?_
   refine cdp (fun hc13 : (D.length : Int) > 1 => ?_) (fun hc13 => ?_)
   ·refine SW_draw [] [] (by kernel_rfl) rd_nil ?_
    refine aS 0 ?_
    refine tk 1 (.string (bS (D.take 1))) ?_ (hy := fun δ w => run_strTo (l := D) 1 .i64 Tryd.underlying9 rfl rfl (by omega) (by omega))
    refine tk 2 (.string (bS ((D.take 1) ++ [46]))) ?_ (hy := (fun δ w_ => run_catB (D.take 1) [46] (by first | omega | simp only [List.length_append, List.length_take, List.length_drop, List.length_cons, List.length_nil]; omega) rfl rfl))
    refine aS 3 ?_
    refine tk 4 (.string (bS (D.drop 1))) ?_ (hy := fun δ w => run_strFrom (l := D) 1 .i64 Tryd.underlying9 rfl rfl (by omega) (by omega))
    refine tk 5 (.string (bS (((D.take 1) ++ [46]) ++ (D.drop 1)))) ?_ (hy := (fun δ w_ => run_catB ((D.take 1) ++ [46]) (D.drop 1) (by first | omega | simp only [List.length_append, List.length_take, List.length_drop, List.length_cons, List.length_nil]; omega) rfl rfl))
    refine aS 6 ?_
    refine SA_done (by kernel_rfl) (n_then ?_)
    refine SW_seq ?_
    refine sr ?_
    refine os 2 ?_
    refine kp [80, 3, 72, 58, 43, 29, 5, 4, 19, 12, 9, 6, 2, 0] ?_
    refine nt ?_
    refine cdp (fun hc14 : p > 0 => ?_) (fun hc14 => ?_)
    ·refine sr ?_
     refine os 1 ?_
     refine oV (.string (bS ((((D.take 1) ++ [46]) ++ (D.drop 1)) ++ [101, 43]))) ?_ (hs := (fun δ w_ => run_catB (((D.take 1) ++ [46]) ++ (D.drop 1)) [101, 43] (by first | omega | simp only [List.length_append, List.length_take, List.length_drop, List.length_cons, List.length_nil]; omega) rfl rfl))
     refine os 2 ?_
     have hil_ := Lib.itoa_length_le (p - 1) (by omega) (by omega)
     refine L (cl (str_ItoaN hL (p - 1) (by omega)) ?_)
     rintro _ _ rfl
     refine un ?_
     refine oV (.string (bS (((((D.take 1) ++ [46]) ++ (D.drop 1)) ++ [101, 43]) ++ (Lib.itoa (p - 1))))) ?_ (hs := (fun δ w_ => run_catB ((((D.take 1) ++ [46]) ++ (D.drop 1)) ++ [101, 43]) (Lib.itoa (p - 1)) (by first | omega | simp only [List.length_append, List.length_take, List.length_drop, List.length_cons, List.length_nil]; omega) rfl rfl))
     refine os 1 ?_
     refine kp [2, 80, 3, 72, 58, 43, 29, 5, 4, 19, 12, 9, 6, 0] ?_
     refine nt ?_
     refine SW_ret (r_then ?_)
     refine body_end (.string (bS (((((D.take 1) ++ [46]) ++ (D.drop 1)) ++ [101, 43]) ++ (Lib.itoa (p - 1))))) (fun _ => rfl) ?_
     rw [show printP0 a = formP D p from by rw [hD_, hp_]; unfold printP0; rw [if_neg (by omega), if_neg (by omega), if_neg (by omega)]]
     rw [form_d (by omega) (by omega) (by omega) (by omega), expo_t (by omega)]
     exact ⟨(), ow, rfl, by simp only [List.length_append, List.length_take, List.length_drop, List.length_cons, List.length_nil]; omega⟩
    refine SW_skip (n_then ?_)
    refine sr ?_
    refine os 1 ?_
    refine oV (.string (bS ((((D.take 1) ++ [46]) ++ (D.drop 1)) ++ [101]))) ?_ (hs := (fun δ w_ => run_catB (((D.take 1) ++ [46]) ++ (D.drop 1)) [101] (by first | omega | simp only [List.length_append, List.length_take, List.length_drop, List.length_cons, List.length_nil]; omega) rfl rfl))
    refine os 2 ?_
    have hil_ := Lib.itoa_length_le (p - 1) (by omega) (by omega)
    refine L (cl (str_ItoaN hL (p - 1) (by omega)) ?_)
    rintro _ _ rfl
    refine un ?_
    refine oV (.string (bS (((((D.take 1) ++ [46]) ++ (D.drop 1)) ++ [101]) ++ (Lib.itoa (p - 1))))) ?_ (hs := (fun δ w_ => run_catB ((((D.take 1) ++ [46]) ++ (D.drop 1)) ++ [101]) (Lib.itoa (p - 1)) (by first | omega | simp only [List.length_append, List.length_take, List.length_drop, List.length_cons, List.length_nil]; omega) rfl rfl))
    refine os 1 ?_
    refine kp [2, 80, 3, 72, 58, 43, 29, 5, 4, 19, 12, 9, 6, 0] ?_
    refine nt ?_
    refine SW_ret ?_
    refine body_end (.string (bS (((((D.take 1) ++ [46]) ++ (D.drop 1)) ++ [101]) ++ (Lib.itoa (p - 1))))) (fun _ => rfl) ?_
    rw [show printP0 a = formP D p from by rw [hD_, hp_]; unfold printP0; rw [if_neg (by omega), if_neg (by omega), if_neg (by omega)]]
    rw [form_e (by omega) (by omega) (by omega) (by omega), expo_t (by omega)]
    exact ⟨(), ow, rfl, by simp only [List.length_append, List.length_take, List.length_drop, List.length_cons, List.length_nil]; omega⟩
   refine SW_skip (n_then ?_)
   refine SW_seq ?_
   refine sr ?_
   refine os 2 ?_
   refine nt ?_
   refine cdp (fun hc15 : p > 0 => ?_) (fun hc15 => ?_)
   ·refine sr ?_
    refine os 1 ?_
    refine oV (.string (bS (D ++ [101, 43]))) ?_ (hs := (fun δ w_ => run_catB D [101, 43] (by first | omega | simp only [List.length_append, List.length_take, List.length_drop, List.length_cons, List.length_nil]; omega) rfl rfl))
    refine os 2 ?_
    have hil_ := Lib.itoa_length_le (p - 1) (by omega) (by omega)
    refine L (cl (str_ItoaN hL (p - 1) (by omega)) ?_)
    rintro _ _ rfl
    refine un ?_
    refine oV (.string (bS ((D ++ [101, 43]) ++ (Lib.itoa (p - 1))))) ?_ (hs := (fun δ w_ => run_catB (D ++ [101, 43]) (Lib.itoa (p - 1)) (by first | omega | simp only [List.length_append, List.length_take, List.length_drop, List.length_cons, List.length_nil]; omega) rfl rfl))
    refine os 1 ?_
    refine kp [2, 80, 72, 58, 43, 29, 5, 4, 3, 19, 12, 9, 6, 0] ?_
    refine nt ?_
    refine SW_ret (r_then ?_)
    refine body_end (.string (bS ((D ++ [101, 43]) ++ (Lib.itoa (p - 1))))) (fun _ => rfl) ?_
    rw [show printP0 a = formP D p from by rw [hD_, hp_]; unfold printP0; rw [if_neg (by omega), if_neg (by omega), if_neg (by omega)]]
    rw [form_d (by omega) (by omega) (by omega) (by omega), expo_f (by omega)]
    exact ⟨(), ow, rfl, by simp only [List.length_append, List.length_take, List.length_drop, List.length_cons, List.length_nil]; omega⟩
   refine SW_skip (n_then ?_)
   refine sr ?_
   refine os 1 ?_
   refine oV (.string (bS (D ++ [101]))) ?_ (hs := (fun δ w_ => run_catB D [101] (by first | omega | simp only [List.length_append, List.length_take, List.length_drop, List.length_cons, List.length_nil]; omega) rfl rfl))
   refine os 2 ?_
   have hil_ := Lib.itoa_length_le (p - 1) (by omega) (by omega)
   refine L (cl (str_ItoaN hL (p - 1) (by omega)) ?_)
   rintro _ _ rfl
   refine un ?_
   refine oV (.string (bS ((D ++ [101]) ++ (Lib.itoa (p - 1))))) ?_ (hs := (fun δ w_ => run_catB (D ++ [101]) (Lib.itoa (p - 1)) (by first | omega | simp only [List.length_append, List.length_take, List.length_drop, List.length_cons, List.length_nil]; omega) rfl rfl))
   refine os 1 ?_
   refine kp [2, 80, 72, 58, 43, 29, 5, 4, 3, 19, 12, 9, 6, 0] ?_
   refine nt ?_
   refine SW_ret ?_
   refine body_end (.string (bS ((D ++ [101]) ++ (Lib.itoa (p - 1))))) (fun _ => rfl) ?_
   rw [show printP0 a = formP D p from by rw [hD_, hp_]; unfold printP0; rw [if_neg (by omega), if_neg (by omega), if_neg (by omega)]]
   rw [form_e (by omega) (by omega) (by omega) (by omega), expo_f (by omega)]
   exact ⟨(), ow, rfl, by simp only [List.length_append, List.length_take, List.length_drop, List.length_cons, List.length_nil]; omega⟩
  replace hg6 : ¬ (p > 0) := hg6
  refine os 4 ?_
  refine kp [43, 29, 5, 4, 3, 19, 12, 9, 6, 2, 0] ?_
  refine nt ?_
  refine cf ?_
  refine sr ?_
  refine os 3 ?_
  refine tbp 61 (fun hg16 => ?_) (fun hg16 => ?_)
  ·replace hg16 : p > (-6) := hg16
   refine os 4 ?_
   refine kp [58, 43, 29, 5, 4, 3, 19, 12, 9, 6, 2, 0] ?_
   refine nt ?_
   refine cdp (fun hc17 : p ≤ 0 => ?_) (fun hc17 => ?_)
   ·refine sr ?_
    refine os 1 ?_
    refine oX (.int .i64 (IntKind.wrap .i64 (0 - p))) (.int .i64 (-p)) (congrArg (Value.int .i64) ((IntWalk.i64_in _ (by omega)).trans (Int.zero_sub _))) ?_
    have hrl_ : (Lib.repeatL [48] (-p).toNat).length ≤ 2000 := by rw [Lib.repeatL_length, show ([48] : List UInt8).length = 1 from rfl]; omega
    refine L (cl (str_RepeatZ [48] (c := -p) (by omega) (by decide)) ?_)
    rintro _ _ rfl
    refine un ?_
    refine oV (.string (bS ([48, 46] ++ (Lib.repeatL [48] (-p).toNat)))) ?_ (hs := (fun δ w_ => run_catB [48, 46] (Lib.repeatL [48] (-p).toNat) (by first | omega | simp only [List.length_append, List.length_take, List.length_drop, List.length_cons, List.length_nil]; omega) rfl rfl))
    refine os 1 ?_
    refine oV (.string (bS (([48, 46] ++ (Lib.repeatL [48] (-p).toNat)) ++ D))) ?_ (hs := (fun δ w_ => run_catB ([48, 46] ++ (Lib.repeatL [48] (-p).toNat)) D (by first | omega | simp only [List.length_append, List.length_take, List.length_drop, List.length_cons, List.length_nil]; omega) rfl rfl))
    refine os 1 ?_
    refine kp [2, 58, 43, 29, 5, 4, 3, 19, 12, 9, 6, 0] ?_
    refine nt ?_
    refine SW_ret (r_in (r_then ?_))
    refine body_end (.string (bS (([48, 46] ++ (Lib.repeatL [48] (-p).toNat)) ++ D))) (fun _ => rfl) ?_
    rw [show printP0 a = formP D p from by rw [hD_, hp_]; unfold printP0; rw [if_neg (by omega), if_neg (by omega), if_neg (by omega)]]
    rw [form_c (by omega) (by omega) (by omega)]
    exact ⟨(), ow, rfl, by simp only [List.length_append, List.length_take, List.length_drop, List.length_cons, List.length_nil]; omega⟩
   refine SW_skip (n_in (n_then ?_))
   refine SW_seq ?_
   refine sr ?_
   refine os 2 ?_
   refine nt ?_
   refine cdp (fun hc18 : (D.length : Int) > 1 => ?_) (fun hc18 => ?_)
   ·refine SW_draw [] [] (by kernel_rfl) rd_nil ?_
    refine aS 0 ?_
    refine tk 1 (.string (bS (D.take 1))) ?_ (hy := fun δ w => run_strTo (l := D) 1 .i64 Tryd.underlying9 rfl rfl (by omega) (by omega))
    refine tk 2 (.string (bS ((D.take 1) ++ [46]))) ?_ (hy := (fun δ w_ => run_catB (D.take 1) [46] (by first | omega | simp only [List.length_append, List.length_take, List.length_drop, List.length_cons, List.length_nil]; omega) rfl rfl))
    refine aS 3 ?_
    refine tk 4 (.string (bS (D.drop 1))) ?_ (hy := fun δ w => run_strFrom (l := D) 1 .i64 Tryd.underlying9 rfl rfl (by omega) (by omega))
    refine tk 5 (.string (bS (((D.take 1) ++ [46]) ++ (D.drop 1)))) ?_ (hy := (fun δ w_ => run_catB ((D.take 1) ++ [46]) (D.drop 1) (by first | omega | simp only [List.length_append, List.length_take, List.length_drop, List.length_cons, List.length_nil]; omega) rfl rfl))
    refine aS 6 ?_
    refine SA_done (by kernel_rfl) (n_then ?_)
    refine SW_seq ?_
    refine sr ?_
    refine os 2 ?_
    refine kp [80, 3, 72, 58, 43, 29, 5, 4, 19, 12, 9, 6, 2, 0] ?_
    refine nt ?_
    refine cdp (fun hc19 : p > 0 => ?_) (fun hc19 => ?_)
    ·refine sr ?_
     refine os 1 ?_
     refine oV (.string (bS ((((D.take 1) ++ [46]) ++ (D.drop 1)) ++ [101, 43]))) ?_ (hs := (fun δ w_ => run_catB (((D.take 1) ++ [46]) ++ (D.drop 1)) [101, 43] (by first | omega | simp only [List.length_append, List.length_take, List.length_drop, List.length_cons, List.length_nil]; omega) rfl rfl))
     refine os 2 ?_
     have hil_ := Lib.itoa_length_le (p - 1) (by omega) (by omega)
     refine L (cl (str_ItoaN hL (p - 1) (by omega)) ?_)
     rintro _ _ rfl
     refine un ?_
     refine oV (.string (bS (((((D.take 1) ++ [46]) ++ (D.drop 1)) ++ [101, 43]) ++ (Lib.itoa (p - 1))))) ?_ (hs := (fun δ w_ => run_catB ((((D.take 1) ++ [46]) ++ (D.drop 1)) ++ [101, 43]) (Lib.itoa (p - 1)) (by first | omega | simp only [List.length_append, List.length_take, List.length_drop, List.length_cons, List.length_nil]; omega) rfl rfl))
     refine os 1 ?_
     refine kp [2, 80, 3, 72, 58, 43, 29, 5, 4, 19, 12, 9, 6, 0] ?_
     refine nt ?_
     refine SW_ret (r_then ?_)
     refine body_end (.string (bS (((((D.take 1) ++ [46]) ++ (D.drop 1)) ++ [101, 43]) ++ (Lib.itoa (p - 1))))) (fun _ => rfl) ?_
     rw [show printP0 a = formP D p from by rw [hD_, hp_]; unfold printP0; rw [if_neg (by omega), if_neg (by omega), if_neg (by omega)]]
     rw [form_d (by omega) (by omega) (by omega) (by omega), expo_t (by omega)]
     exact ⟨(), ow, rfl, by simp only [List.length_append, List.length_take, List.length_drop, List.length_cons, List.length_nil]; omega⟩
    refine SW_skip (n_then ?_)
    refine sr ?_
    refine os 1 ?_
    refine oV (.string (bS ((((D.take 1) ++ [46]) ++ (D.drop 1)) ++ [101]))) ?_ (hs := (fun δ w_ => run_catB (((D.take 1) ++ [46]) ++ (D.drop 1)) [101] (by first | omega | simp only [List.length_append, List.length_take, List.length_drop, List.length_cons, List.length_nil]; omega) rfl rfl))
    refine os 2 ?_
    have hil_ := Lib.itoa_length_le (p - 1) (by omega) (by omega)
    refine L (cl (str_ItoaN hL (p - 1) (by omega)) ?_)
    rintro _ _ rfl
    refine un ?_
    refine oV (.string (bS (((((D.take 1) ++ [46]) ++ (D.drop 1)) ++ [101]) ++ (Lib.itoa (p - 1))))) ?_ (hs := (fun δ w_ => run_catB ((((D.take 1) ++ [46]) ++ (D.drop 1)) ++ [101]) (Lib.itoa (p - 1)) (by first | omega | simp only [List.length_append, List.length_take, List.length_drop, List.length_cons, List.length_nil]; omega) rfl rfl))
    refine os 1 ?_
    refine kp [2, 80, 3, 72, 58, 43, 29, 5, 4, 19, 12, 9, 6, 0] ?_
    refine nt ?_
    refine SW_ret ?_
    refine body_end (.string (bS (((((D.take 1) ++ [46]) ++ (D.drop 1)) ++ [101]) ++ (Lib.itoa (p - 1))))) (fun _ => rfl) ?_
    rw [show printP0 a = formP D p from by rw [hD_, hp_]; unfold printP0; rw [if_neg (by omega), if_neg (by omega), if_neg (by omega)]]
    rw [form_e (by omega) (by omega) (by omega) (by omega), expo_t (by omega)]
    exact ⟨(), ow, rfl, by simp only [List.length_append, List.length_take, List.length_drop, List.length_cons, List.length_nil]; omega⟩
   refine SW_skip (n_then ?_)
   refine SW_seq ?_
   refine sr ?_
   refine os 2 ?_
   refine nt ?_
   refine cdp (fun hc20 : p > 0 => ?_) (fun hc20 => ?_)
   ·refine sr ?_
    refine os 1 ?_
    refine oV (.string (bS (D ++ [101, 43]))) ?_ (hs := (fun δ w_ => run_catB D [101, 43] (by first | omega | simp only [List.length_append, List.length_take, List.length_drop, List.length_cons, List.length_nil]; omega) rfl rfl))
    refine os 2 ?_
    have hil_ := Lib.itoa_length_le (p - 1) (by omega) (by omega)
    refine L (cl (str_ItoaN hL (p - 1) (by omega)) ?_)
    rintro _ _ rfl
    refine un ?_
    refine oV (.string (bS ((D ++ [101, 43]) ++ (Lib.itoa (p - 1))))) ?_ (hs := (fun δ w_ => run_catB (D ++ [101, 43]) (Lib.itoa (p - 1)) (by first | omega | simp only [List.length_append, List.length_take, List.length_drop, List.length_cons, List.length_nil]; omega) rfl rfl))
    refine os 1 ?_
    refine kp [2, 80, 72, 58, 43, 29, 5, 4, 3, 19, 12, 9, 6, 0] ?_
    refine nt ?_
    refine SW_ret (r_then ?_)
    refine body_end (.string (bS ((D ++ [101, 43]) ++ (Lib.itoa (p - 1))))) (fun _ => rfl) ?_
    rw [show printP0 a = formP D p from by rw [hD_, hp_]; unfold printP0; rw [if_neg (by omega), if_neg (by omega), if_neg (by omega)]]
    rw [form_d (by omega) (by omega) (by omega) (by omega), expo_f (by omega)]
    exact ⟨(), ow, rfl, by simp only [List.length_append, List.length_take, List.length_drop, List.length_cons, List.length_nil]; omega⟩
   refine SW_skip (n_then ?_)
   refine sr ?_
   refine os 1 ?_
   refine oV (.string (bS (D ++ [101]))) ?_ (hs := (fun δ w_ => run_catB D [101] (by first | omega | simp only [List.length_append, List.length_take, List.length_drop, List.length_cons, List.length_nil]; omega) rfl rfl))
   refine os 2 ?_
   have hil_ := Lib.itoa_length_le (p - 1) (by omega) (by omega)
   refine L (cl (str_ItoaN hL (p - 1) (by omega)) ?_)
   rintro _ _ rfl
   refine un ?_
   refine oV (.string (bS ((D ++ [101]) ++ (Lib.itoa (p - 1))))) ?_ (hs := (fun δ w_ => run_catB (D ++ [101]) (Lib.itoa (p - 1)) (by first | omega | simp only [List.length_append, List.length_take, List.length_drop, List.length_cons, List.length_nil]; omega) rfl rfl))
   refine os 1 ?_
   refine kp [2, 80, 72, 58, 43, 29, 5, 4, 3, 19, 12, 9, 6, 0] ?_
   refine nt ?_
   refine SW_ret ?_
   refine body_end (.string (bS ((D ++ [101]) ++ (Lib.itoa (p - 1))))) (fun _ => rfl) ?_
   rw [show printP0 a = formP D p from by rw [hD_, hp_]; unfold printP0; rw [if_neg (by omega), if_neg (by omega), if_neg (by omega)]]
   rw [form_e (by omega) (by omega) (by omega) (by omega), expo_f (by omega)]
   exact ⟨(), ow, rfl, by simp only [List.length_append, List.length_take, List.length_drop, List.length_cons, List.length_nil]; omega⟩
  replace hg16 : ¬ (p > (-6)) := hg16
  refine os 4 ?_
  refine kp [58, 43, 29, 5, 4, 3, 19, 12, 9, 6, 2, 0] ?_
  refine nt ?_
  refine cf ?_
  refine SW_skip (n_in (n_then ?_))
  refine SW_seq ?_
  refine sr ?_
  refine os 2 ?_
  refine nt ?_
  refine cdp (fun hc21 : (D.length : Int) > 1 => ?_) (fun hc21 => ?_)
  ·refine SW_draw [] [] (by kernel_rfl) rd_nil ?_
   refine aS 0 ?_
   refine tk 1 (.string (bS (D.take 1))) ?_ (hy := fun δ w => run_strTo (l := D) 1 .i64 Tryd.underlying9 rfl rfl (by omega) (by omega))
   refine tk 2 (.string (bS ((D.take 1) ++ [46]))) ?_ (hy := (fun δ w_ => run_catB (D.take 1) [46] (by first | omega | simp only [List.length_append, List.length_take, List.length_drop, List.length_cons, List.length_nil]; omega) rfl rfl))
   refine aS 3 ?_
   refine tk 4 (.string (bS (D.drop 1))) ?_ (hy := fun δ w => run_strFrom (l := D) 1 .i64 Tryd.underlying9 rfl rfl (by omega) (by omega))
   refine tk 5 (.string (bS (((D.take 1) ++ [46]) ++ (D.drop 1)))) ?_ (hy := (fun δ w_ => run_catB ((D.take 1) ++ [46]) (D.drop 1) (by first | omega | simp only [List.length_append, List.length_take, List.length_drop, List.length_cons, List.length_nil]; omega) rfl rfl))
   refine aS 6 ?_
   refine SA_done (by kernel_rfl) (n_then ?_)
   refine SW_seq ?_
   refine sr ?_
   refine os 2 ?_
   refine kp [80, 3, 72, 58, 43, 29, 5, 4, 19, 12, 9, 6, 2, 0] ?_
   refine nt ?_
   refine cdp (fun hc22 : p > 0 => ?_) (fun hc22 => ?_)
   ·refine sr ?_
    refine os 1 ?_
    refine oV (.string (bS ((((D.take 1) ++ [46]) ++ (D.drop 1)) ++ [101, 43]))) ?_ (hs := (fun δ w_ => run_catB (((D.take 1) ++ [46]) ++ (D.drop 1)) [101, 43] (by first | omega | simp only [List.length_append, List.length_take, List.length_drop, List.length_cons, List.length_nil]; omega) rfl rfl))
    refine os 2 ?_
    have hil_ := Lib.itoa_length_le (p - 1) (by omega) (by omega)
    refine L (cl (str_ItoaN hL (p - 1) (by omega)) ?_)
    rintro _ _ rfl
    refine un ?_
    refine oV (.string (bS (((((D.take 1) ++ [46]) ++ (D.drop 1)) ++ [101, 43]) ++ (Lib.itoa (p - 1))))) ?_ (hs := (fun δ w_ => run_catB ((((D.take 1) ++ [46]) ++ (D.drop 1)) ++ [101, 43]) (Lib.itoa (p - 1)) (by first | omega | simp only [List.length_append, List.length_take, List.length_drop, List.length_cons, List.length_nil]; omega) rfl rfl))
    refine os 1 ?_
    refine kp [2, 80, 3, 72, 58, 43, 29, 5, 4, 19, 12, 9, 6, 0] ?_
    refine nt ?_
    refine SW_ret (r_then ?_)
    refine body_end (.string (bS (((((D.take 1) ++ [46]) ++ (D.drop 1)) ++ [101, 43]) ++ (Lib.itoa (p - 1))))) (fun _ => rfl) ?_
    rw [show printP0 a = formP D p from by rw [hD_, hp_]; unfold printP0; rw [if_neg (by omega), if_neg (by omega), if_neg (by omega)]]
    rw [form_d (by omega) (by omega) (by omega) (by omega), expo_t (by omega)]
    exact ⟨(), ow, rfl, by simp only [List.length_append, List.length_take, List.length_drop, List.length_cons, List.length_nil]; omega⟩
   refine SW_skip (n_then ?_)
   refine sr ?_
   refine os 1 ?_
   refine oV (.string (bS ((((D.take 1) ++ [46]) ++ (D.drop 1)) ++ [101]))) ?_ (hs := (fun δ w_ => run_catB (((D.take 1) ++ [46]) ++ (D.drop 1)) [101] (by first | omega | simp only [List.length_append, List.length_take, List.length_drop, List.length_cons, List.length_nil]; omega) rfl rfl))
   refine os 2 ?_
   have hil_ := Lib.itoa_length_le (p - 1) (by omega) (by omega)
   refine L (cl (str_ItoaN hL (p - 1) (by omega)) ?_)
   rintro _ _ rfl
   refine un ?_
   refine oV (.string (bS (((((D.take 1) ++ [46]) ++ (D.drop 1)) ++ [101]) ++ (Lib.itoa (p - 1))))) ?_ (hs := (fun δ w_ => run_catB ((((D.take 1) ++ [46]) ++ (D.drop 1)) ++ [101]) (Lib.itoa (p - 1)) (by first | omega | simp only [List.length_append, List.length_take, List.length_drop, List.length_cons, List.length_nil]; omega) rfl rfl))
   refine os 1 ?_
   refine kp [2, 80, 3, 72, 58, 43, 29, 5, 4, 19, 12, 9, 6, 0] ?_
   refine nt ?_
   refine SW_ret ?_
   refine body_end (.string (bS (((((D.take 1) ++ [46]) ++ (D.drop 1)) ++ [101]) ++ (Lib.itoa (p - 1))))) (fun _ => rfl) ?_
   rw [show printP0 a = formP D p from by rw [hD_, hp_]; unfold printP0; rw [if_neg (by omega), if_neg (by omega), if_neg (by omega)]]
   rw [form_e (by omega) (by omega) (by omega) (by omega), expo_t (by omega)]
   exact ⟨(), ow, rfl, by simp only [List.length_append, List.length_take, List.length_drop, List.length_cons, List.length_nil]; omega⟩
  refine SW_skip (n_then ?_)
  refine SW_seq ?_
  refine sr ?_
  refine os 2 ?_
  refine nt ?_
  refine cdp (fun hc23 : p > 0 => ?_) (fun hc23 => ?_)
  ·refine sr ?_
   refine os 1 ?_
   refine oV (.string (bS (D ++ [101, 43]))) ?_ (hs := (fun δ w_ => run_catB D [101, 43] (by first | omega | simp only [List.length_append, List.length_take, List.length_drop, List.length_cons, List.length_nil]; omega) rfl rfl))
   refine os 2 ?_
   have hil_ := Lib.itoa_length_le (p - 1) (by omega) (by omega)
   refine L (cl (str_ItoaN hL (p - 1) (by omega)) ?_)
   rintro _ _ rfl
   refine un ?_
   refine oV (.string (bS ((D ++ [101, 43]) ++ (Lib.itoa (p - 1))))) ?_ (hs := (fun δ w_ => run_catB (D ++ [101, 43]) (Lib.itoa (p - 1)) (by first | omega | simp only [List.length_append, List.length_take, List.length_drop, List.length_cons, List.length_nil]; omega) rfl rfl))
   refine os 1 ?_
   refine kp [2, 80, 72, 58, 43, 29, 5, 4, 3, 19, 12, 9, 6, 0] ?_
   refine nt ?_
   refine SW_ret (r_then ?_)
   refine body_end (.string (bS ((D ++ [101, 43]) ++ (Lib.itoa (p - 1))))) (fun _ => rfl) ?_
   rw [show printP0 a = formP D p from by rw [hD_, hp_]; unfold printP0; rw [if_neg (by omega), if_neg (by omega), if_neg (by omega)]]
   rw [form_d (by omega) (by omega) (by omega) (by omega), expo_f (by omega)]
   exact ⟨(), ow, rfl, by simp only [List.length_append, List.length_take, List.length_drop, List.length_cons, List.length_nil]; omega⟩
  refine SW_skip (n_then ?_)
  refine sr ?_
  refine os 1 ?_
  refine oV (.string (bS (D ++ [101]))) ?_ (hs := (fun δ w_ => run_catB D [101] (by first | omega | simp only [List.length_append, List.length_take, List.length_drop, List.length_cons, List.length_nil]; omega) rfl rfl))
  refine os 2 ?_
  have hil_ := Lib.itoa_length_le (p - 1) (by omega) (by omega)
  refine L (cl (str_ItoaN hL (p - 1) (by omega)) ?_)
  rintro _ _ rfl
  refine un ?_
  refine oV (.string (bS ((D ++ [101]) ++ (Lib.itoa (p - 1))))) ?_ (hs := (fun δ w_ => run_catB (D ++ [101]) (Lib.itoa (p - 1)) (by first | omega | simp only [List.length_append, List.length_take, List.length_drop, List.length_cons, List.length_nil]; omega) rfl rfl))
  refine os 1 ?_
  refine kp [2, 80, 72, 58, 43, 29, 5, 4, 3, 19, 12, 9, 6, 0] ?_
  refine nt ?_
  refine SW_ret ?_
  refine body_end (.string (bS ((D ++ [101]) ++ (Lib.itoa (p - 1))))) (fun _ => rfl) ?_
  rw [show printP0 a = formP D p from by rw [hD_, hp_]; unfold printP0; rw [if_neg (by omega), if_neg (by omega), if_neg (by omega)]]
  rw [form_e (by omega) (by omega) (by omega) (by omega), expo_f (by omega)]
  exact ⟨(), ow, rfl, by simp only [List.length_append, List.length_take, List.length_drop, List.length_cons, List.length_nil]; omega⟩
 replace hg4 : ¬ (p ≥ (D.length : Int)) := hg4
 refine os 4 ?_
 refine kp [29, 5, 4, 3, 19, 12, 9, 6, 2, 0] ?_
 refine nt ?_
 refine cf ?_
 refine sr ?_
 refine os 3 ?_
 refine tbp 46 (fun hg24 => ?_) (fun hg24 => ?_)
 ·replace hg24 : p > 0 := hg24
  refine os 4 ?_
  refine kp [43, 29, 5, 4, 3, 19, 12, 9, 6, 2, 0] ?_
  refine nt ?_
  refine cdp (fun hc25 : p ≤ 21 => ?_) (fun hc25 => ?_)
  ·refine SW_seq ?_
   refine SW_draw [] [] (by kernel_rfl) rd_nil ?_
   refine aS 0 ?_
   refine aS 1 ?_
   refine tk 2 (.string (bS (D.take (p).toNat))) ?_ (hy := fun δ w => run_strTo (l := D) p .i64 Tryd.underlying9 rfl rfl (by omega) (by omega))
   rw [show (p).toNat = p.toNat from by omega]
   refine tk 3 (.string (bS ((D.take p.toNat) ++ [46]))) ?_ (hy := (fun δ w_ => run_catB (D.take p.toNat) [46] (by first | omega | simp only [List.length_append, List.length_take, List.length_drop, List.length_cons, List.length_nil]; omega) rfl rfl))
   refine aS 4 ?_
   refine aS 5 ?_
   refine tk 6 (.string (bS (D.drop (p).toNat))) ?_ (hy := fun δ w => run_strFrom (l := D) p .i64 Tryd.underlying9 rfl rfl (by omega) (by omega))
   rw [show (p).toNat = p.toNat from by omega]
   refine tk 7 (.string (bS (((D.take p.toNat) ++ [46]) ++ (D.drop p.toNat)))) ?_ (hy := (fun δ w_ => run_catB ((D.take p.toNat) ++ [46]) (D.drop p.toNat) (by first | omega | simp only [List.length_append, List.length_take, List.length_drop, List.length_cons, List.length_nil]; omega) rfl rfl))
   refine aS 8 ?_
   refine kpA [2, 43, 29, 5, 4, 3, 19, 12, 9, 6, 0] ?_
   refine SA_done (by kernel_rfl) (n_then ?_)
   refine SW_ret (r_in (r_then ?_))
   refine body_end (.string (bS (((D.take p.toNat) ++ [46]) ++ (D.drop p.toNat)))) (fun _ => rfl) ?_
   rw [show printP0 a = formP D p from by rw [hD_, hp_]; unfold printP0; rw [if_neg (by omega), if_neg (by omega), if_neg (by omega)]]
   rw [form_b (by omega) (by omega) (by omega)]
   exact ⟨(), ow, rfl, by simp only [List.length_append, List.length_take, List.length_drop, List.length_cons, List.length_nil]; omega⟩
  refine sr ?_
  refine os 3 ?_
  refine tbp 61 (fun hg26 => ?_) (fun hg26 => ?_)
  ·replace hg26 : p > (-6) := hg26
   refine os 4 ?_
   refine kp [58, 43, 29, 5, 4, 3, 19, 12, 9, 6, 2, 0] ?_
   refine nt ?_
   refine cdp (fun hc27 : p ≤ 0 => ?_) (fun hc27 => ?_)
   ·refine sr ?_
    refine os 1 ?_
    refine oX (.int .i64 (IntKind.wrap .i64 (0 - p))) (.int .i64 (-p)) (congrArg (Value.int .i64) ((IntWalk.i64_in _ (by omega)).trans (Int.zero_sub _))) ?_
    have hrl_ : (Lib.repeatL [48] (-p).toNat).length ≤ 2000 := by rw [Lib.repeatL_length, show ([48] : List UInt8).length = 1 from rfl]; omega
    refine L (cl (str_RepeatZ [48] (c := -p) (by omega) (by decide)) ?_)
    rintro _ _ rfl
    refine un ?_
    refine oV (.string (bS ([48, 46] ++ (Lib.repeatL [48] (-p).toNat)))) ?_ (hs := (fun δ w_ => run_catB [48, 46] (Lib.repeatL [48] (-p).toNat) (by first | omega | simp only [List.length_append, List.length_take, List.length_drop, List.length_cons, List.length_nil]; omega) rfl rfl))
    refine os 1 ?_
    refine oV (.string (bS (([48, 46] ++ (Lib.repeatL [48] (-p).toNat)) ++ D))) ?_ (hs := (fun δ w_ => run_catB ([48, 46] ++ (Lib.repeatL [48] (-p).toNat)) D (by first | omega | simp only [List.length_append, List.length_take, List.length_drop, List.length_cons, List.length_nil]; omega) rfl rfl))
    refine os 1 ?_
    refine kp [2, 58, 43, 29, 5, 4, 3, 19, 12, 9, 6, 0] ?_
    refine nt ?_
    refine SW_ret (r_in (r_then ?_))
    refine body_end (.string (bS (([48, 46] ++ (Lib.repeatL [48] (-p).toNat)) ++ D))) (fun _ => rfl) ?_
    rw [show printP0 a = formP D p from by rw [hD_, hp_]; unfold printP0; rw [if_neg (by omega), if_neg (by omega), if_neg (by omega)]]
    rw [form_c (by omega) (by omega) (by omega)]
    exact ⟨(), ow, rfl, by simp only [List.length_append, List.length_take, List.length_drop, List.length_cons, List.length_nil]; omega⟩
   refine SW_skip (n_in (n_then ?_))
   refine SW_seq ?_
   refine sr ?_
   refine os 2 ?_
   refine nt ?_
   refine cdp (fun hc28 : (D.length : Int) > 1 => ?_) (fun hc28 => ?_)
   ·refine SW_draw [] [] (by kernel_rfl) rd_nil ?_
    refine aS 0 ?_
    refine tk 1 (.string (bS (D.take 1))) ?_ (hy := fun δ w => run_strTo (l := D) 1 .i64 Tryd.underlying9 rfl rfl (by omega) (by omega))
    refine tk 2 (.string (bS ((D.take 1) ++ [46]))) ?_ (hy := (fun δ w_ => run_catB (D.take 1) [46] (by first | omega | simp only [List.length_append, List.length_take, List.length_drop, List.length_cons, List.length_nil]; omega) rfl rfl))
    refine aS 3 ?_
    refine tk 4 (.string (bS (D.drop 1))) ?_ (hy := fun δ w => run_strFrom (l := D) 1 .i64 Tryd.underlying9 rfl rfl (by omega) (by omega))
    refine tk 5 (.string (bS (((D.take 1) ++ [46]) ++ (D.drop 1)))) ?_ (hy := (fun δ w_ => run_catB ((D.take 1) ++ [46]) (D.drop 1) (by first | omega | simp only [List.length_append, List.length_take, List.length_drop, List.length_cons, List.length_nil]; omega) rfl rfl))
    refine aS 6 ?_
    refine SA_done (by kernel_rfl) (n_then ?_)
    refine SW_seq ?_
    refine sr ?_
    refine os 2 ?_
    refine kp [80, 3, 72, 58, 43, 29, 5, 4, 19, 12, 9, 6, 2, 0] ?_
    refine nt ?_
    refine cdp (fun hc29 : p > 0 => ?_) (fun hc29 => ?_)
    ·refine sr ?_
     refine os 1 ?_
     refine oV (.string (bS ((((D.take 1) ++ [46]) ++ (D.drop 1)) ++ [101, 43]))) ?_ (hs := (fun δ w_ => run_catB (((D.take 1) ++ [46]) ++ (D.drop 1)) [101, 43] (by first | omega | simp only [List.length_append, List.length_take, List.length_drop, List.length_cons, List.length_nil]; omega) rfl rfl))
     refine os 2 ?_
     have hil_ := Lib.itoa_length_le (p - 1) (by omega) (by omega)
     refine L (cl (str_ItoaN hL (p - 1) (by omega)) ?_)
     rintro _ _ rfl
     refine un ?_
     refine oV (.string (bS (((((D.take 1) ++ [46]) ++ (D.drop 1)) ++ [101, 43]) ++ (Lib.itoa (p - 1))))) ?_ (hs := (fun δ w_ => run_catB ((((D.take 1) ++ [46]) ++ (D.drop 1)) ++ [101, 43]) (Lib.itoa (p - 1)) (by first | omega | simp only [List.length_append, List.length_take, List.length_drop, List.length_cons, List.length_nil]; omega) rfl rfl))
     refine os 1 ?_
     refine kp [2, 80, 3, 72, 58, 43, 29, 5, 4, 19, 12, 9, 6, 0] ?_
     refine nt ?_
     refine SW_ret (r_then ?_)
     refine body_end (.string (bS (((((D.take 1) ++ [46]) ++ (D.drop 1)) ++ [101, 43]) ++ (Lib.itoa (p - 1))))) (fun _ => rfl) ?_
     rw [show printP0 a = formP D p from by rw [hD_, hp_]; unfold printP0; rw [if_neg (by omega), if_neg (by omega), if_neg (by omega)]]
     rw [form_d (by omega) (by omega) (by omega) (by omega), expo_t (by omega)]
     exact ⟨(), ow, rfl, by simp only [List.length_append, List.length_take, List.length_drop, List.length_cons, List.length_nil]; omega⟩
    refine SW_skip (n_then ?_)
    refine sr ?_
    refine os 1 ?_
    refine oV (.string (bS ((((D.take 1) ++ [46]) ++ (D.drop 1)) ++ [101]))) ?_ (hs := (fun δ w_ => run_catB (((D.take 1) ++ [46]) ++ (D.drop 1)) [101] (by first | omega | simp only [List.length_append, List.length_take, List.length_drop, List.length_cons, List.length_nil]; omega) rfl rfl))
    refine os 2 ?_
    have hil_ := Lib.itoa_length_le (p - 1) (by omega) (by omega)
    refine L (cl (str_ItoaN hL (p - 1) (by omega)) ?_)
    rintro _ _ rfl
    refine un ?_
    refine oV (.string (bS (((((D.take 1) ++ [46]) ++ (D.drop 1)) ++ [101]) ++ (Lib.itoa (p - 1))))) ?_ (hs := (fun δ w_ => run_catB ((((D.take 1) ++ [46]) ++ (D.drop 1)) ++ [101]) (Lib.itoa (p - 1)) (by first | omega | simp only [List.length_append, List.length_take, List.length_drop, List.length_cons, List.length_nil]; omega) rfl rfl))
    refine os 1 ?_
    refine kp [2, 80, 3, 72, 58, 43, 29, 5, 4, 19, 12, 9, 6, 0] ?_
    refine nt ?_
    refine SW_ret ?_
    refine body_end (.string (bS (((((D.take 1) ++ [46]) ++ (D.drop 1)) ++ [101]) ++ (Lib.itoa (p - 1))))) (fun _ => rfl) ?_
    rw [show printP0 a = formP D p from by rw [hD_, hp_]; unfold printP0; rw [if_neg (by omega), if_neg (by omega), if_neg (by omega)]]
    rw [form_e (by omega) (by omega) (by omega) (by omega), expo_t (by omega)]
    exact ⟨(), ow, rfl, by simp only [List.length_append, List.length_take, List.length_drop, List.length_cons, List.length_nil]; omega⟩
   refine SW_skip (n_then ?_)
   refine SW_seq ?_
   refine sr ?_
   refine os 2 ?_
   refine nt ?_
   refine cdp (fun hc30 : p > 0 => ?_) (fun hc30 => ?_)
   ·refine sr ?_
    refine os 1 ?_
    refine oV (.string (bS (D ++ [101, 43]))) ?_ (hs := (fun δ w_ => run_catB D [101, 43] (by first | omega | simp only [List.length_append, List.length_take, List.length_drop, List.length_cons, List.length_nil]; omega) rfl rfl))
    refine os 2 ?_
    have hil_ := Lib.itoa_length_le (p - 1) (by omega) (by omega)
    refine L (cl (str_ItoaN hL (p - 1) (by omega)) ?_)
    rintro _ _ rfl
    refine un ?_
    refine oV (.string (bS ((D ++ [101, 43]) ++ (Lib.itoa (p - 1))))) ?_ (hs := (fun δ w_ => run_catB (D ++ [101, 43]) (Lib.itoa (p - 1)) (by first | omega | simp only [List.length_append, List.length_take, List.length_drop, List.length_cons, List.length_nil]; omega) rfl rfl))
    refine os 1 ?_
    refine kp [2, 80, 72, 58, 43, 29, 5, 4, 3, 19, 12, 9, 6, 0] ?_
    refine nt ?_
    refine SW_ret (r_then ?_)
    refine body_end (.string (bS ((D ++ [101, 43]) ++ (Lib.itoa (p - 1))))) (fun _ => rfl) ?_
    rw [show printP0 a = formP D p from by rw [hD_, hp_]; unfold printP0; rw [if_neg (by omega), if_neg (by omega), if_neg (by omega)]]
    rw [form_d (by omega) (by omega) (by omega) (by omega), expo_f (by omega)]
    exact ⟨(), ow, rfl, by simp only [List.length_append, List.length_take, List.length_drop, List.length_cons, List.length_nil]; omega⟩
   refine SW_skip (n_then ?_)
   refine sr ?_
   refine os 1 ?_
   refine oV (.string (bS (D ++ [101]))) ?_ (hs := (fun δ w_ => run_catB D [101] (by first | omega | simp only [List.length_append, List.length_take, List.length_drop, List.length_cons, List.length_nil]; omega) rfl rfl))
   refine os 2 ?_
   have hil_ := Lib.itoa_length_le (p - 1) (by omega) (by omega)
   refine L (cl (str_ItoaN hL (p - 1) (by omega)) ?_)
   rintro _ _ rfl
   refine un ?_
   refine oV (.string (bS ((D ++ [101]) ++ (Lib.itoa (p - 1))))) ?_ (hs := (fun δ w_ => run_catB (D ++ [101]) (Lib.itoa (p - 1)) (by first | omega | simp only [List.length_append, List.length_take, List.length_drop, List.length_cons, List.length_nil]; omega) rfl rfl))
   refine os 1 ?_
   refine kp [2, 80, 72, 58, 43, 29, 5, 4, 3, 19, 12, 9, 6, 0] ?_
   refine nt ?_
   refine SW_ret ?_
   refine body_end (.string (bS ((D ++ [101]) ++ (Lib.itoa (p - 1))))) (fun _ => rfl) ?_
   rw [show printP0 a = formP D p from by rw [hD_, hp_]; unfold printP0; rw [if_neg (by omega), if_neg (by omega), if_neg (by omega)]]
   rw [form_e (by omega) (by omega) (by omega) (by omega), expo_f (by omega)]
   exact ⟨(), ow, rfl, by simp only [List.length_append, List.length_take, List.length_drop, List.length_cons, List.length_nil]; omega⟩
  replace hg26 : ¬ (p > (-6)) := hg26
  refine os 4 ?_
  refine kp [58, 43, 29, 5, 4, 3, 19, 12, 9, 6, 2, 0] ?_
  refine nt ?_
  refine cf ?_
  refine SW_skip (n_in (n_then ?_))
  refine SW_seq ?_
  refine sr ?_
  refine os 2 ?_
  refine nt ?_
  refine cdp (fun hc31 : (D.length : Int) > 1 => ?_) (fun hc31 => ?_)
  ·refine SW_draw [] [] (by kernel_rfl) rd_nil ?_
   refine aS 0 ?_
   refine tk 1 (.string (bS (D.take 1))) ?_ (hy := fun δ w => run_strTo (l := D) 1 .i64 Tryd.underlying9 rfl rfl (by omega) (by omega))
   refine tk 2 (.string (bS ((D.take 1) ++ [46]))) ?_ (hy := (fun δ w_ => run_catB (D.take 1) [46] (by first | omega | simp only [List.length_append, List.length_take, List.length_drop, List.length_cons, List.length_nil]; omega) rfl rfl))
   refine aS 3 ?_
   refine tk 4 (.string (bS (D.drop 1))) ?_ (hy := fun δ w => run_strFrom (l := D) 1 .i64 Tryd.underlying9 rfl rfl (by omega) (by omega))
   refine tk 5 (.string (bS (((D.take 1) ++ [46]) ++ (D.drop 1)))) ?_ (hy := (fun δ w_ => run_catB ((D.take 1) ++ [46]) (D.drop 1) (by first | omega | simp only [List.length_append, List.length_take, List.length_drop, List.length_cons, List.length_nil]; omega) rfl rfl))
   refine aS 6 ?_
   refine SA_done (by kernel_rfl) (n_then ?_)
   refine SW_seq ?_
   refine sr ?_
   refine os 2 ?_
   refine kp [80, 3, 72, 58, 43, 29, 5, 4, 19, 12, 9, 6, 2, 0] ?_
   refine nt ?_
   refine cdp (fun hc32 : p > 0 => ?_) (fun hc32 => ?_)
   ·refine sr ?_
    refine os 1 ?_
    refine oV (.string (bS ((((D.take 1) ++ [46]) ++ (D.drop 1)) ++ [101, 43]))) ?_ (hs := (fun δ w_ => run_catB (((D.take 1) ++ [46]) ++ (D.drop 1)) [101, 43] (by first | omega | simp only [List.length_append, List.length_take, List.length_drop, List.length_cons, List.length_nil]; omega) rfl rfl))
    refine os 2 ?_
    have hil_ := Lib.itoa_length_le (p - 1) (by omega) (by omega)
    refine L (cl (str_ItoaN hL (p - 1) (by omega)) ?_)
    rintro _ _ rfl
    refine un ?_
    refine oV (.string (bS (((((D.take 1) ++ [46]) ++ (D.drop 1)) ++ [101, 43]) ++ (Lib.itoa (p - 1))))) ?_ (hs := (fun δ w_ => run_catB ((((D.take 1) ++ [46]) ++ (D.drop 1)) ++ [101, 43]) (Lib.itoa (p - 1)) (by first | omega | simp only [List.length_append, List.length_take, List.length_drop, List.length_cons, List.length_nil]; omega) rfl rfl))
    refine os 1 ?_
    refine kp [2, 80, 3, 72, 58, 43, 29, 5, 4, 19, 12, 9, 6, 0] ?_
    refine nt ?_
    refine SW_ret (r_then ?_)
    refine body_end (.string (bS (((((D.take 1) ++ [46]) ++ (D.drop 1)) ++ [101, 43]) ++ (Lib.itoa (p - 1))))) (fun _ => rfl) ?_
    rw [show printP0 a = formP D p from by rw [hD_, hp_]; unfold printP0; rw [if_neg (by omega), if_neg (by omega), if_neg (by omega)]]
    rw [form_d (by omega) (by omega) (by omega) (by omega), expo_t (by omega)]
    exact ⟨(), ow, rfl, by simp only [List.length_append, List.length_take, List.length_drop, List.length_cons, List.length_nil]; omega⟩
   refine SW_skip (n_then ?_)
   refine sr ?_
   refine os 1 ?_
   refine oV (.string (bS ((((D.take 1) ++ [46]) ++ (D.drop 1)) ++ [101]))) ?_ (hs := (fun δ w_ => run_catB (((D.take 1) ++ [46]) ++ (D.drop 1)) [101] (by first | omega | simp only [List.length_append, List.length_take, List.length_drop, List.length_cons, List.length_nil]; omega) rfl rfl))
   refine os 2 ?_
   have hil_ := Lib.itoa_length_le (p - 1) (by omega) (by omega)
   refine L (cl (str_ItoaN hL (p - 1) (by omega)) ?_)
   rintro _ _ rfl
   refine un ?_
   refine oV (.string (bS (((((D.take 1) ++ [46]) ++ (D.drop 1)) ++ [101]) ++ (Lib.itoa (p - 1))))) ?_ (hs := (fun δ w_ => run_catB ((((D.take 1) ++ [46]) ++ (D.drop 1)) ++ [101]) (Lib.itoa (p - 1)) (by first | omega | simp only [List.length_append, List.length_take, List.length_drop, List.length_cons, List.length_nil]; omega) rfl rfl))
   refine os 1 ?_
   refine kp [2, 80, 3, 72, 58, 43, 29, 5, 4, 19, 12, 9, 6, 0] ?_
   refine nt ?_
   refine SW_ret ?_
   refine body_end (.string (bS (((((D.take 1) ++ [46]) ++ (D.drop 1)) ++ [101]) ++ (Lib.itoa (p - 1))))) (fun _ => rfl) ?_
   rw [show printP0 a = formP D p from by rw [hD_, hp_]; unfold printP0; rw [if_neg (by omega), if_neg (by omega), if_neg (by omega)]]
   rw [form_e (by omega) (by omega) (by omega) (by omega), expo_t (by omega)]
   exact ⟨(), ow, rfl, by simp only [List.length_append, List.length_take, List.length_drop, List.length_cons, List.length_nil]; omega⟩
  refine SW_skip (n_then ?_)
  refine SW_seq ?_
  refine sr ?_
  refine os 2 ?_
  refine nt ?_
  refine cdp (fun hc33 : p > 0 => ?_) (fun hc33 => ?_)
  ·refine sr ?_
   refine os 1 ?_
   refine oV (.string (bS (D ++ [101, 43]))) ?_ (hs := (fun δ w_ => run_catB D [101, 43] (by first | omega | simp only [List.length_append, List.length_take, List.length_drop, List.length_cons, List.length_nil]; omega) rfl rfl))
   refine os 2 ?_
   have hil_ := Lib.itoa_length_le (p - 1) (by omega) (by omega)
   refine L (cl (str_ItoaN hL (p - 1) (by omega)) ?_)
   rintro _ _ rfl
   refine un ?_
   refine oV (.string (bS ((D ++ [101, 43]) ++ (Lib.itoa (p - 1))))) ?_ (hs := (fun δ w_ => run_catB (D ++ [101, 43]) (Lib.itoa (p - 1)) (by first | omega | simp only [List.length_append, List.length_take, List.length_drop, List.length_cons, List.length_nil]; omega) rfl rfl))
   refine os 1 ?_
   refine kp [2, 80, 72, 58, 43, 29, 5, 4, 3, 19, 12, 9, 6, 0] ?_
   refine nt ?_
   refine SW_ret (r_then ?_)
   refine body_end (.string (bS ((D ++ [101, 43]) ++ (Lib.itoa (p - 1))))) (fun _ => rfl) ?_
   rw [show printP0 a = formP D p from by rw [hD_, hp_]; unfold printP0; rw [if_neg (by omega), if_neg (by omega), if_neg (by omega)]]
   rw [form_d (by omega) (by omega) (by omega) (by omega), expo_f (by omega)]
   exact ⟨(), ow, rfl, by simp only [List.length_append, List.length_take, List.length_drop, List.length_cons, List.length_nil]; omega⟩
  refine SW_skip (n_then ?_)
  refine sr ?_
  refine os 1 ?_
  refine oV (.string (bS (D ++ [101]))) ?_ (hs := (fun δ w_ => run_catB D [101] (by first | omega | simp only [List.length_append, List.length_take, List.length_drop, List.length_cons, List.length_nil]; omega) rfl rfl))
  refine os 2 ?_
  have hil_ := Lib.itoa_length_le (p - 1) (by omega) (by omega)
  refine L (cl (str_ItoaN hL (p - 1) (by omega)) ?_)
  rintro _ _ rfl
  refine un ?_
  refine oV (.string (bS ((D ++ [101]) ++ (Lib.itoa (p - 1))))) ?_ (hs := (fun δ w_ => run_catB (D ++ [101]) (Lib.itoa (p - 1)) (by first | omega | simp only [List.length_append, List.length_take, List.length_drop, List.length_cons, List.length_nil]; omega) rfl rfl))
  refine os 1 ?_
  refine kp [2, 80, 72, 58, 43, 29, 5, 4, 3, 19, 12, 9, 6, 0] ?_
  refine nt ?_
  refine SW_ret ?_
  refine body_end (.string (bS ((D ++ [101]) ++ (Lib.itoa (p - 1))))) (fun _ => rfl) ?_
  rw [show printP0 a = formP D p from by rw [hD_, hp_]; unfold printP0; rw [if_neg (by omega), if_neg (by omega), if_neg (by omega)]]
  rw [form_e (by omega) (by omega) (by omega) (by omega), expo_f (by omega)]
  exact ⟨(), ow, rfl, by simp only [List.length_append, List.length_take, List.length_drop, List.length_cons, List.length_nil]; omega⟩
 replace hg24 : ¬ (p > 0) := hg24
 refine os 4 ?_
 refine kp [43, 29, 5, 4, 3, 19, 12, 9, 6, 2, 0] ?_
 refine nt ?_
 refine cf ?_
 refine sr ?_
 refine os 3 ?_
 refine tbp 61 (fun hg34 => ?_) (fun hg34 => ?_)
 ·replace hg34 : p > (-6) := hg34
  refine os 4 ?_
  refine kp [58, 43, 29, 5, 4, 3, 19, 12, 9, 6, 2, 0] ?_
  refine nt ?_
  refine cdp (fun hc35 : p ≤ 0 => ?_) (fun hc35 => ?_)
  ·refine sr ?_
   refine os 1 ?_
   refine oX (.int .i64 (IntKind.wrap .i64 (0 - p))) (.int .i64 (-p)) (congrArg (Value.int .i64) ((IntWalk.i64_in _ (by omega)).trans (Int.zero_sub _))) ?_
   have hrl_ : (Lib.repeatL [48] (-p).toNat).length ≤ 2000 := by rw [Lib.repeatL_length, show ([48] : List UInt8).length = 1 from rfl]; omega
   refine L (cl (str_RepeatZ [48] (c := -p) (by omega) (by decide)) ?_)
   rintro _ _ rfl
   refine un ?_
   refine oV (.string (bS ([48, 46] ++ (Lib.repeatL [48] (-p).toNat)))) ?_ (hs := (fun δ w_ => run_catB [48, 46] (Lib.repeatL [48] (-p).toNat) (by first | omega | simp only [List.length_append, List.length_take, List.length_drop, List.length_cons, List.length_nil]; omega) rfl rfl))
   refine os 1 ?_
   refine oV (.string (bS (([48, 46] ++ (Lib.repeatL [48] (-p).toNat)) ++ D))) ?_ (hs := (fun δ w_ => run_catB ([48, 46] ++ (Lib.repeatL [48] (-p).toNat)) D (by first | omega | simp only [List.length_append, List.length_take, List.length_drop, List.length_cons, List.length_nil]; omega) rfl rfl))
   refine os 1 ?_
   refine kp [2, 58, 43, 29, 5, 4, 3, 19, 12, 9, 6, 0] ?_
   refine nt ?_
   refine SW_ret (r_in (r_then ?_))
   refine body_end (.string (bS (([48, 46] ++ (Lib.repeatL [48] (-p).toNat)) ++ D))) (fun _ => rfl) ?_
   rw [show printP0 a = formP D p from by rw [hD_, hp_]; unfold printP0; rw [if_neg (by omega), if_neg (by omega), if_neg (by omega)]]
   rw [form_c (by omega) (by omega) (by omega)]
   exact ⟨(), ow, rfl, by simp only [List.length_append, List.length_take, List.length_drop, List.length_cons, List.length_nil]; omega⟩
  refine SW_skip (n_in (n_then ?_))
  refine SW_seq ?_
  refine sr ?_
  refine os 2 ?_
  refine nt ?_
  refine cdp (fun hc36 : (D.length : Int) > 1 => ?_) (fun hc36 => ?_)
  ·refine SW_draw [] [] (by kernel_rfl) rd_nil ?_
   refine aS 0 ?_
   refine tk 1 (.string (bS (D.take 1))) ?_ (hy := fun δ w => run_strTo (l := D) 1 .i64 Tryd.underlying9 rfl rfl (by omega) (by omega))
   refine tk 2 (.string (bS ((D.take 1) ++ [46]))) ?_ (hy := (fun δ w_ => run_catB (D.take 1) [46] (by first | omega | simp only [List.length_append, List.length_take, List.length_drop, List.length_cons, List.length_nil]; omega) rfl rfl))
   refine aS 3 ?_
   refine tk 4 (.string (bS (D.drop 1))) ?_ (hy := fun δ w => run_strFrom (l := D) 1 .i64 Tryd.underlying9 rfl rfl (by omega) (by omega))
   refine tk 5 (.string (bS (((D.take 1) ++ [46]) ++ (D.drop 1)))) ?_ (hy := (fun δ w_ => run_catB ((D.take 1) ++ [46]) (D.drop 1) (by first | omega | simp only [List.length_append, List.length_take, List.length_drop, List.length_cons, List.length_nil]; omega) rfl rfl))
   refine aS 6 ?_
   refine SA_done (by kernel_rfl) (n_then ?_)
   refine SW_seq ?_
   refine sr ?_
   refine os 2 ?_
   refine kp [80, 3, 72, 58, 43, 29, 5, 4, 19, 12, 9, 6, 2, 0] ?_
   refine nt ?_
   refine cdp (fun hc37 : p > 0 => ?_) (fun hc37 => ?_)
   ·refine sr ?_
    refine os 1 ?_
    refine oV (.string (bS ((((D.take 1) ++ [46]) ++ (D.drop 1)) ++ [101, 43]))) ?_ (hs := (fun δ w_ => run_catB (((D.take 1) ++ [46]) ++ (D.drop 1)) [101, 43] (by first | omega | simp only [List.length_append, List.length_take, List.length_drop, List.length_cons, List.length_nil]; omega) rfl rfl))
    refine os 2 ?_
    have hil_ := Lib.itoa_length_le (p - 1) (by omega) (by omega)
    refine L (cl (str_ItoaN hL (p - 1) (by omega)) ?_)
    rintro _ _ rfl
    refine un ?_
    refine oV (.string (bS (((((D.take 1) ++ [46]) ++ (D.drop 1)) ++ [101, 43]) ++ (Lib.itoa (p - 1))))) ?_ (hs := (fun δ w_ => run_catB ((((D.take 1) ++ [46]) ++ (D.drop 1)) ++ [101, 43]) (Lib.itoa (p - 1)) (by first | omega | simp only [List.length_append, List.length_take, List.length_drop, List.length_cons, List.length_nil]; omega) rfl rfl))
    refine os 1 ?_
    refine kp [2, 80, 3, 72, 58, 43, 29, 5, 4, 19, 12, 9, 6, 0] ?_
    refine nt ?_
    refine SW_ret (r_then ?_)
    refine body_end (.string (bS (((((D.take 1) ++ [46]) ++ (D.drop 1)) ++ [101, 43]) ++ (Lib.itoa (p - 1))))) (fun _ => rfl) ?_
    rw [show printP0 a = formP D p from by rw [hD_, hp_]; unfold printP0; rw [if_neg (by omega), if_neg (by omega), if_neg (by omega)]]
    rw [form_d (by omega) (by omega) (by omega) (by omega), expo_t (by omega)]
    exact ⟨(), ow, rfl, by simp only [List.length_append, List.length_take, List.length_drop, List.length_cons, List.length_nil]; omega⟩
   refine SW_skip (n_then ?_)
   refine sr ?_
   refine os 1 ?_
   refine oV (.string (bS ((((D.take 1) ++ [46]) ++ (D.drop 1)) ++ [101]))) ?_ (hs := (fun δ w_ => run_catB (((D.take 1) ++ [46]) ++ (D.drop 1)) [101] (by first | omega | simp only [List.length_append, List.length_take, List.length_drop, List.length_cons, List.length_nil]; omega) rfl rfl))
   refine os 2 ?_
   have hil_ := Lib.itoa_length_le (p - 1) (by omega) (by omega)
   refine L (cl (str_ItoaN hL (p - 1) (by omega)) ?_)
   rintro _ _ rfl
   refine un ?_
   refine oV (.string (bS (((((D.take 1) ++ [46]) ++ (D.drop 1)) ++ [101]) ++ (Lib.itoa (p - 1))))) ?_ (hs := (fun δ w_ => run_catB ((((D.take 1) ++ [46]) ++ (D.drop 1)) ++ [101]) (Lib.itoa (p - 1)) (by first | omega | simp only [List.length_append, List.length_take, List.length_drop, List.length_cons, List.length_nil]; omega) rfl rfl))
   refine os 1 ?_
   refine kp [2, 80, 3, 72, 58, 43, 29, 5, 4, 19, 12, 9, 6, 0] ?_
   refine nt ?_
   refine SW_ret ?_
   refine body_end (.string (bS (((((D.take 1) ++ [46]) ++ (D.drop 1)) ++ [101]) ++ (Lib.itoa (p - 1))))) (fun _ => rfl) ?_
   rw [show printP0 a = formP D p from by rw [hD_, hp_]; unfold printP0; rw [if_neg (by omega), if_neg (by omega), if_neg (by omega)]]
   rw [form_e (by omega) (by omega) (by omega) (by omega), expo_t (by omega)]
   exact ⟨(), ow, rfl, by simp only [List.length_append, List.length_take, List.length_drop, List.length_cons, List.length_nil]; omega⟩
  refine SW_skip (n_then ?_)
  refine SW_seq ?_
  refine sr ?_
  refine os 2 ?_
  refine nt ?_
  refine cdp (fun hc38 : p > 0 => ?_) (fun hc38 => ?_)
  ·refine sr ?_
   refine os 1 ?_
   refine oV (.string (bS (D ++ [101, 43]))) ?_ (hs := (fun δ w_ => run_catB D [101, 43] (by first | omega | simp only [List.length_append, List.length_take, List.length_drop, List.length_cons, List.length_nil]; omega) rfl rfl))
   refine os 2 ?_
   have hil_ := Lib.itoa_length_le (p - 1) (by omega) (by omega)
   refine L (cl (str_ItoaN hL (p - 1) (by omega)) ?_)
   rintro _ _ rfl
   refine un ?_
   refine oV (.string (bS ((D ++ [101, 43]) ++ (Lib.itoa (p - 1))))) ?_ (hs := (fun δ w_ => run_catB (D ++ [101, 43]) (Lib.itoa (p - 1)) (by first | omega | simp only [List.length_append, List.length_take, List.length_drop, List.length_cons, List.length_nil]; omega) rfl rfl))
   refine os 1 ?_
   refine kp [2, 80, 72, 58, 43, 29, 5, 4, 3, 19, 12, 9, 6, 0] ?_
   refine nt ?_
   refine SW_ret (r_then ?_)
   refine body_end (.string (bS ((D ++ [101, 43]) ++ (Lib.itoa (p - 1))))) (fun _ => rfl) ?_
   rw [show printP0 a = formP D p from by rw [hD_, hp_]; unfold printP0; rw [if_neg (by omega), if_neg (by omega), if_neg (by omega)]]
   rw [form_d (by omega) (by omega) (by omega) (by omega), expo_f (by omega)]
   exact ⟨(), ow, rfl, by simp only [List.length_append, List.length_take, List.length_drop, List.length_cons, List.length_nil]; omega⟩
  refine SW_skip (n_then ?_)
  refine sr ?_
  refine os 1 ?_
  refine oV (.string (bS (D ++ [101]))) ?_ (hs := (fun δ w_ => run_catB D [101] (by first | omega | simp only [List.length_append, List.length_take, List.length_drop, List.length_cons, List.length_nil]; omega) rfl rfl))
  refine os 2 ?_
  have hil_ := Lib.itoa_length_le (p - 1) (by omega) (by omega)
  refine L (cl (str_ItoaN hL (p - 1) (by omega)) ?_)
  rintro _ _ rfl
  refine un ?_
  refine oV (.string (bS ((D ++ [101]) ++ (Lib.itoa (p - 1))))) ?_ (hs := (fun δ w_ => run_catB (D ++ [101]) (Lib.itoa (p - 1)) (by first | omega | simp only [List.length_append, List.length_take, List.length_drop, List.length_cons, List.length_nil]; omega) rfl rfl))
  refine os 1 ?_
  refine kp [2, 80, 72, 58, 43, 29, 5, 4, 3, 19, 12, 9, 6, 0] ?_
  refine nt ?_
  refine SW_ret ?_
  refine body_end (.string (bS ((D ++ [101]) ++ (Lib.itoa (p - 1))))) (fun _ => rfl) ?_
  rw [show printP0 a = formP D p from by rw [hD_, hp_]; unfold printP0; rw [if_neg (by omega), if_neg (by omega), if_neg (by omega)]]
  rw [form_e (by omega) (by omega) (by omega) (by omega), expo_f (by omega)]
  exact ⟨(), ow, rfl, by simp only [List.length_append, List.length_take, List.length_drop, List.length_cons, List.length_nil]; omega⟩
 replace hg34 : ¬ (p > (-6)) := hg34
 refine os 4 ?_
 refine kp [58, 43, 29, 5, 4, 3, 19, 12, 9, 6, 2, 0] ?_
 refine nt ?_
 refine cf ?_
 refine SW_skip (n_in (n_then ?_))
 refine SW_seq ?_
 refine sr ?_
 refine os 2 ?_
 refine nt ?_
 refine cdp (fun hc39 : (D.length : Int) > 1 => ?_) (fun hc39 => ?_)
 ·refine SW_draw [] [] (by kernel_rfl) rd_nil ?_
  refine aS 0 ?_
  refine tk 1 (.string (bS (D.take 1))) ?_ (hy := fun δ w => run_strTo (l := D) 1 .i64 Tryd.underlying9 rfl rfl (by omega) (by omega))
  refine tk 2 (.string (bS ((D.take 1) ++ [46]))) ?_ (hy := (fun δ w_ => run_catB (D.take 1) [46] (by first | omega | simp only [List.length_append, List.length_take, List.length_drop, List.length_cons, List.length_nil]; omega) rfl rfl))
  refine aS 3 ?_
  refine tk 4 (.string (bS (D.drop 1))) ?_ (hy := fun δ w => run_strFrom (l := D) 1 .i64 Tryd.underlying9 rfl rfl (by omega) (by omega))
  refine tk 5 (.string (bS (((D.take 1) ++ [46]) ++ (D.drop 1)))) ?_ (hy := (fun δ w_ => run_catB ((D.take 1) ++ [46]) (D.drop 1) (by first | omega | simp only [List.length_append, List.length_take, List.length_drop, List.length_cons, List.length_nil]; omega) rfl rfl))
  refine aS 6 ?_
  refine SA_done (by kernel_rfl) (n_then ?_)
  refine SW_seq ?_
  refine sr ?_
  refine os 2 ?_
  refine kp [80, 3, 72, 58, 43, 29, 5, 4, 19, 12, 9, 6, 2, 0] ?_
  refine nt ?_
  refine cdp (fun hc40 : p > 0 => ?_) (fun hc40 => ?_)
  ·refine sr ?_
   refine os 1 ?_
   refine oV (.string (bS ((((D.take 1) ++ [46]) ++ (D.drop 1)) ++ [101, 43]))) ?_ (hs := (fun δ w_ => run_catB (((D.take 1) ++ [46]) ++ (D.drop 1)) [101, 43] (by first | omega | simp only [List.length_append, List.length_take, List.length_drop, List.length_cons, List.length_nil]; omega) rfl rfl))
   refine os 2 ?_
   have hil_ := Lib.itoa_length_le (p - 1) (by omega) (by omega)
   refine L (cl (str_ItoaN hL (p - 1) (by omega)) ?_)
   rintro _ _ rfl
   refine un ?_
   refine oV (.string (bS (((((D.take 1) ++ [46]) ++ (D.drop 1)) ++ [101, 43]) ++ (Lib.itoa (p - 1))))) ?_ (hs := (fun δ w_ => run_catB ((((D.take 1) ++ [46]) ++ (D.drop 1)) ++ [101, 43]) (Lib.itoa (p - 1)) (by first | omega | simp only [List.length_append, List.length_take, List.length_drop, List.length_cons, List.length_nil]; omega) rfl rfl))
   refine os 1 ?_
   refine kp [2, 80, 3, 72, 58, 43, 29, 5, 4, 19, 12, 9, 6, 0] ?_
   refine nt ?_
   refine SW_ret (r_then ?_)
   refine body_end (.string (bS (((((D.take 1) ++ [46]) ++ (D.drop 1)) ++ [101, 43]) ++ (Lib.itoa (p - 1))))) (fun _ => rfl) ?_
   rw [show printP0 a = formP D p from by rw [hD_, hp_]; unfold printP0; rw [if_neg (by omega), if_neg (by omega), if_neg (by omega)]]
   rw [form_d (by omega) (by omega) (by omega) (by omega), expo_t (by omega)]
   exact ⟨(), ow, rfl, by simp only [List.length_append, List.length_take, List.length_drop, List.length_cons, List.length_nil]; omega⟩
  refine SW_skip (n_then ?_)
  refine sr ?_
  refine os 1 ?_
  refine oV (.string (bS ((((D.take 1) ++ [46]) ++ (D.drop 1)) ++ [101]))) ?_ (hs := (fun δ w_ => run_catB (((D.take 1) ++ [46]) ++ (D.drop 1)) [101] (by first | omega | simp only [List.length_append, List.length_take, List.length_drop, List.length_cons, List.length_nil]; omega) rfl rfl))
  refine os 2 ?_
  have hil_ := Lib.itoa_length_le (p - 1) (by omega) (by omega)
  refine L (cl (str_ItoaN hL (p - 1) (by omega)) ?_)
  rintro _ _ rfl
  refine un ?_
  refine oV (.string (bS (((((D.take 1) ++ [46]) ++ (D.drop 1)) ++ [101]) ++ (Lib.itoa (p - 1))))) ?_ (hs := (fun δ w_ => run_catB ((((D.take 1) ++ [46]) ++ (D.drop 1)) ++ [101]) (Lib.itoa (p - 1)) (by first | omega | simp only [List.length_append, List.length_take, List.length_drop, List.length_cons, List.length_nil]; omega) rfl rfl))
  refine os 1 ?_
  refine kp [2, 80, 3, 72, 58, 43, 29, 5, 4, 19, 12, 9, 6, 0] ?_
  refine nt ?_
  refine SW_ret ?_
  refine body_end (.string (bS (((((D.take 1) ++ [46]) ++ (D.drop 1)) ++ [101]) ++ (Lib.itoa (p - 1))))) (fun _ => rfl) ?_
  rw [show printP0 a = formP D p from by rw [hD_, hp_]; unfold printP0; rw [if_neg (by omega), if_neg (by omega), if_neg (by omega)]]
  rw [form_e (by omega) (by omega) (by omega) (by omega), expo_t (by omega)]
  exact ⟨(), ow, rfl, by simp only [List.length_append, List.length_take, List.length_drop, List.length_cons, List.length_nil]; omega⟩
 refine SW_skip (n_then ?_)
 refine SW_seq ?_
 refine sr ?_
 refine os 2 ?_
 refine nt ?_
 refine cdp (fun hc41 : p > 0 => ?_) (fun hc41 => ?_)
 ·refine sr ?_
  refine os 1 ?_
  refine oV (.string (bS (D ++ [101, 43]))) ?_ (hs := (fun δ w_ => run_catB D [101, 43] (by first | omega | simp only [List.length_append, List.length_take, List.length_drop, List.length_cons, List.length_nil]; omega) rfl rfl))
  refine os 2 ?_
  have hil_ := Lib.itoa_length_le (p - 1) (by omega) (by omega)
  refine L (cl (str_ItoaN hL (p - 1) (by omega)) ?_)
  rintro _ _ rfl
  refine un ?_
  refine oV (.string (bS ((D ++ [101, 43]) ++ (Lib.itoa (p - 1))))) ?_ (hs := (fun δ w_ => run_catB (D ++ [101, 43]) (Lib.itoa (p - 1)) (by first | omega | simp only [List.length_append, List.length_take, List.length_drop, List.length_cons, List.length_nil]; omega) rfl rfl))
  refine os 1 ?_
  refine kp [2, 80, 72, 58, 43, 29, 5, 4, 3, 19, 12, 9, 6, 0] ?_
  refine nt ?_
  refine SW_ret (r_then ?_)
  refine body_end (.string (bS ((D ++ [101, 43]) ++ (Lib.itoa (p - 1))))) (fun _ => rfl) ?_
  rw [show printP0 a = formP D p from by rw [hD_, hp_]; unfold printP0; rw [if_neg (by omega), if_neg (by omega), if_neg (by omega)]]
  rw [form_d (by omega) (by omega) (by omega) (by omega), expo_f (by omega)]
  exact ⟨(), ow, rfl, by simp only [List.length_append, List.length_take, List.length_drop, List.length_cons, List.length_nil]; omega⟩
 refine SW_skip (n_then ?_)
 refine sr ?_
 refine os 1 ?_
 refine oV (.string (bS (D ++ [101]))) ?_ (hs := (fun δ w_ => run_catB D [101] (by first | omega | simp only [List.length_append, List.length_take, List.length_drop, List.length_cons, List.length_nil]; omega) rfl rfl))
 refine os 2 ?_
 have hil_ := Lib.itoa_length_le (p - 1) (by omega) (by omega)
 refine L (cl (str_ItoaN hL (p - 1) (by omega)) ?_)
 rintro _ _ rfl
 refine un ?_
 refine oV (.string (bS ((D ++ [101]) ++ (Lib.itoa (p - 1))))) ?_ (hs := (fun δ w_ => run_catB (D ++ [101]) (Lib.itoa (p - 1)) (by first | omega | simp only [List.length_append, List.length_take, List.length_drop, List.length_cons, List.length_nil]; omega) rfl rfl))
 refine os 1 ?_
 refine kp [2, 80, 72, 58, 43, 29, 5, 4, 3, 19, 12, 9, 6, 0] ?_
 refine nt ?_
 refine SW_ret ?_
 refine body_end (.string (bS ((D ++ [101]) ++ (Lib.itoa (p - 1))))) (fun _ => rfl) ?_
 rw [show printP0 a = formP D p from by rw [hD_, hp_]; unfold printP0; rw [if_neg (by omega), if_neg (by omega), if_neg (by omega)]]
 rw [form_e (by omega) (by omega) (by omega) (by omega), expo_f (by omega)]
 exact ⟨(), ow, rfl, by simp only [List.length_append, List.length_take, List.length_drop, List.length_cons, List.length_nil]; omega⟩

theorem pr_neg {W0 : World} {a : Nat} {R} (h : 9223372036854775808 ≤ a) (hc : SC Tryd.prog W0 25 #[.int .u64 ((a - 9223372036854775808 : Nat) : Int)] [] R) : SC Tryd.prog W0 25 #[.int .u64 ((a : Int) - 9223372036854775808)] [] R := by rw [show ((a : Int) - 9223372036854775808) = ((a - 9223372036854775808 : Nat) : Int) from by omega]; exact hc

theorem num_Print1 {W0 : World} (hL : LaidN W0) {a : Nat} (h0 : 9223372036854775808 ≤ a) (ha : a < 18446744073709551616) : SC Tryd.prog W0 25 #[.int .u64 (a : Int)] [] (Ret (fun _ : Unit => []) (fun v _ => v = .string (bS (printP a)) ∧ (printP a).length ≤ 6000)) := by
 refine SC_body (fn := Tryd.f25) (n := 93) Tryd.func25 rfl (by kernel_rfl) (ρ := [(0, .int .u64 (a : Int))]) rfl ?_
 have hka_ := kind_all a
 refine sr ?_
 refine os 1 ?_
 refine nq ?_
 refine SW_block ?_
 refine sr ?_
 refine os 1 ?_
 have his_ := num_IsNaN (W0 := W0) (a := a) (by omega)
 refine L (cl (his_) ?_)
 rintro v1 _ hv1
 obtain rfl : v1 = .bool (kindP a == 3) := hv1.trans (rfl)
 refine un ?_
 refine os 1 ?_
 refine nt ?_
 refine cd (fun hc1 : (kindP a == 3) = true => ?_) (fun hc1 => ?_)
 ·simp only [beq_iff_eq, bne_iff_ne, ne_eq, beq_eq_false_iff_ne, bne_eq_false_iff_eq, Classical.not_not] at hc1
  refine sr ?_
  refine os 1 ?_
  refine nt ?_
  refine SW_ret (r_in (r_then ?_))
  refine body_end (.string (bS [78, 97, 78])) (fun _ => rfl) ?_
  rw [show printP a = [78, 97, 78] from (by unfold printP; rw [if_pos (by omega)])]
  exact ⟨(), ow, rfl, by simp only [List.length_append, List.length_cons, List.length_nil]; omega⟩
 simp only [beq_iff_eq, bne_iff_ne, ne_eq, beq_eq_false_iff_ne, bne_eq_false_iff_eq, Classical.not_not] at hc1
 refine sr ?_
 refine os 1 ?_
 have his_ := num_Equal0 (W0 := W0) (a := a) (by omega)
 refine L (cl (his_) ?_)
 rintro v2 _ hv2
 obtain rfl : v2 = .bool (kindP a == 0) := hv2.trans (rfl)
 refine un ?_
 refine os 1 ?_
 refine kp [9, 6, 2, 0] ?_
 refine nt ?_
 refine cd (fun hc2 : (kindP a == 0) = true => ?_) (fun hc2 => ?_)
 ·simp only [beq_iff_eq, bne_iff_ne, ne_eq, beq_eq_false_iff_ne, bne_eq_false_iff_eq, Classical.not_not] at hc2
  refine sr ?_
  refine os 1 ?_
  refine nt ?_
  refine SW_ret (r_in (r_then ?_))
  refine body_end (.string (bS [48])) (fun _ => rfl) ?_
  rw [show printP a = [48] from (by unfold printP; rw [if_neg (by omega), if_pos (by omega)])]
  exact ⟨(), ow, rfl, by simp only [List.length_append, List.length_cons, List.length_nil]; omega⟩
 simp only [beq_iff_eq, bne_iff_ne, ne_eq, beq_eq_false_iff_ne, bne_eq_false_iff_eq, Classical.not_not] at hc2
 refine sr ?_
 refine os 3 ?_
 refine nt ?_
 refine SW_true (fun _ => (congrArg Value.bool (show (decide ((a : Int) ≥ 9223372036854775808)) = true from (decide_eq_true (by omega))))) ?_
 refine sr ?_
 refine os 2 ?_
 refine L (cl (pr_neg h0 (num_Print0 hL (a := a - 9223372036854775808) (by omega))) ?_)
 rintro _ _ ⟨rfl, hpl_⟩
 refine un ?_
 refine oV (.string (bS ([45] ++ (printP0 (a - 9223372036854775808))))) ?_ (hs := (fun δ w_ => run_catB [45] (printP0 (a - 9223372036854775808)) (by simp only [List.length_cons, List.length_nil]; omega) rfl rfl))
 refine os 1 ?_
 refine kp [2, 12, 9, 6, 0] ?_
 refine nt ?_
 refine SW_ret (r_in (r_then ?_))
 refine body_end (.string (bS ([45] ++ (printP0 (a - 9223372036854775808))))) (fun _ => rfl) ?_
 rw [show printP a = ([45] ++ (printP0 (a - 9223372036854775808))) from (by unfold printP; rw [if_neg (by omega), if_neg (by omega), if_pos (by omega)])]
 exact ⟨(), ow, rfl, by simp only [List.length_append, List.length_cons, List.length_nil]; omega⟩

theorem num_Print {W0 : World} (hL : LaidN W0) {a : Nat} (ha : a < 18446744073709551616) : SC Tryd.prog W0 25 #[.int .u64 (a : Int)] [] (Ret (fun _ : Unit => []) (fun v _ => v = .string (bS (printP a)) ∧ (printP a).length ≤ 6000)) := by
 rcases Nat.lt_or_ge a 9223372036854775808 with h | h
 · refine SC.mono (num_Print0 hL h) ?_
   rintro v _ ⟨x, hw, hv, hl⟩
   rw [← printP_small h] at hv hl
   exact ⟨x, hw, hv, by omega⟩
 · exact num_Print1 hL h ha

end Go.Proofs.YtnhmmjogfkjceaaDoor
namespace Go.Proofs.YtnhmmjogfkjceaaDoor
open Go.Sl

theorem law_alive2 {W0 : World} (hL : LaidN W0) : SC Tryd.prog W0 15 #[] [] (Ret (fun _ : Unit => []) (fun v _ => v = .bool true)) := by
 refine SC_body (fn := Tryd.f15) (n := 20) Tryd.func15 rfl (by kernel_rfl) (ρ := []) rfl ?_
 refine sr ?_
 refine os 1 ?_
 refine nsr ?_
 have hli_ := num_Literal (W0 := W0) (X := [48, 120, 49, 48]) (by decide)
 rw [alive_lit] at hli_
 refine L (cl (hli_) ?_)
 rintro v1 _ hv1
 obtain rfl : v1 = .tuple #[.int .u64 4625196817309499392, .bool true] := hv1.trans (rfl)
 refine un ?_
 refine os 5 ?_
 refine kp [2, 1, 0] ?_
 refine nsr ?_
 have hpi_ := num_Print (W0 := W0) hL (a := 4599075939470750516) (by decide)
 rw [alive_print] at hpi_
 refine L (cl (hpi_) ?_)
 rintro v2 _ ⟨hv2, hpl_⟩
 obtain rfl : v2 = .string (bS [48, 46, 51, 48, 48, 48, 48, 48, 48, 48, 48, 48, 48, 48, 48, 48, 48, 48, 52]) := hv2.trans (rfl)
 refine un ?_
 refine oV (.bool true) ?_ (hs := (fun δ w_ => by kernel_rfl))
 refine os 1 ?_
 have hre_ := num_Read (W0 := W0) (X := [32, 49, 46, 53, 10]) (by decide)
 rw [alive_read] at hre_
 refine L (cl (hre_) ?_)
 rintro v3 _ hv3
 obtain rfl : v3 = .int .u64 4609434218613702656 := hv3.trans (rfl)
 refine un ?_
 refine oV (.bool true) ?_
 refine os 6 ?_
 refine oV (.bool true) ?_
 refine os 2 ?_
 refine kp [0, 2, 1] ?_
 refine nt ?_
 refine SW_ret ?_
 refine body_end (.bool true) (fun _ => rfl) ?_
 exact ⟨(), ow, congrArg Value.bool (by decide)⟩

theorem law_NumtextBlanks {W0 : World} (hL : LaidN W0) {X bs : Bytes} {A : Option Addr} {c : Nat} (hX : X.length ≤ 1048576) (hh : bs.length ≤ 1048576) (hq : ∀ σ, Src W0 σ A (bs.map u8N)) : SC Tryd.prog W0 8 #[.string (bS X), .slice A bs.length c] [] (Ret (fun _ : Unit => []) (fun v _ => v = .bool true)) := by
 refine SC_body (fn := Tryd.f8) (n := 98) Tryd.func8 rfl (by kernel_rfl) (ρ := [(0, .string (bS X)), (1, .slice A bs.length c)]) rfl ?_
 refine sr ?_
 refine os 1 ?_
 refine nq ?_
 refine sr ?_
 refine os 1 ?_
 refine oX (.int .i64 ((bS X).size : Int)) (.int .i64 (X.length : Int)) (congrArg (fun n_ : Nat => Value.int .i64 (n_ : Int)) (bS_size _)) ?_
 refine os 2 ?_
 refine tbp 14 (fun hg1 => ?_) (fun hg1 => ?_)
 ·replace hg1 : (X.length : Int) > 4096 := hg1
  refine os 4 ?_
  refine kp [18, 4, 0, 1] ?_
  refine nt ?_
  refine ct ?_
  refine sr ?_
  refine L (cl (law_alive2 hL) ?_)
  rintro _ _ rfl
  refine un ?_
  refine os 1 ?_
  refine nt ?_
  refine SW_ret (r_then ?_)
  refine body_end (.bool true) (fun _ => rfl) ?_
  exact ⟨(), ow, rfl⟩
 replace hg1 : ¬ ((X.length : Int) > 4096) := hg1
 refine os 4 ?_
 refine kp [18, 4, 0, 1] ?_
 refine nt ?_
 refine cdp (fun hc2 : (bs.length : Int) > 4096 => ?_) (fun hc2 => ?_)
 ·refine sr ?_
  refine L (cl (law_alive2 hL) ?_)
  rintro _ _ rfl
  refine un ?_
  refine os 1 ?_
  refine nt ?_
  refine SW_ret (r_then ?_)
  refine body_end (.bool true) (fun _ => rfl) ?_
  exact ⟨(), ow, rfl⟩
 refine SW_skip (n_then ?_)
 refine sr ?_
 refine os 1 ?_
 refine nq ?_
 refine sr ?_
 refine os 1 ?_
 refine nt ?_
 refine SW_block ?_
 refine SW_loop (α := Nat × Bytes) (fun z_ ρ_ σ_ => Fits ρ_ σ_ [(0, .string (bS X)), (1, .slice A bs.length c), (5, .string (bS z_.2)), (6, .int .i64 (z_.1 : Int))] ([]) ∧ z_.1 ≤ bs.length ∧ z_.2 = (bs.take z_.1).map blk3) (fun z_ => bs.length - z_.1) (0, ([] : Bytes)) ⟨⟨fun _ => rfl, ow⟩, Nat.zero_le _, rfl⟩ ?_
 rintro ⟨i, x⟩ ρ_ σ_ ⟨hfit, hi0, hi1⟩
 refine SW_fits hfit ?_
 clear hfit
 simp only [] at hi0 hi1 ⊢
 have hxl_ : x.length ≤ 4096 := by rw [hi1, List.length_map, List.length_take]; omega
 refine SW_seq ?_
 refine sr ?_
 refine os 4 ?_
 refine kp [23, 0, 1, 5, 6] ?_
 refine nt ?_
 refine cdp (fun hc3 : (i : Int) < (bs.length : Int) => ?_) (fun hc3 => ?_)
 ·refine SW_skip (n_then ?_)
  refine SW_seq ?_
  refine SW_block ?_
  refine SW_seq ?_
  obtain ⟨b0_, o0_, rfl, hqb0_⟩ := (hq []).resolve_left (by rw [List.length_map]; omega)
  obtain ⟨e1, he1⟩ : ∃ y_, bs[i]? = some y_ := ⟨_, List.getElem?_eq_getElem (by omega)⟩
  have hcb_ : e1.toNat < 256 := e1.toNat_lt
  have hl3_ : ([9, 10, 32] : Bytes).length = 3 := rfl
  refine SW_region ?_
  refine os 2 ?_
  refine L (O_indexAddr' (i : Int) (o0_ + i) b0_ o0_ bs.length c .i64 1 Tryd.underlying31 (by kernel_rfl) (fun _ => rfl) (fun _ => rfl) (by omega) (by omega) (by omega) rfl ?_)
  refine L (ld ?_ (hc := Cell.mono (hqb0_ _ _ (map_cell he1 rfl)) (fun e he => absurd he List.not_mem_nil)))
  refine os 1 ?_
  refine oX (.int .i64 (Int.tmod (e1.toNat : Int) 3)) (.int .i64 ((e1.toNat : Int) % 3)) (congrArg (Value.int .i64) (rem_nn (by first | omega | exact Int.natCast_nonneg _))) ?_
  refine os 1 ?_
  refine kp [7, 23, 0, 1, 5, 6] ?_
  refine nr ?_
  refine os 4 ?_
  refine L (O_val (.string (bS (([9, 10, 32].take (((e1.toNat : Int) % 3) + 1).toNat).drop ((e1.toNat : Int) % 3).toNat))) rfl (fun δ w _ => run_strMid (l := [9, 10, 32]) ((e1.toNat : Int) % 3) (((e1.toNat : Int) % 3) + 1) .i64 .i64 Tryd.underlying9 rfl rfl rfl (by omega) (by omega) (by omega)) ?_)
  rw [show (((e1.toNat : Int) % 3) + 1).toNat = (e1.toNat % 3 + 1) from by omega, show ((e1.toNat : Int) % 3).toNat = (e1.toNat % 3) from by omega]
  refine oV (.string (bS (x ++ (([9, 10, 32].take (e1.toNat % 3 + 1)).drop (e1.toNat % 3))))) ?_ (hs := (fun δ w_ => run_catB x (([9, 10, 32].take (e1.toNat % 3 + 1)).drop (e1.toNat % 3)) (by first | omega | (simp only [List.length_append, List.length_cons, List.length_nil, List.length_take, List.length_drop]; omega)) rfl rfl))
  refine os 1 ?_
  refine kp [5, 7, 23, 0, 1, 6] ?_
  refine SL_nil (n_in (n_then ?_))
  refine SW_region ?_
  refine os 3 ?_
  refine nt ?_
  exact ⟨(i + 1, x ++ (([9, 10, 32].take (e1.toNat % 3 + 1)).drop (e1.toNat % 3))), by simp only []; omega, ⟨fun _ => rfl, ow⟩, by simp only []; omega, by simp only []; rw [hi1]; exact blk_step he1⟩
 refine SW_exit (x_then (x_then (x_in (n_then ?_))))
 refine SW_seq ?_
 have hxb_ : ∀ d ∈ x, isBl d = true := by rw [hi1]; exact blks_bl
 refine SW_region ?_
 refine os 1 ?_
 refine L (cl (num_Read (X := X) (by first | omega | (simp; omega))) ?_)
 rintro _ _ rfl
 refine un ?_
 refine os 1 ?_
 refine nq ?_
 refine sr ?_
 refine os 2 ?_
 refine oV (.string (bS (x ++ X))) ?_ (hs := (fun δ w_ => run_catB x X (by first | omega | (simp only [List.length_append, List.length_cons, List.length_nil, List.length_take, List.length_drop]; omega)) rfl rfl))
 refine os 1 ?_
 refine oV (.string (bS ((x ++ X) ++ x))) ?_ (hs := (fun δ w_ => run_catB (x ++ X) x (by first | omega | (simp only [List.length_append, List.length_cons, List.length_nil, List.length_take, List.length_drop]; omega)) rfl rfl))
 refine kp [44, 8, 23, 0, 1, 5, 6] ?_
 refine L (cl (num_Read (X := (x ++ X) ++ x) (by first | omega | (simp; omega))) ?_)
 rintro _ _ rfl
 refine un ?_
 refine os 2 ?_
 refine kp [47, 8, 23, 0, 1, 5, 6] ?_
 refine nt ?_
 refine SW_false (fun _ => (congrArg Value.bool (show ((readP ((x ++ X) ++ x) : Int) != (readP X : Int)) = false from (by rw [read_blanks hxb_]; simp)))) ?_
 refine SW_skip (n_then ?_)
 refine SW_seq ?_
 refine sr ?_
 refine os 1 ?_
 refine oX (.int .i64 ((bS X).size : Int)) (.int .i64 (X.length : Int)) (congrArg (fun n_ : Nat => Value.int .i64 (n_ : Int)) (bS_size _)) ?_
 refine os 2 ?_
 refine tbp 51 (fun hg4 => ?_) (fun hg4 => ?_)
 ·replace hg4 : (X.length : Int) > 0 := hg4
  refine os 1 ?_
  obtain ⟨e2, he2⟩ : ∃ y_, X[0]? = some y_ := ⟨_, List.getElem?_eq_getElem (by omega)⟩
  refine ixb 0 X .i64 e2 Tryd.underlying9 he2 ?_
  refine os 3 ?_
  refine kp [56, 47, 8, 23, 0, 1, 5, 6] ?_
  refine tbp 56 (fun hg5 => ?_) (fun hg5 => ?_)
  ·replace hg5 : (e2.toNat : Int) ≥ 49 := hg5
   refine os 1 ?_
   refine ixb 0 X .i64 e2 Tryd.underlying9 he2 ?_
   refine os 3 ?_
   refine tbp 61 (fun hg6 => ?_) (fun hg6 => ?_)
   ·replace hg6 : (e2.toNat : Int) ≤ 57 := hg6
    refine os 3 ?_
    refine kp [64, 47, 8, 23, 0, 1, 5, 6] ?_
    refine nt ?_
    refine cd (fun hc7 : ((readP X : Int) != 9221120237041090560) = true => ?_) (fun hc7 => ?_)
    ·simp only [beq_iff_eq, bne_iff_ne, ne_eq, beq_eq_false_iff_ne, bne_eq_false_iff_eq, Classical.not_not] at hc7
     refine SW_seq ?_
     have hX0_ := cons_of_at he2
     have hdg_ : 49 ≤ e2.toNat ∧ e2.toNat ≤ 57 := by omega
     have hna_ : readP X ≠ 9221120237041090560 := by omega
     have hrm_ : readP ([45] ++ X) = readP X + 9223372036854775808 ∧ readP X < 9223372036854775808 := by have q_ := read_minus (X := X.drop 1) hdg_ (by rw [← hX0_]; exact hna_); rw [← hX0_] at q_; exact q_
     have hrp_ : readP ((x ++ [43]) ++ X) = readP X := by have q_ := read_plus (X := X.drop 1) hxb_ hdg_ (by rw [← hX0_]; exact hna_); rw [← hX0_] at q_; exact q_
     have hrs_ : x ≠ [] → readP (([45] ++ x) ++ X) = 9221120237041090560 := by intro hx_; have q_ := read_split (X := X.drop 1) hxb_ hx_ hdg_; rw [← hX0_] at q_; exact q_
     refine SW_region ?_
     refine os 1 ?_
     refine oV (.string (bS ([45] ++ X))) ?_ (hs := (fun δ w_ => run_catB [45] X (by first | omega | (simp only [List.length_append, List.length_cons, List.length_nil, List.length_take, List.length_drop]; omega)) rfl rfl))
     refine L (cl (num_Read (X := [45] ++ X) (by first | omega | (simp; omega))) ?_)
     rintro _ _ rfl
     refine un ?_
     refine os 1 ?_
     refine kp [9, 64, 47, 8, 23, 0, 1, 5, 6] ?_
     refine nsr ?_
     refine os 1 ?_
     refine oV (.string (bS (x ++ [43]))) ?_ (hs := (fun δ w_ => run_catB x [43] (by first | omega | (simp only [List.length_append, List.length_cons, List.length_nil, List.length_take, List.length_drop]; omega)) rfl rfl))
     refine os 1 ?_
     refine oV (.string (bS ((x ++ [43]) ++ X))) ?_ (hs := (fun δ w_ => run_catB (x ++ [43]) X (by first | omega | (simp only [List.length_append, List.length_cons, List.length_nil, List.length_take, List.length_drop]; omega)) rfl rfl))
     refine L (cl (num_Read (X := (x ++ [43]) ++ X) (by first | omega | (simp; omega))) ?_)
     rintro _ _ rfl
     refine un ?_
     refine os 1 ?_
     refine kp [10, 9, 64, 47, 8, 23, 0, 1, 5, 6] ?_
     refine nsr ?_
     refine L (cl (law_alive2 hL) ?_)
     rintro _ _ rfl
     refine un ?_
     refine os 3 ?_
     refine oV (.int .u64 ((readP X + 9223372036854775808 : Nat) : Int)) ?_ (hs := xorR (m := (readP X : Int)) (c := 9223372036854775808) _ (xor63 (readP X) hrm_.2))
     refine os 3 ?_
     refine kp [80, 10, 9, 64, 47, 8, 23, 0, 1, 5, 6] ?_
     refine pn 80 (show ((readP ([45] ++ X) : Int) == ((readP X + 9223372036854775808 : Nat) : Int)) = true from (beq_iff_eq.2 (by rw [hrm_.1]))) ?_
     refine os 5 ?_
     refine pn 85 (show ((readP ((x ++ [43]) ++ X) : Int) == (readP X : Int)) = true from (beq_iff_eq.2 (by rw [hrp_]))) ?_
     refine os 1 ?_
     refine oX (.bool ((bS x).toList == (bS []).toList)) (.bool (decide (x = []))) (congrArg Value.bool (by rw [strB_eq])) ?_
     refine os 1 ?_
     refine kp [88, 85, 10, 9, 64, 47, 8, 23, 0, 1, 5, 6] ?_
     refine tbp 88 (fun hg10 => ?_) (fun hg10 => ?_)
     ·replace hg10 : x = [] := hg10
      refine os 9 ?_
      refine kp [4, 10, 9, 64, 47, 8, 23, 0, 1, 5, 6] ?_
      refine nt ?_
      refine SW_ret (r_then ?_)
      refine body_end (.bool true) (fun _ => rfl) ?_
      exact ⟨(), ow, rfl⟩
     replace hg10 : ¬ (x = []) := hg10
     refine os 1 ?_
     refine oV (.string (bS ([45] ++ x))) ?_ (hs := (fun δ w_ => run_catB [45] x (by first | omega | (simp only [List.length_append, List.length_cons, List.length_nil, List.length_take, List.length_drop]; omega)) rfl rfl))
     refine os 1 ?_
     refine oV (.string (bS (([45] ++ x) ++ X))) ?_ (hs := (fun δ w_ => run_catB ([45] ++ x) X (by first | omega | (simp only [List.length_append, List.length_cons, List.length_nil, List.length_take, List.length_drop]; omega)) rfl rfl))
     refine L (cl (num_Read (X := ([45] ++ x) ++ X) (by first | omega | (simp; omega))) ?_)
     rintro _ _ rfl
     refine un ?_
     refine os 4 ?_
     refine kp [4, 10, 9, 64, 47, 8, 23, 0, 1, 5, 6] ?_
     refine nt ?_
     refine SW_ret (r_then ?_)
     refine body_end (.bool ((readP (([45] ++ x) ++ X) : Int) == 9221120237041090560)) (fun _ => rfl) ?_
     exact ⟨(), ow, congrArg Value.bool (beq_iff_eq.2 (by rw [hrs_ (by assumption)]; rfl))⟩
    simp only [beq_iff_eq, bne_iff_ne, ne_eq, beq_eq_false_iff_ne, bne_eq_false_iff_eq, Classical.not_not] at hc7
    refine SW_skip (n_then ?_)
    refine sr ?_
    refine L (cl (law_alive2 hL) ?_)
    rintro _ _ rfl
    refine un ?_
    refine os 1 ?_
    refine nt ?_
    refine SW_ret ?_
    refine body_end (.bool true) (fun _ => rfl) ?_
    exact ⟨(), ow, rfl⟩
   replace hg6 : ¬ ((e2.toNat : Int) ≤ 57) := hg6
   refine os 3 ?_
   refine kp [64, 47, 8, 23, 0, 1, 5, 6] ?_
   refine nt ?_
   refine cf ?_
   refine SW_skip (n_then ?_)
   refine sr ?_
   refine L (cl (law_alive2 hL) ?_)
   rintro _ _ rfl
   refine un ?_
   refine os 1 ?_
   refine nt ?_
   refine SW_ret ?_
   refine body_end (.bool true) (fun _ => rfl) ?_
   exact ⟨(), ow, rfl⟩
  replace hg5 : ¬ ((e2.toNat : Int) ≥ 49) := hg5
  refine os 8 ?_
  refine kp [64, 47, 8, 23, 0, 1, 5, 6] ?_
  refine nt ?_
  refine cf ?_
  refine SW_skip (n_then ?_)
  refine sr ?_
  refine L (cl (law_alive2 hL) ?_)
  rintro _ _ rfl
  refine un ?_
  refine os 1 ?_
  refine nt ?_
  refine SW_ret ?_
  refine body_end (.bool true) (fun _ => rfl) ?_
  exact ⟨(), ow, rfl⟩
 replace hg4 : ¬ ((X.length : Int) > 0) := hg4
 refine os 13 ?_
 refine kp [64, 47, 8, 23, 0, 1, 5, 6] ?_
 refine nt ?_
 refine cf ?_
 refine SW_skip (n_then ?_)
 refine sr ?_
 refine L (cl (law_alive2 hL) ?_)
 rintro _ _ rfl
 refine un ?_
 refine os 1 ?_
 refine nt ?_
 refine SW_ret ?_
 refine body_end (.bool true) (fun _ => rfl) ?_
 exact ⟨(), ow, rfl⟩

end Go.Proofs.YtnhmmjogfkjceaaDoor
namespace Go.Proofs.YtnhmmjogfkjceaaDoor
open Go.Sl Go.ChangeShapes Go.WideShapes Go.ChangeAt Go.RowKit

theorem NumtextBlanks_contract (H : Type) (enc : TypeId × Value → H) (W : World) (base : Nat) (args : Array Value) (ds gs : List (DataW H)) (before : List MemPlace)
   (hval : ∀ (j : Nat) t v, Tryd.f8.params[j]? = some t → args[j]? = some v → Value.okWide Tryd.prog W .any base t v)
   (hW : DataW.Whole enc Tryd.prog Tryd.f8.params.toList Rows.numtextBlanksSpec.vars false W args.toList ds gs before) (hk : Rows.uptoSmall H (ds ++ gs) = true) (hLd : laidMetH Tryd.prog Rows.numtextBlanksUptoRow.laid W) (hsh : W.ShapedOpen Tryd.prog) :
   Calls Tryd.prog 8 args W fun e W' => ∃ v, e = .returned v ∧ Rows.numtextBlanksSpec.post enc Tryd.prog Tryd.f8 false true false false W args v W' := by
 have hL := laid_num hLd hsh
 have hW' := hW
 obtain ⟨p, q, hA0, hV, rfl, hfz, hnd⟩ := hW
 have hA : DataW.TrodAll enc Tryd.prog W 0 (fun _ => true) true Tryd.f8.params.toList args.toList ds p := hA0
 rw [Tryd.params8] at hA hval
 obtain ⟨v0, vs0, d0, ds0, p0, q0, hargs, rfl, rfl, h0, r0⟩ := trodAll_cons hA
 obtain ⟨v1, vs1, d1, ds1, p1, q1, rfl, rfl, rfl, h1, r1⟩ := trodAll_cons r0
 obtain ⟨rfl, rfl, rfl⟩ := trodAll_nil r1
 obtain rfl : args = #[v0, v1] := by cases args; simp_all
 obtain ⟨rfl, rfl⟩ := trodVars_none hV
 obtain ⟨x0, rfl, hz0⟩ := arg_strB hk (by simp) (hval 0 9 v0 rfl rfl) h0
 obtain ⟨A1, c1, x1, rfl, hs1, hl1⟩ := arg_bytes (hval 1 31 v1 rfl rfl) h1 hk (by simp)
 refine (calls_law (law_NumtextBlanks hL hz0 hl1 hs1)).mono fun e W' ⟨he, hb⟩ => ?_
 subst he
 exact ⟨_, rfl, post_law (tb := 4) hW' (by rw [Tryd.params8]; decide) rfl rfl rfl rfl rfl Tryd.underlying4 hb⟩

theorem NumtextBlanks_reads (os : Os) {H : Type} (enc : TypeId × Value → H) : ∃ places, DataW.whole enc Tryd.prog ((laidWorldN os).forCall (fun _ _ => 0) ⟨#[], #[.string .empty, .slice none 0 0], []⟩).memory Tryd.f8.params.toList Rows.numtextBlanksSpec.vars false #[.string .empty, .slice none 0 0].toList 8 = some ([.lit (.string []), .nil], [], places) :=
 ⟨[], by kernel_rfl⟩
theorem NumtextBlanks_lifted (os : Os) (started : os.Started) (H : Type) (enc : TypeId × Value → H) (F : Stop.Interp) :
   ReturnsInHanded {} Tryd.checked os 8 .any ((Rows.OpenSpec.upto Rows.numtextBlanksSpec).preRow enc Tryd.prog Tryd.f8 Rows.numtextBlanksUptoRow.domain false Rows.numtextBlanksUptoRow.laid) (((Rows.OpenSpec.upto Rows.numtextBlanksSpec).at F).post enc Tryd.prog Tryd.f8 false true false false) := by
 obtain ⟨places, hx⟩ := NumtextBlanks_reads os enc
 refine returnsInHanded_of_row (C := Tryd.checked) (s := Rows.OpenSpec.upto Rows.numtextBlanksSpec) rown started (by kernel_rfl) Tryd.func8
   (witness_row_atRef (enc := enc) (C := Tryd.checked) false (laidWorldN os) #[.string .empty, .slice none 0 0] rfl (by kernel_rfl) (by kernel_rfl) (by kernel_rfl)
     (OpenSpec.preRow_of_cond 8 hx (by kernel_rfl) (fun k hk => by cases hk; kernel_rfl) (by kernel_rfl) (laid_metN os _))) ?_
 intro W base args ds gs before hval hW _ hcond _ hL hsh _
 exact NumtextBlanks_contract H enc W base args ds gs before hval hW (hcond _ rfl) hL hsh

theorem NumtextBlanks_row : Rows.NumtextBlanksUptoSaid :=
 OpenClaim.holds_of_cond 8 Tryd.f8 rfl rfl rfl rfl rfl rfl rfl ⟨rfl, rfl, rfl, rfl, rfl⟩ rfl rfl rfl rfl rfl (by kernel_rfl) Tryd.func8 (by kernel_rfl)
   (of_decide_eq_true (by kernel_rfl)) (by unfold Func.isWrapper; first | (rw [if_pos (by decide +kernel)]; kernel_rfl) | (rw [if_neg (by decide +kernel)]; exact ⟨rfl, rfl⟩))
   (fun os started H enc _ F => by rw [OpenClaim.pre_eq_preRow]; exact NumtextBlanks_lifted os started H enc F)
theorem NumtextBlanks_plain (f : FuncId) (fn : Func) (hf : Tryd.pinned.checked.prog.funcNamed "brazier/brazierlaw02.NumtextBlanks" = some f) (hfn : Tryd.pinned.checked.prog.funcs[f]? = some fn) :
   false = Tryd.pinned.checked.prog.looks [] ∧ ∀ (j : Nat) t, fn.params[j]? = some t → Tryd.pinned.checked.prog.wantsStandIn t = false := by
 obtain rfl : f = 8 := Option.some.inj ((show Tryd.prog.funcNamed "brazier/brazierlaw02.NumtextBlanks" = some 8 by kernel_rfl).symm.trans hf) |>.symm
 obtain rfl : fn = Tryd.f8 := (Option.some.inj (Tryd.func8.symm.trans hfn)).symm
 refine ⟨by kernel_rfl, fun j t ht => ?_⟩
 rw [Tryd.params8] at ht
 have hm : t = 9 ∨ t = 31 := by simpa using Array.mem_of_getElem? ht
 rcases hm with rfl | rfl
 · exact (show Tryd.prog.wantsStandIn 9 = false by kernel_rfl)
 · exact (show Tryd.prog.wantsStandIn 31 = false by kernel_rfl)
theorem NumtextBlanks_proved : Rows.NumtextBlanksUptoCardSaid :=
 Claim7.holds_tied_plain_at .later [] _ _ _ _ NumtextBlanks_row (fun _ h => by cases h) (by kernel_rfl) (fun _ h => by cases h) numtextBlanksUpto_row_tie rfl ⟨rfl, rfl⟩ (by kernel_rfl) rfl NumtextBlanks_plain (by kernel_rfl)
end Go.Proofs.YtnhmmjogfkjceaaDoor
