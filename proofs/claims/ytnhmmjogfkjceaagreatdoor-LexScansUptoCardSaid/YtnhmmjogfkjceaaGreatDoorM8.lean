/-
  LexScans, within the bound on what it reads, and tied to the program's text: it returns true whatever it is given, and leaves its arguments as they were. Conditions: the arguments' bulk is at most 1048576; the listed library variables stand as their text lays them, as the statement says.
-/
import Derived.Test.YtnhmmjogfkjceaaGreatDoorProg
import Derived.Test.YtnhmmjogfkjceaaGreatDoorM7
import Derived.Test.YtnhmmjogfkjceaaGreatDoorM2
set_option linter.unusedVariables false
set_option linter.unusedSimpArgs false
set_option maxRecDepth 100000
set_option maxHeartbeats 4000000
namespace Go.Proofs.YtnhmmjogfkjceaaGreatDoor
open Go.Sl

theorem r5_number {W0 : World} {X : Bytes} (hX : X.length ≤ 1048576) (h0 : 0 < X.length) : SC Tryz.prog W0 64 #[.string (bS X)] [] (Ret (fun _ : Unit => []) (fun v _ => v = .int .i64 (numE X 0 : Int))) := by
 refine SC_body (fn := Tryz.f64) (n := 85) Tryz.func64 rfl (by kernel_rfl) (ρ := [(0, .string (bS X))]) rfl ?_
 refine sr ?_
 refine os 1 ?_
 refine nsr ?_
 refine os 1 ?_
 refine nq ?_
 refine sr ?_
 refine os 1 ?_
 obtain ⟨e1, he1⟩ : ∃ y_, X[0]? = some y_ := ⟨_, List.getElem?_eq_getElem (by omega)⟩
 refine ixb 0 X .i64 e1 Tryz.underlying9 he1 ?_
 refine os 2 ?_
 refine tb 7 (fun hg1 => ?_) (fun hg1 => ?_)
 ·replace hg1 : ((e1.toNat : Int) == 48) = true := hg1
  simp only [beq_iff_eq, bne_iff_ne, ne_eq, beq_eq_false_iff_ne, bne_eq_false_iff_eq, Classical.not_not] at hg1
  refine os 1 ?_
  refine L (cl (r5_AtZ (X := X) (n := 1) (z := 1) (by omega) (by omega)) ?_)
  rintro _ _ rfl
  refine un ?_
  refine os 2 ?_
  refine kp [11, 3, 2, 0] ?_
  refine nt ?_
  refine cd (fun hc2 : (((atB X 1).toNat : Int) == 120) = true => ?_) (fun hc2 => ?_)
  ·simp only [beq_iff_eq, bne_iff_ne, ne_eq, beq_eq_false_iff_ne, bne_eq_false_iff_eq, Classical.not_not] at hc2
   refine SW_seq ?_
   have hn0_ := atB_some he1
   have hne_ : numE X 0 = runL isHx X 2 := numE_hex ⟨by rw [hn0_]; omega, by rw [Nat.zero_add]; omega⟩
   refine SW_region ?_
   refine os 1 ?_
   refine nq ?_
   refine SW_block ?_
   refine SW_loop (α := Nat) (fun z_ ρ_ σ_ => Fits ρ_ σ_ [(0, .string (bS X)), (3, .int .i64 (z_ : Int))] ([]) ∧ z_ ≤ X.length ∧ runL isHx X z_ = runL isHx X 2) (fun z_ => X.length - z_) 2 ⟨⟨fun _ => rfl, ow⟩, by have := atB_lt (X := X) (n := 1) (by omega); omega, rfl⟩ ?_
   rintro n ρ_ σ_ ⟨hfit, hi0, hi1⟩
   refine SW_fits hfit ?_
   clear hfit
   refine SW_seq ?_
   refine sr ?_
   refine os 2 ?_
   refine oX (.int .i64 ((bS X).size : Int)) (.int .i64 (X.length : Int)) (congrArg (fun n_ : Nat => Value.int .i64 (n_ : Int)) (bS_size _)) ?_
   refine os 2 ?_
   refine tbp 16 (fun hg3 => ?_) (fun hg3 => ?_)
   ·replace hg3 : (n : Int) < (X.length : Int) := hg3
    refine os 2 ?_
    obtain ⟨e2, he2⟩ : ∃ y_, X[n]? = some y_ := ⟨_, List.getElem?_eq_getElem (by omega)⟩
    refine ixb (n : Int) X .i64 e2 Tryz.underlying9 he2 ?_
    refine L (cl (r5_Nibble (c := e2)) ?_)
    rintro _ _ rfl
    refine un ?_
    refine os 2 ?_
    refine kp [22, 0, 3] ?_
    refine nt ?_
    refine cdp (fun hc4 : (nibZ e2) ≥ 0 => ?_) (fun hc4 => ?_)
    ·refine SW_skip (n_then ?_)
     refine SW_block ?_
     refine SW_region ?_
     refine os 3 ?_
     refine SL_nil (n_in (n_then ?_))
     rw [show (n : Int) + 1 = ((n + 1 : Nat) : Int) from by omega]
     exact ⟨n + 1, by omega, ⟨fun _ => rfl, ow⟩, by omega, (runL_step he2 (nibZ_of (by omega)).1).symm.trans hi1⟩
    refine SW_exit (x_then (x_then (x_in (n_then ?_))))
    refine sr ?_
    refine os 2 ?_
    refine nt ?_
    refine SW_ret (r_then ?_)
    refine body_end (.int .i64 (n : Int)) (fun _ => rfl) ?_
    have hst_ : runL isHx X n = n := runL_stop he2 (nibZ_neg.1 (by omega))
    exact ⟨(), ow, by rw [hne_, ← hi1, hst_]⟩
   replace hg3 : ¬ ((n : Int) < (X.length : Int)) := hg3
   refine os 6 ?_
   refine kp [22, 0, 3] ?_
   refine nt ?_
   refine cf ?_
   refine SW_exit (x_then (x_then (x_in (n_then ?_))))
   refine sr ?_
   refine os 2 ?_
   refine nt ?_
   refine SW_ret (r_then ?_)
   refine body_end (.int .i64 (n : Int)) (fun _ => rfl) ?_
   have hst_ : runL isHx X n = n := runL_end (by omega)
   exact ⟨(), ow, by rw [hne_, ← hi1, hst_]⟩
  simp only [beq_iff_eq, bne_iff_ne, ne_eq, beq_eq_false_iff_ne, bne_eq_false_iff_eq, Classical.not_not] at hc2
  refine SW_skip (n_then ?_)
  refine SW_seq ?_
  have hn0_ := atB_some he1
  have hne_ : numE X 0 = numEx X (numFr X (runL isDig X 0)) := numE_dec (by rw [hn0_, Nat.zero_add]; omega)
  refine SW_region ?_
  refine os 1 ?_
  have htw7_ := takeWhile_len isDig X
  refine L (cl (r2_Digits (X := X) (by first | omega | (simp; omega))) ?_)
  rintro _ _ rfl
  refine un ?_
  refine os 1 ?_
  refine nq ?_
  refine SW_seq ?_
  obtain ⟨m, hm_⟩ : ∃ m, m = runL isDig X 0 := ⟨_, rfl⟩
  have hml_ : m ≤ X.length := by rw [hm_]; exact runL_le (Nat.zero_le _)
  rw [show (((X.takeWhile isDig).length : Nat) : Int) = (m : Int) from by rw [hm_, ← run0, List.drop_zero, Nat.zero_add]]
  rw [← hm_] at hne_
  refine SW_cut3 (fun ρ_ σ_ => Fits ρ_ σ_ [(0, .string (bS X)), (3, .int .i64 (numFr X m : Int))] ([])) ?_ ?_
  ·refine SW_region ?_
   refine os 2 ?_
   refine L (cl (r5_AtZ (X := X) (n := m) (z := (m : Int)) (by omega) (by omega)) ?_)
   rintro _ _ rfl
   refine un ?_
   refine os 2 ?_
   refine tb 32 (fun hg5 => ?_) (fun hg5 => ?_)
   ·replace hg5 : (((atB X m).toNat : Int) == 46) = true := hg5
    simp only [beq_iff_eq, bne_iff_ne, ne_eq, beq_eq_false_iff_ne, bne_eq_false_iff_eq, Classical.not_not] at hg5
    refine os 3 ?_
    refine L (cl (r5_AtZ (X := X) (n := (m + 1)) (z := (m : Int) + 1) (by omega) (by omega)) ?_)
    rintro _ _ rfl
    refine un ?_
    refine os 3 ?_
    refine kp [39, 0, 3] ?_
    refine tbp 39 (fun hg6 => ?_) (fun hg6 => ?_)
    ·replace hg6 : ((atB X (m + 1)).toNat : Int) ≥ 48 := hg6
     refine os 3 ?_
     refine L (cl (r5_AtZ (X := X) (n := (m + 1)) (z := (m : Int) + 1) (by omega) (by omega)) ?_)
     rintro _ _ rfl
     refine un ?_
     refine os 2 ?_
     refine kp [45, 0, 3] ?_
     refine nt ?_
     refine cdp (fun hc7 : ((atB X (m + 1)).toNat : Int) ≤ 57 => ?_) (fun hc7 => ?_)
     ·have hml2_ : m + 1 < X.length := atB_lt (by omega)
      have hdl_ : (X.drop (m + 1)).length + (m + 1) = X.length := by rw [List.length_drop]; omega
      refine SW_region ?_
      refine os 5 ?_
      refine L (O_val (.string (bS (X.drop ((m : Int) + 1).toNat))) rfl (fun δ w _ => run_strFrom (l := X) ((m : Int) + 1) .i64 Tryz.underlying9 rfl rfl (by omega) (by omega)) ?_)
      rw [show ((m : Int) + 1).toNat = (m + 1) from by omega]
      have htw9_ := takeWhile_len isDig (X.drop (m + 1))
      refine L (cl (r2_Digits (X := (X.drop (m + 1))) (by first | omega | (simp; omega))) ?_)
      rintro _ _ rfl
      refine un ?_
      refine os 2 ?_
      refine kp [3, 45, 0] ?_
      refine nt ?_
      have hfr_ := fr_yes (X := X) (t := m) (by omega) (by omega) (by omega)
      rw [hfr_, ← run0]
      rw [show ((m + 1 + ((X.drop (m + 1)).takeWhile isDig).length : Nat) : Int) = ((m : Int) + 1) + ((((X.drop (m + 1)).takeWhile isDig).length : Nat) : Int) from by omega]
      exact ⟨fun _ => rfl, ow⟩
     refine SW_skip (n_then ?_)
     rw [fr_no (X := X) (t := m) (by omega)]
     exact ⟨fun _ => rfl, ow⟩
    replace hg6 : ¬ (((atB X (m + 1)).toNat : Int) ≥ 48) := hg6
    refine os 6 ?_
    refine kp [45, 0, 3] ?_
    refine nt ?_
    refine cf ?_
    refine SW_skip (n_then ?_)
    rw [fr_no (X := X) (t := m) (by omega)]
    exact ⟨fun _ => rfl, ow⟩
   replace hg5 : (((atB X m).toNat : Int) == 46) = false := hg5
   simp only [beq_iff_eq, bne_iff_ne, ne_eq, beq_eq_false_iff_ne, bne_eq_false_iff_eq, Classical.not_not] at hg5
   refine os 13 ?_
   refine kp [45, 0, 3] ?_
   refine nt ?_
   refine cf ?_
   refine SW_skip (n_then ?_)
   rw [fr_no (X := X) (t := m) (by omega)]
   exact ⟨fun _ => rfl, ow⟩
  ·rintro ρ_ σ_ hfit
   refine SW_fits hfit ?_
   clear hfit
   refine SW_seq ?_
   refine SW_seq ?_
   have hfl_ := numFr_le hml_
   generalize hf_ : numFr X m = n at *
   refine SW_region ?_
   refine os 2 ?_
   refine L (cl (r5_AtZ (X := X) (n := n) (z := (n : Int)) (by omega) (by omega)) ?_)
   rintro _ _ rfl
   refine un ?_
   refine os 2 ?_
   refine tb 58 (fun hg8 => ?_) (fun hg8 => ?_)
   ·replace hg8 : (((atB X n).toNat : Int) == 101) = true := hg8
    simp only [beq_iff_eq, bne_iff_ne, ne_eq, beq_eq_false_iff_ne, bne_eq_false_iff_eq, Classical.not_not] at hg8
    refine os 5 ?_
    refine kp [63, 0, 3] ?_
    refine nt ?_
    refine ct ?_
    refine sr ?_
    refine os 3 ?_
    refine nq ?_
    refine SW_seq ?_
    have hxl_ : n < X.length := atB_lt (by omega)
    rw [show (n : Int) + 1 = ((n + 1 : Nat) : Int) from by omega]
    refine SW_cut3 (fun ρ_ σ_ => Fits ρ_ σ_ [(0, .string (bS X)), (3, .int .i64 (numSg X (n + 1) : Int))] ([])) ?_ ?_
    ·refine SW_region ?_
     refine os 2 ?_
     refine L (cl (r5_AtZ (X := X) (n := (n + 1)) (z := ((n + 1 : Nat) : Int)) (by omega) (by omega)) ?_)
     rintro _ _ rfl
     refine un ?_
     refine os 2 ?_
     refine tb 70 (fun hg9 => ?_) (fun hg9 => ?_)
     ·replace hg9 : (((atB X (n + 1)).toNat : Int) == 43) = true := hg9
      simp only [beq_iff_eq, bne_iff_ne, ne_eq, beq_eq_false_iff_ne, bne_eq_false_iff_eq, Classical.not_not] at hg9
      refine os 5 ?_
      refine kp [75, 0, 3] ?_
      refine nt ?_
      refine ct ?_
      refine SW_region ?_
      refine os 3 ?_
      refine nt ?_
      rw [sg_yes (X := X) (t := n + 1) (by omega), show ((n + 1 + 1 : Nat) : Int) = ((n + 1 : Nat) : Int) + 1 from by omega]
      exact ⟨fun _ => rfl, ow⟩
     replace hg9 : (((atB X (n + 1)).toNat : Int) == 43) = false := hg9
     simp only [beq_iff_eq, bne_iff_ne, ne_eq, beq_eq_false_iff_ne, bne_eq_false_iff_eq, Classical.not_not] at hg9
     refine os 2 ?_
     refine L (cl (r5_AtZ (X := X) (n := (n + 1)) (z := ((n + 1 : Nat) : Int)) (by omega) (by omega)) ?_)
     rintro _ _ rfl
     refine un ?_
     refine os 2 ?_
     refine kp [75, 0, 3] ?_
     refine nt ?_
     refine cd (fun hc10 : (((atB X (n + 1)).toNat : Int) == 45) = true => ?_) (fun hc10 => ?_)
     ·simp only [beq_iff_eq, bne_iff_ne, ne_eq, beq_eq_false_iff_ne, bne_eq_false_iff_eq, Classical.not_not] at hc10
      refine SW_region ?_
      refine os 3 ?_
      refine nt ?_
      rw [sg_yes (X := X) (t := n + 1) (by omega), show ((n + 1 + 1 : Nat) : Int) = ((n + 1 : Nat) : Int) + 1 from by omega]
      exact ⟨fun _ => rfl, ow⟩
     simp only [beq_iff_eq, bne_iff_ne, ne_eq, beq_eq_false_iff_ne, bne_eq_false_iff_eq, Classical.not_not] at hc10
     refine SW_skip (n_then ?_)
     rw [sg_no (X := X) (t := n + 1) (by omega)]
     exact ⟨fun _ => rfl, ow⟩
    ·rintro ρ_ σ_ hfit
     refine SW_fits hfit ?_
     clear hfit
     have hsl_ := numSg_le (X := X) (t := n + 1) (by omega)
     have hex_ := ex_yes (X := X) (t := n) (by omega)
     generalize numSg X (n + 1) = k at *
     have hdk_ : (X.drop k).length + k = X.length := by rw [List.length_drop]; omega
     refine SW_region ?_
     refine os 3 ?_
     refine L (O_val (.string (bS (X.drop ((k : Int)).toNat))) rfl (fun δ w _ => run_strFrom (l := X) (k : Int) .i64 Tryz.underlying9 rfl rfl (by omega) (by omega)) ?_)
     rw [show ((k : Int)).toNat = k from by omega]
     have htw14_ := takeWhile_len isDig (X.drop k)
     refine L (cl (r2_Digits (X := (X.drop k)) (by first | omega | (simp; omega))) ?_)
     rintro _ _ rfl
     refine un ?_
     refine os 2 ?_
     refine kp [3, 0] ?_
     refine nsr ?_
     refine os 2 ?_
     refine nt ?_
     refine SW_ret ?_
     refine body_end (.int .i64 ((k : Int) + ((((X.drop k).takeWhile isDig).length : Nat) : Int))) (fun _ => rfl) ?_
     rw [hne_, hex_, ← run0]
     exact ⟨(), ow, congrArg (Value.int .i64) (by omega)⟩
   replace hg8 : (((atB X n).toNat : Int) == 101) = false := hg8
   simp only [beq_iff_eq, bne_iff_ne, ne_eq, beq_eq_false_iff_ne, bne_eq_false_iff_eq, Classical.not_not] at hg8
   refine os 2 ?_
   refine L (cl (r5_AtZ (X := X) (n := n) (z := (n : Int)) (by omega) (by omega)) ?_)
   rintro _ _ rfl
   refine un ?_
   refine os 2 ?_
   refine kp [63, 0, 3] ?_
   refine nt ?_
   refine cd (fun hc11 : (((atB X n).toNat : Int) == 69) = true => ?_) (fun hc11 => ?_)
   ·simp only [beq_iff_eq, bne_iff_ne, ne_eq, beq_eq_false_iff_ne, bne_eq_false_iff_eq, Classical.not_not] at hc11
    refine sr ?_
    refine os 3 ?_
    refine nq ?_
    refine SW_seq ?_
    have hxl_ : n < X.length := atB_lt (by omega)
    rw [show (n : Int) + 1 = ((n + 1 : Nat) : Int) from by omega]
    refine SW_cut3 (fun ρ_ σ_ => Fits ρ_ σ_ [(0, .string (bS X)), (3, .int .i64 (numSg X (n + 1) : Int))] ([])) ?_ ?_
    ·refine SW_region ?_
     refine os 2 ?_
     refine L (cl (r5_AtZ (X := X) (n := (n + 1)) (z := ((n + 1 : Nat) : Int)) (by omega) (by omega)) ?_)
     rintro _ _ rfl
     refine un ?_
     refine os 2 ?_
     refine tb 70 (fun hg12 => ?_) (fun hg12 => ?_)
     ·replace hg12 : (((atB X (n + 1)).toNat : Int) == 43) = true := hg12
      simp only [beq_iff_eq, bne_iff_ne, ne_eq, beq_eq_false_iff_ne, bne_eq_false_iff_eq, Classical.not_not] at hg12
      refine os 5 ?_
      refine kp [75, 0, 3] ?_
      refine nt ?_
      refine ct ?_
      refine SW_region ?_
      refine os 3 ?_
      refine nt ?_
      rw [sg_yes (X := X) (t := n + 1) (by omega), show ((n + 1 + 1 : Nat) : Int) = ((n + 1 : Nat) : Int) + 1 from by omega]
      exact ⟨fun _ => rfl, ow⟩
     replace hg12 : (((atB X (n + 1)).toNat : Int) == 43) = false := hg12
     simp only [beq_iff_eq, bne_iff_ne, ne_eq, beq_eq_false_iff_ne, bne_eq_false_iff_eq, Classical.not_not] at hg12
     refine os 2 ?_
     refine L (cl (r5_AtZ (X := X) (n := (n + 1)) (z := ((n + 1 : Nat) : Int)) (by omega) (by omega)) ?_)
     rintro _ _ rfl
     refine un ?_
     refine os 2 ?_
     refine kp [75, 0, 3] ?_
     refine nt ?_
     refine cd (fun hc13 : (((atB X (n + 1)).toNat : Int) == 45) = true => ?_) (fun hc13 => ?_)
     ·simp only [beq_iff_eq, bne_iff_ne, ne_eq, beq_eq_false_iff_ne, bne_eq_false_iff_eq, Classical.not_not] at hc13
      refine SW_region ?_
      refine os 3 ?_
      refine nt ?_
      rw [sg_yes (X := X) (t := n + 1) (by omega), show ((n + 1 + 1 : Nat) : Int) = ((n + 1 : Nat) : Int) + 1 from by omega]
      exact ⟨fun _ => rfl, ow⟩
     simp only [beq_iff_eq, bne_iff_ne, ne_eq, beq_eq_false_iff_ne, bne_eq_false_iff_eq, Classical.not_not] at hc13
     refine SW_skip (n_then ?_)
     rw [sg_no (X := X) (t := n + 1) (by omega)]
     exact ⟨fun _ => rfl, ow⟩
    ·rintro ρ_ σ_ hfit
     refine SW_fits hfit ?_
     clear hfit
     have hsl_ := numSg_le (X := X) (t := n + 1) (by omega)
     have hex_ := ex_yes (X := X) (t := n) (by omega)
     generalize numSg X (n + 1) = k at *
     have hdk_ : (X.drop k).length + k = X.length := by rw [List.length_drop]; omega
     refine SW_region ?_
     refine os 3 ?_
     refine L (O_val (.string (bS (X.drop ((k : Int)).toNat))) rfl (fun δ w _ => run_strFrom (l := X) (k : Int) .i64 Tryz.underlying9 rfl rfl (by omega) (by omega)) ?_)
     rw [show ((k : Int)).toNat = k from by omega]
     have htw14_ := takeWhile_len isDig (X.drop k)
     refine L (cl (r2_Digits (X := (X.drop k)) (by first | omega | (simp; omega))) ?_)
     rintro _ _ rfl
     refine un ?_
     refine os 2 ?_
     refine kp [3, 0] ?_
     refine nsr ?_
     refine os 2 ?_
     refine nt ?_
     refine SW_ret ?_
     refine body_end (.int .i64 ((k : Int) + ((((X.drop k).takeWhile isDig).length : Nat) : Int))) (fun _ => rfl) ?_
     rw [hne_, hex_, ← run0]
     exact ⟨(), ow, congrArg (Value.int .i64) (by omega)⟩
   simp only [beq_iff_eq, bne_iff_ne, ne_eq, beq_eq_false_iff_ne, bne_eq_false_iff_eq, Classical.not_not] at hc11
   refine SW_skip (n_then ?_)
   refine sr ?_
   refine os 2 ?_
   refine nt ?_
   refine SW_ret ?_
   refine body_end (.int .i64 (n : Int)) (fun _ => rfl) ?_
   rw [hne_, ex_no (X := X) (t := n) (by omega)]
   exact ⟨(), ow, rfl⟩
 replace hg1 : ((e1.toNat : Int) == 48) = false := hg1
 simp only [beq_iff_eq, bne_iff_ne, ne_eq, beq_eq_false_iff_ne, bne_eq_false_iff_eq, Classical.not_not] at hg1
 refine os 4 ?_
 refine kp [11, 3, 2, 0] ?_
 refine nt ?_
 refine cf ?_
 refine SW_skip (n_then ?_)
 refine SW_seq ?_
 have hn0_ := atB_some he1
 have hne_ : numE X 0 = numEx X (numFr X (runL isDig X 0)) := numE_dec (by rw [hn0_, Nat.zero_add]; omega)
 refine SW_region ?_
 refine os 1 ?_
 have htw7_ := takeWhile_len isDig X
 refine L (cl (r2_Digits (X := X) (by first | omega | (simp; omega))) ?_)
 rintro _ _ rfl
 refine un ?_
 refine os 1 ?_
 refine nq ?_
 refine SW_seq ?_
 obtain ⟨m, hm_⟩ : ∃ m, m = runL isDig X 0 := ⟨_, rfl⟩
 have hml_ : m ≤ X.length := by rw [hm_]; exact runL_le (Nat.zero_le _)
 rw [show (((X.takeWhile isDig).length : Nat) : Int) = (m : Int) from by rw [hm_, ← run0, List.drop_zero, Nat.zero_add]]
 rw [← hm_] at hne_
 refine SW_cut3 (fun ρ_ σ_ => Fits ρ_ σ_ [(0, .string (bS X)), (3, .int .i64 (numFr X m : Int))] ([])) ?_ ?_
 ·refine SW_region ?_
  refine os 2 ?_
  refine L (cl (r5_AtZ (X := X) (n := m) (z := (m : Int)) (by omega) (by omega)) ?_)
  rintro _ _ rfl
  refine un ?_
  refine os 2 ?_
  refine tb 32 (fun hg14 => ?_) (fun hg14 => ?_)
  ·replace hg14 : (((atB X m).toNat : Int) == 46) = true := hg14
   simp only [beq_iff_eq, bne_iff_ne, ne_eq, beq_eq_false_iff_ne, bne_eq_false_iff_eq, Classical.not_not] at hg14
   refine os 3 ?_
   refine L (cl (r5_AtZ (X := X) (n := (m + 1)) (z := (m : Int) + 1) (by omega) (by omega)) ?_)
   rintro _ _ rfl
   refine un ?_
   refine os 3 ?_
   refine kp [39, 0, 3] ?_
   refine tbp 39 (fun hg15 => ?_) (fun hg15 => ?_)
   ·replace hg15 : ((atB X (m + 1)).toNat : Int) ≥ 48 := hg15
    refine os 3 ?_
    refine L (cl (r5_AtZ (X := X) (n := (m + 1)) (z := (m : Int) + 1) (by omega) (by omega)) ?_)
    rintro _ _ rfl
    refine un ?_
    refine os 2 ?_
    refine kp [45, 0, 3] ?_
    refine nt ?_
    refine cdp (fun hc16 : ((atB X (m + 1)).toNat : Int) ≤ 57 => ?_) (fun hc16 => ?_)
    ·have hml2_ : m + 1 < X.length := atB_lt (by omega)
     have hdl_ : (X.drop (m + 1)).length + (m + 1) = X.length := by rw [List.length_drop]; omega
     refine SW_region ?_
     refine os 5 ?_
     refine L (O_val (.string (bS (X.drop ((m : Int) + 1).toNat))) rfl (fun δ w _ => run_strFrom (l := X) ((m : Int) + 1) .i64 Tryz.underlying9 rfl rfl (by omega) (by omega)) ?_)
     rw [show ((m : Int) + 1).toNat = (m + 1) from by omega]
     have htw9_ := takeWhile_len isDig (X.drop (m + 1))
     refine L (cl (r2_Digits (X := (X.drop (m + 1))) (by first | omega | (simp; omega))) ?_)
     rintro _ _ rfl
     refine un ?_
     refine os 2 ?_
     refine kp [3, 45, 0] ?_
     refine nt ?_
     have hfr_ := fr_yes (X := X) (t := m) (by omega) (by omega) (by omega)
     rw [hfr_, ← run0]
     rw [show ((m + 1 + ((X.drop (m + 1)).takeWhile isDig).length : Nat) : Int) = ((m : Int) + 1) + ((((X.drop (m + 1)).takeWhile isDig).length : Nat) : Int) from by omega]
     exact ⟨fun _ => rfl, ow⟩
    refine SW_skip (n_then ?_)
    rw [fr_no (X := X) (t := m) (by omega)]
    exact ⟨fun _ => rfl, ow⟩
   replace hg15 : ¬ (((atB X (m + 1)).toNat : Int) ≥ 48) := hg15
   refine os 6 ?_
   refine kp [45, 0, 3] ?_
   refine nt ?_
   refine cf ?_
   refine SW_skip (n_then ?_)
   rw [fr_no (X := X) (t := m) (by omega)]
   exact ⟨fun _ => rfl, ow⟩
  replace hg14 : (((atB X m).toNat : Int) == 46) = false := hg14
  simp only [beq_iff_eq, bne_iff_ne, ne_eq, beq_eq_false_iff_ne, bne_eq_false_iff_eq, Classical.not_not] at hg14
  refine os 13 ?_
  refine kp [45, 0, 3] ?_
  refine nt ?_
  refine cf ?_
  refine SW_skip (n_then ?_)
  rw [fr_no (X := X) (t := m) (by omega)]
  exact ⟨fun _ => rfl, ow⟩
 ·rintro ρ_ σ_ hfit
  refine SW_fits hfit ?_
  clear hfit
  refine SW_seq ?_
  refine SW_seq ?_
  have hfl_ := numFr_le hml_
  generalize hf_ : numFr X m = n at *
  refine SW_region ?_
  refine os 2 ?_
  refine L (cl (r5_AtZ (X := X) (n := n) (z := (n : Int)) (by omega) (by omega)) ?_)
  rintro _ _ rfl
  refine un ?_
  refine os 2 ?_
  refine tb 58 (fun hg17 => ?_) (fun hg17 => ?_)
  ·replace hg17 : (((atB X n).toNat : Int) == 101) = true := hg17
   simp only [beq_iff_eq, bne_iff_ne, ne_eq, beq_eq_false_iff_ne, bne_eq_false_iff_eq, Classical.not_not] at hg17
   refine os 5 ?_
   refine kp [63, 0, 3] ?_
   refine nt ?_
   refine ct ?_
   refine sr ?_
   refine os 3 ?_
   refine nq ?_
   refine SW_seq ?_
   have hxl_ : n < X.length := atB_lt (by omega)
   rw [show (n : Int) + 1 = ((n + 1 : Nat) : Int) from by omega]
   refine SW_cut3 (fun ρ_ σ_ => Fits ρ_ σ_ [(0, .string (bS X)), (3, .int .i64 (numSg X (n + 1) : Int))] ([])) ?_ ?_
   ·refine SW_region ?_
    refine os 2 ?_
    refine L (cl (r5_AtZ (X := X) (n := (n + 1)) (z := ((n + 1 : Nat) : Int)) (by omega) (by omega)) ?_)
    rintro _ _ rfl
    refine un ?_
    refine os 2 ?_
    refine tb 70 (fun hg18 => ?_) (fun hg18 => ?_)
    ·replace hg18 : (((atB X (n + 1)).toNat : Int) == 43) = true := hg18
     simp only [beq_iff_eq, bne_iff_ne, ne_eq, beq_eq_false_iff_ne, bne_eq_false_iff_eq, Classical.not_not] at hg18
     refine os 5 ?_
     refine kp [75, 0, 3] ?_
     refine nt ?_
     refine ct ?_
     refine SW_region ?_
     refine os 3 ?_
     refine nt ?_
     rw [sg_yes (X := X) (t := n + 1) (by omega), show ((n + 1 + 1 : Nat) : Int) = ((n + 1 : Nat) : Int) + 1 from by omega]
     exact ⟨fun _ => rfl, ow⟩
    replace hg18 : (((atB X (n + 1)).toNat : Int) == 43) = false := hg18
    simp only [beq_iff_eq, bne_iff_ne, ne_eq, beq_eq_false_iff_ne, bne_eq_false_iff_eq, Classical.not_not] at hg18
    refine os 2 ?_
    refine L (cl (r5_AtZ (X := X) (n := (n + 1)) (z := ((n + 1 : Nat) : Int)) (by omega) (by omega)) ?_)
    rintro _ _ rfl
    refine un ?_
    refine os 2 ?_
    refine kp [75, 0, 3] ?_
    refine nt ?_
    refine cd (fun hc19 : (((atB X (n + 1)).toNat : Int) == 45) = true => ?_) (fun hc19 => ?_)
    ·simp only [beq_iff_eq, bne_iff_ne, ne_eq, beq_eq_false_iff_ne, bne_eq_false_iff_eq, Classical.not_not] at hc19
     refine SW_region ?_
     refine os 3 ?_
     refine nt ?_
     rw [sg_yes (X := X) (t := n + 1) (by omega), show ((n + 1 + 1 : Nat) : Int) = ((n + 1 : Nat) : Int) + 1 from by omega]
     exact ⟨fun _ => rfl, ow⟩
    simp only [beq_iff_eq, bne_iff_ne, ne_eq, beq_eq_false_iff_ne, bne_eq_false_iff_eq, Classical.not_not] at hc19
    refine SW_skip (n_then ?_)
    rw [sg_no (X := X) (t := n + 1) (by omega)]
    exact ⟨fun _ => rfl, ow⟩
   ·rintro ρ_ σ_ hfit
    refine SW_fits hfit ?_
    clear hfit
    have hsl_ := numSg_le (X := X) (t := n + 1) (by omega)
    have hex_ := ex_yes (X := X) (t := n) (by omega)
    generalize numSg X (n + 1) = k at *
    have hdk_ : (X.drop k).length + k = X.length := by rw [List.length_drop]; omega
    refine SW_region ?_
    refine os 3 ?_
    refine L (O_val (.string (bS (X.drop ((k : Int)).toNat))) rfl (fun δ w _ => run_strFrom (l := X) (k : Int) .i64 Tryz.underlying9 rfl rfl (by omega) (by omega)) ?_)
    rw [show ((k : Int)).toNat = k from by omega]
    have htw14_ := takeWhile_len isDig (X.drop k)
    refine L (cl (r2_Digits (X := (X.drop k)) (by first | omega | (simp; omega))) ?_)
    rintro _ _ rfl
    refine un ?_
    refine os 2 ?_
    refine kp [3, 0] ?_
    refine nsr ?_
    refine os 2 ?_
    refine nt ?_
    refine SW_ret ?_
    refine body_end (.int .i64 ((k : Int) + ((((X.drop k).takeWhile isDig).length : Nat) : Int))) (fun _ => rfl) ?_
    rw [hne_, hex_, ← run0]
    exact ⟨(), ow, congrArg (Value.int .i64) (by omega)⟩
  replace hg17 : (((atB X n).toNat : Int) == 101) = false := hg17
  simp only [beq_iff_eq, bne_iff_ne, ne_eq, beq_eq_false_iff_ne, bne_eq_false_iff_eq, Classical.not_not] at hg17
  refine os 2 ?_
  refine L (cl (r5_AtZ (X := X) (n := n) (z := (n : Int)) (by omega) (by omega)) ?_)
  rintro _ _ rfl
  refine un ?_
  refine os 2 ?_
  refine kp [63, 0, 3] ?_
  refine nt ?_
  refine cd (fun hc20 : (((atB X n).toNat : Int) == 69) = true => ?_) (fun hc20 => ?_)
  ·simp only [beq_iff_eq, bne_iff_ne, ne_eq, beq_eq_false_iff_ne, bne_eq_false_iff_eq, Classical.not_not] at hc20
   refine sr ?_
   refine os 3 ?_
   refine nq ?_
   refine SW_seq ?_
   have hxl_ : n < X.length := atB_lt (by omega)
   rw [show (n : Int) + 1 = ((n + 1 : Nat) : Int) from by omega]
   refine SW_cut3 (fun ρ_ σ_ => Fits ρ_ σ_ [(0, .string (bS X)), (3, .int .i64 (numSg X (n + 1) : Int))] ([])) ?_ ?_
   ·refine SW_region ?_
    refine os 2 ?_
    refine L (cl (r5_AtZ (X := X) (n := (n + 1)) (z := ((n + 1 : Nat) : Int)) (by omega) (by omega)) ?_)
    rintro _ _ rfl
    refine un ?_
    refine os 2 ?_
    refine tb 70 (fun hg21 => ?_) (fun hg21 => ?_)
    ·replace hg21 : (((atB X (n + 1)).toNat : Int) == 43) = true := hg21
     simp only [beq_iff_eq, bne_iff_ne, ne_eq, beq_eq_false_iff_ne, bne_eq_false_iff_eq, Classical.not_not] at hg21
     refine os 5 ?_
     refine kp [75, 0, 3] ?_
     refine nt ?_
     refine ct ?_
     refine SW_region ?_
     refine os 3 ?_
     refine nt ?_
     rw [sg_yes (X := X) (t := n + 1) (by omega), show ((n + 1 + 1 : Nat) : Int) = ((n + 1 : Nat) : Int) + 1 from by omega]
     exact ⟨fun _ => rfl, ow⟩
    replace hg21 : (((atB X (n + 1)).toNat : Int) == 43) = false := hg21
    simp only [beq_iff_eq, bne_iff_ne, ne_eq, beq_eq_false_iff_ne, bne_eq_false_iff_eq, Classical.not_not] at hg21
    refine os 2 ?_
    refine L (cl (r5_AtZ (X := X) (n := (n + 1)) (z := ((n + 1 : Nat) : Int)) (by omega) (by omega)) ?_)
    rintro _ _ rfl
    refine un ?_
    refine os 2 ?_
    refine kp [75, 0, 3] ?_
    refine nt ?_
    refine cd (fun hc22 : (((atB X (n + 1)).toNat : Int) == 45) = true => ?_) (fun hc22 => ?_)
    ·simp only [beq_iff_eq, bne_iff_ne, ne_eq, beq_eq_false_iff_ne, bne_eq_false_iff_eq, Classical.not_not] at hc22
     refine SW_region ?_
     refine os 3 ?_
     refine nt ?_
     rw [sg_yes (X := X) (t := n + 1) (by omega), show ((n + 1 + 1 : Nat) : Int) = ((n + 1 : Nat) : Int) + 1 from by omega]
     exact ⟨fun _ => rfl, ow⟩
    simp only [beq_iff_eq, bne_iff_ne, ne_eq, beq_eq_false_iff_ne, bne_eq_false_iff_eq, Classical.not_not] at hc22
    refine SW_skip (n_then ?_)
    rw [sg_no (X := X) (t := n + 1) (by omega)]
    exact ⟨fun _ => rfl, ow⟩
   ·rintro ρ_ σ_ hfit
    refine SW_fits hfit ?_
    clear hfit
    have hsl_ := numSg_le (X := X) (t := n + 1) (by omega)
    have hex_ := ex_yes (X := X) (t := n) (by omega)
    generalize numSg X (n + 1) = k at *
    have hdk_ : (X.drop k).length + k = X.length := by rw [List.length_drop]; omega
    refine SW_region ?_
    refine os 3 ?_
    refine L (O_val (.string (bS (X.drop ((k : Int)).toNat))) rfl (fun δ w _ => run_strFrom (l := X) (k : Int) .i64 Tryz.underlying9 rfl rfl (by omega) (by omega)) ?_)
    rw [show ((k : Int)).toNat = k from by omega]
    have htw14_ := takeWhile_len isDig (X.drop k)
    refine L (cl (r2_Digits (X := (X.drop k)) (by first | omega | (simp; omega))) ?_)
    rintro _ _ rfl
    refine un ?_
    refine os 2 ?_
    refine kp [3, 0] ?_
    refine nsr ?_
    refine os 2 ?_
    refine nt ?_
    refine SW_ret ?_
    refine body_end (.int .i64 ((k : Int) + ((((X.drop k).takeWhile isDig).length : Nat) : Int))) (fun _ => rfl) ?_
    rw [hne_, hex_, ← run0]
    exact ⟨(), ow, congrArg (Value.int .i64) (by omega)⟩
  simp only [beq_iff_eq, bne_iff_ne, ne_eq, beq_eq_false_iff_ne, bne_eq_false_iff_eq, Classical.not_not] at hc20
  refine SW_skip (n_then ?_)
  refine sr ?_
  refine os 2 ?_
  refine nt ?_
  refine SW_ret ?_
  refine body_end (.int .i64 (n : Int)) (fun _ => rfl) ?_
  rw [hne_, ex_no (X := X) (t := n) (by omega)]
  exact ⟨(), ow, rfl⟩

theorem r5_Signs {W0 : World}  : SC Tryz.prog W0 118 #[] [] (Ret (fun b : Nat => [(b, .cells 9 48 (refS.map fun q => Value.string (bS q)))]) (fun v b => v = .slice (some ⟨b, 0, none⟩) 48 48)) := by
 refine SC_body (fn := Tryz.f118) (n := 2) Tryz.func118 rfl (by kernel_rfl) (ρ := []) rfl ?_
 refine sr ?_
 refine os 1 ?_
 refine nsr ?_
 refine L (nws 9 48 48 [.string (bS [40]), .string (bS [41]), .string (bS [123]), .string (bS [125]), .string (bS [91]), .string (bS [93]), .string (bS [59]), .string (bS [44]), .string (bS [46]), .string (bS [58]), .string (bS [63]), .string (bS [61]), .string (bS [61, 61]), .string (bS [61, 61, 61]), .string (bS [33, 61]), .string (bS [33, 61, 61]), .string (bS [60]), .string (bS [60, 61]), .string (bS [62]), .string (bS [62, 61]), .string (bS [43]), .string (bS [45]), .string (bS [42]), .string (bS [47]), .string (bS [37]), .string (bS [43, 43]), .string (bS [45, 45]), .string (bS [60, 60]), .string (bS [62, 62]), .string (bS [62, 62, 62]), .string (bS [38]), .string (bS [124]), .string (bS [94]), .string (bS [126]), .string (bS [33]), .string (bS [38, 38]), .string (bS [124, 124]), .string (bS [43, 61]), .string (bS [45, 61]), .string (bS [42, 61]), .string (bS [47, 61]), .string (bS [37, 61]), .string (bS [60, 60, 61]), .string (bS [62, 62, 61]), .string (bS [62, 62, 62, 61]), .string (bS [38, 61]), .string (bS [124, 61]), .string (bS [94, 61])] ?_)
 intro b1
 refine os 1 ?_
 refine nt ?_
 refine SW_ret ?_
 refine body_end (.slice (some ⟨b1, 0, none⟩) 48 48) (fun _ => rfl) ?_
 exact ⟨b1, (ow (S := ((b1, .cells 9 48 [.string (bS [40]), .string (bS [41]), .string (bS [123]), .string (bS [125]), .string (bS [91]), .string (bS [93]), .string (bS [59]), .string (bS [44]), .string (bS [46]), .string (bS [58]), .string (bS [63]), .string (bS [61]), .string (bS [61, 61]), .string (bS [61, 61, 61]), .string (bS [33, 61]), .string (bS [33, 61, 61]), .string (bS [60]), .string (bS [60, 61]), .string (bS [62]), .string (bS [62, 61]), .string (bS [43]), .string (bS [45]), .string (bS [42]), .string (bS [47]), .string (bS [37]), .string (bS [43, 43]), .string (bS [45, 45]), .string (bS [60, 60]), .string (bS [62, 62]), .string (bS [62, 62, 62]), .string (bS [38]), .string (bS [124]), .string (bS [94]), .string (bS [126]), .string (bS [33]), .string (bS [38, 38]), .string (bS [124, 124]), .string (bS [43, 61]), .string (bS [45, 61]), .string (bS [42, 61]), .string (bS [47, 61]), .string (bS [37, 61]), .string (bS [60, 60, 61]), .string (bS [62, 62, 61]), .string (bS [62, 62, 62, 61]), .string (bS [38, 61]), .string (bS [124, 61]), .string (bS [94, 61])]) :: ([])))), rfl⟩

theorem r5_sign {W0 : World} {X : Bytes} (hX : X.length ≤ 1048576) : SC Tryz.prog W0 67 #[.string (bS X)] [] (Ret (fun _ : Bytes => []) (fun v b => v = .string (bS b) ∧ (b = [] ∨ (b ∈ refS ∧ Lib.hasPrefix X b = true)) ∧ ∀ y ∈ refS, Lib.hasPrefix X y = true → y.length ≤ b.length)) := by
 refine SC_body (fn := Tryz.f67) (n := 44) Tryz.func67 rfl (by kernel_rfl) (ρ := [(0, .string (bS X))]) rfl ?_
 refine sr ?_
 refine os 1 ?_
 refine nsr ?_
 refine os 1 ?_
 refine nsr ?_
 refine L (cl (r5_Signs) ?_)
 rintro _ b1 rfl
 refine un ?_
 refine os 1 ?_
 refine nq ?_
 refine sr ?_
 refine os 1 ?_
 refine nt ?_
 refine SW_block ?_
 refine SW_loop (α := Nat × Bytes) (fun z_ ρ_ σ_ => Fits ρ_ σ_ [(0, .string (bS X)), (4, .slice (some ⟨b1, 0, none⟩) 48 48), (3, .string (bS z_.2)), (5, .int .i64 (z_.1 : Int))] ((b1, .cells 9 48 (refS.map fun q => Value.string (bS q))) :: ([])) ∧ z_.1 ≤ 48 ∧ (z_.2 = [] ∨ (z_.2 ∈ refS ∧ Lib.hasPrefix X z_.2 = true)) ∧ ∀ y ∈ refS.take z_.1, Lib.hasPrefix X y = true → y.length ≤ z_.2.length) (fun z_ => 48 - z_.1) (0, ([] : Bytes)) ⟨⟨fun _ => rfl, ow⟩, Nat.zero_le _, .inl rfl, fun _ h_ => by simp at h_⟩ ?_
 rintro ⟨i, b⟩ ρ_ σ_ ⟨hfit, hi0, hi1, hi2⟩
 refine SW_fits hfit ?_
 clear hfit
 simp only [] at hi0 hi1 hi2 ⊢
 refine SW_seq ?_
 refine sr ?_
 refine os 4 ?_
 refine kp [11, 0, 4, 3, 5] ?_
 refine nt ?_
 refine cdp (fun hc2 : (i : Int) < 48 => ?_) (fun hc2 => ?_)
 ·refine SW_skip (n_then ?_)
  refine SW_seq ?_
  refine SW_block ?_
  refine sr ?_
  refine os 2 ?_
  refine L (O_indexAddr' (i : Int) (i) b1 0 48 48 .i64 1 Tryz.underlying125 (by kernel_rfl) (fun _ => rfl) (fun _ => rfl) (by omega) (by omega) (by omega) rfl ?_)
  obtain ⟨e1, he1⟩ : ∃ y_, refS[i]? = some y_ := ⟨_, List.getElem?_eq_getElem (by rw [refS_n]; omega)⟩
  refine L (ld ?_ (hc := cell_own mem_z (strs_at he1)))
  refine oX (.int .i64 ((bS e1).size : Int)) (.int .i64 (e1.length : Int)) (congrArg (fun n_ : Nat => Value.int .i64 (n_ : Int)) (bS_size _)) ?_
  refine os 1 ?_
  refine kp [6, 11, 0, 4, 3, 5] ?_
  refine nq ?_
  refine SW_draw [(b1, i, .string (bS e1))] [0, 1, 2, 3, 4, 5, 6, 7, 8, 9, 10, 11, 12, 13, 14, 15, 16] (by kernel_rfl) (rd_cons (cell_own mem_z (strs_at he1)) rd_nil) ?_
  refine aS 0 ?_
  refine aS 1 ?_
  refine tk 2 (.int .i64 ((bS b).size : Int)) ?_
  rw [bS_size]
  refine aS 3 ?_
  refine aS 4 ?_
  refine tbpA 23 (fun hg3 => ?_) (fun hg3 => ?_)
  ·replace hg3 : (e1.length : Int) > (b.length : Int) := hg3
   refine aS 5 ?_
   refine aS 6 ?_
   refine tk 7 (.int .i64 ((bS X).size : Int)) ?_
   rw [bS_size]
   refine aS 8 ?_
   refine aS 9 ?_
   refine kpA [28, 6, 11, 0, 4, 3, 5] ?_
   refine aS 10 ?_
   refine tbpA 29 (fun hg4 => ?_) (fun hg4 => ?_)
   ·replace hg4 : (e1.length : Int) ≤ (X.length : Int) := hg4
    refine aS 11 ?_
    refine aS 12 ?_
    refine tk 13 (.string (bS (X.take ((e1.length : Int)).toNat))) ?_ (hy := fun δ w => run_strTo (l := X) (e1.length : Int) .i64 Tryz.underlying9 rfl rfl (by omega) (by omega))
    rw [show ((e1.length : Int)).toNat = e1.length from by omega]
    refine aS 14 ?_
    refine aS 15 ?_
    refine tk 16 (pt b1 i) ?_ (hy := fun δ w => run_indexAddr (i : Int) (i) b1 0 48 48 .i64 1 Tryz.underlying125 (by kernel_rfl) (fun _ => rfl) (fun _ => rfl) (by omega) (by omega) (by omega))
    refine aL 17 ?_
    refine tk 18 (.bool ((bS (X.take e1.length)).toList == (bS e1).toList)) ?_
    rw [show ((bS (X.take e1.length)).toList == (bS e1).toList) = (decide ((X.take e1.length) = e1)) from by rw [strB_eq]]
    refine kpA [37, 29, 6, 11, 0, 4, 3, 5] ?_
    refine aS 19 ?_
    refine SA_done (by kernel_rfl) (n_then ?_)
    refine cdp (fun hc5 : (X.take e1.length) = e1 => ?_) (fun hc5 => ?_)
    ·refine SW_region ?_
     refine os 2 ?_
     refine L (O_indexAddr' (i : Int) (i) b1 0 48 48 .i64 1 Tryz.underlying125 (by kernel_rfl) (fun _ => rfl) (fun _ => rfl) (by omega) (by omega) (by omega) rfl ?_)
     refine L (ld ?_ (hc := cell_own mem_z (strs_at he1)))
     refine os 1 ?_
     refine kp [3, 38, 6, 11, 0, 4, 5] ?_
     refine SL_nil (n_in (n_then ?_))
     refine SW_region ?_
     refine os 3 ?_
     refine nt ?_
     rw [show (i : Int) + 1 = ((i + 1 : Nat) : Int) from by omega]
     obtain ⟨hb1_, hb2_⟩ := sign_best he1 (by omega) (by assumption) hi2
     exact ⟨(i + 1, e1), by simp only []; omega, ⟨fun _ => rfl, ow⟩, by simp only []; omega, .inr ⟨List.mem_of_getElem? he1, hb1_⟩, hb2_⟩
    refine SW_skip (n_in (n_then ?_))
    refine SW_region ?_
    refine os 3 ?_
    refine kp [5, 38, 6, 11, 0, 4, 3] ?_
    refine nt ?_
    rw [show (i : Int) + 1 = ((i + 1 : Nat) : Int) from by omega]
    exact ⟨(i + 1, b), by simp only []; omega, ⟨fun _ => rfl, ow⟩, by simp only []; omega, hi1, sign_keep he1 (by rintro ⟨q1_, q2_, q3_⟩; first | omega | (simp_all; done)) hi2⟩
   replace hg4 : ¬ ((e1.length : Int) ≤ (X.length : Int)) := hg4
   refine tn 11 ?_
   refine tn 12 ?_
   refine tn 13 ?_
   refine tn 14 ?_
   refine tn 15 ?_
   refine tn 16 ?_
   refine tn 17 ?_
   refine tn 18 ?_
   refine aS 19 ?_
   refine kpA [38, 6, 11, 0, 4, 3, 5] ?_
   refine SA_done (by kernel_rfl) (n_then ?_)
   refine cf ?_
   refine SW_skip (n_in (n_then ?_))
   refine SW_region ?_
   refine os 3 ?_
   refine nt ?_
   rw [show (i : Int) + 1 = ((i + 1 : Nat) : Int) from by omega]
   exact ⟨(i + 1, b), by simp only []; omega, ⟨fun _ => rfl, ow⟩, by simp only []; omega, hi1, sign_keep he1 (by rintro ⟨q1_, q2_, q3_⟩; first | omega | (simp_all; done)) hi2⟩
  replace hg3 : ¬ ((e1.length : Int) > (b.length : Int)) := hg3
  refine tn 5 ?_
  refine tn 6 ?_
  refine tn 7 ?_
  refine tn 8 ?_
  refine aS 9 ?_
  refine kpA [28, 6, 11, 0, 4, 3, 5] ?_
  refine aS 10 ?_
  refine tn 11 ?_
  refine tn 12 ?_
  refine tn 13 ?_
  refine tn 14 ?_
  refine tn 15 ?_
  refine tn 16 ?_
  refine tn 17 ?_
  refine tn 18 ?_
  refine aS 19 ?_
  refine kpA [38, 6, 11, 0, 4, 3, 5] ?_
  refine SA_done (by kernel_rfl) (n_then ?_)
  refine cf ?_
  refine SW_skip (n_in (n_then ?_))
  refine SW_region ?_
  refine os 3 ?_
  refine nt ?_
  rw [show (i : Int) + 1 = ((i + 1 : Nat) : Int) from by omega]
  exact ⟨(i + 1, b), by simp only []; omega, ⟨fun _ => rfl, ow⟩, by simp only []; omega, hi1, sign_keep he1 (by rintro ⟨q1_, q2_, q3_⟩; first | omega | (simp_all; done)) hi2⟩
 refine SW_exit (x_then (x_then (x_in (n_then ?_))))
 refine sr ?_
 refine os 2 ?_
 refine nt ?_
 refine SW_ret ?_
 refine body_end (.string (bS b)) (fun _ => rfl) ?_
 rw [show i = 48 from by omega, show refS.take 48 = refS from rfl] at hi2
 exact ⟨b, ow, rfl, hi1, hi2⟩

end Go.Proofs.YtnhmmjogfkjceaaGreatDoor
namespace Go.Proofs.YtnhmmjogfkjceaaGreatDoor
open Go.Sl

theorem r5_said {W0 : World} {X : Bytes} (hX : X.length ≤ 1048576) (h0 : 0 < X.length) : SC Tryz.prog W0 66 #[.string (bS X)] [] (Ret (fun _ : Unit => []) (fun v _ => v = (match strP X 0 with | none => Value.tuple #[.string (bS []), .int .i64 0] | some (m, t) => .tuple #[.string (bS m), .int .i64 ((t : Int) + 1)]))) := by
 refine SC_body (fn := Tryz.f66) (n := 83) Tryz.func66 rfl (by kernel_rfl) (ρ := [(0, .string (bS X))]) rfl ?_
 obtain ⟨x0, h0_⟩ : ∃ y_, X[0]? = some y_ := ⟨_, List.getElem?_eq_getElem h0⟩
 refine sr ?_
 refine os 2 ?_
 refine nsr ?_
 refine os 1 ?_
 refine nsr ?_
 refine os 1 ?_
 refine nq ?_
 refine SW_block ?_
 refine SW_sig (Gs.ent 5 1 Gs.nil (([] : Bytes).map u8V) ++ []) rfl ?_
 refine SW_loop (α := Nat × Nat × Gs × Bytes) (fun z_ ρ_ σ_ => Fits ρ_ σ_ [(0, .string (bS X)), (4, Gs.val z_.2.2.1 z_.2.2.2.length), (5, .int .i64 (z_.2.1 : Int))] ((Gs.ent 5 1 z_.2.2.1 (z_.2.2.2.map u8V)) ++ ([])) ∧ z_.2.1 ≤ X.length ∧ X.length - z_.2.1 < z_.1 ∧ strE z_.1 X (atB X 0) z_.2.1 z_.2.2.2 = strP X 0 ∧ Gs.ok 1 z_.2.2.2.length z_.2.2.1 (z_.2.2.2.map u8V) ∧ z_.2.2.2.length ≤ z_.2.1 ∧ (z_.2.2.2 = [] → z_.2.2.1 = Gs.nil)) (fun z_ => X.length - z_.2.1) ((X.length + 1), 1, Gs.nil, ([] : Bytes)) ⟨⟨fun _ => rfl, ow⟩, (show 1 ≤ X.length by omega), (show X.length - 1 < X.length + 1 by omega), rfl, ⟨rfl, rfl⟩, Nat.zero_le _, fun _ => rfl⟩ ?_
 rintro ⟨f, n, h, m⟩ ρ_ σ_ ⟨hfit, hi0, hi1, hi2, hi3, hi4, hi5⟩
 refine SW_fits hfit ?_
 clear hfit
 simp only [] at hi0 hi1 hi2 hi3 hi4 hi5 ⊢
 obtain ⟨f, rfl⟩ : ∃ q_, f = q_ + 1 := ⟨f - 1, by omega⟩
 have hX0_ := atB_some h0_
 refine SW_seq ?_
 refine SW_seq ?_
 by_cases hs_ : n < X.length
 ·obtain ⟨e1, he1⟩ : ∃ y_, X[n]? = some y_ := ⟨_, List.getElem?_eq_getElem (by omega)⟩
  refine SW_draw [] [] (by kernel_rfl) rd_nil ?_
  refine aS 0 ?_
  refine aS 1 ?_
  refine tk 2 (.int .i64 ((bS X).size : Int)) ?_
  rw [bS_size]
  refine aS 3 ?_
  refine aS 4 ?_
  refine pnA 14 (show (decide ((n : Int) < (X.length : Int))) = true from (decide_eq_true (by omega))) ?_
  refine aS 5 ?_
  refine aS 6 ?_
  refine tk 7 (.int .u8 (e1.toNat : Int)) ?_ (hy := fun δ w => run_indexB (n : Int) X .i64 e1 Tryz.underlying9 rfl rfl (by omega) he1)
  refine aS 8 ?_
  refine tk 9 (.int .u8 (x0.toNat : Int)) ?_ (hy := fun δ w => run_indexB 0 X .i64 x0 Tryz.underlying9 rfl rfl (by omega) h0_)
  refine aS 10 ?_
  refine kpA [20, 14, 0, 4, 5] ?_
  refine aS 11 ?_
  refine SA_done (by kernel_rfl) (n_then ?_)
  refine cd (fun hc1 : ((e1.toNat : Int) != (x0.toNat : Int)) = true => ?_) (fun hc1 => ?_)
  ·simp only [beq_iff_eq, bne_iff_ne, ne_eq, beq_eq_false_iff_ne, bne_eq_false_iff_eq, Classical.not_not] at hc1
   refine SW_skip (n_then ?_)
   refine SW_block ?_
   refine sr ?_
   refine os 2 ?_
   refine ixb (n : Int) X .i64 e1 Tryz.underlying9 he1 ?_
   refine os 1 ?_
   refine kp [6, 21, 0, 4, 5] ?_
   refine nsr ?_
   refine os 1 ?_
   refine nq ?_
   refine sr ?_
   refine os 2 ?_
   refine nt ?_
   refine cd (fun hc2 : ((e1.toNat : Int) == 10) = true => ?_) (fun hc2 => ?_)
   ·simp only [beq_iff_eq, bne_iff_ne, ne_eq, beq_eq_false_iff_ne, bne_eq_false_iff_eq, Classical.not_not] at hc2
    refine sr ?_
    refine os 2 ?_
    refine nt ?_
    refine SW_ret (r_then (r_in (r_then (r_in (r_then ?_)))))
    refine body_end (.tuple #[.string (bS []), .int .i64 0]) (fun _ => rfl) ?_
    have hen_ := atB_some he1
    have hen2_ : (atB X n).toNat = e1.toNat := by rw [hen_]
    have hne_ : atB X n ≠ atB X 0 := by rw [hen_, hX0_]; intro q_; exact hc1 (by rw [q_])
    rw [strE_nl (by omega) hne_ (by omega)] at hi2
    exact ⟨(), ow, by rw [← hi2]⟩
   simp only [beq_iff_eq, bne_iff_ne, ne_eq, beq_eq_false_iff_ne, bne_eq_false_iff_eq, Classical.not_not] at hc2
   refine SW_skip (n_then ?_)
   refine SW_seq ?_
   refine sr ?_
   refine os 2 ?_
   refine nt ?_
   refine cd (fun hc3 : ((e1.toNat : Int) == 92) = true => ?_) (fun hc3 => ?_)
   ·simp only [beq_iff_eq, bne_iff_ne, ne_eq, beq_eq_false_iff_ne, bne_eq_false_iff_eq, Classical.not_not] at hc3
    refine sr ?_
    refine os 1 ?_
    refine nsr ?_
    refine os 3 ?_
    refine L (cl (r5_AtZ (X := X) (n := (n + 1)) (z := (n : Int) + 1) (by omega) (by omega)) ?_)
    rintro _ _ rfl
    refine un ?_
    refine nt ?_
    refine SW_block ?_
    refine sr ?_
    refine os 2 ?_
    refine kp [33, 32, 7, 28, 26, 6, 21, 0, 4, 5] ?_
    refine nt ?_
    refine cd (fun hc4 : (((atB X (n + 1)).toNat : Int) == 110) = true => ?_) (fun hc4 => ?_)
    ·simp only [beq_iff_eq, bne_iff_ne, ne_eq, beq_eq_false_iff_ne, bne_eq_false_iff_eq, Classical.not_not] at hc4
     have hdn_ : ∀ k_, atB (X.drop n) k_ = atB X (n + k_) := fun k_ => atB_drop X n k_
     have hep_ : escP (X.drop n) = (10, 2) := by rw [escP_eq (by rw [List.length_drop]; omega), hdn_]; rw [if_pos (by omega)]
     have hal_ : n + 1 < X.length := atB_lt (by omega)
     refine SW_region ?_
     refine os 1 ?_
     refine SL_nil (n_in (n_then ?_))
     refine sr ?_
     refine os 2 ?_
     refine L (nws 5 1 1 [.int .u8 10] ?_)
     intro b5
     refine SL_perm _ (perm_cc perm_cz) ?_
     refine L (O_append (size := 1) (bytes := 1) (z := .int .u8 0) h m.length 1 (some ⟨b5, 0, none⟩) 1 (m.map u8V) ([.int .u8 10]) ((m ++ [(10 : UInt8)]).map u8V) (map_snoc _ (10 : UInt8) rfl) (fun _ => rfl) (fun _ => rfl) Tryz.underlying95 (by kernel_rfl) rfl (by decide) hi3 rfl (.inr ⟨b5, 0, rfl, Cells.own (mem_a mem_z) rfl⟩) rfl (by omega) (by decide) rfl ?_)
     intro s6 hks6 hfs6
     rw [show m.length + 1 = (m ++ [(10 : UInt8)]).length from by first | (simp; done) | (simp; omega)]
     rw [show m.length + 1 = (m ++ [(10 : UInt8)]).length from by first | (simp; done) | (simp; omega)] at hks6
     have hls6 : (m ++ [(10 : UInt8)]).length = m.length + 1 := by first | (simp; done) | (simp; omega)
     refine os 1 ?_
     refine kp [4, 6, 33, 32, 7, 28, 26, 21, 0, 5] ?_
     refine nr ?_
     refine os 4 ?_
     refine kp [5, 4, 6, 33, 32, 7, 28, 26, 21, 0] ?_
     refine SL_nil (n_in (n_then ?_))
     have hen_ := atB_some he1
     have hen2_ : (atB X n).toNat = e1.toNat := by rw [hen_]
     have hne_ : atB X n ≠ atB X 0 := by rw [hen_, hX0_]; intro q_; exact hc1 (by rw [q_])
     rw [strE_esc (by omega) hne_ (by omega) (by rw [hep_]; exact fun q_ => by cases q_), hep_] at hi2
     rw [show (n : Int) + 2 = (((n + 2) : Nat) : Int) from by omega]
     exact ⟨(f, (n + 2), s6, (m ++ [(10 : UInt8)])), by simp only []; omega, ⟨fun _ => rfl, ow⟩, by simp only []; omega, by simp only []; omega, hi2, hks6, by simp only [List.length_append, List.length_cons, List.length_nil]; omega, fun q_ => by simp at q_⟩
    simp only [beq_iff_eq, bne_iff_ne, ne_eq, beq_eq_false_iff_ne, bne_eq_false_iff_eq, Classical.not_not] at hc4
    refine sr ?_
    refine os 2 ?_
    refine nt ?_
    refine cd (fun hc7 : (((atB X (n + 1)).toNat : Int) == 116) = true => ?_) (fun hc7 => ?_)
    ·simp only [beq_iff_eq, bne_iff_ne, ne_eq, beq_eq_false_iff_ne, bne_eq_false_iff_eq, Classical.not_not] at hc7
     have hdn_ : ∀ k_, atB (X.drop n) k_ = atB X (n + k_) := fun k_ => atB_drop X n k_
     have hep_ : escP (X.drop n) = (9, 2) := by rw [escP_eq (by rw [List.length_drop]; omega), hdn_]; rw [if_neg (by omega), if_pos (by omega)]
     have hal_ : n + 1 < X.length := atB_lt (by omega)
     refine SW_region ?_
     refine os 1 ?_
     refine SL_nil (n_in (n_then ?_))
     refine sr ?_
     refine os 2 ?_
     refine L (nws 5 1 1 [.int .u8 9] ?_)
     intro b8
     refine SL_perm _ (perm_cc perm_cz) ?_
     refine L (O_append (size := 1) (bytes := 1) (z := .int .u8 0) h m.length 1 (some ⟨b8, 0, none⟩) 1 (m.map u8V) ([.int .u8 9]) ((m ++ [(9 : UInt8)]).map u8V) (map_snoc _ (9 : UInt8) rfl) (fun _ => rfl) (fun _ => rfl) Tryz.underlying95 (by kernel_rfl) rfl (by decide) hi3 rfl (.inr ⟨b8, 0, rfl, Cells.own (mem_a mem_z) rfl⟩) rfl (by omega) (by decide) rfl ?_)
     intro s9 hks9 hfs9
     rw [show m.length + 1 = (m ++ [(9 : UInt8)]).length from by first | (simp; done) | (simp; omega)]
     rw [show m.length + 1 = (m ++ [(9 : UInt8)]).length from by first | (simp; done) | (simp; omega)] at hks9
     have hls9 : (m ++ [(9 : UInt8)]).length = m.length + 1 := by first | (simp; done) | (simp; omega)
     refine os 1 ?_
     refine kp [4, 6, 35, 33, 32, 7, 28, 26, 21, 0, 5] ?_
     refine nr ?_
     refine os 4 ?_
     refine kp [5, 4, 6, 35, 33, 32, 7, 28, 26, 21, 0] ?_
     refine SL_nil (n_in (n_then ?_))
     have hen_ := atB_some he1
     have hen2_ : (atB X n).toNat = e1.toNat := by rw [hen_]
     have hne_ : atB X n ≠ atB X 0 := by rw [hen_, hX0_]; intro q_; exact hc1 (by rw [q_])
     rw [strE_esc (by omega) hne_ (by omega) (by rw [hep_]; exact fun q_ => by cases q_), hep_] at hi2
     rw [show (n : Int) + 2 = (((n + 2) : Nat) : Int) from by omega]
     exact ⟨(f, (n + 2), s9, (m ++ [(9 : UInt8)])), by simp only []; omega, ⟨fun _ => rfl, ow⟩, by simp only []; omega, by simp only []; omega, hi2, hks9, by simp only [List.length_append, List.length_cons, List.length_nil]; omega, fun q_ => by simp at q_⟩
    simp only [beq_iff_eq, bne_iff_ne, ne_eq, beq_eq_false_iff_ne, bne_eq_false_iff_eq, Classical.not_not] at hc7
    refine SW_seq ?_
    refine sr ?_
    refine os 2 ?_
    refine nt ?_
    refine cd (fun hc10 : (((atB X (n + 1)).toNat : Int) == 92) = true => ?_) (fun hc10 => ?_)
    ·simp only [beq_iff_eq, bne_iff_ne, ne_eq, beq_eq_false_iff_ne, bne_eq_false_iff_eq, Classical.not_not] at hc10
     refine SW_skip (n_then ?_)
     refine cd (fun hc11 : (((atB X (n + 1)).toNat : Int) == 92) = true => ?_) (fun hc11 => ?_)
     ·simp only [beq_iff_eq, bne_iff_ne, ne_eq, beq_eq_false_iff_ne, bne_eq_false_iff_eq, Classical.not_not] at hc11
      have hdn_ : ∀ k_, atB (X.drop n) k_ = atB X (n + k_) := fun k_ => atB_drop X n k_
      have hep_ : escP (X.drop n) = (atB X (n + 1), 2) := by rw [escP_eq (by rw [List.length_drop]; omega), hdn_]; rw [if_neg (by omega), if_neg (by omega), if_pos (by omega)]
      have hal_ : n + 1 < X.length := atB_lt (by omega)
      refine SW_region ?_
      refine os 3 ?_
      refine L (cl (r5_AtZ (X := X) (n := (n + 1)) (z := (n : Int) + 1) (by omega) (by omega)) ?_)
      rintro _ _ rfl
      refine un ?_
      refine os 1 ?_
      refine kp [6, 37, 35, 33, 32, 7, 28, 26, 21, 0, 4, 5] ?_
      refine SL_nil (n_in (n_then ?_))
      refine sr ?_
      refine os 2 ?_
      refine L (nws 5 1 1 [.int .u8 ((atB X (n + 1)).toNat : Int)] ?_)
      intro b12
      refine SL_perm _ (perm_cc perm_cz) ?_
      refine L (O_append (size := 1) (bytes := 1) (z := .int .u8 0) h m.length 1 (some ⟨b12, 0, none⟩) 1 (m.map u8V) ([.int .u8 ((atB X (n + 1)).toNat : Int)]) ((m ++ [(atB X (n + 1))]).map u8V) (map_snoc _ (atB X (n + 1)) rfl) (fun _ => rfl) (fun _ => rfl) Tryz.underlying95 (by kernel_rfl) rfl (by decide) hi3 rfl (.inr ⟨b12, 0, rfl, Cells.own (mem_a mem_z) rfl⟩) rfl (by omega) (by decide) rfl ?_)
      intro s13 hks13 hfs13
      rw [show m.length + 1 = (m ++ [(atB X (n + 1))]).length from by first | (simp; done) | (simp; omega)]
      rw [show m.length + 1 = (m ++ [(atB X (n + 1))]).length from by first | (simp; done) | (simp; omega)] at hks13
      have hls13 : (m ++ [(atB X (n + 1))]).length = m.length + 1 := by first | (simp; done) | (simp; omega)
      refine os 1 ?_
      refine kp [4, 6, 37, 35, 33, 32, 7, 28, 26, 21, 0, 5] ?_
      refine nr ?_
      refine os 4 ?_
      refine kp [5, 4, 6, 37, 35, 33, 32, 7, 28, 26, 21, 0] ?_
      refine SL_nil (n_in (n_then ?_))
      have hen_ := atB_some he1
      have hen2_ : (atB X n).toNat = e1.toNat := by rw [hen_]
      have hne_ : atB X n ≠ atB X 0 := by rw [hen_, hX0_]; intro q_; exact hc1 (by rw [q_])
      rw [strE_esc (by omega) hne_ (by omega) (by rw [hep_]; exact fun q_ => by cases q_), hep_] at hi2
      rw [show (n : Int) + 2 = (((n + 2) : Nat) : Int) from by omega]
      exact ⟨(f, (n + 2), s13, (m ++ [(atB X (n + 1))])), by simp only []; omega, ⟨fun _ => rfl, ow⟩, by simp only []; omega, by simp only []; omega, hi2, hks13, by simp only [List.length_append, List.length_cons, List.length_nil]; omega, fun q_ => by simp at q_⟩
     simp only [beq_iff_eq, bne_iff_ne, ne_eq, beq_eq_false_iff_ne, bne_eq_false_iff_eq, Classical.not_not] at hc11
     refine sr ?_
     refine os 2 ?_
     refine kp [45, 37, 35, 33, 32, 7, 28, 26, 6, 21, 0, 4, 5] ?_
     refine nt ?_
     refine cd (fun hc14 : (((atB X (n + 1)).toNat : Int) == 120) = true => ?_) (fun hc14 => ?_)
     ·simp only [beq_iff_eq, bne_iff_ne, ne_eq, beq_eq_false_iff_ne, bne_eq_false_iff_eq, Classical.not_not] at hc14
      refine sr ?_
      refine os 1 ?_
      refine nsr ?_
      refine os 3 ?_
      refine L (cl (r5_AtZ (X := X) (n := (n + 2)) (z := (n : Int) + 2) (by omega) (by omega)) ?_)
      rintro _ _ rfl
      refine un ?_
      refine L (cl (r5_Nibble (c := (atB X (n + 2)))) ?_)
      rintro _ _ rfl
      refine un ?_
      refine os 1 ?_
      refine kp [8, 7, 45, 37, 35, 33, 32, 28, 26, 6, 21, 0, 4, 5] ?_
      refine nsr ?_
      refine os 3 ?_
      refine L (cl (r5_AtZ (X := X) (n := (n + 3)) (z := (n : Int) + 3) (by omega) (by omega)) ?_)
      rintro _ _ rfl
      refine un ?_
      refine L (cl (r5_Nibble (c := (atB X (n + 3)))) ?_)
      rintro _ _ rfl
      refine un ?_
      refine os 1 ?_
      refine kp [9, 8, 7, 45, 37, 35, 33, 32, 28, 26, 6, 21, 0, 4, 5] ?_
      refine nq ?_
      refine sr ?_
      refine os 3 ?_
      refine tbp 59 (fun hg15 => ?_) (fun hg15 => ?_)
      ·replace hg15 : (nibZ (atB X (n + 2))) < 0 := hg15
       refine os 3 ?_
       refine kp [62, 9, 8, 7, 45, 37, 35, 33, 32, 28, 26, 6, 21, 0, 4, 5] ?_
       refine nt ?_
       refine ct ?_
       refine sr ?_
       refine os 2 ?_
       refine nt ?_
       refine SW_ret (r_then (r_in (r_then (r_in (r_then (r_in (r_then ?_)))))))
       refine body_end (.tuple #[.string (bS []), .int .i64 0]) (fun _ => rfl) ?_
       have hen_ := atB_some he1
       have hen2_ : (atB X n).toNat = e1.toNat := by rw [hen_]
       have hne_ : atB X n ≠ atB X 0 := by rw [hen_, hX0_]; intro q_; exact hc1 (by rw [q_])
       have hdn_ : ∀ k_, atB (X.drop n) k_ = atB X (n + k_) := fun k_ => atB_drop X n k_
       have hep_ : escP (X.drop n) = (0, 0) := by rw [escP_eq (by rw [List.length_drop]; omega), hdn_, if_neg (by omega), if_neg (by omega), if_neg (by omega), hdn_, hdn_, if_neg]; rintro ⟨q1_, q2_, q3_⟩; first | (have z_ := nibZ_neg.1 (by omega); rw [z_] at q2_; cases q2_) | (have z_ := nibZ_neg.1 (by omega); rw [z_] at q3_; cases q3_)
       rw [strE_no (by omega) hne_ (by omega) (by rw [hep_])] at hi2
       exact ⟨(), ow, by rw [← hi2]⟩
      replace hg15 : ¬ ((nibZ (atB X (n + 2))) < 0) := hg15
      refine os 3 ?_
      refine kp [62, 9, 8, 7, 45, 37, 35, 33, 32, 28, 26, 6, 21, 0, 4, 5] ?_
      refine nt ?_
      refine cdp (fun hc16 : (nibZ (atB X (n + 3))) < 0 => ?_) (fun hc16 => ?_)
      ·refine sr ?_
       refine os 2 ?_
       refine nt ?_
       refine SW_ret (r_then (r_in (r_then (r_in (r_then (r_in (r_then ?_)))))))
       refine body_end (.tuple #[.string (bS []), .int .i64 0]) (fun _ => rfl) ?_
       have hen_ := atB_some he1
       have hen2_ : (atB X n).toNat = e1.toNat := by rw [hen_]
       have hne_ : atB X n ≠ atB X 0 := by rw [hen_, hX0_]; intro q_; exact hc1 (by rw [q_])
       have hdn_ : ∀ k_, atB (X.drop n) k_ = atB X (n + k_) := fun k_ => atB_drop X n k_
       have hep_ : escP (X.drop n) = (0, 0) := by rw [escP_eq (by rw [List.length_drop]; omega), hdn_, if_neg (by omega), if_neg (by omega), if_neg (by omega), hdn_, hdn_, if_neg]; rintro ⟨q1_, q2_, q3_⟩; first | (have z_ := nibZ_neg.1 (by omega); rw [z_] at q2_; cases q2_) | (have z_ := nibZ_neg.1 (by omega); rw [z_] at q3_; cases q3_)
       rw [strE_no (by omega) hne_ (by omega) (by rw [hep_])] at hi2
       exact ⟨(), ow, by rw [← hi2]⟩
      refine SW_skip (n_then ?_)
      obtain ⟨hh1_, hv1_⟩ := nibZ_of (c := atB X (n + 2)) (by omega)
      obtain ⟨hh2_, hv2_⟩ := nibZ_of (c := atB X (n + 3)) (by omega)
      have hl1_ := nibV_lt hh1_
      have hl2_ := nibV_lt hh2_
      have hnb_ := nib16_at hl1_ hl2_
      have hdn_ : ∀ k_, atB (X.drop n) k_ = atB X (n + k_) := fun k_ => atB_drop X n k_
      have hep_ : escP (X.drop n) = (nib16 (atB X (n + 2)) (atB X (n + 3)), 4) := by rw [escP_eq (by rw [List.length_drop]; omega), hdn_]; rw [if_neg (by omega), if_neg (by omega), if_neg (by omega), hdn_, hdn_, if_pos ⟨by omega, hh1_, hh2_⟩]
      have hal_ : n + 1 < X.length := atB_lt (by omega)
      have hal3_ : n + 3 < X.length := by refine atB_lt fun z_ => ?_; unfold isHx at hh2_; have := of_decide_eq_true hh2_; omega
      refine SW_region ?_
      refine os 6 ?_
      refine kp [6, 62, 9, 8, 7, 45, 37, 35, 33, 32, 28, 26, 21, 0, 4, 5] ?_
      refine SL_nil (n_in (n_then ?_))
      refine SW_seq ?_
      rw [show (16 * (nibZ (atB X (n + 2)))) + (nibZ (atB X (n + 3))) = ((nib16 (atB X (n + 2)) (atB X (n + 3))).toNat : Int) from by omega]
      refine SW_region ?_
      refine os 2 ?_
      refine L (nws 5 1 1 [.int .u8 ((nib16 (atB X (n + 2)) (atB X (n + 3))).toNat : Int)] ?_)
      intro b17
      refine SL_perm _ (perm_cc perm_cz) ?_
      refine L (O_append (size := 1) (bytes := 1) (z := .int .u8 0) h m.length 1 (some ⟨b17, 0, none⟩) 1 (m.map u8V) ([.int .u8 ((nib16 (atB X (n + 2)) (atB X (n + 3))).toNat : Int)]) ((m ++ [(nib16 (atB X (n + 2)) (atB X (n + 3)))]).map u8V) (map_snoc _ (nib16 (atB X (n + 2)) (atB X (n + 3))) rfl) (fun _ => rfl) (fun _ => rfl) Tryz.underlying95 (by kernel_rfl) rfl (by decide) hi3 rfl (.inr ⟨b17, 0, rfl, Cells.own (mem_a mem_z) rfl⟩) rfl (by omega) (by decide) rfl ?_)
      intro s18 hks18 hfs18
      rw [show m.length + 1 = (m ++ [(nib16 (atB X (n + 2)) (atB X (n + 3)))]).length from by first | (simp; done) | (simp; omega)]
      rw [show m.length + 1 = (m ++ [(nib16 (atB X (n + 2)) (atB X (n + 3)))]).length from by first | (simp; done) | (simp; omega)] at hks18
      have hls18 : (m ++ [(nib16 (atB X (n + 2)) (atB X (n + 3)))]).length = m.length + 1 := by first | (simp; done) | (simp; omega)
      refine os 1 ?_
      refine kp [4, 6, 62, 9, 8, 7, 45, 37, 35, 33, 32, 28, 26, 21, 0, 5] ?_
      refine nr ?_
      refine os 4 ?_
      refine kp [5, 4, 6, 62, 9, 8, 7, 45, 37, 35, 33, 32, 28, 26, 21, 0] ?_
      refine SL_nil (n_in (n_then ?_))
      have hen_ := atB_some he1
      have hen2_ : (atB X n).toNat = e1.toNat := by rw [hen_]
      have hne_ : atB X n ≠ atB X 0 := by rw [hen_, hX0_]; intro q_; exact hc1 (by rw [q_])
      rw [strE_esc (by omega) hne_ (by omega) (by rw [hep_]; exact fun q_ => by cases q_), hep_] at hi2
      rw [show (n : Int) + 4 = (((n + 4) : Nat) : Int) from by omega]
      exact ⟨(f, (n + 4), s18, (m ++ [(nib16 (atB X (n + 2)) (atB X (n + 3)))])), by simp only []; omega, ⟨fun _ => rfl, ow⟩, by simp only []; omega, by simp only []; omega, hi2, hks18, by simp only [List.length_append, List.length_cons, List.length_nil]; omega, fun q_ => by simp at q_⟩
     simp only [beq_iff_eq, bne_iff_ne, ne_eq, beq_eq_false_iff_ne, bne_eq_false_iff_eq, Classical.not_not] at hc14
     refine sr ?_
     refine os 2 ?_
     refine nt ?_
     refine SW_ret (r_in (r_then (r_in (r_then (r_in (r_then ?_))))))
     refine body_end (.tuple #[.string (bS []), .int .i64 0]) (fun _ => rfl) ?_
     have hen_ := atB_some he1
     have hen2_ : (atB X n).toNat = e1.toNat := by rw [hen_]
     have hne_ : atB X n ≠ atB X 0 := by rw [hen_, hX0_]; intro q_; exact hc1 (by rw [q_])
     have hdn_ : ∀ k_, atB (X.drop n) k_ = atB X (n + k_) := fun k_ => atB_drop X n k_
     have hep_ : escP (X.drop n) = (0, 0) := by rw [escP_eq (by rw [List.length_drop]; omega), hdn_, if_neg (by omega), if_neg (by omega), if_neg (by omega), hdn_, hdn_, if_neg]; rintro ⟨q1_, q2_, q3_⟩; omega
     rw [strE_no (by omega) hne_ (by omega) (by rw [hep_])] at hi2
     exact ⟨(), ow, by rw [← hi2]⟩
    simp only [beq_iff_eq, bne_iff_ne, ne_eq, beq_eq_false_iff_ne, bne_eq_false_iff_eq, Classical.not_not] at hc10
    refine sr ?_
    refine os 2 ?_
    refine kp [37, 35, 33, 32, 7, 28, 26, 6, 21, 0, 4, 5] ?_
    refine nt ?_
    refine cd (fun hc19 : (((atB X (n + 1)).toNat : Int) == 39) = true => ?_) (fun hc19 => ?_)
    ·simp only [beq_iff_eq, bne_iff_ne, ne_eq, beq_eq_false_iff_ne, bne_eq_false_iff_eq, Classical.not_not] at hc19
     refine SW_skip (n_then ?_)
     refine cd (fun hc20 : (((atB X (n + 1)).toNat : Int) == 39) = true => ?_) (fun hc20 => ?_)
     ·simp only [beq_iff_eq, bne_iff_ne, ne_eq, beq_eq_false_iff_ne, bne_eq_false_iff_eq, Classical.not_not] at hc20
      have hdn_ : ∀ k_, atB (X.drop n) k_ = atB X (n + k_) := fun k_ => atB_drop X n k_
      have hep_ : escP (X.drop n) = (atB X (n + 1), 2) := by rw [escP_eq (by rw [List.length_drop]; omega), hdn_]; rw [if_neg (by omega), if_neg (by omega), if_pos (by omega)]
      have hal_ : n + 1 < X.length := atB_lt (by omega)
      refine SW_region ?_
      refine os 3 ?_
      refine L (cl (r5_AtZ (X := X) (n := (n + 1)) (z := (n : Int) + 1) (by omega) (by omega)) ?_)
      rintro _ _ rfl
      refine un ?_
      refine os 1 ?_
      refine kp [6, 37, 35, 33, 32, 7, 28, 26, 21, 0, 4, 5] ?_
      refine SL_nil (n_in (n_then ?_))
      refine sr ?_
      refine os 2 ?_
      refine L (nws 5 1 1 [.int .u8 ((atB X (n + 1)).toNat : Int)] ?_)
      intro b21
      refine SL_perm _ (perm_cc perm_cz) ?_
      refine L (O_append (size := 1) (bytes := 1) (z := .int .u8 0) h m.length 1 (some ⟨b21, 0, none⟩) 1 (m.map u8V) ([.int .u8 ((atB X (n + 1)).toNat : Int)]) ((m ++ [(atB X (n + 1))]).map u8V) (map_snoc _ (atB X (n + 1)) rfl) (fun _ => rfl) (fun _ => rfl) Tryz.underlying95 (by kernel_rfl) rfl (by decide) hi3 rfl (.inr ⟨b21, 0, rfl, Cells.own (mem_a mem_z) rfl⟩) rfl (by omega) (by decide) rfl ?_)
      intro s22 hks22 hfs22
      rw [show m.length + 1 = (m ++ [(atB X (n + 1))]).length from by first | (simp; done) | (simp; omega)]
      rw [show m.length + 1 = (m ++ [(atB X (n + 1))]).length from by first | (simp; done) | (simp; omega)] at hks22
      have hls22 : (m ++ [(atB X (n + 1))]).length = m.length + 1 := by first | (simp; done) | (simp; omega)
      refine os 1 ?_
      refine kp [4, 6, 37, 35, 33, 32, 7, 28, 26, 21, 0, 5] ?_
      refine nr ?_
      refine os 4 ?_
      refine kp [5, 4, 6, 37, 35, 33, 32, 7, 28, 26, 21, 0] ?_
      refine SL_nil (n_in (n_then ?_))
      have hen_ := atB_some he1
      have hen2_ : (atB X n).toNat = e1.toNat := by rw [hen_]
      have hne_ : atB X n ≠ atB X 0 := by rw [hen_, hX0_]; intro q_; exact hc1 (by rw [q_])
      rw [strE_esc (by omega) hne_ (by omega) (by rw [hep_]; exact fun q_ => by cases q_), hep_] at hi2
      rw [show (n : Int) + 2 = (((n + 2) : Nat) : Int) from by omega]
      exact ⟨(f, (n + 2), s22, (m ++ [(atB X (n + 1))])), by simp only []; omega, ⟨fun _ => rfl, ow⟩, by simp only []; omega, by simp only []; omega, hi2, hks22, by simp only [List.length_append, List.length_cons, List.length_nil]; omega, fun q_ => by simp at q_⟩
     simp only [beq_iff_eq, bne_iff_ne, ne_eq, beq_eq_false_iff_ne, bne_eq_false_iff_eq, Classical.not_not] at hc20
     refine sr ?_
     refine os 2 ?_
     refine nt ?_
     refine cd (fun hc23 : (((atB X (n + 1)).toNat : Int) == 120) = true => ?_) (fun hc23 => ?_)
     ·simp only [beq_iff_eq, bne_iff_ne, ne_eq, beq_eq_false_iff_ne, bne_eq_false_iff_eq, Classical.not_not] at hc23
      refine sr ?_
      refine os 1 ?_
      refine nsr ?_
      refine os 3 ?_
      refine L (cl (r5_AtZ (X := X) (n := (n + 2)) (z := (n : Int) + 2) (by omega) (by omega)) ?_)
      rintro _ _ rfl
      refine un ?_
      refine L (cl (r5_Nibble (c := (atB X (n + 2)))) ?_)
      rintro _ _ rfl
      refine un ?_
      refine os 1 ?_
      refine kp [8, 7, 45, 37, 35, 33, 32, 28, 26, 6, 21, 0, 4, 5] ?_
      refine nsr ?_
      refine os 3 ?_
      refine L (cl (r5_AtZ (X := X) (n := (n + 3)) (z := (n : Int) + 3) (by omega) (by omega)) ?_)
      rintro _ _ rfl
      refine un ?_
      refine L (cl (r5_Nibble (c := (atB X (n + 3)))) ?_)
      rintro _ _ rfl
      refine un ?_
      refine os 1 ?_
      refine kp [9, 8, 7, 45, 37, 35, 33, 32, 28, 26, 6, 21, 0, 4, 5] ?_
      refine nq ?_
      refine sr ?_
      refine os 3 ?_
      refine tbp 59 (fun hg24 => ?_) (fun hg24 => ?_)
      ·replace hg24 : (nibZ (atB X (n + 2))) < 0 := hg24
       refine os 3 ?_
       refine kp [62, 9, 8, 7, 45, 37, 35, 33, 32, 28, 26, 6, 21, 0, 4, 5] ?_
       refine nt ?_
       refine ct ?_
       refine sr ?_
       refine os 2 ?_
       refine nt ?_
       refine SW_ret (r_then (r_in (r_then (r_in (r_then (r_in (r_then ?_)))))))
       refine body_end (.tuple #[.string (bS []), .int .i64 0]) (fun _ => rfl) ?_
       have hen_ := atB_some he1
       have hen2_ : (atB X n).toNat = e1.toNat := by rw [hen_]
       have hne_ : atB X n ≠ atB X 0 := by rw [hen_, hX0_]; intro q_; exact hc1 (by rw [q_])
       have hdn_ : ∀ k_, atB (X.drop n) k_ = atB X (n + k_) := fun k_ => atB_drop X n k_
       have hep_ : escP (X.drop n) = (0, 0) := by rw [escP_eq (by rw [List.length_drop]; omega), hdn_, if_neg (by omega), if_neg (by omega), if_neg (by omega), hdn_, hdn_, if_neg]; rintro ⟨q1_, q2_, q3_⟩; first | (have z_ := nibZ_neg.1 (by omega); rw [z_] at q2_; cases q2_) | (have z_ := nibZ_neg.1 (by omega); rw [z_] at q3_; cases q3_)
       rw [strE_no (by omega) hne_ (by omega) (by rw [hep_])] at hi2
       exact ⟨(), ow, by rw [← hi2]⟩
      replace hg24 : ¬ ((nibZ (atB X (n + 2))) < 0) := hg24
      refine os 3 ?_
      refine kp [62, 9, 8, 7, 45, 37, 35, 33, 32, 28, 26, 6, 21, 0, 4, 5] ?_
      refine nt ?_
      refine cdp (fun hc25 : (nibZ (atB X (n + 3))) < 0 => ?_) (fun hc25 => ?_)
      ·refine sr ?_
       refine os 2 ?_
       refine nt ?_
       refine SW_ret (r_then (r_in (r_then (r_in (r_then (r_in (r_then ?_)))))))
       refine body_end (.tuple #[.string (bS []), .int .i64 0]) (fun _ => rfl) ?_
       have hen_ := atB_some he1
       have hen2_ : (atB X n).toNat = e1.toNat := by rw [hen_]
       have hne_ : atB X n ≠ atB X 0 := by rw [hen_, hX0_]; intro q_; exact hc1 (by rw [q_])
       have hdn_ : ∀ k_, atB (X.drop n) k_ = atB X (n + k_) := fun k_ => atB_drop X n k_
       have hep_ : escP (X.drop n) = (0, 0) := by rw [escP_eq (by rw [List.length_drop]; omega), hdn_, if_neg (by omega), if_neg (by omega), if_neg (by omega), hdn_, hdn_, if_neg]; rintro ⟨q1_, q2_, q3_⟩; first | (have z_ := nibZ_neg.1 (by omega); rw [z_] at q2_; cases q2_) | (have z_ := nibZ_neg.1 (by omega); rw [z_] at q3_; cases q3_)
       rw [strE_no (by omega) hne_ (by omega) (by rw [hep_])] at hi2
       exact ⟨(), ow, by rw [← hi2]⟩
      refine SW_skip (n_then ?_)
      obtain ⟨hh1_, hv1_⟩ := nibZ_of (c := atB X (n + 2)) (by omega)
      obtain ⟨hh2_, hv2_⟩ := nibZ_of (c := atB X (n + 3)) (by omega)
      have hl1_ := nibV_lt hh1_
      have hl2_ := nibV_lt hh2_
      have hnb_ := nib16_at hl1_ hl2_
      have hdn_ : ∀ k_, atB (X.drop n) k_ = atB X (n + k_) := fun k_ => atB_drop X n k_
      have hep_ : escP (X.drop n) = (nib16 (atB X (n + 2)) (atB X (n + 3)), 4) := by rw [escP_eq (by rw [List.length_drop]; omega), hdn_]; rw [if_neg (by omega), if_neg (by omega), if_neg (by omega), hdn_, hdn_, if_pos ⟨by omega, hh1_, hh2_⟩]
      have hal_ : n + 1 < X.length := atB_lt (by omega)
      have hal3_ : n + 3 < X.length := by refine atB_lt fun z_ => ?_; unfold isHx at hh2_; have := of_decide_eq_true hh2_; omega
      refine SW_region ?_
      refine os 6 ?_
      refine kp [6, 62, 9, 8, 7, 45, 37, 35, 33, 32, 28, 26, 21, 0, 4, 5] ?_
      refine SL_nil (n_in (n_then ?_))
      refine SW_seq ?_
      rw [show (16 * (nibZ (atB X (n + 2)))) + (nibZ (atB X (n + 3))) = ((nib16 (atB X (n + 2)) (atB X (n + 3))).toNat : Int) from by omega]
      refine SW_region ?_
      refine os 2 ?_
      refine L (nws 5 1 1 [.int .u8 ((nib16 (atB X (n + 2)) (atB X (n + 3))).toNat : Int)] ?_)
      intro b26
      refine SL_perm _ (perm_cc perm_cz) ?_
      refine L (O_append (size := 1) (bytes := 1) (z := .int .u8 0) h m.length 1 (some ⟨b26, 0, none⟩) 1 (m.map u8V) ([.int .u8 ((nib16 (atB X (n + 2)) (atB X (n + 3))).toNat : Int)]) ((m ++ [(nib16 (atB X (n + 2)) (atB X (n + 3)))]).map u8V) (map_snoc _ (nib16 (atB X (n + 2)) (atB X (n + 3))) rfl) (fun _ => rfl) (fun _ => rfl) Tryz.underlying95 (by kernel_rfl) rfl (by decide) hi3 rfl (.inr ⟨b26, 0, rfl, Cells.own (mem_a mem_z) rfl⟩) rfl (by omega) (by decide) rfl ?_)
      intro s27 hks27 hfs27
      rw [show m.length + 1 = (m ++ [(nib16 (atB X (n + 2)) (atB X (n + 3)))]).length from by first | (simp; done) | (simp; omega)]
      rw [show m.length + 1 = (m ++ [(nib16 (atB X (n + 2)) (atB X (n + 3)))]).length from by first | (simp; done) | (simp; omega)] at hks27
      have hls27 : (m ++ [(nib16 (atB X (n + 2)) (atB X (n + 3)))]).length = m.length + 1 := by first | (simp; done) | (simp; omega)
      refine os 1 ?_
      refine kp [4, 6, 62, 9, 8, 7, 45, 37, 35, 33, 32, 28, 26, 21, 0, 5] ?_
      refine nr ?_
      refine os 4 ?_
      refine kp [5, 4, 6, 62, 9, 8, 7, 45, 37, 35, 33, 32, 28, 26, 21, 0] ?_
      refine SL_nil (n_in (n_then ?_))
      have hen_ := atB_some he1
      have hen2_ : (atB X n).toNat = e1.toNat := by rw [hen_]
      have hne_ : atB X n ≠ atB X 0 := by rw [hen_, hX0_]; intro q_; exact hc1 (by rw [q_])
      rw [strE_esc (by omega) hne_ (by omega) (by rw [hep_]; exact fun q_ => by cases q_), hep_] at hi2
      rw [show (n : Int) + 4 = (((n + 4) : Nat) : Int) from by omega]
      exact ⟨(f, (n + 4), s27, (m ++ [(nib16 (atB X (n + 2)) (atB X (n + 3)))])), by simp only []; omega, ⟨fun _ => rfl, ow⟩, by simp only []; omega, by simp only []; omega, hi2, hks27, by simp only [List.length_append, List.length_cons, List.length_nil]; omega, fun q_ => by simp at q_⟩
     simp only [beq_iff_eq, bne_iff_ne, ne_eq, beq_eq_false_iff_ne, bne_eq_false_iff_eq, Classical.not_not] at hc23
     refine sr ?_
     refine os 2 ?_
     refine nt ?_
     refine SW_ret (r_in (r_then (r_in (r_then (r_in (r_then ?_))))))
     refine body_end (.tuple #[.string (bS []), .int .i64 0]) (fun _ => rfl) ?_
     have hen_ := atB_some he1
     have hen2_ : (atB X n).toNat = e1.toNat := by rw [hen_]
     have hne_ : atB X n ≠ atB X 0 := by rw [hen_, hX0_]; intro q_; exact hc1 (by rw [q_])
     have hdn_ : ∀ k_, atB (X.drop n) k_ = atB X (n + k_) := fun k_ => atB_drop X n k_
     have hep_ : escP (X.drop n) = (0, 0) := by rw [escP_eq (by rw [List.length_drop]; omega), hdn_, if_neg (by omega), if_neg (by omega), if_neg (by omega), hdn_, hdn_, if_neg]; rintro ⟨q1_, q2_, q3_⟩; omega
     rw [strE_no (by omega) hne_ (by omega) (by rw [hep_])] at hi2
     exact ⟨(), ow, by rw [← hi2]⟩
    simp only [beq_iff_eq, bne_iff_ne, ne_eq, beq_eq_false_iff_ne, bne_eq_false_iff_eq, Classical.not_not] at hc19
    refine SW_region ?_
    refine os 2 ?_
    refine nt ?_
    refine cd (fun hc28 : (((atB X (n + 1)).toNat : Int) == 34) = true => ?_) (fun hc28 => ?_)
    ·simp only [beq_iff_eq, bne_iff_ne, ne_eq, beq_eq_false_iff_ne, bne_eq_false_iff_eq, Classical.not_not] at hc28
     have hdn_ : ∀ k_, atB (X.drop n) k_ = atB X (n + k_) := fun k_ => atB_drop X n k_
     have hep_ : escP (X.drop n) = (atB X (n + 1), 2) := by rw [escP_eq (by rw [List.length_drop]; omega), hdn_]; rw [if_neg (by omega), if_neg (by omega), if_pos (by omega)]
     have hal_ : n + 1 < X.length := atB_lt (by omega)
     refine SW_region ?_
     refine os 3 ?_
     refine L (cl (r5_AtZ (X := X) (n := (n + 1)) (z := (n : Int) + 1) (by omega) (by omega)) ?_)
     rintro _ _ rfl
     refine un ?_
     refine os 1 ?_
     refine kp [6, 37, 35, 33, 32, 7, 28, 26, 21, 0, 4, 5] ?_
     refine SL_nil (n_in (n_then ?_))
     refine sr ?_
     refine os 2 ?_
     refine L (nws 5 1 1 [.int .u8 ((atB X (n + 1)).toNat : Int)] ?_)
     intro b29
     refine SL_perm _ (perm_cc perm_cz) ?_
     refine L (O_append (size := 1) (bytes := 1) (z := .int .u8 0) h m.length 1 (some ⟨b29, 0, none⟩) 1 (m.map u8V) ([.int .u8 ((atB X (n + 1)).toNat : Int)]) ((m ++ [(atB X (n + 1))]).map u8V) (map_snoc _ (atB X (n + 1)) rfl) (fun _ => rfl) (fun _ => rfl) Tryz.underlying95 (by kernel_rfl) rfl (by decide) hi3 rfl (.inr ⟨b29, 0, rfl, Cells.own (mem_a mem_z) rfl⟩) rfl (by omega) (by decide) rfl ?_)
     intro s30 hks30 hfs30
     rw [show m.length + 1 = (m ++ [(atB X (n + 1))]).length from by first | (simp; done) | (simp; omega)]
     rw [show m.length + 1 = (m ++ [(atB X (n + 1))]).length from by first | (simp; done) | (simp; omega)] at hks30
     have hls30 : (m ++ [(atB X (n + 1))]).length = m.length + 1 := by first | (simp; done) | (simp; omega)
     refine os 1 ?_
     refine kp [4, 6, 37, 35, 33, 32, 7, 28, 26, 21, 0, 5] ?_
     refine nr ?_
     refine os 4 ?_
     refine kp [5, 4, 6, 37, 35, 33, 32, 7, 28, 26, 21, 0] ?_
     refine SL_nil (n_in (n_then ?_))
     have hen_ := atB_some he1
     have hen2_ : (atB X n).toNat = e1.toNat := by rw [hen_]
     have hne_ : atB X n ≠ atB X 0 := by rw [hen_, hX0_]; intro q_; exact hc1 (by rw [q_])
     rw [strE_esc (by omega) hne_ (by omega) (by rw [hep_]; exact fun q_ => by cases q_), hep_] at hi2
     rw [show (n : Int) + 2 = (((n + 2) : Nat) : Int) from by omega]
     exact ⟨(f, (n + 2), s30, (m ++ [(atB X (n + 1))])), by simp only []; omega, ⟨fun _ => rfl, ow⟩, by simp only []; omega, by simp only []; omega, hi2, hks30, by simp only [List.length_append, List.length_cons, List.length_nil]; omega, fun q_ => by simp at q_⟩
    simp only [beq_iff_eq, bne_iff_ne, ne_eq, beq_eq_false_iff_ne, bne_eq_false_iff_eq, Classical.not_not] at hc28
    refine sr ?_
    refine os 2 ?_
    refine nt ?_
    refine cd (fun hc31 : (((atB X (n + 1)).toNat : Int) == 120) = true => ?_) (fun hc31 => ?_)
    ·simp only [beq_iff_eq, bne_iff_ne, ne_eq, beq_eq_false_iff_ne, bne_eq_false_iff_eq, Classical.not_not] at hc31
     refine sr ?_
     refine os 1 ?_
     refine nsr ?_
     refine os 3 ?_
     refine L (cl (r5_AtZ (X := X) (n := (n + 2)) (z := (n : Int) + 2) (by omega) (by omega)) ?_)
     rintro _ _ rfl
     refine un ?_
     refine L (cl (r5_Nibble (c := (atB X (n + 2)))) ?_)
     rintro _ _ rfl
     refine un ?_
     refine os 1 ?_
     refine kp [8, 7, 45, 37, 35, 33, 32, 28, 26, 6, 21, 0, 4, 5] ?_
     refine nsr ?_
     refine os 3 ?_
     refine L (cl (r5_AtZ (X := X) (n := (n + 3)) (z := (n : Int) + 3) (by omega) (by omega)) ?_)
     rintro _ _ rfl
     refine un ?_
     refine L (cl (r5_Nibble (c := (atB X (n + 3)))) ?_)
     rintro _ _ rfl
     refine un ?_
     refine os 1 ?_
     refine kp [9, 8, 7, 45, 37, 35, 33, 32, 28, 26, 6, 21, 0, 4, 5] ?_
     refine nq ?_
     refine sr ?_
     refine os 3 ?_
     refine tbp 59 (fun hg32 => ?_) (fun hg32 => ?_)
     ·replace hg32 : (nibZ (atB X (n + 2))) < 0 := hg32
      refine os 3 ?_
      refine kp [62, 9, 8, 7, 45, 37, 35, 33, 32, 28, 26, 6, 21, 0, 4, 5] ?_
      refine nt ?_
      refine ct ?_
      refine sr ?_
      refine os 2 ?_
      refine nt ?_
      refine SW_ret (r_then (r_in (r_then (r_in (r_then (r_in (r_then ?_)))))))
      refine body_end (.tuple #[.string (bS []), .int .i64 0]) (fun _ => rfl) ?_
      have hen_ := atB_some he1
      have hen2_ : (atB X n).toNat = e1.toNat := by rw [hen_]
      have hne_ : atB X n ≠ atB X 0 := by rw [hen_, hX0_]; intro q_; exact hc1 (by rw [q_])
      have hdn_ : ∀ k_, atB (X.drop n) k_ = atB X (n + k_) := fun k_ => atB_drop X n k_
      have hep_ : escP (X.drop n) = (0, 0) := by rw [escP_eq (by rw [List.length_drop]; omega), hdn_, if_neg (by omega), if_neg (by omega), if_neg (by omega), hdn_, hdn_, if_neg]; rintro ⟨q1_, q2_, q3_⟩; first | (have z_ := nibZ_neg.1 (by omega); rw [z_] at q2_; cases q2_) | (have z_ := nibZ_neg.1 (by omega); rw [z_] at q3_; cases q3_)
      rw [strE_no (by omega) hne_ (by omega) (by rw [hep_])] at hi2
      exact ⟨(), ow, by rw [← hi2]⟩
     replace hg32 : ¬ ((nibZ (atB X (n + 2))) < 0) := hg32
     refine os 3 ?_
     refine kp [62, 9, 8, 7, 45, 37, 35, 33, 32, 28, 26, 6, 21, 0, 4, 5] ?_
     refine nt ?_
     refine cdp (fun hc33 : (nibZ (atB X (n + 3))) < 0 => ?_) (fun hc33 => ?_)
     ·refine sr ?_
      refine os 2 ?_
      refine nt ?_
      refine SW_ret (r_then (r_in (r_then (r_in (r_then (r_in (r_then ?_)))))))
      refine body_end (.tuple #[.string (bS []), .int .i64 0]) (fun _ => rfl) ?_
      have hen_ := atB_some he1
      have hen2_ : (atB X n).toNat = e1.toNat := by rw [hen_]
      have hne_ : atB X n ≠ atB X 0 := by rw [hen_, hX0_]; intro q_; exact hc1 (by rw [q_])
      have hdn_ : ∀ k_, atB (X.drop n) k_ = atB X (n + k_) := fun k_ => atB_drop X n k_
      have hep_ : escP (X.drop n) = (0, 0) := by rw [escP_eq (by rw [List.length_drop]; omega), hdn_, if_neg (by omega), if_neg (by omega), if_neg (by omega), hdn_, hdn_, if_neg]; rintro ⟨q1_, q2_, q3_⟩; first | (have z_ := nibZ_neg.1 (by omega); rw [z_] at q2_; cases q2_) | (have z_ := nibZ_neg.1 (by omega); rw [z_] at q3_; cases q3_)
      rw [strE_no (by omega) hne_ (by omega) (by rw [hep_])] at hi2
      exact ⟨(), ow, by rw [← hi2]⟩
     refine SW_skip (n_then ?_)
     obtain ⟨hh1_, hv1_⟩ := nibZ_of (c := atB X (n + 2)) (by omega)
     obtain ⟨hh2_, hv2_⟩ := nibZ_of (c := atB X (n + 3)) (by omega)
     have hl1_ := nibV_lt hh1_
     have hl2_ := nibV_lt hh2_
     have hnb_ := nib16_at hl1_ hl2_
     have hdn_ : ∀ k_, atB (X.drop n) k_ = atB X (n + k_) := fun k_ => atB_drop X n k_
     have hep_ : escP (X.drop n) = (nib16 (atB X (n + 2)) (atB X (n + 3)), 4) := by rw [escP_eq (by rw [List.length_drop]; omega), hdn_]; rw [if_neg (by omega), if_neg (by omega), if_neg (by omega), hdn_, hdn_, if_pos ⟨by omega, hh1_, hh2_⟩]
     have hal_ : n + 1 < X.length := atB_lt (by omega)
     have hal3_ : n + 3 < X.length := by refine atB_lt fun z_ => ?_; unfold isHx at hh2_; have := of_decide_eq_true hh2_; omega
     refine SW_region ?_
     refine os 6 ?_
     refine kp [6, 62, 9, 8, 7, 45, 37, 35, 33, 32, 28, 26, 21, 0, 4, 5] ?_
     refine SL_nil (n_in (n_then ?_))
     refine SW_seq ?_
     rw [show (16 * (nibZ (atB X (n + 2)))) + (nibZ (atB X (n + 3))) = ((nib16 (atB X (n + 2)) (atB X (n + 3))).toNat : Int) from by omega]
     refine SW_region ?_
     refine os 2 ?_
     refine L (nws 5 1 1 [.int .u8 ((nib16 (atB X (n + 2)) (atB X (n + 3))).toNat : Int)] ?_)
     intro b34
     refine SL_perm _ (perm_cc perm_cz) ?_
     refine L (O_append (size := 1) (bytes := 1) (z := .int .u8 0) h m.length 1 (some ⟨b34, 0, none⟩) 1 (m.map u8V) ([.int .u8 ((nib16 (atB X (n + 2)) (atB X (n + 3))).toNat : Int)]) ((m ++ [(nib16 (atB X (n + 2)) (atB X (n + 3)))]).map u8V) (map_snoc _ (nib16 (atB X (n + 2)) (atB X (n + 3))) rfl) (fun _ => rfl) (fun _ => rfl) Tryz.underlying95 (by kernel_rfl) rfl (by decide) hi3 rfl (.inr ⟨b34, 0, rfl, Cells.own (mem_a mem_z) rfl⟩) rfl (by omega) (by decide) rfl ?_)
     intro s35 hks35 hfs35
     rw [show m.length + 1 = (m ++ [(nib16 (atB X (n + 2)) (atB X (n + 3)))]).length from by first | (simp; done) | (simp; omega)]
     rw [show m.length + 1 = (m ++ [(nib16 (atB X (n + 2)) (atB X (n + 3)))]).length from by first | (simp; done) | (simp; omega)] at hks35
     have hls35 : (m ++ [(nib16 (atB X (n + 2)) (atB X (n + 3)))]).length = m.length + 1 := by first | (simp; done) | (simp; omega)
     refine os 1 ?_
     refine kp [4, 6, 62, 9, 8, 7, 45, 37, 35, 33, 32, 28, 26, 21, 0, 5] ?_
     refine nr ?_
     refine os 4 ?_
     refine kp [5, 4, 6, 62, 9, 8, 7, 45, 37, 35, 33, 32, 28, 26, 21, 0] ?_
     refine SL_nil (n_in (n_then ?_))
     have hen_ := atB_some he1
     have hen2_ : (atB X n).toNat = e1.toNat := by rw [hen_]
     have hne_ : atB X n ≠ atB X 0 := by rw [hen_, hX0_]; intro q_; exact hc1 (by rw [q_])
     rw [strE_esc (by omega) hne_ (by omega) (by rw [hep_]; exact fun q_ => by cases q_), hep_] at hi2
     rw [show (n : Int) + 4 = (((n + 4) : Nat) : Int) from by omega]
     exact ⟨(f, (n + 4), s35, (m ++ [(nib16 (atB X (n + 2)) (atB X (n + 3)))])), by simp only []; omega, ⟨fun _ => rfl, ow⟩, by simp only []; omega, by simp only []; omega, hi2, hks35, by simp only [List.length_append, List.length_cons, List.length_nil]; omega, fun q_ => by simp at q_⟩
    simp only [beq_iff_eq, bne_iff_ne, ne_eq, beq_eq_false_iff_ne, bne_eq_false_iff_eq, Classical.not_not] at hc31
    refine sr ?_
    refine os 2 ?_
    refine nt ?_
    refine SW_ret (r_in (r_then (r_in (r_then (r_in (r_then ?_))))))
    refine body_end (.tuple #[.string (bS []), .int .i64 0]) (fun _ => rfl) ?_
    have hen_ := atB_some he1
    have hen2_ : (atB X n).toNat = e1.toNat := by rw [hen_]
    have hne_ : atB X n ≠ atB X 0 := by rw [hen_, hX0_]; intro q_; exact hc1 (by rw [q_])
    have hdn_ : ∀ k_, atB (X.drop n) k_ = atB X (n + k_) := fun k_ => atB_drop X n k_
    have hep_ : escP (X.drop n) = (0, 0) := by rw [escP_eq (by rw [List.length_drop]; omega), hdn_, if_neg (by omega), if_neg (by omega), if_neg (by omega), hdn_, hdn_, if_neg]; rintro ⟨q1_, q2_, q3_⟩; omega
    rw [strE_no (by omega) hne_ (by omega) (by rw [hep_])] at hi2
    exact ⟨(), ow, by rw [← hi2]⟩
   simp only [beq_iff_eq, bne_iff_ne, ne_eq, beq_eq_false_iff_ne, bne_eq_false_iff_eq, Classical.not_not] at hc3
   refine SW_skip (n_then ?_)
   refine sr ?_
   refine os 2 ?_
   refine L (nws 5 1 1 [.int .u8 (e1.toNat : Int)] ?_)
   intro b36
   refine SL_perm _ (perm_cc perm_cz) ?_
   refine L (O_append (size := 1) (bytes := 1) (z := .int .u8 0) h m.length 1 (some ⟨b36, 0, none⟩) 1 (m.map u8V) ([.int .u8 (e1.toNat : Int)]) ((m ++ [e1]).map u8V) (map_snoc _ e1 rfl) (fun _ => rfl) (fun _ => rfl) Tryz.underlying95 (by kernel_rfl) rfl (by decide) hi3 rfl (.inr ⟨b36, 0, rfl, Cells.own (mem_a mem_z) rfl⟩) rfl (by omega) (by decide) rfl ?_)
   intro s37 hks37 hfs37
   rw [show m.length + 1 = (m ++ [e1]).length from by first | (simp; done) | (simp; omega)]
   rw [show m.length + 1 = (m ++ [e1]).length from by first | (simp; done) | (simp; omega)] at hks37
   have hls37 : (m ++ [e1]).length = m.length + 1 := by first | (simp; done) | (simp; omega)
   refine os 1 ?_
   refine kp [4, 28, 26, 7, 6, 21, 0, 5] ?_
   refine nr ?_
   refine os 4 ?_
   refine kp [5, 4, 28, 26, 7, 6, 21, 0] ?_
   refine SL_nil (n_in (n_then ?_))
   have hen_ := atB_some he1
   have hen2_ : (atB X n).toNat = e1.toNat := by rw [hen_]
   have hne_ : atB X n ≠ atB X 0 := by rw [hen_, hX0_]; intro q_; exact hc1 (by rw [q_])
   rw [strE_one (by omega) hne_ (by omega) (by omega), hen_] at hi2
   rw [show (n : Int) + 1 = (((n + 1) : Nat) : Int) from by omega]
   exact ⟨(f, (n + 1), s37, (m ++ [e1])), by simp only []; omega, ⟨fun _ => rfl, ow⟩, by simp only []; omega, by simp only []; omega, hi2, hks37, by simp only [List.length_append, List.length_cons, List.length_nil]; omega, fun q_ => by simp at q_⟩
  simp only [beq_iff_eq, bne_iff_ne, ne_eq, beq_eq_false_iff_ne, bne_eq_false_iff_eq, Classical.not_not] at hc1
  refine SW_exit (x_then (x_then (x_in (n_then ?_))))
  refine SW_seq ?_
  refine sr ?_
  refine os 2 ?_
  refine oX (.int .i64 ((bS X).size : Int)) (.int .i64 (X.length : Int)) (congrArg (fun n_ : Nat => Value.int .i64 (n_ : Int)) (bS_size _)) ?_
  refine os 1 ?_
  refine kp [78, 21, 0, 4, 5] ?_
  refine nt ?_
  refine SW_false (fun _ => (congrArg Value.bool (show (decide ((n : Int) ≥ (X.length : Int))) = false from (decide_eq_false (by omega))))) ?_
  refine SW_skip (n_then ?_)
  refine SW_seq ?_
  by_cases hs_ : m = []
  ·subst hs_
   have hg_ := hi5 rfl
   subst hg_
   refine SW_region ?_
   refine os 1 ?_
   refine L (O_val (.string (bS [])) rfl (fun δ w _ => by kernel_rfl) ?_)
   refine os 4 ?_
   refine kp [3, 2, 78, 21, 0, 4, 5] ?_
   refine nt ?_
   refine SW_ret ?_
   refine body_end (.tuple #[.string (bS []), .int .i64 ((n : Int) + 1)]) (fun _ => rfl) ?_
   have hen_ := atB_some he1
   rw [strE_close (by omega) (by rw [hen_, hX0_]; exact UInt8.toNat_inj.1 (by omega))] at hi2
   exact ⟨(), ow, by rw [← hi2]⟩
  refine SW_region ?_
  refine os 1 ?_
  refine L (O_bytesG h m hi3 hs_ (fun z_ he => (mem_h he)) Tryz.underlying95 Tryz.underlying5 Tryz.underlying9 (fun _ => rfl) rfl ?_)
  refine os 4 ?_
  refine kp [3, 2, 78, 21, 0, 4, 5] ?_
  refine nt ?_
  refine SW_ret ?_
  refine body_end (.tuple #[.string (bS m), .int .i64 ((n : Int) + 1)]) (fun _ => rfl) ?_
  have hen_ := atB_some he1
  rw [strE_close (by omega) (by rw [hen_, hX0_]; exact UInt8.toNat_inj.1 (by omega))] at hi2
  exact ⟨(), ow, by rw [← hi2]⟩
 refine SW_draw [] [] (by kernel_rfl) rd_nil ?_
 refine aS 0 ?_
 refine aS 1 ?_
 refine tk 2 (.int .i64 ((bS X).size : Int)) ?_
 rw [bS_size]
 refine aS 3 ?_
 refine aS 4 ?_
 refine pnA 14 (show (decide ((n : Int) < (X.length : Int))) = false from (decide_eq_false (by omega))) ?_
 refine tn 5 ?_
 refine tn 6 ?_
 refine tn 7 ?_
 refine tn 8 ?_
 refine tn 9 ?_
 refine tn 10 ?_
 refine aS 11 ?_
 refine kpA [21, 0, 4, 5] ?_
 refine SA_done (by kernel_rfl) (n_then ?_)
 refine cf ?_
 refine SW_exit (x_then (x_then (x_in (n_then ?_))))
 refine SW_seq ?_
 refine sr ?_
 refine os 2 ?_
 refine oX (.int .i64 ((bS X).size : Int)) (.int .i64 (X.length : Int)) (congrArg (fun n_ : Nat => Value.int .i64 (n_ : Int)) (bS_size _)) ?_
 refine os 1 ?_
 refine kp [78, 21, 0, 4, 5] ?_
 refine nt ?_
 refine SW_true (fun _ => (congrArg Value.bool (show (decide ((n : Int) ≥ (X.length : Int))) = true from (decide_eq_true (by omega))))) ?_
 refine sr ?_
 refine os 2 ?_
 refine nt ?_
 refine SW_ret (r_then ?_)
 refine body_end (.tuple #[.string (bS []), .int .i64 0]) (fun _ => rfl) ?_
 rw [strE_end (by omega)] at hi2
 exact ⟨(), ow, by rw [← hi2]⟩

end Go.Proofs.YtnhmmjogfkjceaaGreatDoor
namespace Go.Proofs.YtnhmmjogfkjceaaGreatDoor
open Go.Sl

theorem r5_token {W0 : World} {X : Bytes} (hX : X.length ≤ 1048576) (h0 : 0 < X.length) : SC Tryz.prog W0 30 #[.string (bS X)] [] (Ret (fun _ : Unit => []) (fun v _ => v = (tokR X 0).val)) := by
 refine SC_body (fn := Tryz.f30) (n := 110) Tryz.func30 rfl (by kernel_rfl) (ρ := [(0, .string (bS X))]) rfl ?_
 obtain ⟨x0, h0_⟩ : ∃ y_, X[0]? = some y_ := ⟨_, List.getElem?_eq_getElem h0⟩
 have hnx_ := numE_le (X := X) (a := 0) (Nat.zero_le _)
 refine sr ?_
 refine L (nw 46 4 [.int .i64 0, .int .i64 0, .string (bS []), .int .u64 0] ?_)
 intro b1
 refine os 2 ?_
 refine nsr ?_
 refine L (nw 46 4 [.int .i64 0, .int .i64 0, .string (bS []), .int .u64 0] ?_)
 intro b2
 refine nsr ?_
 refine os 1 ?_
 refine ixb 0 X .i64 x0 Tryz.underlying9 h0_ ?_
 refine L (cl (r5_Digit (c := x0)) ?_)
 rintro _ _ rfl
 refine un ?_
 refine os 1 ?_
 refine kp [6, 5, 4, 3, 2, 0] ?_
 refine nsr ?_
 refine os 1 ?_
 refine ixb 0 X .i64 x0 Tryz.underlying9 h0_ ?_
 refine L (cl (r5_Small (c := x0)) ?_)
 rintro _ _ rfl
 refine un ?_
 refine os 1 ?_
 refine kp [7, 6, 5, 4, 3, 2, 0] ?_
 refine nq ?_
 refine SW_block ?_
 refine sr ?_
 refine os 2 ?_
 refine nt ?_
 refine cd (fun hc3 : (isDig x0) = true => ?_) (fun hc3 => ?_)
 ·refine sr ?_
  refine os 1 ?_
  refine L (cl (r5_number (X := X) hX h0) ?_)
  rintro _ _ rfl
  refine un ?_
  refine os 1 ?_
  refine kp [8, 22, 7, 6, 5, 4, 3, 2, 0] ?_
  refine nsr ?_
  refine os 2 ?_
  refine L (O_val (.string (bS (X.take ((numE X 0 : Int)).toNat))) rfl (fun δ w _ => run_strTo (l := X) (numE X 0 : Int) .i64 Tryz.underlying9 rfl rfl (by omega) (by omega)) ?_)
  rw [show ((numE X 0 : Int)).toNat = (numE X 0) from by omega]
  refine L (cl (r2_Literal (X := (X.take (numE X 0))) (by rw [List.length_take]; omega)) ?_)
  rintro _ _ rfl
  refine un ?_
  refine os 5 ?_
  refine kp [10, 9, 8, 22, 7, 6, 5, 4, 3, 2, 0] ?_
  refine nsr ?_
  refine os 2 ?_
  refine L (cl (r5_AtZ (X := X) (n := (numE X 0)) (z := (numE X 0 : Int)) (by omega) (by omega)) ?_)
  rintro _ _ rfl
  refine un ?_
  refine L (cl (r5_Small (c := (atB X (numE X 0)))) ?_)
  rintro _ _ rfl
  refine un ?_
  refine os 1 ?_
  refine kp [11, 10, 9, 8, 22, 7, 6, 5, 4, 3, 2, 0] ?_
  refine nq ?_
  refine sr ?_
  refine os 3 ?_
  refine tb 39 (fun hg4 => ?_) (fun hg4 => ?_)
  ·replace hg4 : (!((litP (X.take (numE X 0))).2)) = true := hg4
   replace hg4 := bnot_t hg4
   refine os 2 ?_
   refine kp [41, 11, 10, 9, 8, 22, 7, 6, 5, 4, 3, 2, 0] ?_
   refine nt ?_
   refine ct ?_
   refine sr ?_
   refine L (lds 4 ?_)
   refine L (st [.int .i64 0, .int .i64 0, .string (bS []), .int .u64 0] ?_)
   refine os 2 ?_
   refine nt ?_
   refine SW_ret (r_then (r_in (r_then ?_)))
   refine body_endC [.agg #[.int .i64 0, .int .i64 0, .string (bS []), .int .u64 0], .int .i64 0, .int .i64 54] (fun _ => (.cons ⟨b1, 0, rfl, .inl ⟨[.int .i64 0, .int .i64 0, .string (bS []), .int .u64 0], by kernel_rfl, (cells_cons (Cell.own mem_z rfl) (cells_cons (Cell.own mem_z rfl) (cells_cons (Cell.own mem_z rfl) (cells_cons (Cell.own mem_z rfl) cells_nil)))), rfl⟩⟩ (.cons rfl (.cons rfl .nil)))) ?_
   have hx0_ := atB_some h0_
   have hr_ : tokR X 0 = .bad 54 := by rw [tok_num (by rw [atB_some h0_]; exact hc3), numR_no (by rw [List.drop_zero]; rintro ⟨q1_, q2_⟩; simp_all)]
   rw [hr_]
   exact ⟨(), ow, rfl⟩
  replace hg4 : (!((litP (X.take (numE X 0))).2)) = false := hg4
  replace hg4 := bnot_f hg4
  refine os 2 ?_
  refine kp [41, 11, 10, 9, 8, 22, 7, 6, 5, 4, 3, 2, 0] ?_
  refine nt ?_
  refine cd (fun hc5 : (isSm (atB X (numE X 0))) = true => ?_) (fun hc5 => ?_)
  ·refine sr ?_
   refine L (lds 4 ?_)
   refine L (st [.int .i64 0, .int .i64 0, .string (bS []), .int .u64 0] ?_)
   refine os 2 ?_
   refine nt ?_
   refine SW_ret (r_then (r_in (r_then ?_)))
   refine body_endC [.agg #[.int .i64 0, .int .i64 0, .string (bS []), .int .u64 0], .int .i64 0, .int .i64 54] (fun _ => (.cons ⟨b1, 0, rfl, .inl ⟨[.int .i64 0, .int .i64 0, .string (bS []), .int .u64 0], by kernel_rfl, (cells_cons (Cell.own mem_z rfl) (cells_cons (Cell.own mem_z rfl) (cells_cons (Cell.own mem_z rfl) (cells_cons (Cell.own mem_z rfl) cells_nil)))), rfl⟩⟩ (.cons rfl (.cons rfl .nil)))) ?_
   have hx0_ := atB_some h0_
   have hr_ : tokR X 0 = .bad 54 := by rw [tok_num (by rw [atB_some h0_]; exact hc3), numR_no (by rw [List.drop_zero]; rintro ⟨q1_, q2_⟩; simp_all)]
   rw [hr_]
   exact ⟨(), ow, rfl⟩
  refine SW_skip (n_then ?_)
  refine sr ?_
  refine os 1 ?_
  refine L (st [.int .i64 3, .int .i64 0, .string (bS []), .int .u64 0] ?_)
  refine nsr ?_
  refine os 2 ?_
  refine L (st [.int .i64 3, .int .i64 0, .string (bS []), .int .u64 ((litP (X.take (numE X 0))).1 : Int)] ?_)
  refine nsr ?_
  refine L (lds 4 ?_)
  refine os 1 ?_
  refine L (st [.int .i64 3, .int .i64 0, .string (bS []), .int .u64 ((litP (X.take (numE X 0))).1 : Int)] ?_)
  refine os 2 ?_
  refine kp [4, 3, 41, 11, 10, 9, 8, 22, 7, 6, 5, 2, 0] ?_
  refine nt ?_
  refine SW_ret (r_in (r_then ?_))
  refine body_endC [.agg #[.int .i64 3, .int .i64 0, .string (bS []), .int .u64 ((litP (X.take (numE X 0))).1 : Int)], .int .i64 (numE X 0 : Int), .int .i64 0] (fun _ => (.cons ⟨b1, 0, rfl, .inl ⟨[.int .i64 3, .int .i64 0, .string (bS []), .int .u64 ((litP (X.take (numE X 0))).1 : Int)], by kernel_rfl, (cells_cons (Cell.own mem_z rfl) (cells_cons (Cell.own mem_z rfl) (cells_cons (Cell.own mem_z rfl) (cells_cons (Cell.own mem_z rfl) cells_nil)))), rfl⟩⟩ (.cons rfl (.cons rfl .nil)))) ?_
  have hx0_ := atB_some h0_
  have hlit_ : (litP (X.take (numE X 0))).2 = true := by simpa using hg4
  have hr_ : tokR X 0 = .tok 3 [] (litP (X.take (numE X 0))).1 (numE X 0) := by rw [tok_num (by rw [atB_some h0_]; exact hc3), numR_yes (by rw [List.drop_zero]; exact hlit_) (by simpa using hc5), List.drop_zero]
  rw [hr_]
  exact ⟨(), ow, rfl⟩
 refine sr ?_
 refine os 2 ?_
 refine nt ?_
 refine cd (fun hc6 : (isSm x0) = true => ?_) (fun hc6 => ?_)
 ·refine sr ?_
  refine os 1 ?_
  refine nq ?_
  refine SW_block ?_
  rw [show x0 = atB X 0 from (atB_some h0_).symm]
  refine SW_loop (α := Nat) (fun z_ ρ_ σ_ => Fits ρ_ σ_ [(5, pt b2 0), (2, pt b1 0), (0, .string (bS X)), (7, .bool (isSm (atB X z_))), (12, .int .i64 (z_ : Int))] ((b2, .cells 46 4 [.int .i64 0, .int .i64 0, .string (bS []), .int .u64 0]) :: ((b1, .cells 46 4 [.int .i64 0, .int .i64 0, .string (bS []), .int .u64 0]) :: ([]))) ∧ z_ ≤ X.length ∧ runL isSm X z_ = runL isSm X 0) (fun z_ => X.length - z_) 0 ⟨⟨fun _ => rfl, ow⟩, Nat.zero_le _, rfl⟩ ?_
  rintro n ρ_ σ_ ⟨hfit, hi0, hi1⟩
  refine SW_fits hfit ?_
  clear hfit
  refine SW_seq ?_
  refine sr ?_
  refine os 1 ?_
  refine nt ?_
  refine cd (fun hc7 : ((isSm (atB X n))) = true => ?_) (fun hc7 => ?_)
  ·refine SW_skip (n_then ?_)
   refine SW_block ?_
   refine SW_seq ?_
   have hnl_ : n < X.length := by refine atB_lt fun z_ => ?_; have q_ := hc7; unfold isSm at q_; have := of_decide_eq_true q_; omega
   obtain ⟨e_, hne_⟩ : ∃ y_, X[n]? = some y_ := ⟨_, List.getElem?_eq_getElem hnl_⟩
   refine SW_region ?_
   refine os 3 ?_
   refine nr ?_
   refine os 2 ?_
   refine L (cl (r5_AtZ (X := X) (n := (n + 1)) (z := (n : Int) + 1) (by omega) (by omega)) ?_)
   rintro _ _ rfl
   refine un ?_
   refine L (cl (r5_Small (c := (atB X (n + 1)))) ?_)
   rintro _ _ rfl
   refine un ?_
   refine os 1 ?_
   refine kp [7, 12, 50, 5, 2, 0] ?_
   refine SL_nil (n_in (n_then ?_))
   rw [show (n : Int) + 1 = ((n + 1 : Nat) : Int) from by omega]
   exact ⟨n + 1, by omega, ⟨fun _ => rfl, ow⟩, by omega, (runL_step hne_ (by rw [← atB_some hne_]; exact hc7)).symm.trans hi1⟩
  refine SW_exit (x_then (x_then (x_in (n_then ?_))))
  refine SW_seq ?_
  refine SW_seq ?_
  have hrn_ : n = runL isSm X 0 := by rw [← hi1]; by_cases hl_ : n < X.length; (obtain ⟨e_, hne_⟩ : ∃ y_, X[n]? = some y_ := ⟨_, List.getElem?_eq_getElem hl_⟩; exact (runL_stop hne_ (by rw [← atB_some hne_]; exact hc7)).symm); exact (runL_end (by omega)).symm
  have hnt_ : nameT X 0 = X.take n := by unfold nameT; rw [← hrn_]; rfl
  have hntl_ : (nameT X 0).length = n := by rw [hnt_, List.length_take]; omega
  refine SW_region ?_
  refine os 2 ?_
  refine nt ?_
  refine cdp (fun hc8 : (n : Int) > 32 => ?_) (fun hc8 => ?_)
  ·refine sr ?_
   refine L (lds 4 ?_)
   refine L (st [.int .i64 0, .int .i64 0, .string (bS []), .int .u64 0] ?_)
   refine os 2 ?_
   refine nt ?_
   refine SW_ret (r_then (r_in (r_then ?_)))
   refine body_endC [.agg #[.int .i64 0, .int .i64 0, .string (bS []), .int .u64 0], .int .i64 0, .int .i64 53] (fun _ => (.cons ⟨b1, 0, rfl, .inl ⟨[.int .i64 0, .int .i64 0, .string (bS []), .int .u64 0], by kernel_rfl, (cells_cons (Cell.own mem_z rfl) (cells_cons (Cell.own mem_z rfl) (cells_cons (Cell.own mem_z rfl) (cells_cons (Cell.own mem_z rfl) cells_nil)))), rfl⟩⟩ (.cons rfl (.cons rfl .nil)))) ?_
   have hx0_ := atB_some h0_
   have hr_ : tokR X 0 = .bad 53 := by rw [tok_name (by rw [atB_some h0_]; exact hc3) (by rw [atB_some h0_]; exact hc6), nameR_bad (by omega)]
   rw [hr_]
   exact ⟨(), ow, rfl⟩
  refine SW_skip (n_then ?_)
  refine sr ?_
  refine os 1 ?_
  refine L (st [.int .i64 1, .int .i64 0, .string (bS []), .int .u64 0] ?_)
  refine nsr ?_
  refine os 2 ?_
  refine L (O_val (.string (bS (X.take ((n : Int)).toNat))) rfl (fun δ w _ => run_strTo (l := X) (n : Int) .i64 Tryz.underlying9 rfl rfl (by omega) (by omega)) ?_)
  rw [show ((n : Int)).toNat = n from by omega]
  refine os 1 ?_
  refine L (st [.int .i64 1, .int .i64 0, .string (bS (X.take n)), .int .u64 0] ?_)
  refine nsr ?_
  refine os 1 ?_
  refine kp [65, 58, 50, 5, 2, 0, 7, 12] ?_
  refine L (ld ?_)
  refine L (cl (law_Kept5 (X := (X.take n))) ?_)
  rintro _ _ rfl
  refine un ?_
  refine os 1 ?_
  refine kp [13, 58, 50, 5, 2, 0, 7, 12] ?_
  refine nq ?_
  refine sr ?_
  refine os 1 ?_
  refine nt ?_
  refine cdp (fun hc9 : (X.take n) ∈ wordsL => ?_) (fun hc9 => ?_)
  ·refine SW_region ?_
   refine os 1 ?_
   refine L (st [.int .i64 2, .int .i64 0, .string (bS (X.take n)), .int .u64 0] ?_)
   refine nsr ?_
   refine L (lds 4 ?_)
   refine os 1 ?_
   refine L (st [.int .i64 2, .int .i64 0, .string (bS (X.take n)), .int .u64 0] ?_)
   refine os 2 ?_
   refine kp [4, 3, 68, 13, 58, 50, 5, 2, 0, 7, 12] ?_
   refine nt ?_
   refine SW_ret (r_in (r_then ?_))
   refine body_endC [.agg #[.int .i64 2, .int .i64 0, .string (bS (X.take n)), .int .u64 0], .int .i64 (n : Int), .int .i64 0] (fun _ => (.cons ⟨b1, 0, rfl, .inl ⟨[.int .i64 2, .int .i64 0, .string (bS (X.take n)), .int .u64 0], by kernel_rfl, (cells_cons (Cell.own mem_z rfl) (cells_cons (Cell.own mem_z rfl) (cells_cons (Cell.own mem_z rfl) (cells_cons (Cell.own mem_z rfl) cells_nil)))), rfl⟩⟩ (.cons rfl (.cons rfl .nil)))) ?_
   have hx0_ := atB_some h0_
   have hr_ : tokR X 0 = .tok 2 (X.take n) 0 n := by rw [tok_name (by rw [atB_some h0_]; exact hc3) (by rw [atB_some h0_]; exact hc6), nameR_word (by omega) (by rw [name_word, hnt_]; exact decide_eq_true hc9), hnt_, ← hrn_]
   rw [hr_]
   exact ⟨(), ow, rfl⟩
  refine SW_skip (n_then ?_)
  refine sr ?_
  refine L (lds 4 ?_)
  refine os 1 ?_
  refine L (st [.int .i64 1, .int .i64 0, .string (bS (X.take n)), .int .u64 0] ?_)
  refine os 2 ?_
  refine nt ?_
  refine SW_ret (r_in (r_then ?_))
  refine body_endC [.agg #[.int .i64 1, .int .i64 0, .string (bS (X.take n)), .int .u64 0], .int .i64 (n : Int), .int .i64 0] (fun _ => (.cons ⟨b1, 0, rfl, .inl ⟨[.int .i64 1, .int .i64 0, .string (bS (X.take n)), .int .u64 0], by kernel_rfl, (cells_cons (Cell.own mem_z rfl) (cells_cons (Cell.own mem_z rfl) (cells_cons (Cell.own mem_z rfl) (cells_cons (Cell.own mem_z rfl) cells_nil)))), rfl⟩⟩ (.cons rfl (.cons rfl .nil)))) ?_
  have hx0_ := atB_some h0_
  have hr_ : tokR X 0 = .tok 1 (X.take n) 0 n := by rw [tok_name (by rw [atB_some h0_]; exact hc3) (by rw [atB_some h0_]; exact hc6), nameR_name (by omega) (by rw [name_word, hnt_]; exact decide_eq_false hc9), hnt_, ← hrn_]
  rw [hr_]
  exact ⟨(), ow, rfl⟩
 refine sr ?_
 refine os 1 ?_
 refine ixb 0 X .i64 x0 Tryz.underlying9 h0_ ?_
 refine os 2 ?_
 refine tb 76 (fun hg10 => ?_) (fun hg10 => ?_)
 ·replace hg10 : ((x0.toNat : Int) == 39) = true := hg10
  simp only [beq_iff_eq, bne_iff_ne, ne_eq, beq_eq_false_iff_ne, bne_eq_false_iff_eq, Classical.not_not] at hg10
  refine os 5 ?_
  refine kp [72, 48, 22, 7, 6, 5, 4, 3, 2, 0] ?_
  refine nt ?_
  refine ct ?_
  refine SW_seq ?_
  by_cases hs_ : (strP X 0).isSome = true
  ·obtain ⟨⟨sm, sz⟩, hstr_⟩ := Option.isSome_iff_exists.1 hs_
   have hsz_ := strE_ge _ _ _ (show strE (X.length + 1) X (atB X 0) (0 + 1) [] = some (sm, sz) from hstr_)
   simp only [] at hsz_
   refine SW_region ?_
   refine os 1 ?_
   have hsd_ := r5_said (W0 := W0) hX h0
   rw [hstr_] at hsd_
   refine L (cl (hsd_) ?_)
   rintro _ _ rfl
   refine un ?_
   refine os 5 ?_
   refine kp [15, 14, 72, 48, 22, 7, 6, 5, 4, 3, 2, 0] ?_
   refine nq ?_
   refine sr ?_
   refine os 2 ?_
   refine nt ?_
   refine SW_false (fun _ => (congrArg Value.bool (show (((sz : Int) + 1) == 0) = false from (beq_eq_false_iff_ne.2 (by omega))))) ?_
   refine SW_skip (n_then ?_)
   refine SW_seq ?_
   refine sr ?_
   refine os 1 ?_
   refine oX (.int .i64 ((bS sm).size : Int)) (.int .i64 (sm.length : Int)) (congrArg (fun n_ : Nat => Value.int .i64 (n_ : Int)) (bS_size _)) ?_
   refine os 1 ?_
   refine kp [91, 87, 15, 14, 72, 48, 22, 7, 6, 5, 4, 3, 2, 0] ?_
   refine nt ?_
   refine cdp (fun hc11 : (sm.length : Int) > 4096 => ?_) (fun hc11 => ?_)
   ·refine sr ?_
    refine L (lds 4 ?_)
    refine L (st [.int .i64 0, .int .i64 0, .string (bS []), .int .u64 0] ?_)
    refine os 2 ?_
    refine nt ?_
    refine SW_ret (r_then (r_in (r_then ?_)))
    refine body_endC [.agg #[.int .i64 0, .int .i64 0, .string (bS []), .int .u64 0], .int .i64 0, .int .i64 56] (fun _ => (.cons ⟨b1, 0, rfl, .inl ⟨[.int .i64 0, .int .i64 0, .string (bS []), .int .u64 0], by kernel_rfl, (cells_cons (Cell.own mem_z rfl) (cells_cons (Cell.own mem_z rfl) (cells_cons (Cell.own mem_z rfl) (cells_cons (Cell.own mem_z rfl) cells_nil)))), rfl⟩⟩ (.cons rfl (.cons rfl .nil)))) ?_
    have hx0_ := atB_some h0_
    have hr_ : tokR X 0 = .bad 56 := by rw [tok_text (by rw [atB_some h0_]; exact hc3) (by rw [atB_some h0_]; exact hc6) (by rw [hx0_]; omega), textR_long hstr_ (by omega)]
    rw [hr_]
    exact ⟨(), ow, rfl⟩
   refine SW_skip (n_then ?_)
   refine sr ?_
   refine os 1 ?_
   refine L (st [.int .i64 4, .int .i64 0, .string (bS []), .int .u64 0] ?_)
   refine nsr ?_
   refine os 2 ?_
   refine L (st [.int .i64 4, .int .i64 0, .string (bS sm), .int .u64 0] ?_)
   refine nsr ?_
   refine L (lds 4 ?_)
   refine os 1 ?_
   refine L (st [.int .i64 4, .int .i64 0, .string (bS sm), .int .u64 0] ?_)
   refine os 2 ?_
   refine kp [4, 3, 91, 87, 15, 14, 72, 48, 22, 7, 6, 5, 2, 0] ?_
   refine nt ?_
   refine SW_ret (r_in (r_then ?_))
   refine body_endC [.agg #[.int .i64 4, .int .i64 0, .string (bS sm), .int .u64 0], .int .i64 ((sz : Int) + 1), .int .i64 0] (fun _ => (.cons ⟨b1, 0, rfl, .inl ⟨[.int .i64 4, .int .i64 0, .string (bS sm), .int .u64 0], by kernel_rfl, (cells_cons (Cell.own mem_z rfl) (cells_cons (Cell.own mem_z rfl) (cells_cons (Cell.own mem_z rfl) (cells_cons (Cell.own mem_z rfl) cells_nil)))), rfl⟩⟩ (.cons rfl (.cons rfl .nil)))) ?_
   have hx0_ := atB_some h0_
   have hr_ : tokR X 0 = .tok 4 sm 0 (sz + 1) := by rw [tok_text (by rw [atB_some h0_]; exact hc3) (by rw [atB_some h0_]; exact hc6) (by rw [hx0_]; omega), textR_some hstr_ (by omega)]
   rw [hr_]
   exact ⟨(), ow, rfl⟩
  have hstr_ : strP X 0 = none := by simpa using hs_
  refine SW_region ?_
  refine os 1 ?_
  have hsd_ := r5_said (W0 := W0) hX h0
  rw [hstr_] at hsd_
  refine L (cl (hsd_) ?_)
  rintro _ _ rfl
  refine un ?_
  refine os 5 ?_
  refine kp [15, 14, 72, 48, 22, 7, 6, 5, 4, 3, 2, 0] ?_
  refine nq ?_
  refine sr ?_
  refine os 1 ?_
  refine oV (.bool true) ?_
  refine nt ?_
  refine ct ?_
  refine sr ?_
  refine L (lds 4 ?_)
  refine L (st [.int .i64 0, .int .i64 0, .string (bS []), .int .u64 0] ?_)
  refine os 2 ?_
  refine nt ?_
  refine SW_ret (r_then (r_in (r_then ?_)))
  refine body_endC [.agg #[.int .i64 0, .int .i64 0, .string (bS []), .int .u64 0], .int .i64 0, .int .i64 55] (fun _ => (.cons ⟨b1, 0, rfl, .inl ⟨[.int .i64 0, .int .i64 0, .string (bS []), .int .u64 0], by kernel_rfl, (cells_cons (Cell.own mem_z rfl) (cells_cons (Cell.own mem_z rfl) (cells_cons (Cell.own mem_z rfl) (cells_cons (Cell.own mem_z rfl) cells_nil)))), rfl⟩⟩ (.cons rfl (.cons rfl .nil)))) ?_
  have hx0_ := atB_some h0_
  have hr_ : tokR X 0 = .bad 55 := by rw [tok_text (by rw [atB_some h0_]; exact hc3) (by rw [atB_some h0_]; exact hc6) (by rw [hx0_]; omega), textR_none hstr_]
  rw [hr_]
  exact ⟨(), ow, rfl⟩
 replace hg10 : ((x0.toNat : Int) == 39) = false := hg10
 simp only [beq_iff_eq, bne_iff_ne, ne_eq, beq_eq_false_iff_ne, bne_eq_false_iff_eq, Classical.not_not] at hg10
 refine os 1 ?_
 refine ixb 0 X .i64 x0 Tryz.underlying9 h0_ ?_
 refine os 3 ?_
 refine kp [72, 48, 22, 7, 6, 5, 4, 3, 2, 0] ?_
 refine nt ?_
 refine cd (fun hc12 : ((x0.toNat : Int) == 34) = true => ?_) (fun hc12 => ?_)
 ·simp only [beq_iff_eq, bne_iff_ne, ne_eq, beq_eq_false_iff_ne, bne_eq_false_iff_eq, Classical.not_not] at hc12
  refine SW_seq ?_
  by_cases hs_ : (strP X 0).isSome = true
  ·obtain ⟨⟨sm, sz⟩, hstr_⟩ := Option.isSome_iff_exists.1 hs_
   have hsz_ := strE_ge _ _ _ (show strE (X.length + 1) X (atB X 0) (0 + 1) [] = some (sm, sz) from hstr_)
   simp only [] at hsz_
   refine SW_region ?_
   refine os 1 ?_
   have hsd_ := r5_said (W0 := W0) hX h0
   rw [hstr_] at hsd_
   refine L (cl (hsd_) ?_)
   rintro _ _ rfl
   refine un ?_
   refine os 5 ?_
   refine kp [15, 14, 72, 48, 22, 7, 6, 5, 4, 3, 2, 0] ?_
   refine nq ?_
   refine sr ?_
   refine os 2 ?_
   refine nt ?_
   refine SW_false (fun _ => (congrArg Value.bool (show (((sz : Int) + 1) == 0) = false from (beq_eq_false_iff_ne.2 (by omega))))) ?_
   refine SW_skip (n_then ?_)
   refine SW_seq ?_
   refine sr ?_
   refine os 1 ?_
   refine oX (.int .i64 ((bS sm).size : Int)) (.int .i64 (sm.length : Int)) (congrArg (fun n_ : Nat => Value.int .i64 (n_ : Int)) (bS_size _)) ?_
   refine os 1 ?_
   refine kp [91, 87, 15, 14, 72, 48, 22, 7, 6, 5, 4, 3, 2, 0] ?_
   refine nt ?_
   refine cdp (fun hc13 : (sm.length : Int) > 4096 => ?_) (fun hc13 => ?_)
   ·refine sr ?_
    refine L (lds 4 ?_)
    refine L (st [.int .i64 0, .int .i64 0, .string (bS []), .int .u64 0] ?_)
    refine os 2 ?_
    refine nt ?_
    refine SW_ret (r_then (r_in (r_then ?_)))
    refine body_endC [.agg #[.int .i64 0, .int .i64 0, .string (bS []), .int .u64 0], .int .i64 0, .int .i64 56] (fun _ => (.cons ⟨b1, 0, rfl, .inl ⟨[.int .i64 0, .int .i64 0, .string (bS []), .int .u64 0], by kernel_rfl, (cells_cons (Cell.own mem_z rfl) (cells_cons (Cell.own mem_z rfl) (cells_cons (Cell.own mem_z rfl) (cells_cons (Cell.own mem_z rfl) cells_nil)))), rfl⟩⟩ (.cons rfl (.cons rfl .nil)))) ?_
    have hx0_ := atB_some h0_
    have hr_ : tokR X 0 = .bad 56 := by rw [tok_text (by rw [atB_some h0_]; exact hc3) (by rw [atB_some h0_]; exact hc6) (by rw [hx0_]; omega), textR_long hstr_ (by omega)]
    rw [hr_]
    exact ⟨(), ow, rfl⟩
   refine SW_skip (n_then ?_)
   refine sr ?_
   refine os 1 ?_
   refine L (st [.int .i64 4, .int .i64 0, .string (bS []), .int .u64 0] ?_)
   refine nsr ?_
   refine os 2 ?_
   refine L (st [.int .i64 4, .int .i64 0, .string (bS sm), .int .u64 0] ?_)
   refine nsr ?_
   refine L (lds 4 ?_)
   refine os 1 ?_
   refine L (st [.int .i64 4, .int .i64 0, .string (bS sm), .int .u64 0] ?_)
   refine os 2 ?_
   refine kp [4, 3, 91, 87, 15, 14, 72, 48, 22, 7, 6, 5, 2, 0] ?_
   refine nt ?_
   refine SW_ret (r_in (r_then ?_))
   refine body_endC [.agg #[.int .i64 4, .int .i64 0, .string (bS sm), .int .u64 0], .int .i64 ((sz : Int) + 1), .int .i64 0] (fun _ => (.cons ⟨b1, 0, rfl, .inl ⟨[.int .i64 4, .int .i64 0, .string (bS sm), .int .u64 0], by kernel_rfl, (cells_cons (Cell.own mem_z rfl) (cells_cons (Cell.own mem_z rfl) (cells_cons (Cell.own mem_z rfl) (cells_cons (Cell.own mem_z rfl) cells_nil)))), rfl⟩⟩ (.cons rfl (.cons rfl .nil)))) ?_
   have hx0_ := atB_some h0_
   have hr_ : tokR X 0 = .tok 4 sm 0 (sz + 1) := by rw [tok_text (by rw [atB_some h0_]; exact hc3) (by rw [atB_some h0_]; exact hc6) (by rw [hx0_]; omega), textR_some hstr_ (by omega)]
   rw [hr_]
   exact ⟨(), ow, rfl⟩
  have hstr_ : strP X 0 = none := by simpa using hs_
  refine SW_region ?_
  refine os 1 ?_
  have hsd_ := r5_said (W0 := W0) hX h0
  rw [hstr_] at hsd_
  refine L (cl (hsd_) ?_)
  rintro _ _ rfl
  refine un ?_
  refine os 5 ?_
  refine kp [15, 14, 72, 48, 22, 7, 6, 5, 4, 3, 2, 0] ?_
  refine nq ?_
  refine sr ?_
  refine os 1 ?_
  refine oV (.bool true) ?_
  refine nt ?_
  refine ct ?_
  refine sr ?_
  refine L (lds 4 ?_)
  refine L (st [.int .i64 0, .int .i64 0, .string (bS []), .int .u64 0] ?_)
  refine os 2 ?_
  refine nt ?_
  refine SW_ret (r_then (r_in (r_then ?_)))
  refine body_endC [.agg #[.int .i64 0, .int .i64 0, .string (bS []), .int .u64 0], .int .i64 0, .int .i64 55] (fun _ => (.cons ⟨b1, 0, rfl, .inl ⟨[.int .i64 0, .int .i64 0, .string (bS []), .int .u64 0], by kernel_rfl, (cells_cons (Cell.own mem_z rfl) (cells_cons (Cell.own mem_z rfl) (cells_cons (Cell.own mem_z rfl) (cells_cons (Cell.own mem_z rfl) cells_nil)))), rfl⟩⟩ (.cons rfl (.cons rfl .nil)))) ?_
  have hx0_ := atB_some h0_
  have hr_ : tokR X 0 = .bad 55 := by rw [tok_text (by rw [atB_some h0_]; exact hc3) (by rw [atB_some h0_]; exact hc6) (by rw [hx0_]; omega), textR_none hstr_]
  rw [hr_]
  exact ⟨(), ow, rfl⟩
 simp only [beq_iff_eq, bne_iff_ne, ne_eq, beq_eq_false_iff_ne, bne_eq_false_iff_eq, Classical.not_not] at hc12
 refine SW_skip (n_in (n_then ?_))
 refine sr ?_
 refine os 1 ?_
 refine L (st [.int .i64 5, .int .i64 0, .string (bS []), .int .u64 0] ?_)
 refine nsr ?_
 refine os 1 ?_
 refine L (cl (r5_sign hX) ?_)
 rintro _ sb ⟨rfl, hsb1_, hsb2_⟩
 refine un ?_
 refine os 1 ?_
 refine L (st [.int .i64 5, .int .i64 0, .string (bS sb), .int .u64 0] ?_)
 refine nq ?_
 refine sr ?_
 refine os 1 ?_
 refine L (ld ?_)
 refine oX (.bool ((bS sb).toList == (bS []).toList)) (.bool (decide (sb = []))) (congrArg Value.bool (by rw [strB_eq])) ?_
 refine kp [104, 72, 48, 22, 7, 6, 5, 4, 3, 2, 0] ?_
 refine nt ?_
 refine cdp (fun hc14 : sb = [] => ?_) (fun hc14 => ?_)
 ·refine sr ?_
  refine oV (.agg #[.int .i64 0, .int .i64 0, .string (bS []), .int .u64 0]) ?_
  refine L (st [.int .i64 0, .int .i64 0, .string (bS []), .int .u64 0] ?_)
  refine os 2 ?_
  refine nt ?_
  refine SW_ret (r_then ?_)
  refine body_endC [.agg #[.int .i64 0, .int .i64 0, .string (bS []), .int .u64 0], .int .i64 0, .int .i64 57] (fun _ => (.cons ⟨b1, 0, rfl, .inl ⟨[.int .i64 0, .int .i64 0, .string (bS []), .int .u64 0], by kernel_rfl, (cells_cons (Cell.own mem_z rfl) (cells_cons (Cell.own mem_z rfl) (cells_cons (Cell.own mem_z rfl) (cells_cons (Cell.own mem_z rfl) cells_nil)))), rfl⟩⟩ (.cons rfl (.cons rfl .nil)))) ?_
  have hx0_ := atB_some h0_
  have hr_ : tokR X 0 = .bad 57 := by rw [tok_sign (by rw [atB_some h0_]; exact hc3) (by rw [atB_some h0_]; exact hc6) (by rw [hx0_]; omega), signR_best hsb1_ hsb2_, if_pos hc14]
  rw [hr_]
  exact ⟨(), ow, rfl⟩
 refine SW_skip (n_then ?_)
 refine SW_seq ?_
 refine SW_draw [(b2, 0, .int .i64 5), (b2, 1, .int .i64 0), (b2, 2, .string (bS sb)), (b2, 3, .int .u64 0), (b2, 2, .string (bS sb))] [0, 1, 2, 3, 4] (by kernel_rfl) (rd_cons (Cell.own mem_z rfl) (rd_cons (Cell.own mem_z rfl) (rd_cons (Cell.own mem_z rfl) (rd_cons (Cell.own mem_z rfl) (rd_cons (Cell.own mem_z rfl) rd_nil))))) ?_
 refine tr 0 (.agg #[.int .i64 5, .int .i64 0, .string (bS sb), .int .u64 0]) ?_ (hy := fun δ w_ hr => Rd_loads b2 0 [.int .i64 5, .int .i64 0, .string (bS sb), .int .u64 0] rfl (by kernel_rfl) (rdm_cons List.mem_cons_self (rdm_cons (List.mem_cons_of_mem _ List.mem_cons_self) (rdm_cons (List.mem_cons_of_mem _ (List.mem_cons_of_mem _ List.mem_cons_self)) (rdm_cons (List.mem_cons_of_mem _ (List.mem_cons_of_mem _ (List.mem_cons_of_mem _ List.mem_cons_self))) rdm_nil)))) hr)
 refine aF 1 ?_
 refine aL 2 ?_
 refine tk 3 (.int .i64 ((bS sb).size : Int)) ?_
 rw [bS_size]
 refine sa1 true 4 (h := st [.int .i64 5, .int .i64 0, .string (bS sb), .int .u64 0] ?_)
 refine ⟨fun hnd => (rd_cons (Cell.own (mem_c mem_z) rfl) (rd_cons (Cell.own (mem_c mem_z) rfl) (rd_cons (Cell.own (mem_c mem_z) rfl) (rd_cons (Cell.own (mem_c mem_z) rfl) (rd_cons (Cell.own (mem_c mem_z) rfl) rd_nil))))), ?_⟩
 refine aS 5 ?_
 refine aS 6 ?_
 refine SA_done (by kernel_rfl) (n_then ?_)
 refine SW_ret ?_
 refine body_endC [.agg #[.int .i64 5, .int .i64 0, .string (bS sb), .int .u64 0], .int .i64 (sb.length : Int), .int .i64 0] (fun _ => (.cons ⟨b1, 0, rfl, .inl ⟨[.int .i64 5, .int .i64 0, .string (bS sb), .int .u64 0], by kernel_rfl, (cells_cons (Cell.own mem_z rfl) (cells_cons (Cell.own mem_z rfl) (cells_cons (Cell.own mem_z rfl) (cells_cons (Cell.own mem_z rfl) cells_nil)))), rfl⟩⟩ (.cons rfl (.cons rfl .nil)))) ?_
 have hx0_ := atB_some h0_
 have hr_ : tokR X 0 = .tok 5 sb 0 sb.length := by rw [tok_sign (by rw [atB_some h0_]; exact hc3) (by rw [atB_some h0_]; exact hc6) (by rw [hx0_]; omega), signR_best hsb1_ hsb2_, if_neg hc14]
 rw [hr_]
 exact ⟨(), ow, rfl⟩

end Go.Proofs.YtnhmmjogfkjceaaGreatDoor
namespace Go.Proofs.YtnhmmjogfkjceaaGreatDoor
open Go.Sl

theorem tok_val_bad {X : Bytes} {e : Int} (h : tokR X 0 = .bad e) : (tokR X 0).val = .tuple #[.agg #[.int .i64 0, .int .i64 0, .string (bS []), .int .u64 0], .int .i64 0, .int .i64 e] := by rw [h]; rfl
theorem tok_val_tok {X t : Bytes} {k : Int} {n z : Nat} (h : tokR X 0 = .tok k t n z) : (tokR X 0).val = .tuple #[.agg #[.int .i64 k, .int .i64 0, .string (bS t), .int .u64 (n : Int)], .int .i64 (z : Int), .int .i64 0] := by rw [h]; rfl
theorem bl_at {X : Bytes} {n m : Nat} {b : Bool} (h : blP (X.drop n) 0 = (m, b)) : blP X n = (n + m, b) := by rw [blP_drop, h]
theorem ok_r {c : UInt8} (h : (c.toNat : Int) = 9 ∨ (c.toNat : Int) = 10 ∨ (32 ≤ (c.toNat : Int) ∧ (c.toNat : Int) ≤ 126)) : okR (c.toNat : Int) = true := by unfold okR; exact decide_eq_true h
theorem no_r {c : UInt8} (h : ¬ ((c.toNat : Int) = 9 ∨ (c.toNat : Int) = 10 ∨ (32 ≤ (c.toNat : Int) ∧ (c.toNat : Int) ≤ 126))) : okR (c.toNat : Int) = false := by unfold okR; exact decide_eq_false h

theorem r5_Scan {W0 : World} {X : Bytes} (hX : X.length ≤ 1048576) : SC Tryz.prog W0 10 #[.string (bS X)] [] (Ret (fun q : Gs => Gs.ent 46 4 q (((scanP X).toks).flatMap Tok.cells)) (fun v q => v = .tuple #[Gs.val q (scanP X).toks.length, .int .i64 ((scanP X).place : Int), .int .i64 (scanP X).err] ∧ Gs.ok 4 ((scanP X).toks).length q (((scanP X).toks).flatMap Tok.cells))) := by
 refine SC_body (fn := Tryz.f10) (n := 87) Tryz.func10 rfl (by kernel_rfl) (ρ := [(0, .string (bS X))]) rfl ?_
 refine sr ?_
 refine os 3 ?_
 refine nq ?_
 refine sr ?_
 refine os 1 ?_
 refine oX (.int .i64 ((bS X).size : Int)) (.int .i64 (X.length : Int)) (congrArg (fun n_ : Nat => Value.int .i64 (n_ : Int)) (bS_size _)) ?_
 refine os 1 ?_
 refine nt ?_
 refine cdp (fun hc1 : (X.length : Int) > 65536 => ?_) (fun hc1 => ?_)
 ·refine sr ?_
  refine os 3 ?_
  refine nt ?_
  refine SW_ret (r_then ?_)
  refine body_end (.tuple #[.slice none 0 0, .int .i64 0, .int .i64 50]) (fun _ => rfl) ?_
  have hr_ : scanP X = .bad 0 50 := by unfold scanP; rw [if_pos (by omega)]
  rw [hr_]
  exact ⟨Gs.nil, (ow (S := [])), rfl, rfl, rfl⟩
 refine SW_skip (n_then ?_)
 refine SW_seq ?_
 refine sr ?_
 refine os 1 ?_
 refine nt ?_
 refine SW_block ?_
 refine SW_loop (α := Nat) (fun z_ ρ_ σ_ => Fits ρ_ σ_ [(0, .string (bS X)), (5, .int .i64 (z_ : Int))] ([]) ∧ z_ ≤ X.length ∧ ∀ c ∈ X.take z_, okR (c.toNat : Int) = true) (fun z_ => X.length - z_) 0 ⟨⟨fun _ => rfl, ow⟩, Nat.zero_le _, fun _ h_ => by simp at h_⟩ ?_
 rintro n ρ_ σ_ ⟨hfit, hi0, hi1⟩
 refine SW_fits hfit ?_
 clear hfit
 refine SW_seq ?_
 refine sr ?_
 refine os 2 ?_
 refine oX (.int .i64 ((bS X).size : Int)) (.int .i64 (X.length : Int)) (congrArg (fun n_ : Nat => Value.int .i64 (n_ : Int)) (bS_size _)) ?_
 refine os 1 ?_
 refine kp [18, 0, 5] ?_
 refine nt ?_
 refine cdp (fun hc2 : (n : Int) < (X.length : Int) => ?_) (fun hc2 => ?_)
 ·refine SW_skip (n_then ?_)
  refine SW_seq ?_
  refine SW_block ?_
  refine sr ?_
  refine os 2 ?_
  obtain ⟨e1, he1⟩ : ∃ y_, X[n]? = some y_ := ⟨_, List.getElem?_eq_getElem (by omega)⟩
  refine ixb (n : Int) X .i64 e1 Tryz.underlying9 he1 ?_
  refine os 2 ?_
  refine tb 25 (fun hg3 => ?_) (fun hg3 => ?_)
  ·replace hg3 : ((e1.toNat : Int) != 9) = true := hg3
   simp only [beq_iff_eq, bne_iff_ne, ne_eq, beq_eq_false_iff_ne, bne_eq_false_iff_eq, Classical.not_not] at hg3
   refine os 2 ?_
   refine ixb (n : Int) X .i64 e1 Tryz.underlying9 he1 ?_
   refine os 3 ?_
   refine kp [31, 18, 0, 5] ?_
   refine tb 31 (fun hg4 => ?_) (fun hg4 => ?_)
   ·replace hg4 : ((e1.toNat : Int) != 10) = true := hg4
    simp only [beq_iff_eq, bne_iff_ne, ne_eq, beq_eq_false_iff_ne, bne_eq_false_iff_eq, Classical.not_not] at hg4
    refine os 2 ?_
    refine ixb (n : Int) X .i64 e1 Tryz.underlying9 he1 ?_
    refine os 2 ?_
    refine tbp 36 (fun hg5 => ?_) (fun hg5 => ?_)
    ·replace hg5 : (e1.toNat : Int) < 32 := hg5
     refine os 6 ?_
     refine kp [42, 18, 0, 5] ?_
     refine nt ?_
     refine ct ?_
     refine sr ?_
     refine os 4 ?_
     refine nt ?_
     refine SW_ret (r_in (r_then (r_then (r_in (r_then ?_)))))
     refine body_end (.tuple #[.slice none 0 0, .int .i64 (n : Int), .int .i64 51]) (fun _ => rfl) ?_
     have hr_ : scanP X = .bad n 51 := by unfold scanP; rw [if_neg (by omega), badAt_some hi1 he1 (no_r (by omega))]
     rw [hr_]
     exact ⟨Gs.nil, (ow (S := [])), rfl, rfl, rfl⟩
    replace hg5 : ¬ ((e1.toNat : Int) < 32) := hg5
    refine os 2 ?_
    refine ixb (n : Int) X .i64 e1 Tryz.underlying9 he1 ?_
    refine os 3 ?_
    refine kp [42, 18, 0, 5] ?_
    refine nt ?_
    refine cdp (fun hc6 : (e1.toNat : Int) > 126 => ?_) (fun hc6 => ?_)
    ·refine sr ?_
     refine os 4 ?_
     refine nt ?_
     refine SW_ret (r_in (r_then (r_then (r_in (r_then ?_)))))
     refine body_end (.tuple #[.slice none 0 0, .int .i64 (n : Int), .int .i64 51]) (fun _ => rfl) ?_
     have hr_ : scanP X = .bad n 51 := by unfold scanP; rw [if_neg (by omega), badAt_some hi1 he1 (no_r (by omega))]
     rw [hr_]
     exact ⟨Gs.nil, (ow (S := [])), rfl, rfl, rfl⟩
    refine SW_skip (n_in (n_then ?_))
    refine SW_region ?_
    refine os 3 ?_
    refine nt ?_
    rw [show (n : Int) + 1 = ((n + 1 : Nat) : Int) from by omega]
    exact ⟨n + 1, by omega, ⟨fun _ => rfl, ow⟩, by omega, ok_step hi1 he1 (ok_r (by omega))⟩
   replace hg4 : ((e1.toNat : Int) != 10) = false := hg4
   simp only [beq_iff_eq, bne_iff_ne, ne_eq, beq_eq_false_iff_ne, bne_eq_false_iff_eq, Classical.not_not] at hg4
   refine os 11 ?_
   refine kp [42, 18, 0, 5] ?_
   refine nt ?_
   refine cf ?_
   refine SW_skip (n_in (n_then ?_))
   refine SW_region ?_
   refine os 3 ?_
   refine nt ?_
   rw [show (n : Int) + 1 = ((n + 1 : Nat) : Int) from by omega]
   exact ⟨n + 1, by omega, ⟨fun _ => rfl, ow⟩, by omega, ok_step hi1 he1 (ok_r (by omega))⟩
  replace hg3 : ((e1.toNat : Int) != 9) = false := hg3
  simp only [beq_iff_eq, bne_iff_ne, ne_eq, beq_eq_false_iff_ne, bne_eq_false_iff_eq, Classical.not_not] at hg3
  refine os 17 ?_
  refine kp [42, 18, 0, 5] ?_
  refine nt ?_
  refine cf ?_
  refine SW_skip (n_in (n_then ?_))
  refine SW_region ?_
  refine os 3 ?_
  refine nt ?_
  rw [show (n : Int) + 1 = ((n + 1 : Nat) : Int) from by omega]
  exact ⟨n + 1, by omega, ⟨fun _ => rfl, ow⟩, by omega, ok_step hi1 he1 (ok_r (by omega))⟩
 refine SW_exit (x_then (x_then (x_in (n_then ?_))))
 refine SW_seq ?_
 have hall_ : ∀ c ∈ X, okR (c.toNat : Int) = true := by rw [show n = X.length from by omega, List.take_length] at hi1; exact hi1
 have hscan_ : scanP X = scanE (X.length + 1) X 0 [] := by unfold scanP; rw [if_neg (by omega), badAt_none hall_]
 clear hi0 hi1
 refine SW_region ?_
 refine os 1 ?_
 refine nsr ?_
 refine os 1 ?_
 refine nt ?_
 refine SW_block ?_
 refine SW_sig (Gs.ent 46 4 Gs.nil (([] : List Tok).flatMap Tok.cells) ++ []) rfl ?_
 refine SW_loop (α := Nat × Nat × Gs × List Tok) (fun z_ ρ_ σ_ => Fits ρ_ σ_ [(0, .string (bS X)), (6, Gs.val z_.2.2.1 z_.2.2.2.length), (7, .int .i64 (z_.2.1 : Int))] ((Gs.ent 46 4 z_.2.2.1 (z_.2.2.2.flatMap Tok.cells)) ++ ([])) ∧ z_.2.1 ≤ X.length ∧ X.length - z_.2.1 < z_.1 ∧ z_.2.2.2.length ≤ z_.2.1 ∧ Gs.ok 4 z_.2.2.2.length z_.2.2.1 (z_.2.2.2.flatMap Tok.cells) ∧ scanE z_.1 X z_.2.1 z_.2.2.2 = scanE (X.length + 1) X 0 []) (fun z_ => X.length - z_.2.1) ((X.length + 1), 0, Gs.nil, ([] : List Tok)) ⟨⟨fun _ => rfl, ow⟩, Nat.zero_le _, (show X.length - 0 < X.length + 1 by omega), Nat.zero_le _, ⟨rfl, rfl⟩, rfl⟩ ?_
 rintro ⟨f, n, g, l⟩ ρ_ σ_ ⟨hfit, hi0, hi1, hi2, hi3, hi4⟩
 refine SW_fits hfit ?_
 clear hfit
 simp only [] at hi0 hi1 hi2 hi3 hi4 ⊢
 obtain ⟨f, rfl⟩ : ∃ q_, f = q_ + 1 := ⟨f - 1, by omega⟩
 have hbg_ := blP_ge X n
 have hbl_ := blP_le hi0
 refine SW_block ?_
 refine sr ?_
 refine os 2 ?_
 refine L (O_val (.string (bS (X.drop ((n : Int)).toNat))) rfl (fun δ w _ => run_strFrom (l := X) (n : Int) .i64 Tryz.underlying9 rfl rfl (by omega) (by omega)) ?_)
 rw [show ((n : Int)).toNat = n from by omega]
 obtain ⟨⟨bm, bb⟩, hbv_⟩ : ∃ q, blP (X.drop n) 0 = q := ⟨_, rfl⟩
 have hba_ := bl_at hbv_
 rw [hba_] at hbg_ hbl_
 simp only [] at hbg_ hbl_
 have hq_ := r5_Blanks (W0 := W0) (X := X.drop n) (by rw [List.length_drop]; omega)
 rw [hbv_] at hq_
 refine L (cl (hq_) ?_)
 rintro _ _ rfl
 refine un ?_
 refine os 5 ?_
 refine kp [9, 8, 0, 6, 7] ?_
 refine nsr ?_
 refine os 4 ?_
 refine kp [7, 9, 8, 0, 6] ?_
 refine nq ?_
 refine SW_seq ?_
 rw [show (n : Int) + (bm : Int) = ((n + bm : Nat) : Int) from by omega]
 refine SW_region ?_
 refine os 2 ?_
 refine nt ?_
 refine cd (fun hc7 : (!bb) = true => ?_) (fun hc7 => ?_)
 ·replace hc7 := bnot_t hc7
  refine sr ?_
  refine os 4 ?_
  refine nt ?_
  refine SW_ret (r_then (r_in (r_then (r_in ?_))))
  refine body_end (.tuple #[.slice none 0 0, .int .i64 ((n + bm : Nat) : Int), .int .i64 52]) (fun _ => rfl) ?_
  rw [scanE_bl (by rw [hba_]; simpa using hc7), hba_] at hi4
  have hr_ := hscan_.trans hi4.symm
  rw [hr_]
  exact ⟨Gs.nil, (ow (S := [])), rfl, rfl, rfl⟩
 replace hc7 := bnot_f hc7
 refine SW_skip (n_then ?_)
 refine SW_seq ?_
 refine sr ?_
 refine os 2 ?_
 refine oX (.int .i64 ((bS X).size : Int)) (.int .i64 (X.length : Int)) (congrArg (fun n_ : Nat => Value.int .i64 (n_ : Int)) (bS_size _)) ?_
 refine os 1 ?_
 refine kp [60, 55, 7, 9, 8, 0, 6] ?_
 refine nt ?_
 refine cd (fun hc8 : (((n + bm : Nat) : Int) == (X.length : Int)) = true => ?_) (fun hc8 => ?_)
 ·simp only [beq_iff_eq, bne_iff_ne, ne_eq, beq_eq_false_iff_ne, bne_eq_false_iff_eq, Classical.not_not] at hc8
  refine sr ?_
  refine os 2 ?_
  refine oV (.agg #[.int .i64 0, .int .i64 ((n + bm : Nat) : Int), .string (bS []), .int .u64 0]) ?_
  refine L (nws 46 4 1 [.int .i64 0, .int .i64 ((n + bm : Nat) : Int), .string (bS []), .int .u64 0] ?_)
  intro b9
  refine SL_perm _ (perm_cc perm_cz) ?_
  refine L (O_append (size := 4) (bytes := 40) (z := .agg #[.int .i64 0, .int .i64 0, .string (bS []), .int .u64 0]) g l.length 1 (some ⟨b9, 0, none⟩) 1 (l.flatMap Tok.cells) ([.int .i64 0, .int .i64 ((n + bm : Nat) : Int), .string (bS []), .int .u64 0]) ((l ++ [(⟨0, n + bm, [], 0⟩ : Tok)]).flatMap Tok.cells) (flat_snoc _ (⟨0, n + bm, [], 0⟩ : Tok) rfl) (fun _ => rfl) (fun _ => rfl) Tryz.underlying23 (by kernel_rfl) rfl (by decide) hi3 rfl (.inr ⟨b9, 0, rfl, Cells.own (mem_a mem_z) rfl⟩) rfl (by omega) (by decide) rfl ?_)
  intro s10 hks10 hfs10
  rw [show l.length + 1 = (l ++ [(⟨0, n + bm, [], 0⟩ : Tok)]).length from by first | (simp; done) | (simp; omega)]
  rw [show l.length + 1 = (l ++ [(⟨0, n + bm, [], 0⟩ : Tok)]).length from by first | (simp; done) | (simp; omega)] at hks10
  have hls10 : (l ++ [(⟨0, n + bm, [], 0⟩ : Tok)]).length = l.length + 1 := by first | (simp; done) | (simp; omega)
  refine os 3 ?_
  refine kp [4, 3, 2, 60, 55, 7, 9, 8, 0, 6] ?_
  refine nt ?_
  refine SW_ret (r_then (r_in (r_then (r_in ?_))))
  refine body_end (.tuple #[Gs.val s10 ((l ++ [(⟨0, n + bm, [], 0⟩ : Tok)]).length), .int .i64 0, .int .i64 0]) (fun _ => rfl) ?_
  rw [scanE_end (by rw [hba_]; simpa using hc7) (by rw [hba_]; omega), hba_] at hi4
  have hr_ := hscan_.trans hi4.symm
  rw [hr_]
  exact ⟨s10, (ow (S := Gs.ent 46 4 s10 ((l ++ [(⟨0, n + bm, [], 0⟩ : Tok)]).flatMap Tok.cells))), rfl, hks10⟩
 simp only [beq_iff_eq, bne_iff_ne, ne_eq, beq_eq_false_iff_ne, bne_eq_false_iff_eq, Classical.not_not] at hc8
 refine SW_skip (n_then ?_)
 refine SW_seq ?_
 by_cases hs_ : ∃ k t m z, tokR (X.drop (n + bm)) 0 = .tok k t m z
 ·obtain ⟨tk, tt, tn, tz, hcs_⟩ := hs_
  have htz_ : 0 < tz ∧ tz ≤ X.length - (n + bm) := by rcases tokR_cases (X := X.drop (n + bm)) (a := 0) (by rw [List.length_drop]; omega) with ⟨e_, q_, -⟩ | ⟨_, _, _, _, q_, q1_, q2_, -⟩; (rw [hcs_] at q_; cases q_); (rw [hcs_] at q_; injection q_ with _ _ _ q5_; subst q5_; rw [List.length_drop] at q2_; exact ⟨q1_, q2_⟩)
  refine SW_region ?_
  refine os 2 ?_
  refine L (O_val (.string (bS (X.drop (((n + bm : Nat) : Int)).toNat))) rfl (fun δ w _ => run_strFrom (l := X) ((n + bm : Nat) : Int) .i64 Tryz.underlying9 rfl rfl (by omega) (by omega)) ?_)
  rw [show (((n + bm : Nat) : Int)).toNat = (n + bm) from by omega]
  have hq_ := r5_token (W0 := W0) (X := X.drop (n + bm)) (by rw [List.length_drop]; omega) (by rw [List.length_drop]; omega)
  rw [tok_val_tok hcs_] at hq_
  refine L (cl (hq_) ?_)
  rintro _ _ rfl
  refine un ?_
  refine os 4 ?_
  refine L (nw 46 4 [.int .i64 0, .int .i64 0, .string (bS []), .int .u64 0] ?_)
  intro b11
  refine L (st [.int .i64 tk, .int .i64 0, .string (bS tt), .int .u64 (tn : Int)] ?_)
  refine os 2 ?_
  refine kp [11, 8, 10, 60, 55, 7, 9, 0, 6] ?_
  refine nq ?_
  refine sr ?_
  refine os 1 ?_
  refine oV (.bool false) ?_
  refine nt ?_
  refine cf ?_
  refine SW_skip (n_then ?_)
  refine sr ?_
  refine os 2 ?_
  refine L (st [.int .i64 tk, .int .i64 ((n + bm : Nat) : Int), .string (bS tt), .int .u64 (tn : Int)] ?_)
  refine nsr ?_
  refine os 1 ?_
  refine L (lds 4 ?_)
  refine L (nws 46 4 1 [.int .i64 tk, .int .i64 ((n + bm : Nat) : Int), .string (bS tt), .int .u64 (tn : Int)] ?_)
  intro b12
  refine SL_perm _ (perm_cc (perm_cc perm_cz)) ?_
  refine L (O_append (size := 4) (bytes := 40) (z := .agg #[.int .i64 0, .int .i64 0, .string (bS []), .int .u64 0]) g l.length 1 (some ⟨b12, 0, none⟩) 1 (l.flatMap Tok.cells) ([.int .i64 tk, .int .i64 ((n + bm : Nat) : Int), .string (bS tt), .int .u64 (tn : Int)]) ((l ++ [(⟨tk, n + bm, tt, tn⟩ : Tok)]).flatMap Tok.cells) (flat_snoc _ (⟨tk, n + bm, tt, tn⟩ : Tok) rfl) (fun _ => rfl) (fun _ => rfl) Tryz.underlying23 (by kernel_rfl) rfl (by decide) hi3 rfl (.inr ⟨b12, 0, rfl, Cells.own (mem_a mem_z) rfl⟩) rfl (by omega) (by decide) rfl ?_)
  intro s13 hks13 hfs13
  rw [show l.length + 1 = (l ++ [(⟨tk, n + bm, tt, tn⟩ : Tok)]).length from by first | (simp; done) | (simp; omega)]
  rw [show l.length + 1 = (l ++ [(⟨tk, n + bm, tt, tn⟩ : Tok)]).length from by first | (simp; done) | (simp; omega)] at hks13
  have hls13 : (l ++ [(⟨tk, n + bm, tt, tn⟩ : Tok)]).length = l.length + 1 := by first | (simp; done) | (simp; omega)
  refine os 1 ?_
  refine kp [6, 75, 11, 8, 10, 60, 55, 7, 9, 0] ?_
  refine nr ?_
  refine os 4 ?_
  refine kp [7, 6, 75, 11, 8, 10, 60, 55, 9, 0] ?_
  refine SL_nil (n_in (n_then ?_))
  have htr_ : tokR X (n + bm) = .tok tk tt tn (n + bm + tz) := by rw [tokR_drop (by omega), hcs_]; rfl
  rw [scanE_tok (by rw [hba_]; simpa using hc7) (by rw [hba_]; omega) (by rw [hba_, htr_]; rfl), hba_, htr_] at hi4
  rw [show ((n + bm : Nat) : Int) + (tz : Int) = ((n + bm + tz : Nat) : Int) from by omega]
  exact ⟨(f, n + bm + tz, s13, (l ++ [(⟨tk, n + bm, tt, tn⟩ : Tok)])), by simp only []; omega, ⟨fun _ => rfl, ow⟩, by simp only []; omega, by simp only []; omega, by simp only [List.length_append, List.length_cons, List.length_nil]; omega, hks13, hi4⟩
 obtain ⟨te, hcs_, hte_⟩ : ∃ e, tokR (X.drop (n + bm)) 0 = .bad e ∧ 53 ≤ e := by rcases tokR_cases (X := X.drop (n + bm)) (a := 0) (by rw [List.length_drop]; omega) with ⟨e_, q_, q1_, -⟩ | ⟨k_, t_, n_, z_, q_, -⟩; exact ⟨e_, q_, q1_⟩; exact absurd ⟨k_, t_, n_, z_, q_⟩ hs_
 refine SW_region ?_
 refine os 2 ?_
 refine L (O_val (.string (bS (X.drop (((n + bm : Nat) : Int)).toNat))) rfl (fun δ w _ => run_strFrom (l := X) ((n + bm : Nat) : Int) .i64 Tryz.underlying9 rfl rfl (by omega) (by omega)) ?_)
 rw [show (((n + bm : Nat) : Int)).toNat = (n + bm) from by omega]
 have hq_ := r5_token (W0 := W0) (X := X.drop (n + bm)) (by rw [List.length_drop]; omega) (by rw [List.length_drop]; omega)
 rw [tok_val_bad hcs_] at hq_
 refine L (cl (hq_) ?_)
 rintro _ _ rfl
 refine un ?_
 refine os 4 ?_
 refine L (nw 46 4 [.int .i64 0, .int .i64 0, .string (bS []), .int .u64 0] ?_)
 intro b14
 refine L (st [.int .i64 0, .int .i64 0, .string (bS []), .int .u64 0] ?_)
 refine os 2 ?_
 refine kp [11, 8, 10, 60, 55, 7, 9, 0, 6] ?_
 refine nq ?_
 refine sr ?_
 refine os 2 ?_
 refine nt ?_
 refine SW_true (fun _ => (congrArg Value.bool (show (te != 0) = true from (bne_iff_ne.2 (by omega))))) ?_
 refine sr ?_
 refine os 5 ?_
 refine kp [4, 3, 2, 75, 11, 8, 10, 60, 55, 7, 9, 0, 6] ?_
 refine nt ?_
 refine SW_ret (r_then (r_in (r_then (r_in ?_))))
 refine body_end (.tuple #[.slice none 0 0, .int .i64 ((n + bm : Nat) : Int), .int .i64 te]) (fun _ => rfl) ?_
 have htr_ : tokR X (n + bm) = .bad te := by rw [tokR_drop (by omega), hcs_]; rfl
 rw [scanE_bad (by rw [hba_]; simpa using hc7) (by rw [hba_]; omega) (by rw [hba_, htr_]; show ¬ te = 0; omega), hba_, htr_] at hi4
 have hr_ := hscan_.trans hi4.symm
 rw [hr_]
 exact ⟨Gs.nil, (ow (S := [])), rfl, rfl, rfl⟩

theorem law_LexScans {W0 : World} (hL : LaidL W0) {X : Bytes} (hX : X.length ≤ 1048576) : SC Tryz.prog W0 3 #[.string (bS X)] [] (Ret (fun _ : Unit => []) (fun v _ => v = .bool true)) := by
 refine SC_body (fn := Tryz.f3) (n := 41) Tryz.func3 rfl (by kernel_rfl) (ρ := [(0, .string (bS X))]) rfl ?_
 refine sr ?_
 refine os 1 ?_
 refine nq ?_
 refine sr ?_
 refine os 1 ?_
 refine oX (.int .i64 ((bS X).size : Int)) (.int .i64 (X.length : Int)) (congrArg (fun n_ : Nat => Value.int .i64 (n_ : Int)) (bS_size _)) ?_
 refine os 1 ?_
 refine nt ?_
 refine cdp (fun hc1 : (X.length : Int) > 131072 => ?_) (fun hc1 => ?_)
 ·refine sr ?_
  refine L (cl (law_alive5 hL) ?_)
  rintro _ _ rfl
  refine un ?_
  refine os 1 ?_
  refine kp [2, 11, 0] ?_
  refine nt ?_
  refine SW_ret (r_then ?_)
  refine body_end (.bool true) (fun _ => rfl) ?_
  exact ⟨(), ow, rfl⟩
 refine SW_skip (n_then ?_)
 refine sr ?_
 refine os 1 ?_
 refine L (cl (lex_Scan hL (X := X)) ?_)
 rintro _ g2 ⟨rfl, hkg2⟩
 refine os 7 ?_
 refine kp [5, 4, 3, 11, 2, 0] ?_
 refine nsr ?_
 refine os 1 ?_
 refine L (cl (r5_Scan (X := X) hX) ?_)
 rintro _ g3 ⟨rfl, hkg3⟩
 refine os 7 ?_
 refine kp [8, 7, 6, 5, 4, 3, 11, 2, 0] ?_
 refine nsr ?_
 refine L (cl (law_alive5 hL) ?_)
 rintro _ _ rfl
 refine un ?_
 refine os 3 ?_
 refine L (cl (law_same5 (l := (scanP X).toks) hkg2 hkg3) ?_)
 rintro _ _ rfl
 refine un ?_
 refine os 7 ?_
 refine kp [36, 8, 7, 6, 5, 4, 3, 11, 2, 0] ?_
 refine pn 36 (show (((scanP X).place : Int) == ((scanP X).place : Int)) = true from (beq_self_eq_true _)) ?_
 refine os 5 ?_
 refine kp [2, 8, 7, 6, 5, 4, 3, 11, 0] ?_
 refine nt ?_
 refine SW_ret ?_
 refine body_end (.bool (((scanP X).err) == ((scanP X).err))) (fun _ => rfl) ?_
 exact ⟨(), ow, congrArg Value.bool (beq_self_eq_true _)⟩

end Go.Proofs.YtnhmmjogfkjceaaGreatDoor
namespace Go.Proofs.YtnhmmjogfkjceaaGreatDoor
open Go.Sl Go.ChangeShapes Go.WideShapes Go.ChangeAt Go.RowKit

theorem LexScans_contract (H : Type) (enc : TypeId × Value → H) (W : World) (base : Nat) (args : Array Value) (ds gs : List (DataW H)) (before : List MemPlace)
   (hval : ∀ (j : Nat) t v, Tryz.f3.params[j]? = some t → args[j]? = some v → Value.okWide Tryz.prog W .any base t v)
   (hW : DataW.Whole enc Tryz.prog Tryz.f3.params.toList Rows.lexScansSpec.vars false W args.toList ds gs before) (hk : Rows.uptoSmall H (ds ++ gs) = true) (hLd : laidMetH Tryz.prog Rows.lexScansUptoRow.laid W) (hsh : W.ShapedOpen Tryz.prog) :
   Calls Tryz.prog 3 args W fun e W' => ∃ v, e = .returned v ∧ Rows.lexScansSpec.post enc Tryz.prog Tryz.f3 false true false false W args v W' := by
 have hL := laid_lex hLd hsh
 have hW' := hW
 obtain ⟨p, q, hA0, hV, rfl, hfz, hnd⟩ := hW
 have hA : DataW.TrodAll enc Tryz.prog W 0 (fun _ => true) true Tryz.f3.params.toList args.toList ds p := hA0
 rw [Tryz.params3] at hA hval
 obtain ⟨v0, vs0, d0, ds0, p0, q0, hargs, rfl, rfl, h0, r0⟩ := trodAll_cons hA
 obtain ⟨rfl, rfl, rfl⟩ := trodAll_nil r0
 obtain rfl : args = #[v0] := by cases args; simp_all
 obtain ⟨rfl, rfl⟩ := trodVars_none hV
 obtain ⟨x0, rfl, hz0⟩ := arg_strB hk (by simp) (hval 0 9 v0 rfl rfl) h0
 refine (calls_law (law_LexScans hL hz0)).mono fun e W' ⟨he, hb⟩ => ?_
 subst he
 exact ⟨_, rfl, post_law (tb := 4) hW' (by rw [Tryz.params3]; decide) rfl rfl rfl rfl rfl Tryz.underlying4 hb⟩

theorem LexScans_reads (os : Os) {H : Type} (enc : TypeId × Value → H) : ∃ places, DataW.whole enc Tryz.prog ((laidWorld os).forCall (fun _ _ => 0) ⟨#[], #[.string .empty], []⟩).memory Tryz.f3.params.toList Rows.lexScansSpec.vars false #[.string .empty].toList 8 = some ([.lit (.string [])], [], places) :=
 ⟨[], by kernel_rfl⟩
theorem LexScans_lifted (os : Os) (started : os.Started) (H : Type) (enc : TypeId × Value → H) (F : Stop.Interp) :
   ReturnsInHanded {} Tryz.checked os 3 .any ((Rows.OpenSpec.upto Rows.lexScansSpec).preRow enc Tryz.prog Tryz.f3 Rows.lexScansUptoRow.domain false Rows.lexScansUptoRow.laid) (((Rows.OpenSpec.upto Rows.lexScansSpec).at F).post enc Tryz.prog Tryz.f3 false true false false) := by
 obtain ⟨places, hx⟩ := LexScans_reads os enc
 refine returnsInHanded_of_row (C := Tryz.checked) (s := Rows.OpenSpec.upto Rows.lexScansSpec) rown started (by kernel_rfl) Tryz.func3
   (witness_row_atRef (enc := enc) (C := Tryz.checked) false (laidWorld os) #[.string .empty] rfl (by kernel_rfl) (by kernel_rfl) (by kernel_rfl)
     (OpenSpec.preRow_of_cond 8 hx (by kernel_rfl) (fun k hk => by cases hk; kernel_rfl) (by kernel_rfl) (laid_met os _))) ?_
 intro W base args ds gs before hval hW _ hcond _ hL hsh _
 exact LexScans_contract H enc W base args ds gs before hval hW (hcond _ rfl) hL hsh

theorem LexScans_row : Rows.LexScansUptoSaid :=
 OpenClaim.holds_of_cond 3 Tryz.f3 rfl rfl rfl rfl rfl rfl rfl ⟨rfl, rfl, rfl, rfl, rfl⟩ rfl rfl rfl rfl rfl (by kernel_rfl) Tryz.func3 (by kernel_rfl)
   (of_decide_eq_true (by kernel_rfl)) (by unfold Func.isWrapper; first | (rw [if_pos (by decide +kernel)]; kernel_rfl) | (rw [if_neg (by decide +kernel)]; exact ⟨rfl, rfl⟩))
   (fun os started H enc _ F => by rw [OpenClaim.pre_eq_preRow]; exact LexScans_lifted os started H enc F)
theorem LexScans_plain (f : FuncId) (fn : Func) (hf : Tryz.pinned.checked.prog.funcNamed "brazier/brazierlaw05.LexScans" = some f) (hfn : Tryz.pinned.checked.prog.funcs[f]? = some fn) :
   true = Tryz.pinned.checked.prog.looks [] ∧ ∀ (j : Nat) t, fn.params[j]? = some t → Tryz.pinned.checked.prog.wantsStandIn t = false := by
 obtain rfl : f = 3 := Option.some.inj ((show Tryz.prog.funcNamed "brazier/brazierlaw05.LexScans" = some 3 by kernel_rfl).symm.trans hf) |>.symm
 obtain rfl : fn = Tryz.f3 := (Option.some.inj (Tryz.func3.symm.trans hfn)).symm
 refine ⟨by kernel_rfl, fun j t ht => ?_⟩
 rw [Tryz.params3] at ht
 have hm : t = 9 := by simpa using Array.mem_of_getElem? ht
 rcases hm with rfl
 · exact (show Tryz.prog.wantsStandIn 9 = false by kernel_rfl)
theorem LexScans_proved : Rows.LexScansUptoCardSaid :=
 Claim7.holds_tied_plain_at .later [] _ _ _ _ LexScans_row (fun _ h => by cases h) (by kernel_rfl) (fun _ h => by cases h) lexScansUpto_row_tie rfl ⟨rfl, rfl⟩ (by kernel_rfl) rfl LexScans_plain (by kernel_rfl)
end Go.Proofs.YtnhmmjogfkjceaaGreatDoor
