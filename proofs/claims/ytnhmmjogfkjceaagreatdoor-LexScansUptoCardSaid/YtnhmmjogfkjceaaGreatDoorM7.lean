/-
  What the functions of numbers as texts do, step by step: each theorem is one function's contract. Conditions: those that each theorem names.
-/
import Derived.Test.YtnhmmjogfkjceaaGreatDoorProg
import Derived.Test.YtnhmmjogfkjceaaGreatDoorM6
import Derived.Test.YtnhmmjogfkjceaaGreatDoorM5
set_option linter.unusedVariables false
set_option linter.unusedSimpArgs false
set_option maxRecDepth 100000
set_option maxHeartbeats 4000000
set_option linter.unusedSectionVars false
namespace Go.Proofs.YtnhmmjogfkjceaaGreatDoor
open Go.Sl

theorem r2_Digits {W0 : World} {X : Bytes} (hX : X.length ≤ 1152921504606846976) : SC Tryz.prog W0 107 #[.string (bS X)] [] (Ret (fun _ : Unit => []) (fun v _ => v = .int .i64 ((X.takeWhile isDig).length : Int))) := by
 refine SC_body (fn := Tryz.f107) (n := 23) Tryz.func107 rfl (by kernel_rfl) (ρ := [(0, .string (bS X))]) rfl ?_
 refine sr ?_
 refine os 1 ?_
 refine nsr ?_
 refine os 1 ?_
 refine nq ?_
 refine SW_block ?_
 refine SW_loop (α := Nat) (fun z_ ρ_ σ_ => Fits ρ_ σ_ [(0, .string (bS X)), (3, .int .i64 (z_ : Int))] ([]) ∧ z_ ≤ X.length ∧ (X.takeWhile isDig).length = z_ + ((X.drop z_).takeWhile isDig).length) (fun z_ => X.length - z_) 0 ⟨⟨fun _ => rfl, ow⟩, Nat.zero_le _, by simp⟩ ?_
 rintro i ρ_ σ_ ⟨hfit, hi0, hi1⟩
 refine SW_fits hfit ?_
 clear hfit
 refine SW_seq ?_
 refine sr ?_
 refine os 2 ?_
 refine oX (.int .i64 ((bS X).size : Int)) (.int .i64 (X.length : Int)) (congrArg (fun n_ : Nat => Value.int .i64 (n_ : Int)) (bS_size _)) ?_
 refine os 2 ?_
 refine tbp 8 (fun hg1 => ?_) (fun hg1 => ?_)
 ·replace hg1 : (i : Int) < (X.length : Int) := hg1
  refine os 2 ?_
  obtain ⟨e1, he1⟩ : ∃ y_, X[i]? = some y_ := ⟨_, List.getElem?_eq_getElem (by omega)⟩
  refine ixb (i : Int) X .i64 e1 Tryz.underlying9 he1 ?_
  refine os 3 ?_
  refine kp [14, 0, 3] ?_
  refine tbp 14 (fun hg2 => ?_) (fun hg2 => ?_)
  ·replace hg2 : (e1.toNat : Int) ≥ 48 := hg2
   refine os 2 ?_
   refine ixb (i : Int) X .i64 e1 Tryz.underlying9 he1 ?_
   refine os 2 ?_
   refine kp [19, 0, 3] ?_
   refine nt ?_
   refine cdp (fun hc3 : (e1.toNat : Int) ≤ 57 => ?_) (fun hc3 => ?_)
   ·refine SW_skip (n_then ?_)
    refine SW_block ?_
    refine SW_region ?_
    refine os 3 ?_
    refine SL_nil (n_in (n_then ?_))
    rw [show (i : Int) + 1 = ((i + 1 : Nat) : Int) from by omega]
    exact ⟨i + 1, by omega, ⟨fun _ => rfl, ow⟩, by omega, by have := tw_step he1 (dig_yes (by omega) (by omega)); omega⟩
   refine SW_exit (x_then (x_then (x_in (n_then ?_))))
   refine sr ?_
   refine os 2 ?_
   refine nt ?_
   refine SW_ret ?_
   refine body_end (.int .i64 (i : Int)) (fun _ => rfl) ?_
   have hst_ := tw_stop (X := X) (i := i) (.inr ⟨_, he1, dig_no (by omega)⟩)
   exact ⟨(), ow, congrArg (Value.int .i64) (by omega)⟩
  replace hg2 : ¬ ((e1.toNat : Int) ≥ 48) := hg2
  refine os 5 ?_
  refine kp [19, 0, 3] ?_
  refine nt ?_
  refine cf ?_
  refine SW_exit (x_then (x_then (x_in (n_then ?_))))
  refine sr ?_
  refine os 2 ?_
  refine nt ?_
  refine SW_ret ?_
  refine body_end (.int .i64 (i : Int)) (fun _ => rfl) ?_
  have hst_ := tw_stop (X := X) (i := i) (.inr ⟨_, he1, dig_no (by omega)⟩)
  exact ⟨(), ow, congrArg (Value.int .i64) (by omega)⟩
 replace hg1 : ¬ ((i : Int) < (X.length : Int)) := hg1
 refine os 11 ?_
 refine kp [19, 0, 3] ?_
 refine nt ?_
 refine cf ?_
 refine SW_exit (x_then (x_then (x_in (n_then ?_))))
 refine sr ?_
 refine os 2 ?_
 refine nt ?_
 refine SW_ret ?_
 refine body_end (.int .i64 (i : Int)) (fun _ => rfl) ?_
 have hst_ := tw_stop (X := X) (i := i) (.inl (by omega))
 exact ⟨(), ow, congrArg (Value.int .i64) (by omega)⟩

theorem r2_Decimal {W0 : World} {X : Bytes} (hX : X.length ≤ 1152921504606846976) : SC Tryz.prog W0 48 #[.string (bS X)] [] (Ret (fun _ : Int × Int × Bool => []) (fun v x => v = .tuple #[.int .i64 x.1, .int .i64 x.2.1, .bool x.2.2, .bool (decP X).2] ∧ ((decP X).2 = true → x.1 = ((decP X).1.ahead.length : Int) ∧ x.2.1 = ((decP X).1.behind.length : Int) ∧ x.2.2 = decide (46 ∈ X)))) := by
 refine SC_body (fn := Tryz.f48) (n := 79) Tryz.func48 rfl (by kernel_rfl) (ρ := [(0, .string (bS X))]) rfl ?_
 refine sr ?_
 refine os 4 ?_
 refine nsr ?_
 refine os 1 ?_
 have htw1_ := takeWhile_len isDig X
 refine L (cl (r2_Digits (X := X) (by first | omega | (simp; omega))) ?_)
 rintro _ _ rfl
 refine un ?_
 refine os 1 ?_
 refine nsr ?_
 refine os 2 ?_
 refine L (O_val (.string (bS (X.drop ((((X.takeWhile isDig).length : Nat) : Int)).toNat))) rfl (fun δ w _ => run_strFrom (l := X) (((X.takeWhile isDig).length : Nat) : Int) .i64 Tryz.underlying9 rfl rfl (by omega) (by omega)) ?_)
 rw [show ((((X.takeWhile isDig).length : Nat) : Int)).toNat = ((X.takeWhile isDig).length) from by omega]
 refine os 1 ?_
 refine kp [0, 6, 5, 4, 3, 2] ?_
 refine nq ?_
 rw [drop_tw]
 obtain ⟨A, hA⟩ : ∃ A, X.takeWhile isDig = A := ⟨_, rfl⟩
 obtain ⟨R0, hR0⟩ : ∃ R, X.dropWhile isDig = R := ⟨_, rfl⟩
 have hdl_ : R0.length ≤ X.length := by rw [← hR0]; exact dropWhile_len _ _
 rw [hA] at htw1_ ⊢
 rw [hR0]
 refine SW_region ?_
 refine os 1 ?_
 refine nq ?_
 refine SW_cut5 (fun ρ_ σ_ => Fits ρ_ σ_ [(0, .string (bS (fracP R0).2)), (6, .int .i64 (A.length : Int)), (7, .int .i64 (((fracP R0).1.length : Nat) : Int)), (8, .bool (Lib.hasPrefix R0 [46]))] ([])) ?_ ?_
 ·refine SW_region ?_
  refine os 1 ?_
  refine oX (.int .i64 ((bS R0).size : Int)) (.int .i64 (R0.length : Int)) (congrArg (fun n_ : Nat => Value.int .i64 (n_ : Int)) (bS_size _)) ?_
  refine os 2 ?_
  refine tbp 18 (fun hg1 => ?_) (fun hg1 => ?_)
  ·replace hg1 : (R0.length : Int) > 0 := hg1
   refine os 1 ?_
   obtain ⟨e1, he1⟩ : ∃ y_, R0[0]? = some y_ := ⟨_, List.getElem?_eq_getElem (by omega)⟩
   refine ixb 0 R0 .i64 e1 Tryz.underlying9 he1 ?_
   refine os 3 ?_
   refine kp [8, 7, 0, 6] ?_
   refine nsr ?_
   refine os 1 ?_
   refine nt ?_
   refine cd (fun hc2 : ((e1.toNat : Int) == 46) = true => ?_) (fun hc2 => ?_)
   ·simp only [beq_iff_eq, bne_iff_ne, ne_eq, beq_eq_false_iff_ne, bne_eq_false_iff_eq, Classical.not_not] at hc2
    refine sr ?_
    refine os 1 ?_
    refine L (O_val (.string (bS (R0.drop 1))) rfl (fun δ w _ => run_strFrom (l := R0) 1 .i64 Tryz.underlying9 rfl rfl (by omega) (by omega)) ?_)
    have htw6_ := takeWhile_len isDig (R0.drop 1)
    refine L (cl (r2_Digits (X := R0.drop 1) (by first | omega | (simp; omega))) ?_)
    rintro _ _ rfl
    refine un ?_
    refine os 1 ?_
    refine kp [7, 23, 8, 0, 6] ?_
    refine nt ?_
    have hdr_ : (R0.drop 1).length + 1 = R0.length := by rw [List.length_drop]; omega
    refine SW_region ?_
    refine os 3 ?_
    refine L (O_val (.string (bS (R0.drop (1 + ((((R0.drop 1).takeWhile isDig).length : Nat) : Int)).toNat))) rfl (fun δ w _ => run_strFrom (l := R0) (1 + ((((R0.drop 1).takeWhile isDig).length : Nat) : Int)) .i64 Tryz.underlying9 rfl rfl (by omega) (by omega)) ?_)
    rw [show (1 + ((((R0.drop 1).takeWhile isDig).length : Nat) : Int)).toNat = (1 + ((R0.drop 1).takeWhile isDig).length) from by omega]
    refine os 1 ?_
    refine kp [0, 7, 23, 8, 6] ?_
    refine nt ?_
    have hc_ := cons_of_at he1
    rw [show e1 = 46 from (u8_eq (n := 46) (by decide)).1 (by omega)] at hc_
    have hf_ : fracP R0 = ((R0.drop 1).takeWhile isDig, (R0.drop 1).dropWhile isDig) := by (conv => lhs; rw [hc_]); rfl
    rw [hf_, pre46 he1]
    rw [show R0.drop (1 + ((R0.drop 1).takeWhile isDig).length) = (R0.drop 1).dropWhile isDig from by rw [← List.drop_drop]; exact drop_tw _]
    exact ⟨fun _ => rfl, ow⟩
   simp only [beq_iff_eq, bne_iff_ne, ne_eq, beq_eq_false_iff_ne, bne_eq_false_iff_eq, Classical.not_not] at hc2
   refine SW_skip (n_then ?_)
   have hp_ : Lib.hasPrefix R0 [46] = false := by rw [pre46 he1]; exact beq_eq_false_iff_ne.2 (by omega)
   rw [fracP_no hp_, pre46 he1]
   exact ⟨fun _ => rfl, ow⟩
  replace hg1 : ¬ ((R0.length : Int) > 0) := hg1
  refine os 5 ?_
  refine kp [8, 7, 0, 6] ?_
  refine nsr ?_
  refine os 1 ?_
  refine nt ?_
  refine cf ?_
  refine SW_skip (n_then ?_)
  have hp_ : Lib.hasPrefix R0 [46] = false := by rw [show R0 = [] from List.length_eq_zero_iff.1 (by omega)]; rfl
  rw [fracP_no hp_, hp_]
  exact ⟨fun _ => rfl, ow⟩
 ·rintro ρ_ σ_ hfit
  refine SW_fits hfit ?_
  clear hfit
  refine SW_seq ?_
  refine SW_seq ?_
  have hfl_ := fracP_len R0
  obtain ⟨B, hB⟩ : ∃ B, (fracP R0).1 = B := ⟨_, rfl⟩
  obtain ⟨R, hR⟩ : ∃ R, (fracP R0).2 = R := ⟨_, rfl⟩
  obtain ⟨pt, hpt⟩ : ∃ b, Lib.hasPrefix R0 [46] = b := ⟨_, rfl⟩
  have hdot_ : (decP X).2 = true → pt = decide (46 ∈ X) := fun h_ => pre_mem h_ (by rw [hR0]; exact hpt)
  rw [hB, hR] at hfl_
  rw [hB, hR, hpt]
  rw [← hR0] at hB hR
  refine SW_region ?_
  refine os 4 ?_
  refine kp [34, 0, 6, 7, 8] ?_
  refine nt ?_
  refine cd (fun hc3 : (((A.length : Int) + ((B.length : Nat) : Int)) == 0) = true => ?_) (fun hc3 => ?_)
  ·simp only [beq_iff_eq, bne_iff_ne, ne_eq, beq_eq_false_iff_ne, bne_eq_false_iff_eq, Classical.not_not] at hc3
   refine sr ?_
   refine os 4 ?_
   refine nt ?_
   refine SW_ret (r_then ?_)
   refine body_end (.tuple #[.int .i64 0, .int .i64 0, .bool false, .bool false]) (fun _ => rfl) ?_
   have hd_ := decP_none (X := X) hA hB ⟨List.length_eq_zero_iff.1 (by omega), List.length_eq_zero_iff.1 (by omega)⟩
   exact ⟨(0, 0, false), ow, by rw [hd_], fun h_ => by rw [hd_] at h_; cases h_⟩
  simp only [beq_iff_eq, bne_iff_ne, ne_eq, beq_eq_false_iff_ne, bne_eq_false_iff_eq, Classical.not_not] at hc3
  refine SW_skip (n_then ?_)
  refine SW_seq ?_
  refine sr ?_
  refine os 1 ?_
  refine oX (.int .i64 ((bS R).size : Int)) (.int .i64 (R.length : Int)) (congrArg (fun n_ : Nat => Value.int .i64 (n_ : Int)) (bS_size _)) ?_
  refine os 1 ?_
  refine nt ?_
  refine cd (fun hc4 : ((R.length : Int) == 0) = true => ?_) (fun hc4 => ?_)
  ·simp only [beq_iff_eq, bne_iff_ne, ne_eq, beq_eq_false_iff_ne, bne_eq_false_iff_eq, Classical.not_not] at hc4
   refine sr ?_
   refine os 7 ?_
   refine kp [5, 4, 3, 2, 37, 34, 0, 6, 7, 8] ?_
   refine nt ?_
   refine SW_ret (r_then ?_)
   refine body_end (.tuple #[.int .i64 (A.length : Int), .int .i64 ((B.length : Nat) : Int), .bool pt, .bool true]) (fun _ => rfl) ?_
   have hn0_ : ¬ (A = [] ∧ B = []) := by rintro ⟨q1_, q2_⟩; subst q1_ q2_; simp at *
   have hd_ := decP_end (X := X) hA hB hR hn0_ (List.length_eq_zero_iff.1 (by omega))
   exact ⟨((A.length : Int), (B.length : Int), pt), ow, by rw [hd_], fun h_ => ⟨by rw [hd_], by rw [hd_], hdot_ h_⟩⟩
  simp only [beq_iff_eq, bne_iff_ne, ne_eq, beq_eq_false_iff_ne, bne_eq_false_iff_eq, Classical.not_not] at hc4
  refine SW_skip (n_then ?_)
  refine SW_seq ?_
  refine sr ?_
  refine os 1 ?_
  obtain ⟨e2, he2⟩ : ∃ y_, R[0]? = some y_ := ⟨_, List.getElem?_eq_getElem (by omega)⟩
  refine ixb 0 R .i64 e2 Tryz.underlying9 he2 ?_
  refine os 2 ?_
  refine tb 44 (fun hg5 => ?_) (fun hg5 => ?_)
  ·replace hg5 : ((e2.toNat : Int) != 101) = true := hg5
   simp only [beq_iff_eq, bne_iff_ne, ne_eq, beq_eq_false_iff_ne, bne_eq_false_iff_eq, Classical.not_not] at hg5
   refine os 1 ?_
   refine ixb 0 R .i64 e2 Tryz.underlying9 he2 ?_
   refine os 2 ?_
   refine kp [48, 37, 34, 0, 6, 7, 8] ?_
   refine nt ?_
   refine cd (fun hc6 : ((e2.toNat : Int) != 69) = true => ?_) (fun hc6 => ?_)
   ·simp only [beq_iff_eq, bne_iff_ne, ne_eq, beq_eq_false_iff_ne, bne_eq_false_iff_eq, Classical.not_not] at hc6
    refine sr ?_
    refine os 4 ?_
    refine nt ?_
    refine SW_ret (r_then ?_)
    refine body_end (.tuple #[.int .i64 0, .int .i64 0, .bool false, .bool false]) (fun _ => rfl) ?_
    have hn0_ : ¬ (A = [] ∧ B = []) := by rintro ⟨q1_, q2_⟩; subst q1_ q2_; simp at *
    have hRc_ := cons_of_at he2
    have hd_ := decP_other (X := X) hA hB hR hn0_ hRc_ ⟨fun q_ => absurd ((u8_eq (n := 101) (by decide)).2 q_) (by omega), fun q_ => absurd ((u8_eq (n := 69) (by decide)).2 q_) (by omega)⟩
    exact ⟨(0, 0, false), ow, by rw [hd_], fun h_ => by rw [hd_] at h_; cases h_⟩
   simp only [beq_iff_eq, bne_iff_ne, ne_eq, beq_eq_false_iff_ne, bne_eq_false_iff_eq, Classical.not_not] at hc6
   refine SW_skip (n_then ?_)
   refine sr ?_
   refine os 1 ?_
   refine L (O_val (.string (bS (R.drop 1))) rfl (fun δ w _ => run_strFrom (l := R) 1 .i64 Tryz.underlying9 rfl rfl (by omega) (by omega)) ?_)
   refine os 1 ?_
   refine nq ?_
   refine SW_seq ?_
   obtain ⟨r, hr_⟩ : ∃ r, R.drop 1 = r := ⟨_, rfl⟩
   have hrl_ : r.length ≤ R.length := by rw [← hr_, List.length_drop]; omega
   rw [hr_]
   refine SW_cut3 (fun ρ_ σ_ => Fits ρ_ σ_ [(6, .int .i64 (A.length : Int)), (7, .int .i64 ((B.length : Nat) : Int)), (8, .bool pt), (0, .string (bS (wayP r).2))] ([])) ?_ ?_
   ·refine SW_region ?_
    refine os 1 ?_
    refine oX (.int .i64 ((bS r).size : Int)) (.int .i64 (r.length : Int)) (congrArg (fun n_ : Nat => Value.int .i64 (n_ : Int)) (bS_size _)) ?_
    refine os 2 ?_
    refine tbp 54 (fun hg7 => ?_) (fun hg7 => ?_)
    ·replace hg7 : (r.length : Int) > 0 := hg7
     refine os 1 ?_
     obtain ⟨e3, he3⟩ : ∃ y_, r[0]? = some y_ := ⟨_, List.getElem?_eq_getElem (by omega)⟩
     refine ixb 0 r .i64 e3 Tryz.underlying9 he3 ?_
     refine os 2 ?_
     refine kp [58, 54, 6, 7, 8, 0] ?_
     refine tb 58 (fun hg8 => ?_) (fun hg8 => ?_)
     ·replace hg8 : ((e3.toNat : Int) == 43) = true := hg8
      simp only [beq_iff_eq, bne_iff_ne, ne_eq, beq_eq_false_iff_ne, bne_eq_false_iff_eq, Classical.not_not] at hg8
      refine os 5 ?_
      refine kp [63, 6, 7, 8, 0] ?_
      refine nt ?_
      refine ct ?_
      refine SW_region ?_
      refine os 1 ?_
      refine L (O_val (.string (bS (r.drop 1))) rfl (fun δ w _ => run_strFrom (l := r) 1 .i64 Tryz.underlying9 rfl rfl (by omega) (by omega)) ?_)
      refine os 1 ?_
      refine nt ?_
      rw [wayP_hit he3 (by first | exact .inl ((u8_eq (n := 43) (by decide)).1 (by omega)) | exact .inr ((u8_eq (n := 45) (by decide)).1 (by omega)))]
      exact ⟨fun _ => rfl, ow⟩
     replace hg8 : ((e3.toNat : Int) == 43) = false := hg8
     simp only [beq_iff_eq, bne_iff_ne, ne_eq, beq_eq_false_iff_ne, bne_eq_false_iff_eq, Classical.not_not] at hg8
     refine os 1 ?_
     refine ixb 0 r .i64 e3 Tryz.underlying9 he3 ?_
     refine os 3 ?_
     refine kp [63, 6, 7, 8, 0] ?_
     refine nt ?_
     refine cd (fun hc9 : ((e3.toNat : Int) == 45) = true => ?_) (fun hc9 => ?_)
     ·simp only [beq_iff_eq, bne_iff_ne, ne_eq, beq_eq_false_iff_ne, bne_eq_false_iff_eq, Classical.not_not] at hc9
      refine SW_region ?_
      refine os 1 ?_
      refine L (O_val (.string (bS (r.drop 1))) rfl (fun δ w _ => run_strFrom (l := r) 1 .i64 Tryz.underlying9 rfl rfl (by omega) (by omega)) ?_)
      refine os 1 ?_
      refine nt ?_
      rw [wayP_hit he3 (by first | exact .inl ((u8_eq (n := 43) (by decide)).1 (by omega)) | exact .inr ((u8_eq (n := 45) (by decide)).1 (by omega)))]
      exact ⟨fun _ => rfl, ow⟩
     simp only [beq_iff_eq, bne_iff_ne, ne_eq, beq_eq_false_iff_ne, bne_eq_false_iff_eq, Classical.not_not] at hc9
     refine SW_skip (n_then ?_)
     rw [wayP_miss he3 (by rintro (q_ | q_) <;> (have z_ := congrArg (fun c : UInt8 => (c.toNat : Int)) q_; simp at z_; omega))]
     exact ⟨fun _ => rfl, ow⟩
    replace hg7 : ¬ ((r.length : Int) > 0) := hg7
    refine os 9 ?_
    refine kp [63, 6, 7, 8, 0] ?_
    refine nt ?_
    refine cf ?_
    refine SW_skip (n_then ?_)
    rw [show wayP r = (1, r) from by rw [show r = [] from List.length_eq_zero_iff.1 (by omega)]; rfl]
    exact ⟨fun _ => rfl, ow⟩
   ·rintro ρ_ σ_ hfit
    refine SW_fits hfit ?_
    clear hfit
    refine SW_seq ?_
    have hwl_ := wayP_len r
    obtain ⟨W, hW⟩ : ∃ W, (wayP r).2 = W := ⟨_, rfl⟩
    rw [hW] at hwl_ ⊢
    refine SW_region ?_
    refine os 1 ?_
    have htw17_ := takeWhile_len isDig W
    refine L (cl (r2_Digits (X := W) (by first | omega | (simp; omega))) ?_)
    rintro _ _ rfl
    refine un ?_
    refine os 1 ?_
    refine nsr ?_
    refine os 6 ?_
    refine tbp 73 (fun hg10 => ?_) (fun hg10 => ?_)
    ·replace hg10 : (((W.takeWhile isDig).length : Nat) : Int) > 0 := hg10
     refine os 2 ?_
     refine oX (.int .i64 ((bS W).size : Int)) (.int .i64 (W.length : Int)) (congrArg (fun n_ : Nat => Value.int .i64 (n_ : Int)) (bS_size _)) ?_
     refine os 6 ?_
     refine kp [5, 4, 3, 2, 9, 6, 7, 8, 0] ?_
     refine nt ?_
     refine SW_ret ?_
     refine body_end (.tuple #[.int .i64 (A.length : Int), .int .i64 ((B.length : Nat) : Int), .bool pt, .bool ((((W.takeWhile isDig).length : Nat) : Int) == (W.length : Int))]) (fun _ => rfl) ?_
     have hn0_ : ¬ (A = [] ∧ B = []) := by rintro ⟨q1_, q2_⟩; subst q1_ q2_; simp at *
     have hRc_ := cons_of_at he2
     have hd_ := decP_pow (X := X) hA hB hR hn0_ hRc_ (by first | exact .inl ((u8_eq (n := 101) (by decide)).1 (by omega)) | exact .inr ((u8_eq (n := 69) (by decide)).1 (by omega)))
     rw [hr_, hW] at hd_
     exact ⟨((A.length : Int), (B.length : Int), pt), ow, by rw [hd_, ← pow_ok (by assumption)], fun h_ => ⟨by rw [hd_], by rw [hd_], hdot_ h_⟩⟩
    replace hg10 : ¬ ((((W.takeWhile isDig).length : Nat) : Int) > 0) := hg10
    refine os 9 ?_
    refine kp [5, 4, 3, 2, 9, 6, 7, 8, 0] ?_
    refine nt ?_
    refine SW_ret ?_
    refine body_end (.tuple #[.int .i64 (A.length : Int), .int .i64 ((B.length : Nat) : Int), .bool pt, .bool false]) (fun _ => rfl) ?_
    have hn0_ : ¬ (A = [] ∧ B = []) := by rintro ⟨q1_, q2_⟩; subst q1_ q2_; simp at *
    have hRc_ := cons_of_at he2
    have hd_ := decP_pow (X := X) hA hB hR hn0_ hRc_ (by first | exact .inl ((u8_eq (n := 101) (by decide)).1 (by omega)) | exact .inr ((u8_eq (n := 69) (by decide)).1 (by omega)))
    rw [hr_, hW] at hd_
    exact ⟨((A.length : Int), (B.length : Int), pt), ow, by rw [hd_, ← pow_no (by assumption)], fun h_ => ⟨by rw [hd_], by rw [hd_], hdot_ h_⟩⟩
  replace hg5 : ((e2.toNat : Int) != 101) = false := hg5
  simp only [beq_iff_eq, bne_iff_ne, ne_eq, beq_eq_false_iff_ne, bne_eq_false_iff_eq, Classical.not_not] at hg5
  refine os 4 ?_
  refine kp [48, 37, 34, 0, 6, 7, 8] ?_
  refine nt ?_
  refine cf ?_
  refine SW_skip (n_then ?_)
  refine sr ?_
  refine os 1 ?_
  refine L (O_val (.string (bS (R.drop 1))) rfl (fun δ w _ => run_strFrom (l := R) 1 .i64 Tryz.underlying9 rfl rfl (by omega) (by omega)) ?_)
  refine os 1 ?_
  refine nq ?_
  refine SW_seq ?_
  obtain ⟨r, hr_⟩ : ∃ r, R.drop 1 = r := ⟨_, rfl⟩
  have hrl_ : r.length ≤ R.length := by rw [← hr_, List.length_drop]; omega
  rw [hr_]
  refine SW_cut3 (fun ρ_ σ_ => Fits ρ_ σ_ [(6, .int .i64 (A.length : Int)), (7, .int .i64 ((B.length : Nat) : Int)), (8, .bool pt), (0, .string (bS (wayP r).2))] ([])) ?_ ?_
  ·refine SW_region ?_
   refine os 1 ?_
   refine oX (.int .i64 ((bS r).size : Int)) (.int .i64 (r.length : Int)) (congrArg (fun n_ : Nat => Value.int .i64 (n_ : Int)) (bS_size _)) ?_
   refine os 2 ?_
   refine tbp 54 (fun hg11 => ?_) (fun hg11 => ?_)
   ·replace hg11 : (r.length : Int) > 0 := hg11
    refine os 1 ?_
    obtain ⟨e4, he4⟩ : ∃ y_, r[0]? = some y_ := ⟨_, List.getElem?_eq_getElem (by omega)⟩
    refine ixb 0 r .i64 e4 Tryz.underlying9 he4 ?_
    refine os 2 ?_
    refine kp [58, 54, 6, 7, 8, 0] ?_
    refine tb 58 (fun hg12 => ?_) (fun hg12 => ?_)
    ·replace hg12 : ((e4.toNat : Int) == 43) = true := hg12
     simp only [beq_iff_eq, bne_iff_ne, ne_eq, beq_eq_false_iff_ne, bne_eq_false_iff_eq, Classical.not_not] at hg12
     refine os 5 ?_
     refine kp [63, 6, 7, 8, 0] ?_
     refine nt ?_
     refine ct ?_
     refine SW_region ?_
     refine os 1 ?_
     refine L (O_val (.string (bS (r.drop 1))) rfl (fun δ w _ => run_strFrom (l := r) 1 .i64 Tryz.underlying9 rfl rfl (by omega) (by omega)) ?_)
     refine os 1 ?_
     refine nt ?_
     rw [wayP_hit he4 (by first | exact .inl ((u8_eq (n := 43) (by decide)).1 (by omega)) | exact .inr ((u8_eq (n := 45) (by decide)).1 (by omega)))]
     exact ⟨fun _ => rfl, ow⟩
    replace hg12 : ((e4.toNat : Int) == 43) = false := hg12
    simp only [beq_iff_eq, bne_iff_ne, ne_eq, beq_eq_false_iff_ne, bne_eq_false_iff_eq, Classical.not_not] at hg12
    refine os 1 ?_
    refine ixb 0 r .i64 e4 Tryz.underlying9 he4 ?_
    refine os 3 ?_
    refine kp [63, 6, 7, 8, 0] ?_
    refine nt ?_
    refine cd (fun hc13 : ((e4.toNat : Int) == 45) = true => ?_) (fun hc13 => ?_)
    ·simp only [beq_iff_eq, bne_iff_ne, ne_eq, beq_eq_false_iff_ne, bne_eq_false_iff_eq, Classical.not_not] at hc13
     refine SW_region ?_
     refine os 1 ?_
     refine L (O_val (.string (bS (r.drop 1))) rfl (fun δ w _ => run_strFrom (l := r) 1 .i64 Tryz.underlying9 rfl rfl (by omega) (by omega)) ?_)
     refine os 1 ?_
     refine nt ?_
     rw [wayP_hit he4 (by first | exact .inl ((u8_eq (n := 43) (by decide)).1 (by omega)) | exact .inr ((u8_eq (n := 45) (by decide)).1 (by omega)))]
     exact ⟨fun _ => rfl, ow⟩
    simp only [beq_iff_eq, bne_iff_ne, ne_eq, beq_eq_false_iff_ne, bne_eq_false_iff_eq, Classical.not_not] at hc13
    refine SW_skip (n_then ?_)
    rw [wayP_miss he4 (by rintro (q_ | q_) <;> (have z_ := congrArg (fun c : UInt8 => (c.toNat : Int)) q_; simp at z_; omega))]
    exact ⟨fun _ => rfl, ow⟩
   replace hg11 : ¬ ((r.length : Int) > 0) := hg11
   refine os 9 ?_
   refine kp [63, 6, 7, 8, 0] ?_
   refine nt ?_
   refine cf ?_
   refine SW_skip (n_then ?_)
   rw [show wayP r = (1, r) from by rw [show r = [] from List.length_eq_zero_iff.1 (by omega)]; rfl]
   exact ⟨fun _ => rfl, ow⟩
  ·rintro ρ_ σ_ hfit
   refine SW_fits hfit ?_
   clear hfit
   refine SW_seq ?_
   have hwl_ := wayP_len r
   obtain ⟨W, hW⟩ : ∃ W, (wayP r).2 = W := ⟨_, rfl⟩
   rw [hW] at hwl_ ⊢
   refine SW_region ?_
   refine os 1 ?_
   have htw17_ := takeWhile_len isDig W
   refine L (cl (r2_Digits (X := W) (by first | omega | (simp; omega))) ?_)
   rintro _ _ rfl
   refine un ?_
   refine os 1 ?_
   refine nsr ?_
   refine os 6 ?_
   refine tbp 73 (fun hg14 => ?_) (fun hg14 => ?_)
   ·replace hg14 : (((W.takeWhile isDig).length : Nat) : Int) > 0 := hg14
    refine os 2 ?_
    refine oX (.int .i64 ((bS W).size : Int)) (.int .i64 (W.length : Int)) (congrArg (fun n_ : Nat => Value.int .i64 (n_ : Int)) (bS_size _)) ?_
    refine os 6 ?_
    refine kp [5, 4, 3, 2, 9, 6, 7, 8, 0] ?_
    refine nt ?_
    refine SW_ret ?_
    refine body_end (.tuple #[.int .i64 (A.length : Int), .int .i64 ((B.length : Nat) : Int), .bool pt, .bool ((((W.takeWhile isDig).length : Nat) : Int) == (W.length : Int))]) (fun _ => rfl) ?_
    have hn0_ : ¬ (A = [] ∧ B = []) := by rintro ⟨q1_, q2_⟩; subst q1_ q2_; simp at *
    have hRc_ := cons_of_at he2
    have hd_ := decP_pow (X := X) hA hB hR hn0_ hRc_ (by first | exact .inl ((u8_eq (n := 101) (by decide)).1 (by omega)) | exact .inr ((u8_eq (n := 69) (by decide)).1 (by omega)))
    rw [hr_, hW] at hd_
    exact ⟨((A.length : Int), (B.length : Int), pt), ow, by rw [hd_, ← pow_ok (by assumption)], fun h_ => ⟨by rw [hd_], by rw [hd_], hdot_ h_⟩⟩
   replace hg14 : ¬ ((((W.takeWhile isDig).length : Nat) : Int) > 0) := hg14
   refine os 9 ?_
   refine kp [5, 4, 3, 2, 9, 6, 7, 8, 0] ?_
   refine nt ?_
   refine SW_ret ?_
   refine body_end (.tuple #[.int .i64 (A.length : Int), .int .i64 ((B.length : Nat) : Int), .bool pt, .bool false]) (fun _ => rfl) ?_
   have hn0_ : ¬ (A = [] ∧ B = []) := by rintro ⟨q1_, q2_⟩; subst q1_ q2_; simp at *
   have hRc_ := cons_of_at he2
   have hd_ := decP_pow (X := X) hA hB hR hn0_ hRc_ (by first | exact .inl ((u8_eq (n := 101) (by decide)).1 (by omega)) | exact .inr ((u8_eq (n := 69) (by decide)).1 (by omega)))
   rw [hr_, hW] at hd_
   exact ⟨((A.length : Int), (B.length : Int), pt), ow, by rw [hd_, ← pow_no (by assumption)], fun h_ => ⟨by rw [hd_], by rw [hd_], hdot_ h_⟩⟩

end Go.Proofs.YtnhmmjogfkjceaaGreatDoor
namespace Go.Proofs.YtnhmmjogfkjceaaGreatDoor
open Go.Sl

theorem r2_parsed {W0 : World} {X : Bytes} (hX : X.length ≤ 1048576) (hok : (decP X).2 = true) : SC Tryz.prog W0 49 #[.string (bS X)] [] (Ret (fun _ : Unit => []) (fun v _ => v = .int .u64 (nearestP (decP X).1 : Int))) := by
 refine SC_body (fn := Tryz.f49) (n := 73) Tryz.func49 rfl (by kernel_rfl) (ρ := [(0, .string (bS X))]) rfl ?_
 obtain ⟨A, F, B, T, V, w, hX_, hdp_, hA_, hB_, hF_, hw_, hTd_, hTf_, hTn_⟩ := dec_cut hok
 obtain ⟨hfr_, t_, hfo_⟩ := dec_front hA_ hB_ hF_ hTn_
 rw [← hX_] at hfr_
 have hAB_ : ∀ c ∈ A ++ B, 48 ≤ c.toNat ∧ c.toNat ≤ 57 := fun c hc => isDig_in ((List.mem_append.1 hc).elim (hA_ c) (hB_ c))
 have hBF_ : B.length ≤ F.length := by rcases hF_ with ⟨z_, y_⟩ | z_; (rw [z_, y_]; exact Nat.le_refl _); (rw [z_]; simp)
 have hXl0_ : X.length = A.length + (F.length + T.length) := by rw [hX_, List.length_append, List.length_append]
 have hst0_ := near_sat (L := (A ++ B).dropWhile (· == 48)) (V := V) (b := B.length) (w := w) (fun c hc => hAB_ c ((List.dropWhile_sublist _).subset hc)) (Nat.le_trans (dropWhile_len _ _) (by rw [List.length_append]; omega)) (by omega) hw_
 refine sr ?_
 refine os 1 ?_
 refine nsr ?_
 refine os 1 ?_
 refine nsr ?_
 refine os 1 ?_
 refine nsr ?_
 refine os 1 ?_
 refine nsr ?_
 refine os 1 ?_
 refine nq ?_
 refine SW_cut (fun ρ_ σ_ => Fits ρ_ σ_ [(0, .string (bS X)), (3, .string (bS (A ++ B))), (4, .int .i64 ((B.length : Nat) : Int)), (6, .int .i64 (((A ++ F).length : Nat) : Int))] ([])) ?_ ?_
 ·refine SW_block ?_
  refine SW_loop (α := Nat × Bytes × Nat × Bool) (fun z_ ρ_ σ_ => Fits ρ_ σ_ [(0, .string (bS X)), (3, .string (bS z_.2.1)), (4, .int .i64 (z_.2.2.1 : Int)), (5, .bool z_.2.2.2), (6, .int .i64 (z_.1 : Int))] ([]) ∧ (z_.1 ≤ X.length ∧ z_.2.2.1 ≤ z_.1 ∧ z_.2.1.length ≤ z_.1) ∧ (∀ c ∈ X.take z_.1, notE c = true) ∧ (X.take z_.1).foldl pstep ([], 0, false) = (z_.2.1, z_.2.2.1, z_.2.2.2)) (fun z_ => X.length - z_.1) (0, ([] : Bytes), 0, false) ⟨⟨fun _ => rfl, ow⟩, ⟨Nat.zero_le _, Nat.le_refl _, Nat.le_refl _⟩, (fun c hc => by cases hc), rfl⟩ ?_
  rintro ⟨i, d, b, pt⟩ ρ_ σ_ ⟨hfit, hi0, hi1, hi2⟩
  refine SW_fits hfit ?_
  clear hfit
  simp only [] at hi0 hi1 hi2 ⊢
  refine SW_seq ?_
  refine sr ?_
  refine os 2 ?_
  refine oX (.int .i64 ((bS X).size : Int)) (.int .i64 (X.length : Int)) (congrArg (fun n_ : Nat => Value.int .i64 (n_ : Int)) (bS_size _)) ?_
  refine os 2 ?_
  refine tbp 13 (fun hg1 => ?_) (fun hg1 => ?_)
  ·replace hg1 : (i : Int) < (X.length : Int) := hg1
   refine os 2 ?_
   obtain ⟨e1, he1⟩ : ∃ y_, X[i]? = some y_ := ⟨_, List.getElem?_eq_getElem (by omega)⟩
   refine ixb (i : Int) X .i64 e1 Tryz.underlying9 he1 ?_
   refine os 3 ?_
   refine kp [19, 0, 3, 4, 5, 6] ?_
   refine tb 19 (fun hg2 => ?_) (fun hg2 => ?_)
   ·replace hg2 : ((e1.toNat : Int) != 101) = true := hg2
    simp only [beq_iff_eq, bne_iff_ne, ne_eq, beq_eq_false_iff_ne, bne_eq_false_iff_eq, Classical.not_not] at hg2
    refine os 2 ?_
    refine ixb (i : Int) X .i64 e1 Tryz.underlying9 he1 ?_
    refine os 2 ?_
    refine kp [24, 0, 3, 4, 5, 6] ?_
    refine nt ?_
    refine cd (fun hc3 : ((e1.toNat : Int) != 69) = true => ?_) (fun hc3 => ?_)
    ·simp only [beq_iff_eq, bne_iff_ne, ne_eq, beq_eq_false_iff_ne, bne_eq_false_iff_eq, Classical.not_not] at hc3
     refine SW_skip (n_then ?_)
     refine SW_block ?_
     refine SW_seq ?_
     refine sr ?_
     refine os 2 ?_
     refine ixb (i : Int) X .i64 e1 Tryz.underlying9 he1 ?_
     refine os 1 ?_
     refine kp [28, 24, 0, 3, 4, 5, 6] ?_
     refine nt ?_
     refine cd (fun hc4 : ((e1.toNat : Int) == 46) = true => ?_) (fun hc4 => ?_)
     ·simp only [beq_iff_eq, bne_iff_ne, ne_eq, beq_eq_false_iff_ne, bne_eq_false_iff_eq, Classical.not_not] at hc4
      refine SW_region ?_
      refine os 1 ?_
      refine nr ?_
      refine os 3 ?_
      refine SL_nil (n_in (n_then ?_))
      have hne_ : notE e1 = true := by unfold notE; exact decide_eq_true ⟨no101 (by omega), no69 (by omega)⟩
      have hal_ : ∀ c ∈ X.take (i + 1), notE c = true := by rw [List.take_add_one, he1]; intro c hc; rcases List.mem_append.1 hc with q_ | q_; exact hi1 c q_; rw [List.mem_singleton.1 q_]; exact hne_
      have hst_ := fold_step (f := pstep) (a := ([], 0, false)) he1
      rw [hi2] at hst_
      rw [show pstep (d, b, pt) e1 = (d, b, true) from by unfold pstep; rw [if_pos (is46 (by omega))]] at hst_
      exact ⟨(i + 1, d, b, true), by simp only []; omega, ⟨fun _ => rfl, ow⟩, by simp only []; omega, hal_, hst_⟩
     simp only [beq_iff_eq, bne_iff_ne, ne_eq, beq_eq_false_iff_ne, bne_eq_false_iff_eq, Classical.not_not] at hc4
     refine sr ?_
     refine os 5 ?_
     refine L (O_val (.string (bS ((X.take ((i : Int) + 1).toNat).drop ((i : Int)).toNat))) rfl (fun δ w _ => run_strMid (l := X) (i : Int) ((i : Int) + 1) .i64 .i64 Tryz.underlying9 rfl rfl rfl (by omega) (by omega) (by omega)) ?_)
     rw [show ((i : Int) + 1).toNat = (i + 1) from by omega, show ((i : Int)).toNat = i from by omega]
     refine oV (.string (bS (d ++ ((X.take (i + 1)).drop i)))) ?_ (hs := (fun δ w_ => run_catB d ((X.take (i + 1)).drop i) (by first | omega | (simp; omega)) rfl rfl))
     refine os 1 ?_
     refine kp [3, 28, 24, 0, 4, 5, 6] ?_
     refine nsr ?_
     refine os 1 ?_
     refine nt ?_
     refine cd (fun hc5 : (pt) = true => ?_) (fun hc5 => ?_)
     ·refine SW_region ?_
      refine os 3 ?_
      refine nr ?_
      refine os 3 ?_
      refine kp [6, 4, 36, 3, 28, 24, 0, 5] ?_
      refine SL_nil (n_in (n_then ?_))
      have hne_ : notE e1 = true := by unfold notE; exact decide_eq_true ⟨no101 (by omega), no69 (by omega)⟩
      have hal_ : ∀ c ∈ X.take (i + 1), notE c = true := by rw [List.take_add_one, he1]; intro c hc; rcases List.mem_append.1 hc with q_ | q_; exact hi1 c q_; rw [List.mem_singleton.1 q_]; exact hne_
      have hst_ := fold_step (f := pstep) (a := ([], 0, false)) he1
      rw [hi2] at hst_
      rw [show pstep (d, b, pt) e1 = (d ++ [e1], b + 1, pt) from by unfold pstep; rw [if_neg (no46 (by omega)), if_pos hc5]] at hst_
      rw [show (X.take (i + 1)).drop i = [e1] from by rw [List.take_add_one, he1, List.drop_append_of_le_length (by rw [List.length_take]; omega), List.drop_of_length_le (by rw [List.length_take]; omega)]; rfl]
      exact ⟨(i + 1, d ++ [e1], b + 1, pt), by simp only []; omega, ⟨fun _ => rfl, ow⟩, by simp only [List.length_append, List.length_cons, List.length_nil]; omega, hal_, hst_⟩
     refine SW_skip (n_then ?_)
     refine SW_region ?_
     refine os 3 ?_
     refine SL_nil (n_in (n_then ?_))
     have hne_ : notE e1 = true := by unfold notE; exact decide_eq_true ⟨no101 (by omega), no69 (by omega)⟩
     have hal_ : ∀ c ∈ X.take (i + 1), notE c = true := by rw [List.take_add_one, he1]; intro c hc; rcases List.mem_append.1 hc with q_ | q_; exact hi1 c q_; rw [List.mem_singleton.1 q_]; exact hne_
     have hst_ := fold_step (f := pstep) (a := ([], 0, false)) he1
     rw [hi2] at hst_
     rw [show pstep (d, b, pt) e1 = (d ++ [e1], b, pt) from by unfold pstep; rw [if_neg (no46 (by omega)), if_neg (by rw [hc5]; exact Bool.false_ne_true)]] at hst_
     rw [show (X.take (i + 1)).drop i = [e1] from by rw [List.take_add_one, he1, List.drop_append_of_le_length (by rw [List.length_take]; omega), List.drop_of_length_le (by rw [List.length_take]; omega)]; rfl]
     exact ⟨(i + 1, d ++ [e1], b, pt), by simp only []; omega, ⟨fun _ => rfl, ow⟩, by simp only [List.length_append, List.length_cons, List.length_nil]; omega, hal_, hst_⟩
    simp only [beq_iff_eq, bne_iff_ne, ne_eq, beq_eq_false_iff_ne, bne_eq_false_iff_eq, Classical.not_not] at hc3
    refine SW_exit (x_then (x_then (x_in (n_then ?_))))
    have hpt_ : X.takeWhile notE = X.take i := by conv => lhs; rw [← List.take_append_drop i X, tw_app _ hi1]; rw [drop_at he1, tw_notE (by first | exact .inl (is101 (by omega)) | exact .inr (is69 (by omega))), List.append_nil]
    rw [hfr_] at hpt_
    rw [← hpt_, hfo_] at hi2
    injection hi2 with q1_ q2_
    injection q2_ with q2_ q3_
    have hil_ : (A ++ F).length = i := by rw [hpt_, List.length_take]; omega
    rw [q1_, q2_, hil_]
    exact ⟨fun _ => rfl, ow⟩
   replace hg2 : ((e1.toNat : Int) != 101) = false := hg2
   simp only [beq_iff_eq, bne_iff_ne, ne_eq, beq_eq_false_iff_ne, bne_eq_false_iff_eq, Classical.not_not] at hg2
   refine os 5 ?_
   refine kp [24, 0, 3, 4, 5, 6] ?_
   refine nt ?_
   refine cf ?_
   refine SW_exit (x_then (x_then (x_in (n_then ?_))))
   have hpt_ : X.takeWhile notE = X.take i := by conv => lhs; rw [← List.take_append_drop i X, tw_app _ hi1]; rw [drop_at he1, tw_notE (by first | exact .inl (is101 (by omega)) | exact .inr (is69 (by omega))), List.append_nil]
   rw [hfr_] at hpt_
   rw [← hpt_, hfo_] at hi2
   injection hi2 with q1_ q2_
   injection q2_ with q2_ q3_
   have hil_ : (A ++ F).length = i := by rw [hpt_, List.length_take]; omega
   rw [q1_, q2_, hil_]
   exact ⟨fun _ => rfl, ow⟩
  replace hg1 : ¬ ((i : Int) < (X.length : Int)) := hg1
  refine os 11 ?_
  refine kp [24, 0, 3, 4, 5, 6] ?_
  refine nt ?_
  refine cf ?_
  refine SW_exit (x_then (x_then (x_in (n_then ?_))))
  have hpt_ : X.takeWhile notE = X.take i := by conv => lhs; rw [← List.take_append_drop i X, tw_app _ hi1]; rw [List.drop_of_length_le (by omega)]; simp
  rw [hfr_] at hpt_
  rw [← hpt_, hfo_] at hi2
  injection hi2 with q1_ q2_
  injection q2_ with q2_ q3_
  have hil_ : (A ++ F).length = i := by rw [hpt_, List.length_take]; omega
  rw [q1_, q2_, hil_]
  exact ⟨fun _ => rfl, ow⟩
 ·rintro ρ_ σ_ hfit
  refine SW_fits hfit ?_
  clear hfit
  refine SW_seq ?_
  have hXl_ : X.length = (A ++ F).length + T.length := by rw [hX_, ← List.append_assoc, List.length_append]
  have hTa_ : ∀ k c, (T.drop 1)[k]? = some c → X[(A ++ F).length + 1 + k]? = some c := fun k c h_ => by rw [hX_, ← List.append_assoc, List.getElem?_append_right (by omega), show (A ++ F).length + 1 + k - (A ++ F).length = 1 + k by omega, ← List.getElem?_drop]; exact h_
  generalize hN_ : (A ++ F).length = N at *
  have hTl_ : (T.drop 1).length = T.length - 1 := List.length_drop
  generalize hU_ : T.drop 1 = U at *
  refine SW_region ?_
  refine os 1 ?_
  refine nsr ?_
  refine os 1 ?_
  refine nq ?_
  refine sr ?_
  refine os 3 ?_
  refine nt ?_
  refine SW_block ?_
  rw [show ((N : Nat) : Int) + 1 = ((N + 1 + 0 : Nat) : Int) from by omega]
  refine SW_loop (α := Nat × Int × Int) (fun z_ ρ_ σ_ => Fits ρ_ σ_ [(0, .string (bS X)), (3, .string (bS (A ++ B))), (4, .int .i64 ((B.length : Nat) : Int)), (6, .int .i64 ((N + 1 + z_.1 : Nat) : Int)), (7, .int .i64 z_.2.1), (8, .int .i64 z_.2.2)] ([]) ∧ z_.1 ≤ U.length ∧ ((0 ≤ z_.2.1 ∧ z_.2.1 ≤ 1000000000) ∧ (z_.2.2 = 1 ∨ z_.2.2 = -1)) ∧ (U.take z_.1).foldl qstep (0, 1) = (z_.2.1, z_.2.2)) (fun z_ => U.length - z_.1) (0, 0, 1) ⟨⟨fun _ => rfl, ow⟩, Nat.zero_le _, ⟨by decide, .inl rfl⟩, rfl⟩ ?_
  rintro ⟨k, p, y⟩ ρ_ σ_ ⟨hfit, hi0, hi1, hi2⟩
  refine SW_fits hfit ?_
  clear hfit
  simp only [] at hi0 hi1 hi2 ⊢
  refine SW_seq ?_
  refine sr ?_
  refine os 2 ?_
  refine oX (.int .i64 ((bS X).size : Int)) (.int .i64 (X.length : Int)) (congrArg (fun n_ : Nat => Value.int .i64 (n_ : Int)) (bS_size _)) ?_
  refine os 1 ?_
  refine kp [46, 0, 3, 4, 6, 7, 8] ?_
  refine nt ?_
  refine cdp (fun hc6 : ((N + 1 + k : Nat) : Int) < (X.length : Int) => ?_) (fun hc6 => ?_)
  ·refine SW_skip (n_then ?_)
   refine SW_seq ?_
   refine SW_block ?_
   refine SW_seq ?_
   obtain ⟨u_, hu_⟩ : ∃ u_, U[k]? = some u_ := ⟨_, List.getElem?_eq_getElem (by omega)⟩
   have hxu_ := hTa_ _ _ hu_
   have hdg_ := hTd_ _ (List.mem_of_getElem? hu_)
   refine SW_region ?_
   refine os 2 ?_
   refine ixb ((N + 1 + k : Nat) : Int) X .i64 u_ Tryz.underlying9 (by rw [show (((N + 1 + k : Nat) : Int)).toNat = (N + 1 + k) from by omega]; exact hxu_) ?_
   refine os 1 ?_
   refine kp [52, 46, 0, 3, 4, 6, 7, 8] ?_
   refine nt ?_
   refine cd (fun hc7 : ((u_.toNat : Int) == 45) = true => ?_) (fun hc7 => ?_)
   ·simp only [beq_iff_eq, bne_iff_ne, ne_eq, beq_eq_false_iff_ne, bne_eq_false_iff_eq, Classical.not_not] at hc7
    refine SW_region ?_
    refine os 1 ?_
    refine SL_nil (n_in (n_then ?_))
    refine SW_region ?_
    refine os 3 ?_
    refine nt ?_
    have hst_ := fold_step (f := qstep) (a := (0, 1)) hu_
    rw [hi2] at hst_
    rw [show ((N + 1 + k : Nat) : Int) + 1 = ((N + 1 + (k + 1) : Nat) : Int) from by omega]
    rw [show qstep (p, y) u_ = (p, -1) from by unfold qstep; rw [if_pos (is45 (by omega))]] at hst_
    exact ⟨(k + 1, p, -1), by simp only []; omega, ⟨fun _ => rfl, ow⟩, by simp only []; omega, ⟨hi1.1, .inr rfl⟩, hst_⟩
   simp only [beq_iff_eq, bne_iff_ne, ne_eq, beq_eq_false_iff_ne, bne_eq_false_iff_eq, Classical.not_not] at hc7
   refine sr ?_
   refine os 2 ?_
   refine ixb ((N + 1 + k : Nat) : Int) X .i64 u_ Tryz.underlying9 (by rw [show (((N + 1 + k : Nat) : Int)).toNat = (N + 1 + k) from by omega]; exact hxu_) ?_
   refine os 1 ?_
   refine kp [56, 52, 46, 0, 3, 4, 6, 7, 8] ?_
   refine nt ?_
   refine cd (fun hc8 : ((u_.toNat : Int) != 43) = true => ?_) (fun hc8 => ?_)
   ·simp only [beq_iff_eq, bne_iff_ne, ne_eq, beq_eq_false_iff_ne, bne_eq_false_iff_eq, Classical.not_not] at hc8
    have hdu_ : 48 ≤ u_.toNat ∧ u_.toNat ≤ 57 := by rcases hdg_ with q_ | q_ | q_; (exact absurd ((u8_eq (n := 43) (by decide)).2 q_) (by omega)); (exact absurd ((u8_eq (n := 45) (by decide)).2 q_) (by omega)); exact isDig_in q_
    refine SW_region ?_
    refine os 4 ?_
    refine ixb ((N + 1 + k : Nat) : Int) X .i64 u_ Tryz.underlying9 (by rw [show (((N + 1 + k : Nat) : Int)).toNat = (N + 1 + k) from by omega]; exact hxu_) ?_
    refine os 3 ?_
    refine oV (.int .i64 (if 1000000000 < (10 * p) + ((u_.toNat : Int) - 48) then 1000000000 else (10 * p) + ((u_.toNat : Int) - 48))) ?_
    refine os 1 ?_
    refine kp [7, 56, 52, 46, 0, 3, 4, 6, 8] ?_
    refine SL_nil (n_in (n_then ?_))
    refine SW_region ?_
    refine os 3 ?_
    refine nt ?_
    have hst_ := fold_step (f := qstep) (a := (0, 1)) hu_
    rw [hi2] at hst_
    rw [show ((N + 1 + k : Nat) : Int) + 1 = ((N + 1 + (k + 1) : Nat) : Int) from by omega]
    rw [show qstep (p, y) u_ = (min (10 * p + ((u_.toNat : Int) - 48)) 1000000000, y) from by unfold qstep; rw [if_neg (no45 (by omega)), if_neg (no43 (by omega))], ← min_if] at hst_
    exact ⟨(k + 1, if 1000000000 < (10 * p) + ((u_.toNat : Int) - 48) then 1000000000 else (10 * p) + ((u_.toNat : Int) - 48), y), by simp only []; omega, ⟨fun _ => rfl, ow⟩, by simp only []; omega, ⟨by simp only []; (first | omega | (split <;> omega)), hi1.2⟩, hst_⟩
   simp only [beq_iff_eq, bne_iff_ne, ne_eq, beq_eq_false_iff_ne, bne_eq_false_iff_eq, Classical.not_not] at hc8
   refine SW_skip (n_in (n_then ?_))
   refine SW_region ?_
   refine os 3 ?_
   refine nt ?_
   have hst_ := fold_step (f := qstep) (a := (0, 1)) hu_
   rw [hi2] at hst_
   rw [show ((N + 1 + k : Nat) : Int) + 1 = ((N + 1 + (k + 1) : Nat) : Int) from by omega]
   rw [show qstep (p, y) u_ = (p, y) from by unfold qstep; rw [if_neg (no45 (by omega)), if_pos (is43 (by omega))]] at hst_
   exact ⟨(k + 1, p, y), by simp only []; omega, ⟨fun _ => rfl, ow⟩, by simp only []; omega, ⟨hi1.1, hi1.2⟩, hst_⟩
  refine SW_exit (x_then (x_then (x_in (n_then ?_))))
  refine SW_seq ?_
  have hkl_ : k = U.length := by omega
  rw [hkl_, List.take_length, hTf_] at hi2
  injection hi2 with q1_ q2_
  subst q1_ q2_
  have hmw_ : -1000000000 ≤ w * min (V : Int) 1000000000 ∧ w * min (V : Int) 1000000000 ≤ 1000000000 := by rcases hw_ with z | z <;> rw [z] <;> omega
  refine SW_region ?_
  refine os 6 ?_
  refine L (cl (r2_near10 (X := A ++ B) (p := (w * (min (V : Int) 1000000000)) - ((B.length : Nat) : Int)) (by rw [List.length_append]; omega) hAB_ (by omega)) ?_)
  rintro _ _ rfl
  refine un ?_
  refine os 1 ?_
  refine kp [2, 46, 0, 3, 4, 6, 7, 8] ?_
  refine nt ?_
  refine SW_ret ?_
  refine body_end (.int .u64 (nearD (cutD ((A ++ B).dropWhile (· == 48)) ((w * (min (V : Int) 1000000000)) - ((B.length : Nat) : Int))).1 (cutD ((A ++ B).dropWhile (· == 48)) ((w * (min (V : Int) 1000000000)) - ((B.length : Nat) : Int))).2 : Int)) (fun _ => rfl) ?_
  exact ⟨(), ow, congrArg (fun n_ : Nat => Value.int .u64 (n_ : Int)) (by rw [hst0_, hdp_]; rfl)⟩

end Go.Proofs.YtnhmmjogfkjceaaGreatDoor
namespace Go.Proofs.YtnhmmjogfkjceaaGreatDoor
open Go.Sl
def hexV (n : Nat) : Option Nat := if 48 ≤ n ∧ n ≤ 57 then some (n - 48) else if 97 ≤ n ∧ n ≤ 102 then some (n - 87) else if 65 ≤ n ∧ n ≤ 70 then some (n - 55) else none
theorem hexD_eq (c : UInt8) : hexD c = hexV c.toNat := by
 have h : ∀ n : Fin 256, hexD (UInt8.ofNat n) = hexV (UInt8.ofNat n).toNat := by decide +kernel
 have := h ⟨c.toNat, c.toNat_lt⟩
 simpa using this
theorem hexGo_bad : ∀ {X : Bytes} {c : UInt8}, c ∈ X → hexD c = none → ∀ m x b, hexGo m x b X = none
 | d :: r, c, h, hc, m, x, b => by
   rcases List.mem_cons.1 h with q | q
   · rw [← q, hexGo_none hc]
   · cases hd : hexD d with
     | none => exact hexGo_none hd
     | some v =>
       by_cases h2 : m / 1152921504606846976 = 0
       · rw [hexGo_in hd h2]; exact hexGo_bad q hc _ _ _
       · rw [hexGo_out hd h2]; exact hexGo_bad q hc _ _ _
theorem hexP_bad {X : Bytes} {c : UInt8} (h : c ∈ X) (hc : hexD c = none) : hexP X = (0, false) := hexP_none (hexGo_bad h hc _ _ _)
theorem hexP_nil : hexP [] = (0, false) := by kernel_rfl
theorem hex_no {c : UInt8} (h : ((c.toNat : Int) < 48 ∨ (c.toNat : Int) > 57) ∧ ((c.toNat : Int) < 97 ∨ (c.toNat : Int) > 102) ∧ ((c.toNat : Int) < 65 ∨ (c.toNat : Int) > 70)) : hexD c = none := by
 rw [hexD_eq]; unfold hexV; rw [if_neg (by omega), if_neg (by omega), if_neg (by omega)]
theorem hex_yes {c : UInt8} (h : ((c.toNat : Int) ≥ 48 ∧ (c.toNat : Int) ≤ 57) ∨ ((c.toNat : Int) ≥ 97 ∧ (c.toNat : Int) ≤ 102) ∨ ((c.toNat : Int) ≥ 65 ∧ (c.toNat : Int) ≤ 70)) : ∃ d, hexD c = some d ∧ d < 16 ∧ ((48 ≤ c.toNat ∧ c.toNat ≤ 57 ∧ d = c.toNat - 48) ∨ (97 ≤ c.toNat ∧ c.toNat ≤ 102 ∧ d = c.toNat - 87) ∨ (65 ≤ c.toNat ∧ c.toNat ≤ 70 ∧ d = c.toNat - 55)) := by
 rw [hexD_eq]; unfold hexV
 rcases h with h | h | h
 · rw [if_pos (by omega)]; exact ⟨_, rfl, by omega, by omega⟩
 · rw [if_neg (by omega), if_pos (by omega)]; exact ⟨_, rfl, by omega, by omega⟩
 · rw [if_neg (by omega), if_neg (by omega), if_pos (by omega)]; exact ⟨_, rfl, by omega, by omega⟩
def isHexC (c : UInt8) : Prop := ((c.toNat : Int) ≥ 48 ∧ (c.toNat : Int) ≤ 57) ∨ ((c.toNat : Int) ≥ 97 ∧ (c.toNat : Int) ≤ 102) ∨ ((c.toNat : Int) ≥ 65 ∧ (c.toNat : Int) ≤ 70)
theorem pre2_take {X : Bytes} {a b : UInt8} : Lib.hasPrefix X [a, b] = true ↔ X.take 2 = [a, b] := by
 rw [show Lib.hasPrefix X [a, b] = ([a, b] : Bytes).isPrefixOf X from rfl, List.isPrefixOf_iff_prefix, List.prefix_iff_eq_take]
 exact eq_comm
theorem pre2_short {X p : Bytes} (h : ¬ (X.length : Int) ≥ (p.length : Int)) : Lib.hasPrefix X p = false := by
 rw [Bool.eq_false_iff]
 intro q
 have := pre_len q
 omega
theorem dec_ahead (X : Bytes) : (decP X).1.ahead = X.takeWhile isDig := by
 unfold decP
 simp only []
 split
 · rfl
 · split
   · rfl
   · split <;> rfl
theorem tw_head {p : UInt8 → Bool} {X : Bytes} (h : X.takeWhile p ≠ []) : (X.takeWhile p).head? = X.head? := by
 cases X with
 | nil => rfl
 | cons c r =>
   rw [List.takeWhile_cons] at h ⊢
   split
   · rfl
   · next q => rw [if_neg q] at h; exact absurd rfl h
theorem lit_test {X : Bytes} {da db : Int} {dp : Bool} (hok : (decP X).2 = true) (h1 : da = ((decP X).1.ahead.length : Int)) (h2 : db = ((decP X).1.behind.length : Int)) (h3 : dp = decide (46 ∈ X)) :
   litBad X ↔ (da = 0 ∨ (dp = true ∧ db = 0) ∨ (da > 1 ∧ ∃ c, X[0]? = some c ∧ (c.toNat : Int) = 48)) := by
 unfold litBad
 have e1 : (decP X).1.ahead = [] ↔ da = 0 := by rw [← List.length_eq_zero_iff]; omega
 have e2 : (decP X).1.behind = [] ↔ db = 0 := by rw [← List.length_eq_zero_iff]; omega
 have e3 : 46 ∈ X ↔ dp = true := by rw [h3, decide_eq_true_iff]
 rw [e1, e2, e3, hok]
 have e4 : ((decP X).1.ahead.length > 1 ∧ (decP X).1.ahead.head? = some 48) ↔ (da > 1 ∧ ∃ c, X[0]? = some c ∧ (c.toNat : Int) = 48) := by
   constructor
   · rintro ⟨q1, q2⟩
     refine ⟨by omega, ?_⟩
     rw [dec_ahead] at q1 q2
     rw [tw_head (fun z => by rw [z] at q1; simp at q1)] at q2
     cases X with
     | nil => cases q2
     | cons c r => refine ⟨c, rfl, ?_⟩; injection q2 with q2; subst q2; rfl
   · rintro ⟨q1, c, q2, q3⟩
     refine ⟨by omega, ?_⟩
     rw [dec_ahead] at h1 ⊢
     rw [tw_head (fun z => by rw [z] at h1; simp at h1; omega)]
     rw [cons_of_at q2, is48 q3]; rfl
 rw [e4]
 simp
end Go.Proofs.YtnhmmjogfkjceaaGreatDoor
namespace Go.Proofs.YtnhmmjogfkjceaaGreatDoor
open Go.Sl

theorem r2_hex {W0 : World} {c : UInt8} {d : Nat} (hx : (48 ≤ c.toNat ∧ c.toNat ≤ 57 ∧ d = c.toNat - 48) ∨ (97 ≤ c.toNat ∧ c.toNat ≤ 102 ∧ d = c.toNat - 87) ∨ (65 ≤ c.toNat ∧ c.toNat ≤ 70 ∧ d = c.toNat - 55)) : SC Tryz.prog W0 105 #[.int .u8 (c.toNat : Int)] [] (Ret (fun _ : Unit => []) (fun v _ => v = .int .u64 (d : Int))) := by
 refine SC_body (fn := Tryz.f105) (n := 18) Tryz.func105 rfl (by kernel_rfl) (ρ := [(0, .int .u8 (c.toNat : Int))]) rfl ?_
 refine sr ?_
 refine os 1 ?_
 refine nq ?_
 refine sr ?_
 refine os 2 ?_
 refine nt ?_
 refine cdp (fun hc1 : (c.toNat : Int) ≤ 57 => ?_) (fun hc1 => ?_)
 ·refine sr ?_
  refine os 4 ?_
  refine kp [2, 4, 0] ?_
  refine nt ?_
  refine SW_ret (r_then ?_)
  refine body_end (.int .u64 ((c.toNat : Int) - 48)) (fun _ => rfl) ?_
  exact ⟨(), ow, congrArg (Value.int .u64) (by omega)⟩
 refine SW_skip (n_then ?_)
 refine SW_seq ?_
 refine sr ?_
 refine os 2 ?_
 refine nt ?_
 refine cdp (fun hc2 : (c.toNat : Int) ≥ 97 => ?_) (fun hc2 => ?_)
 ·refine sr ?_
  refine os 5 ?_
  refine kp [2, 9, 4, 0] ?_
  refine nt ?_
  refine SW_ret (r_then ?_)
  refine body_end (.int .u64 (((c.toNat : Int) - 97) + 10)) (fun _ => rfl) ?_
  exact ⟨(), ow, congrArg (Value.int .u64) (by omega)⟩
 refine SW_skip (n_then ?_)
 refine sr ?_
 refine os 5 ?_
 refine kp [2, 9, 4, 0] ?_
 refine nt ?_
 refine SW_ret ?_
 refine body_end (.int .u64 (((c.toNat : Int) - 65) + 10)) (fun _ => rfl) ?_
 exact ⟨(), ow, congrArg (Value.int .u64) (by omega)⟩

theorem r2_Hexadecimal {W0 : World} {X : Bytes} (hX : X.length ≤ 1048576) : SC Tryz.prog W0 47 #[.string (bS X)] [] (Ret (fun _ : Unit => []) (fun v _ => v = .tuple #[.int .u64 ((hexP X).1 : Int), .bool (hexP X).2])) := by
 refine SC_body (fn := Tryz.f47) (n := 71) Tryz.func47 rfl (by kernel_rfl) (ρ := [(0, .string (bS X))]) rfl ?_
 refine sr ?_
 refine os 2 ?_
 refine nq ?_
 refine sr ?_
 refine os 1 ?_
 refine nt ?_
 refine SW_block ?_
 refine SW_loop (α := Nat) (fun z_ ρ_ σ_ => Fits ρ_ σ_ [(0, .string (bS X)), (4, .int .i64 (z_ : Int))] ([]) ∧ z_ ≤ X.length ∧ (∀ c ∈ X.take z_, isHexC c)) (fun z_ => X.length - z_) 0 ⟨⟨fun _ => rfl, ow⟩, Nat.zero_le _, (fun c hc => by cases hc)⟩ ?_
 rintro i ρ_ σ_ ⟨hfit, hi0, hi1⟩
 refine SW_fits hfit ?_
 clear hfit
 refine SW_seq ?_
 refine sr ?_
 refine os 2 ?_
 refine oX (.int .i64 ((bS X).size : Int)) (.int .i64 (X.length : Int)) (congrArg (fun n_ : Nat => Value.int .i64 (n_ : Int)) (bS_size _)) ?_
 refine os 1 ?_
 refine kp [14, 0, 4] ?_
 refine nt ?_
 refine cdp (fun hc1 : (i : Int) < (X.length : Int) => ?_) (fun hc1 => ?_)
 ·refine SW_skip (n_then ?_)
  refine SW_seq ?_
  refine SW_block ?_
  refine sr ?_
  refine os 2 ?_
  obtain ⟨e1, he1⟩ : ∃ y_, X[i]? = some y_ := ⟨_, List.getElem?_eq_getElem (by omega)⟩
  refine ixb (i : Int) X .i64 e1 Tryz.underlying9 he1 ?_
  refine os 1 ?_
  refine kp [5, 14, 0, 4] ?_
  refine nsr ?_
  refine os 3 ?_
  refine tbp 22 (fun hg2 => ?_) (fun hg2 => ?_)
  ·replace hg2 : (e1.toNat : Int) < 48 := hg2
   refine os 7 ?_
   refine kp [29, 26, 5, 14, 0, 4] ?_
   refine tbp 29 (fun hg3 => ?_) (fun hg3 => ?_)
   ·replace hg3 : (e1.toNat : Int) < 97 := hg3
    refine os 8 ?_
    refine kp [37, 34, 5, 14, 0, 4] ?_
    refine tbp 37 (fun hg4 => ?_) (fun hg4 => ?_)
    ·replace hg4 : (e1.toNat : Int) < 65 := hg4
     refine os 4 ?_
     refine kp [41, 5, 14, 0, 4] ?_
     refine nt ?_
     refine ct ?_
     refine sr ?_
     refine os 2 ?_
     refine nt ?_
     refine SW_ret (r_in (r_then (r_then (r_in (r_then ?_)))))
     refine body_end (.tuple #[.int .u64 0, .bool false]) (fun _ => rfl) ?_
     exact ⟨(), ow, by rw [hexP_bad (List.mem_of_getElem? he1) (hex_no (by omega))]; rfl⟩
    replace hg4 : ¬ ((e1.toNat : Int) < 65) := hg4
    refine os 4 ?_
    refine kp [41, 5, 14, 0, 4] ?_
    refine nt ?_
    refine cdp (fun hc5 : (e1.toNat : Int) > 70 => ?_) (fun hc5 => ?_)
    ·refine sr ?_
     refine os 2 ?_
     refine nt ?_
     refine SW_ret (r_in (r_then (r_then (r_in (r_then ?_)))))
     refine body_end (.tuple #[.int .u64 0, .bool false]) (fun _ => rfl) ?_
     exact ⟨(), ow, by rw [hexP_bad (List.mem_of_getElem? he1) (hex_no (by omega))]; rfl⟩
    refine SW_skip (n_in (n_then ?_))
    refine SW_region ?_
    refine os 3 ?_
    refine nt ?_
    rw [show (i : Int) + 1 = ((i + 1 : Nat) : Int) from by omega]
    exact ⟨i + 1, by omega, ⟨fun _ => rfl, ow⟩, by omega, by rw [List.take_add_one, he1]; intro c hc; rcases List.mem_append.1 hc with q_ | q_; exact hi1 c q_; rw [List.mem_singleton.1 q_]; unfold isHexC; omega⟩
   replace hg3 : ¬ ((e1.toNat : Int) < 97) := hg3
   refine os 5 ?_
   refine kp [34, 5, 14, 0, 4] ?_
   refine tbp 34 (fun hg6 => ?_) (fun hg6 => ?_)
   ·replace hg6 : (e1.toNat : Int) > 102 := hg6
    refine os 3 ?_
    refine tbp 37 (fun hg7 => ?_) (fun hg7 => ?_)
    ·replace hg7 : (e1.toNat : Int) < 65 := hg7
     refine os 4 ?_
     refine kp [41, 5, 14, 0, 4] ?_
     refine nt ?_
     refine ct ?_
     refine sr ?_
     refine os 2 ?_
     refine nt ?_
     refine SW_ret (r_in (r_then (r_then (r_in (r_then ?_)))))
     refine body_end (.tuple #[.int .u64 0, .bool false]) (fun _ => rfl) ?_
     exact ⟨(), ow, by rw [hexP_bad (List.mem_of_getElem? he1) (hex_no (by omega))]; rfl⟩
    replace hg7 : ¬ ((e1.toNat : Int) < 65) := hg7
    refine os 4 ?_
    refine kp [41, 5, 14, 0, 4] ?_
    refine nt ?_
    refine cdp (fun hc8 : (e1.toNat : Int) > 70 => ?_) (fun hc8 => ?_)
    ·refine sr ?_
     refine os 2 ?_
     refine nt ?_
     refine SW_ret (r_in (r_then (r_then (r_in (r_then ?_)))))
     refine body_end (.tuple #[.int .u64 0, .bool false]) (fun _ => rfl) ?_
     exact ⟨(), ow, by rw [hexP_bad (List.mem_of_getElem? he1) (hex_no (by omega))]; rfl⟩
    refine SW_skip (n_in (n_then ?_))
    refine SW_region ?_
    refine os 3 ?_
    refine nt ?_
    rw [show (i : Int) + 1 = ((i + 1 : Nat) : Int) from by omega]
    exact ⟨i + 1, by omega, ⟨fun _ => rfl, ow⟩, by omega, by rw [List.take_add_one, he1]; intro c hc; rcases List.mem_append.1 hc with q_ | q_; exact hi1 c q_; rw [List.mem_singleton.1 q_]; unfold isHexC; omega⟩
   replace hg6 : ¬ ((e1.toNat : Int) > 102) := hg6
   refine os 7 ?_
   refine kp [41, 5, 14, 0, 4] ?_
   refine nt ?_
   refine cf ?_
   refine SW_skip (n_in (n_then ?_))
   refine SW_region ?_
   refine os 3 ?_
   refine nt ?_
   rw [show (i : Int) + 1 = ((i + 1 : Nat) : Int) from by omega]
   exact ⟨i + 1, by omega, ⟨fun _ => rfl, ow⟩, by omega, by rw [List.take_add_one, he1]; intro c hc; rcases List.mem_append.1 hc with q_ | q_; exact hi1 c q_; rw [List.mem_singleton.1 q_]; unfold isHexC; omega⟩
  replace hg2 : ¬ ((e1.toNat : Int) < 48) := hg2
  refine os 4 ?_
  refine kp [26, 5, 14, 0, 4] ?_
  refine tbp 26 (fun hg9 => ?_) (fun hg9 => ?_)
  ·replace hg9 : (e1.toNat : Int) > 57 := hg9
   refine os 3 ?_
   refine tbp 29 (fun hg10 => ?_) (fun hg10 => ?_)
   ·replace hg10 : (e1.toNat : Int) < 97 := hg10
    refine os 8 ?_
    refine kp [37, 34, 5, 14, 0, 4] ?_
    refine tbp 37 (fun hg11 => ?_) (fun hg11 => ?_)
    ·replace hg11 : (e1.toNat : Int) < 65 := hg11
     refine os 4 ?_
     refine kp [41, 5, 14, 0, 4] ?_
     refine nt ?_
     refine ct ?_
     refine sr ?_
     refine os 2 ?_
     refine nt ?_
     refine SW_ret (r_in (r_then (r_then (r_in (r_then ?_)))))
     refine body_end (.tuple #[.int .u64 0, .bool false]) (fun _ => rfl) ?_
     exact ⟨(), ow, by rw [hexP_bad (List.mem_of_getElem? he1) (hex_no (by omega))]; rfl⟩
    replace hg11 : ¬ ((e1.toNat : Int) < 65) := hg11
    refine os 4 ?_
    refine kp [41, 5, 14, 0, 4] ?_
    refine nt ?_
    refine cdp (fun hc12 : (e1.toNat : Int) > 70 => ?_) (fun hc12 => ?_)
    ·refine sr ?_
     refine os 2 ?_
     refine nt ?_
     refine SW_ret (r_in (r_then (r_then (r_in (r_then ?_)))))
     refine body_end (.tuple #[.int .u64 0, .bool false]) (fun _ => rfl) ?_
     exact ⟨(), ow, by rw [hexP_bad (List.mem_of_getElem? he1) (hex_no (by omega))]; rfl⟩
    refine SW_skip (n_in (n_then ?_))
    refine SW_region ?_
    refine os 3 ?_
    refine nt ?_
    rw [show (i : Int) + 1 = ((i + 1 : Nat) : Int) from by omega]
    exact ⟨i + 1, by omega, ⟨fun _ => rfl, ow⟩, by omega, by rw [List.take_add_one, he1]; intro c hc; rcases List.mem_append.1 hc with q_ | q_; exact hi1 c q_; rw [List.mem_singleton.1 q_]; unfold isHexC; omega⟩
   replace hg10 : ¬ ((e1.toNat : Int) < 97) := hg10
   refine os 5 ?_
   refine kp [34, 5, 14, 0, 4] ?_
   refine tbp 34 (fun hg13 => ?_) (fun hg13 => ?_)
   ·replace hg13 : (e1.toNat : Int) > 102 := hg13
    refine os 3 ?_
    refine tbp 37 (fun hg14 => ?_) (fun hg14 => ?_)
    ·replace hg14 : (e1.toNat : Int) < 65 := hg14
     refine os 4 ?_
     refine kp [41, 5, 14, 0, 4] ?_
     refine nt ?_
     refine ct ?_
     refine sr ?_
     refine os 2 ?_
     refine nt ?_
     refine SW_ret (r_in (r_then (r_then (r_in (r_then ?_)))))
     refine body_end (.tuple #[.int .u64 0, .bool false]) (fun _ => rfl) ?_
     exact ⟨(), ow, by rw [hexP_bad (List.mem_of_getElem? he1) (hex_no (by omega))]; rfl⟩
    replace hg14 : ¬ ((e1.toNat : Int) < 65) := hg14
    refine os 4 ?_
    refine kp [41, 5, 14, 0, 4] ?_
    refine nt ?_
    refine cdp (fun hc15 : (e1.toNat : Int) > 70 => ?_) (fun hc15 => ?_)
    ·refine sr ?_
     refine os 2 ?_
     refine nt ?_
     refine SW_ret (r_in (r_then (r_then (r_in (r_then ?_)))))
     refine body_end (.tuple #[.int .u64 0, .bool false]) (fun _ => rfl) ?_
     exact ⟨(), ow, by rw [hexP_bad (List.mem_of_getElem? he1) (hex_no (by omega))]; rfl⟩
    refine SW_skip (n_in (n_then ?_))
    refine SW_region ?_
    refine os 3 ?_
    refine nt ?_
    rw [show (i : Int) + 1 = ((i + 1 : Nat) : Int) from by omega]
    exact ⟨i + 1, by omega, ⟨fun _ => rfl, ow⟩, by omega, by rw [List.take_add_one, he1]; intro c hc; rcases List.mem_append.1 hc with q_ | q_; exact hi1 c q_; rw [List.mem_singleton.1 q_]; unfold isHexC; omega⟩
   replace hg13 : ¬ ((e1.toNat : Int) > 102) := hg13
   refine os 7 ?_
   refine kp [41, 5, 14, 0, 4] ?_
   refine nt ?_
   refine cf ?_
   refine SW_skip (n_in (n_then ?_))
   refine SW_region ?_
   refine os 3 ?_
   refine nt ?_
   rw [show (i : Int) + 1 = ((i + 1 : Nat) : Int) from by omega]
   exact ⟨i + 1, by omega, ⟨fun _ => rfl, ow⟩, by omega, by rw [List.take_add_one, he1]; intro c hc; rcases List.mem_append.1 hc with q_ | q_; exact hi1 c q_; rw [List.mem_singleton.1 q_]; unfold isHexC; omega⟩
  replace hg9 : ¬ ((e1.toNat : Int) > 57) := hg9
  refine os 15 ?_
  refine kp [41, 5, 14, 0, 4] ?_
  refine nt ?_
  refine cf ?_
  refine SW_skip (n_in (n_then ?_))
  refine SW_region ?_
  refine os 3 ?_
  refine nt ?_
  rw [show (i : Int) + 1 = ((i + 1 : Nat) : Int) from by omega]
  exact ⟨i + 1, by omega, ⟨fun _ => rfl, ow⟩, by omega, by rw [List.take_add_one, he1]; intro c hc; rcases List.mem_append.1 hc with q_ | q_; exact hi1 c q_; rw [List.mem_singleton.1 q_]; unfold isHexC; omega⟩
 refine SW_exit (x_then (x_then (x_in (n_then ?_))))
 refine SW_seq ?_
 refine SW_seq ?_
 have hin_ : i = X.length := by omega
 rw [hin_, List.take_length] at hi1
 clear hin_
 refine SW_region ?_
 refine os 1 ?_
 refine oX (.bool ((bS X).toList == (bS []).toList)) (.bool (decide (X = []))) (congrArg Value.bool (by rw [strB_eq])) ?_
 refine nt ?_
 refine cdp (fun hc16 : X = [] => ?_) (fun hc16 => ?_)
 ·refine sr ?_
  refine os 2 ?_
  refine nt ?_
  refine SW_ret (r_then ?_)
  refine body_end (.tuple #[.int .u64 0, .bool false]) (fun _ => rfl) ?_
  exact ⟨(), ow, by rw [show X = [] from by assumption, hexP_nil]; rfl⟩
 refine SW_skip (n_then ?_)
 refine sr ?_
 refine os 1 ?_
 refine nsr ?_
 refine os 1 ?_
 refine nsr ?_
 refine os 1 ?_
 refine nq ?_
 refine sr ?_
 refine os 1 ?_
 refine nt ?_
 refine SW_block ?_
 have hall_ := hi1
 refine SW_loop (α := Nat × Nat × Int × Bool) (fun z_ ρ_ σ_ => Fits ρ_ σ_ [(0, .string (bS X)), (6, .int .u64 (z_.2.1 : Int)), (7, .int .i64 z_.2.2.1), (8, .bool z_.2.2.2), (9, .int .i64 (z_.1 : Int))] ([]) ∧ z_.1 ≤ X.length ∧ (z_.2.1 < 18446744073709551616 ∧ 0 ≤ z_.2.2.1 ∧ z_.2.2.1 ≤ 4 * (z_.1 : Int)) ∧ hexGo z_.2.1 z_.2.2.1 z_.2.2.2 (X.drop z_.1) = hexGo 0 0 false X) (fun z_ => X.length - z_.1) (0, 0, 0, false) ⟨⟨fun _ => rfl, ow⟩, Nat.zero_le _, ⟨(show 0 < 18446744073709551616 by decide), Int.le_refl _, (show (0 : Int) ≤ 4 * ((0 : Nat) : Int) by decide)⟩, by simp⟩ ?_
 rintro ⟨i, m, x, b⟩ ρ_ σ_ ⟨hfit, hi0, hi1, hi2⟩
 refine SW_fits hfit ?_
 clear hfit
 simp only [] at hi0 hi1 hi2 ⊢
 obtain ⟨hm_, hx0_, hx1_⟩ := hi1
 refine SW_seq ?_
 refine sr ?_
 refine os 2 ?_
 refine oX (.int .i64 ((bS X).size : Int)) (.int .i64 (X.length : Int)) (congrArg (fun n_ : Nat => Value.int .i64 (n_ : Int)) (bS_size _)) ?_
 refine os 1 ?_
 refine kp [47, 0, 6, 7, 8, 9] ?_
 refine nt ?_
 refine cdp (fun hc17 : (i : Int) < (X.length : Int) => ?_) (fun hc17 => ?_)
 ·refine SW_skip (n_then ?_)
  refine SW_seq ?_
  refine SW_block ?_
  refine SW_seq ?_
  obtain ⟨y_, hy_⟩ : ∃ y_, X[i]? = some y_ := ⟨_, List.getElem?_eq_getElem (by omega)⟩
  obtain ⟨d, hxd_, hd16_, hdc_⟩ := hex_yes (hall_ _ (List.mem_of_getElem? hy_))
  rw [drop_at hy_] at hi2
  refine SW_region ?_
  refine os 2 ?_
  refine ixb (i : Int) X .i64 y_ Tryz.underlying9 hy_ ?_
  refine L (cl (r2_hex hdc_) ?_)
  rintro _ _ rfl
  refine un ?_
  refine os 1 ?_
  refine kp [10, 47, 0, 6, 7, 8, 9] ?_
  refine nsr ?_
  refine os 2 ?_
  refine nt ?_
  refine cdp (fun hc18 : (m : Int) < 1152921504606846976 => ?_) (fun hc18 => ?_)
  ·refine SW_region ?_
   refine os 5 ?_
   refine kp [6, 55, 10, 47, 0, 7, 8, 9] ?_
   refine SL_nil (n_in (n_then ?_))
   refine SW_region ?_
   refine os 3 ?_
   refine nt ?_
   rw [hexGo_in hxd_ (by omega)] at hi2
   rw [show (16 * (m : Int)) + (d : Int) = ((m * 16 + d : Nat) : Int) from by omega]
   rw [show (i : Int) + 1 = ((i + 1 : Nat) : Int) from by omega]
   exact ⟨(i + 1, m * 16 + d, x, b), by simp only []; omega, ⟨fun _ => rfl, ow⟩, by simp only []; omega, ⟨by simp only []; omega, by simp only []; omega, by simp only []; omega⟩, hi2⟩
  refine sr ?_
  refine os 3 ?_
  refine kp [7, 55, 10, 47, 0, 6, 8, 9] ?_
  refine nr ?_
  refine os 2 ?_
  refine tb 63 (fun hg19 => ?_) (fun hg19 => ?_)
  ·replace hg19 : b = true := hg19
   refine os 4 ?_
   refine kp [8, 7, 55, 10, 47, 0, 6, 9] ?_
   refine SL_nil (n_in (n_then ?_))
   refine SW_region ?_
   refine os 3 ?_
   refine nt ?_
   rw [hexGo_out hxd_ (by omega)] at hi2
   rw [show (b || decide (0 < d)) = true from by rw [hg19]; rfl] at hi2
   rw [show (i : Int) + 1 = ((i + 1 : Nat) : Int) from by omega]
   exact ⟨(i + 1, m, x + 4, true), by simp only []; omega, ⟨fun _ => rfl, ow⟩, by simp only []; omega, ⟨by simp only []; omega, by simp only []; omega, by simp only []; omega⟩, hi2⟩
  replace hg19 : b = false := hg19
  refine os 4 ?_
  refine kp [8, 7, 55, 10, 47, 0, 6, 9] ?_
  refine SL_nil (n_in (n_then ?_))
  refine SW_region ?_
  refine os 3 ?_
  refine nt ?_
  rw [hexGo_out hxd_ (by omega)] at hi2
  rw [show (b || decide (0 < d)) = decide ((d : Int) > 0) from by rw [hg19, Bool.false_or]; exact decide_eq_decide.2 (by omega)] at hi2
  rw [show (i : Int) + 1 = ((i + 1 : Nat) : Int) from by omega]
  exact ⟨(i + 1, m, x + 4, decide ((d : Int) > 0)), by simp only []; omega, ⟨fun _ => rfl, ow⟩, by simp only []; omega, ⟨by simp only []; omega, by simp only []; omega, by simp only []; omega⟩, hi2⟩
 refine SW_exit (x_then (x_then (x_in (n_then ?_))))
 refine sr ?_
 refine os 3 ?_
 refine L (cl (r1_Near (man := m) (e := x) (half := b) hm_ (by omega)) ?_)
 rintro _ _ rfl
 refine un ?_
 refine os 2 ?_
 refine kp [3, 2, 47, 0, 6, 7, 8, 9] ?_
 refine nt ?_
 refine SW_ret ?_
 refine body_end (.tuple #[.int .u64 (nearN m x b : Int), .bool true]) (fun _ => rfl) ?_
 rw [List.drop_of_length_le (by omega)] at hi2
 exact ⟨(), ow, by rw [hexP_some hi2.symm, decide_eq_true (by assumption)]⟩

end Go.Proofs.YtnhmmjogfkjceaaGreatDoor
namespace Go.Proofs.YtnhmmjogfkjceaaGreatDoor
open Go.Sl

theorem r2_Literal {W0 : World} {X : Bytes} (hX : X.length ≤ 1048576) : SC Tryz.prog W0 20 #[.string (bS X)] [] (Ret (fun _ : Unit => []) (fun v _ => v = .tuple #[.int .u64 ((litP X).1 : Int), .bool (litP X).2])) := by
 refine SC_body (fn := Tryz.f20) (n := 52) Tryz.func20 rfl (by kernel_rfl) (ρ := [(0, .string (bS X))]) rfl ?_
 refine sr ?_
 refine os 2 ?_
 refine nq ?_
 refine sr ?_
 refine os 1 ?_
 refine oX (.int .i64 ((bS X).size : Int)) (.int .i64 (X.length : Int)) (congrArg (fun n_ : Nat => Value.int .i64 (n_ : Int)) (bS_size _)) ?_
 refine os 2 ?_
 refine tbp 11 (fun hg1 => ?_) (fun hg1 => ?_)
 ·replace hg1 : (X.length : Int) ≥ 2 := hg1
  refine os 1 ?_
  refine L (O_val (.string (bS (X.take 2))) rfl (fun δ w _ => run_strTo (l := X) 2 .i64 Tryz.underlying9 rfl rfl (by omega) (by omega)) ?_)
  refine oX (.bool ((bS (X.take 2)).toList == (bS [48, 120]).toList)) (.bool (decide ((X.take 2) = [48, 120]))) (congrArg Value.bool (by rw [strB_eq])) ?_
  refine os 1 ?_
  refine kp [15, 3, 2, 0] ?_
  refine nt ?_
  refine cdp (fun hc2 : (X.take 2) = [48, 120] => ?_) (fun hc2 => ?_)
  ·refine sr ?_
   refine os 1 ?_
   refine L (O_val (.string (bS (X.drop 2))) rfl (fun δ w _ => run_strFrom (l := X) 2 .i64 Tryz.underlying9 rfl rfl (by omega) (by omega)) ?_)
   have hdp2_ : (X.drop 2).length ≤ 1048576 := by rw [List.length_drop]; omega
   refine L (cl (r2_Hexadecimal (X := X.drop 2) (by omega)) ?_)
   rintro _ _ rfl
   refine un ?_
   refine os 4 ?_
   refine kp [3, 2, 15, 0] ?_
   refine nt ?_
   refine SW_ret (r_then ?_)
   refine body_end (.tuple #[.int .u64 ((hexP (X.drop 2)).1 : Int), .bool ((hexP (X.drop 2)).2)]) (fun _ => rfl) ?_
   exact ⟨(), ow, by rw [litP_hex (pre2_take.2 (by assumption))]⟩
  refine SW_skip (n_then ?_)
  refine SW_seq ?_
  have hnp_ : Lib.hasPrefix X [48, 120] = false := by rw [Bool.eq_false_iff]; intro q_; exact absurd (pre2_take.1 q_) (by assumption)
  refine SW_region ?_
  refine os 1 ?_
  refine L (cl (r2_Decimal (X := X) (by omega)) ?_)
  rintro _ ⟨da, db, dp⟩ ⟨rfl, hdf_⟩
  refine un ?_
  refine os 9 ?_
  refine kp [7, 6, 5, 4, 15, 3, 2, 0] ?_
  refine nq ?_
  refine sr ?_
  refine os 3 ?_
  refine tb 30 (fun hg3 => ?_) (fun hg3 => ?_)
  ·replace hg3 : (!((decP X).2)) = true := hg3
   replace hg3 := bnot_t hg3
   refine os 19 ?_
   refine kp [49, 7, 6, 5, 4, 15, 3, 2, 0] ?_
   refine nt ?_
   refine ct ?_
   refine sr ?_
   refine os 2 ?_
   refine nt ?_
   refine SW_ret (r_then ?_)
   refine body_end (.tuple #[.int .u64 0, .bool false]) (fun _ => rfl) ?_
   have hbad_ : litBad X := by unfold litBad; exact .inl hg3
   exact ⟨(), ow, by rw [litP_bad hnp_ hbad_]; rfl⟩
  replace hg3 : (!((decP X).2)) = false := hg3
  replace hg3 := bnot_f hg3
  have hok_ := hg3
  obtain ⟨hda_, hdb_, hdp_⟩ := hdf_ hg3
  simp only [] at hda_ hdb_ hdp_
  have hfl_ := (decP_facts X).2.1
  refine os 4 ?_
  refine kp [34, 7, 6, 5, 4, 15, 3, 2, 0] ?_
  refine tb 34 (fun hg4 => ?_) (fun hg4 => ?_)
  ·replace hg4 : (da == 0) = true := hg4
   simp only [beq_iff_eq, bne_iff_ne, ne_eq, beq_eq_false_iff_ne, bne_eq_false_iff_eq, Classical.not_not] at hg4
   refine os 15 ?_
   refine kp [49, 7, 6, 5, 4, 15, 3, 2, 0] ?_
   refine nt ?_
   refine ct ?_
   refine sr ?_
   refine os 2 ?_
   refine nt ?_
   refine SW_ret (r_then ?_)
   refine body_end (.tuple #[.int .u64 0, .bool false]) (fun _ => rfl) ?_
   have hbad_ : litBad X := (lit_test hok_ hda_ hdb_ hdp_).2 (by first | exact .inl (by omega) | exact .inr (.inl ⟨by assumption, by omega⟩))
   exact ⟨(), ow, by rw [litP_bad hnp_ hbad_]; rfl⟩
  replace hg4 : (da == 0) = false := hg4
  simp only [beq_iff_eq, bne_iff_ne, ne_eq, beq_eq_false_iff_ne, bne_eq_false_iff_eq, Classical.not_not] at hg4
  refine os 2 ?_
  refine tb 36 (fun hg5 => ?_) (fun hg5 => ?_)
  ·replace hg5 : dp = true := hg5
   refine os 5 ?_
   refine kp [41, 7, 6, 5, 4, 15, 3, 2, 0] ?_
   refine tb 41 (fun hg6 => ?_) (fun hg6 => ?_)
   ·replace hg6 : (db == 0) = true := hg6
    simp only [beq_iff_eq, bne_iff_ne, ne_eq, beq_eq_false_iff_ne, bne_eq_false_iff_eq, Classical.not_not] at hg6
    refine os 8 ?_
    refine kp [49, 7, 6, 5, 4, 15, 3, 2, 0] ?_
    refine nt ?_
    refine ct ?_
    refine sr ?_
    refine os 2 ?_
    refine nt ?_
    refine SW_ret (r_then ?_)
    refine body_end (.tuple #[.int .u64 0, .bool false]) (fun _ => rfl) ?_
    have hbad_ : litBad X := (lit_test hok_ hda_ hdb_ hdp_).2 (by first | exact .inl (by omega) | exact .inr (.inl ⟨by assumption, by omega⟩))
    exact ⟨(), ow, by rw [litP_bad hnp_ hbad_]; rfl⟩
   replace hg6 : (db == 0) = false := hg6
   simp only [beq_iff_eq, bne_iff_ne, ne_eq, beq_eq_false_iff_ne, bne_eq_false_iff_eq, Classical.not_not] at hg6
   refine os 3 ?_
   refine tbp 44 (fun hg7 => ?_) (fun hg7 => ?_)
   ·replace hg7 : da > 1 := hg7
    refine os 1 ?_
    obtain ⟨e1, he1⟩ : ∃ y_, X[0]? = some y_ := ⟨_, List.getElem?_eq_getElem (by omega)⟩
    refine ixb 0 X .i64 e1 Tryz.underlying9 he1 ?_
    refine os 3 ?_
    refine kp [49, 7, 6, 5, 4, 15, 3, 2, 0] ?_
    refine nt ?_
    refine cd (fun hc8 : ((e1.toNat : Int) == 48) = true => ?_) (fun hc8 => ?_)
    ·simp only [beq_iff_eq, bne_iff_ne, ne_eq, beq_eq_false_iff_ne, bne_eq_false_iff_eq, Classical.not_not] at hc8
     refine sr ?_
     refine os 2 ?_
     refine nt ?_
     refine SW_ret (r_then ?_)
     refine body_end (.tuple #[.int .u64 0, .bool false]) (fun _ => rfl) ?_
     have hbad_ : litBad X := (lit_test hok_ hda_ hdb_ hdp_).2 (by first | exact .inl (by omega) | exact .inr (.inl ⟨by assumption, by omega⟩) | exact .inr (.inr ⟨by omega, _, he1, by omega⟩))
     exact ⟨(), ow, by rw [litP_bad hnp_ hbad_]; rfl⟩
    simp only [beq_iff_eq, bne_iff_ne, ne_eq, beq_eq_false_iff_ne, bne_eq_false_iff_eq, Classical.not_not] at hc8
    refine SW_skip (n_then ?_)
    refine sr ?_
    refine os 1 ?_
    refine L (cl (r2_parsed (X := X) (by omega) (by assumption)) ?_)
    rintro _ _ rfl
    refine un ?_
    refine os 2 ?_
    refine nt ?_
    refine SW_ret ?_
    refine body_end (.tuple #[.int .u64 (nearestP (decP X).1 : Int), .bool true]) (fun _ => rfl) ?_
    have hgood_ : ¬ litBad X := by intro q_; rcases (lit_test hok_ hda_ hdb_ hdp_).1 q_ with q_ | ⟨q1_, q2_⟩ | ⟨q1_, c_, q2_, q3_⟩ <;> first | omega | (simp_all; done) | (rw [he1] at q2_; cases q2_; omega)
    exact ⟨(), ow, by rw [litP_good hnp_ hgood_]⟩
   replace hg7 : ¬ (da > 1) := hg7
   refine os 5 ?_
   refine kp [49, 7, 6, 5, 4, 15, 3, 2, 0] ?_
   refine nt ?_
   refine cf ?_
   refine SW_skip (n_then ?_)
   refine sr ?_
   refine os 1 ?_
   refine L (cl (r2_parsed (X := X) (by omega) (by assumption)) ?_)
   rintro _ _ rfl
   refine un ?_
   refine os 2 ?_
   refine nt ?_
   refine SW_ret ?_
   refine body_end (.tuple #[.int .u64 (nearestP (decP X).1 : Int), .bool true]) (fun _ => rfl) ?_
   have hgood_ : ¬ litBad X := by intro q_; rcases (lit_test hok_ hda_ hdb_ hdp_).1 q_ with q_ | ⟨q1_, q2_⟩ | ⟨q1_, c_, q2_, q3_⟩ <;> first | omega | (simp_all; done) | (rw [hok_] at q2_; cases q2_; omega)
   exact ⟨(), ow, by rw [litP_good hnp_ hgood_]⟩
  replace hg5 : dp = false := hg5
  refine os 8 ?_
  refine kp [44, 41, 7, 6, 5, 4, 15, 3, 2, 0] ?_
  refine tbp 44 (fun hg9 => ?_) (fun hg9 => ?_)
  ·replace hg9 : da > 1 := hg9
   refine os 1 ?_
   obtain ⟨e2, he2⟩ : ∃ y_, X[0]? = some y_ := ⟨_, List.getElem?_eq_getElem (by omega)⟩
   refine ixb 0 X .i64 e2 Tryz.underlying9 he2 ?_
   refine os 3 ?_
   refine kp [49, 7, 6, 5, 4, 15, 3, 2, 0] ?_
   refine nt ?_
   refine cd (fun hc10 : ((e2.toNat : Int) == 48) = true => ?_) (fun hc10 => ?_)
   ·simp only [beq_iff_eq, bne_iff_ne, ne_eq, beq_eq_false_iff_ne, bne_eq_false_iff_eq, Classical.not_not] at hc10
    refine sr ?_
    refine os 2 ?_
    refine nt ?_
    refine SW_ret (r_then ?_)
    refine body_end (.tuple #[.int .u64 0, .bool false]) (fun _ => rfl) ?_
    have hbad_ : litBad X := (lit_test hok_ hda_ hdb_ hdp_).2 (by first | exact .inl (by omega) | exact .inr (.inl ⟨by assumption, by omega⟩) | exact .inr (.inr ⟨by omega, _, he2, by omega⟩))
    exact ⟨(), ow, by rw [litP_bad hnp_ hbad_]; rfl⟩
   simp only [beq_iff_eq, bne_iff_ne, ne_eq, beq_eq_false_iff_ne, bne_eq_false_iff_eq, Classical.not_not] at hc10
   refine SW_skip (n_then ?_)
   refine sr ?_
   refine os 1 ?_
   refine L (cl (r2_parsed (X := X) (by omega) (by assumption)) ?_)
   rintro _ _ rfl
   refine un ?_
   refine os 2 ?_
   refine nt ?_
   refine SW_ret ?_
   refine body_end (.tuple #[.int .u64 (nearestP (decP X).1 : Int), .bool true]) (fun _ => rfl) ?_
   have hgood_ : ¬ litBad X := by intro q_; rcases (lit_test hok_ hda_ hdb_ hdp_).1 q_ with q_ | ⟨q1_, q2_⟩ | ⟨q1_, c_, q2_, q3_⟩ <;> first | omega | (simp_all; done) | (rw [he2] at q2_; cases q2_; omega)
   exact ⟨(), ow, by rw [litP_good hnp_ hgood_]⟩
  replace hg9 : ¬ (da > 1) := hg9
  refine os 5 ?_
  refine kp [49, 7, 6, 5, 4, 15, 3, 2, 0] ?_
  refine nt ?_
  refine cf ?_
  refine SW_skip (n_then ?_)
  refine sr ?_
  refine os 1 ?_
  refine L (cl (r2_parsed (X := X) (by omega) (by assumption)) ?_)
  rintro _ _ rfl
  refine un ?_
  refine os 2 ?_
  refine nt ?_
  refine SW_ret ?_
  refine body_end (.tuple #[.int .u64 (nearestP (decP X).1 : Int), .bool true]) (fun _ => rfl) ?_
  have hgood_ : ¬ litBad X := by intro q_; rcases (lit_test hok_ hda_ hdb_ hdp_).1 q_ with q_ | ⟨q1_, q2_⟩ | ⟨q1_, c_, q2_, q3_⟩ <;> first | omega | (simp_all; done) | (rw [hok_] at q2_; cases q2_; omega)
  exact ⟨(), ow, by rw [litP_good hnp_ hgood_]⟩
 replace hg1 : ¬ ((X.length : Int) ≥ 2) := hg1
 refine os 4 ?_
 refine kp [15, 3, 2, 0] ?_
 refine nt ?_
 refine cf ?_
 refine SW_skip (n_then ?_)
 refine SW_seq ?_
 have hnp_ : Lib.hasPrefix X [48, 120] = false := pre2_short (p := [48, 120]) (by first | assumption | (simp; omega))
 refine SW_region ?_
 refine os 1 ?_
 refine L (cl (r2_Decimal (X := X) (by omega)) ?_)
 rintro _ ⟨da, db, dp⟩ ⟨rfl, hdf_⟩
 refine un ?_
 refine os 9 ?_
 refine kp [7, 6, 5, 4, 15, 3, 2, 0] ?_
 refine nq ?_
 refine sr ?_
 refine os 3 ?_
 refine tb 30 (fun hg11 => ?_) (fun hg11 => ?_)
 ·replace hg11 : (!((decP X).2)) = true := hg11
  replace hg11 := bnot_t hg11
  refine os 19 ?_
  refine kp [49, 7, 6, 5, 4, 15, 3, 2, 0] ?_
  refine nt ?_
  refine ct ?_
  refine sr ?_
  refine os 2 ?_
  refine nt ?_
  refine SW_ret (r_then ?_)
  refine body_end (.tuple #[.int .u64 0, .bool false]) (fun _ => rfl) ?_
  have hbad_ : litBad X := by unfold litBad; exact .inl hg11
  exact ⟨(), ow, by rw [litP_bad hnp_ hbad_]; rfl⟩
 replace hg11 : (!((decP X).2)) = false := hg11
 replace hg11 := bnot_f hg11
 have hok_ := hg11
 obtain ⟨hda_, hdb_, hdp_⟩ := hdf_ hg11
 simp only [] at hda_ hdb_ hdp_
 have hfl_ := (decP_facts X).2.1
 refine os 4 ?_
 refine kp [34, 7, 6, 5, 4, 15, 3, 2, 0] ?_
 refine tb 34 (fun hg12 => ?_) (fun hg12 => ?_)
 ·replace hg12 : (da == 0) = true := hg12
  simp only [beq_iff_eq, bne_iff_ne, ne_eq, beq_eq_false_iff_ne, bne_eq_false_iff_eq, Classical.not_not] at hg12
  refine os 15 ?_
  refine kp [49, 7, 6, 5, 4, 15, 3, 2, 0] ?_
  refine nt ?_
  refine ct ?_
  refine sr ?_
  refine os 2 ?_
  refine nt ?_
  refine SW_ret (r_then ?_)
  refine body_end (.tuple #[.int .u64 0, .bool false]) (fun _ => rfl) ?_
  have hbad_ : litBad X := (lit_test hok_ hda_ hdb_ hdp_).2 (by first | exact .inl (by omega) | exact .inr (.inl ⟨by assumption, by omega⟩))
  exact ⟨(), ow, by rw [litP_bad hnp_ hbad_]; rfl⟩
 replace hg12 : (da == 0) = false := hg12
 simp only [beq_iff_eq, bne_iff_ne, ne_eq, beq_eq_false_iff_ne, bne_eq_false_iff_eq, Classical.not_not] at hg12
 refine os 2 ?_
 refine tb 36 (fun hg13 => ?_) (fun hg13 => ?_)
 ·replace hg13 : dp = true := hg13
  refine os 5 ?_
  refine kp [41, 7, 6, 5, 4, 15, 3, 2, 0] ?_
  refine tb 41 (fun hg14 => ?_) (fun hg14 => ?_)
  ·replace hg14 : (db == 0) = true := hg14
   simp only [beq_iff_eq, bne_iff_ne, ne_eq, beq_eq_false_iff_ne, bne_eq_false_iff_eq, Classical.not_not] at hg14
   refine os 8 ?_
   refine kp [49, 7, 6, 5, 4, 15, 3, 2, 0] ?_
   refine nt ?_
   refine ct ?_
   refine sr ?_
   refine os 2 ?_
   refine nt ?_
   refine SW_ret (r_then ?_)
   refine body_end (.tuple #[.int .u64 0, .bool false]) (fun _ => rfl) ?_
   have hbad_ : litBad X := (lit_test hok_ hda_ hdb_ hdp_).2 (by first | exact .inl (by omega) | exact .inr (.inl ⟨by assumption, by omega⟩))
   exact ⟨(), ow, by rw [litP_bad hnp_ hbad_]; rfl⟩
  replace hg14 : (db == 0) = false := hg14
  simp only [beq_iff_eq, bne_iff_ne, ne_eq, beq_eq_false_iff_ne, bne_eq_false_iff_eq, Classical.not_not] at hg14
  refine os 3 ?_
  refine tbp 44 (fun hg15 => ?_) (fun hg15 => ?_)
  ·replace hg15 : da > 1 := hg15
   refine os 1 ?_
   obtain ⟨e3, he3⟩ : ∃ y_, X[0]? = some y_ := ⟨_, List.getElem?_eq_getElem (by omega)⟩
   refine ixb 0 X .i64 e3 Tryz.underlying9 he3 ?_
   refine os 3 ?_
   refine kp [49, 7, 6, 5, 4, 15, 3, 2, 0] ?_
   refine nt ?_
   refine cd (fun hc16 : ((e3.toNat : Int) == 48) = true => ?_) (fun hc16 => ?_)
   ·simp only [beq_iff_eq, bne_iff_ne, ne_eq, beq_eq_false_iff_ne, bne_eq_false_iff_eq, Classical.not_not] at hc16
    refine sr ?_
    refine os 2 ?_
    refine nt ?_
    refine SW_ret (r_then ?_)
    refine body_end (.tuple #[.int .u64 0, .bool false]) (fun _ => rfl) ?_
    have hbad_ : litBad X := (lit_test hok_ hda_ hdb_ hdp_).2 (by first | exact .inl (by omega) | exact .inr (.inl ⟨by assumption, by omega⟩) | exact .inr (.inr ⟨by omega, _, he3, by omega⟩))
    exact ⟨(), ow, by rw [litP_bad hnp_ hbad_]; rfl⟩
   simp only [beq_iff_eq, bne_iff_ne, ne_eq, beq_eq_false_iff_ne, bne_eq_false_iff_eq, Classical.not_not] at hc16
   refine SW_skip (n_then ?_)
   refine sr ?_
   refine os 1 ?_
   refine L (cl (r2_parsed (X := X) (by omega) (by assumption)) ?_)
   rintro _ _ rfl
   refine un ?_
   refine os 2 ?_
   refine nt ?_
   refine SW_ret ?_
   refine body_end (.tuple #[.int .u64 (nearestP (decP X).1 : Int), .bool true]) (fun _ => rfl) ?_
   have hgood_ : ¬ litBad X := by intro q_; rcases (lit_test hok_ hda_ hdb_ hdp_).1 q_ with q_ | ⟨q1_, q2_⟩ | ⟨q1_, c_, q2_, q3_⟩ <;> first | omega | (simp_all; done) | (rw [he3] at q2_; cases q2_; omega)
   exact ⟨(), ow, by rw [litP_good hnp_ hgood_]⟩
  replace hg15 : ¬ (da > 1) := hg15
  refine os 5 ?_
  refine kp [49, 7, 6, 5, 4, 15, 3, 2, 0] ?_
  refine nt ?_
  refine cf ?_
  refine SW_skip (n_then ?_)
  refine sr ?_
  refine os 1 ?_
  refine L (cl (r2_parsed (X := X) (by omega) (by assumption)) ?_)
  rintro _ _ rfl
  refine un ?_
  refine os 2 ?_
  refine nt ?_
  refine SW_ret ?_
  refine body_end (.tuple #[.int .u64 (nearestP (decP X).1 : Int), .bool true]) (fun _ => rfl) ?_
  have hgood_ : ¬ litBad X := by intro q_; rcases (lit_test hok_ hda_ hdb_ hdp_).1 q_ with q_ | ⟨q1_, q2_⟩ | ⟨q1_, c_, q2_, q3_⟩ <;> first | omega | (simp_all; done) | (rw [hok_] at q2_; cases q2_; omega)
  exact ⟨(), ow, by rw [litP_good hnp_ hgood_]⟩
 replace hg13 : dp = false := hg13
 refine os 8 ?_
 refine kp [44, 41, 7, 6, 5, 4, 15, 3, 2, 0] ?_
 refine tbp 44 (fun hg17 => ?_) (fun hg17 => ?_)
 ·replace hg17 : da > 1 := hg17
  refine os 1 ?_
  obtain ⟨e4, he4⟩ : ∃ y_, X[0]? = some y_ := ⟨_, List.getElem?_eq_getElem (by omega)⟩
  refine ixb 0 X .i64 e4 Tryz.underlying9 he4 ?_
  refine os 3 ?_
  refine kp [49, 7, 6, 5, 4, 15, 3, 2, 0] ?_
  refine nt ?_
  refine cd (fun hc18 : ((e4.toNat : Int) == 48) = true => ?_) (fun hc18 => ?_)
  ·simp only [beq_iff_eq, bne_iff_ne, ne_eq, beq_eq_false_iff_ne, bne_eq_false_iff_eq, Classical.not_not] at hc18
   refine sr ?_
   refine os 2 ?_
   refine nt ?_
   refine SW_ret (r_then ?_)
   refine body_end (.tuple #[.int .u64 0, .bool false]) (fun _ => rfl) ?_
   have hbad_ : litBad X := (lit_test hok_ hda_ hdb_ hdp_).2 (by first | exact .inl (by omega) | exact .inr (.inl ⟨by assumption, by omega⟩) | exact .inr (.inr ⟨by omega, _, he4, by omega⟩))
   exact ⟨(), ow, by rw [litP_bad hnp_ hbad_]; rfl⟩
  simp only [beq_iff_eq, bne_iff_ne, ne_eq, beq_eq_false_iff_ne, bne_eq_false_iff_eq, Classical.not_not] at hc18
  refine SW_skip (n_then ?_)
  refine sr ?_
  refine os 1 ?_
  refine L (cl (r2_parsed (X := X) (by omega) (by assumption)) ?_)
  rintro _ _ rfl
  refine un ?_
  refine os 2 ?_
  refine nt ?_
  refine SW_ret ?_
  refine body_end (.tuple #[.int .u64 (nearestP (decP X).1 : Int), .bool true]) (fun _ => rfl) ?_
  have hgood_ : ¬ litBad X := by intro q_; rcases (lit_test hok_ hda_ hdb_ hdp_).1 q_ with q_ | ⟨q1_, q2_⟩ | ⟨q1_, c_, q2_, q3_⟩ <;> first | omega | (simp_all; done) | (rw [he4] at q2_; cases q2_; omega)
  exact ⟨(), ow, by rw [litP_good hnp_ hgood_]⟩
 replace hg17 : ¬ (da > 1) := hg17
 refine os 5 ?_
 refine kp [49, 7, 6, 5, 4, 15, 3, 2, 0] ?_
 refine nt ?_
 refine cf ?_
 refine SW_skip (n_then ?_)
 refine sr ?_
 refine os 1 ?_
 refine L (cl (r2_parsed (X := X) (by omega) (by assumption)) ?_)
 rintro _ _ rfl
 refine un ?_
 refine os 2 ?_
 refine nt ?_
 refine SW_ret ?_
 refine body_end (.tuple #[.int .u64 (nearestP (decP X).1 : Int), .bool true]) (fun _ => rfl) ?_
 have hgood_ : ¬ litBad X := by intro q_; rcases (lit_test hok_ hda_ hdb_ hdp_).1 q_ with q_ | ⟨q1_, q2_⟩ | ⟨q1_, c_, q2_, q3_⟩ <;> first | omega | (simp_all; done) | (rw [hok_] at q2_; cases q2_; omega)
 exact ⟨(), ow, by rw [litP_good hnp_ hgood_]⟩

end Go.Proofs.YtnhmmjogfkjceaaGreatDoor
namespace Go.Proofs.YtnhmmjogfkjceaaGreatDoor
open Go.Sl

theorem r5_Digit {W0 : World} {c : UInt8} : SC Tryz.prog W0 62 #[.int .u8 (c.toNat : Int)] [] (Ret (fun _ : Unit => []) (fun v _ => v = .bool (isDig c))) := by
 refine SC_body (fn := Tryz.f62) (n := 9) Tryz.func62 rfl (by kernel_rfl) (ρ := [(0, .int .u8 (c.toNat : Int))]) rfl ?_
 refine sr ?_
 refine os 1 ?_
 refine nsr ?_
 refine os 3 ?_
 refine tbp 5 (fun hg1 => ?_) (fun hg1 => ?_)
 ·replace hg1 : (c.toNat : Int) ≥ 48 := hg1
  refine os 4 ?_
  refine kp [2, 0] ?_
  refine nt ?_
  refine SW_ret ?_
  refine body_end (.bool (decide ((c.toNat : Int) ≤ 57))) (fun _ => rfl) ?_
  exact ⟨(), ow, congrArg Value.bool (by unfold isDig; first | exact (decide_eq_true (by omega)).symm | exact (decide_eq_false (by omega)).symm | exact decide_eq_decide.2 (by omega) | (rw [Bool.eq_iff_iff]; simp; omega))⟩
 replace hg1 : ¬ ((c.toNat : Int) ≥ 48) := hg1
 refine os 4 ?_
 refine kp [2, 0] ?_
 refine nt ?_
 refine SW_ret ?_
 refine body_end (.bool false) (fun _ => rfl) ?_
 exact ⟨(), ow, congrArg Value.bool (by unfold isDig; first | exact (decide_eq_true (by omega)).symm | exact (decide_eq_false (by omega)).symm | exact decide_eq_decide.2 (by omega) | (rw [Bool.eq_iff_iff]; simp; omega))⟩

theorem r5_Small {W0 : World} {c : UInt8} : SC Tryz.prog W0 63 #[.int .u8 (c.toNat : Int)] [] (Ret (fun _ : Unit => []) (fun v _ => v = .bool (isSm c))) := by
 refine SC_body (fn := Tryz.f63) (n := 35) Tryz.func63 rfl (by kernel_rfl) (ρ := [(0, .int .u8 (c.toNat : Int))]) rfl ?_
 refine sr ?_
 refine os 1 ?_
 refine nsr ?_
 refine os 3 ?_
 refine tbp 6 (fun hg1 => ?_) (fun hg1 => ?_)
 ·replace hg1 : (c.toNat : Int) ≥ 97 := hg1
  refine os 4 ?_
  refine kp [10, 2, 0] ?_
  refine tbp 10 (fun hg2 => ?_) (fun hg2 => ?_)
  ·replace hg2 : (c.toNat : Int) ≤ 122 := hg2
   refine os 8 ?_
   refine kp [3, 2, 0] ?_
   refine nsr ?_
   refine os 18 ?_
   refine kp [2, 3, 0] ?_
   refine nt ?_
   refine SW_ret ?_
   refine body_end (.bool true) (fun _ => rfl) ?_
   exact ⟨(), ow, congrArg Value.bool (by unfold isSm; first | exact (decide_eq_true (by omega)).symm | exact (decide_eq_false (by omega)).symm | exact decide_eq_decide.2 (by omega) | (rw [Bool.eq_iff_iff]; simp; omega))⟩
  replace hg2 : ¬ ((c.toNat : Int) ≤ 122) := hg2
  refine os 3 ?_
  refine tbp 13 (fun hg3 => ?_) (fun hg3 => ?_)
  ·replace hg3 : (c.toNat : Int) ≥ 65 := hg3
   refine os 5 ?_
   refine kp [3, 2, 0] ?_
   refine nsr ?_
   refine os 2 ?_
   refine tbp 19 (fun hg4 => ?_) (fun hg4 => ?_)
   ·replace hg4 : (c.toNat : Int) ≤ 90 := hg4
    refine os 16 ?_
    refine kp [2, 3, 0] ?_
    refine nt ?_
    refine SW_ret ?_
    refine body_end (.bool true) (fun _ => rfl) ?_
    exact ⟨(), ow, congrArg Value.bool (by unfold isSm; first | exact (decide_eq_true (by omega)).symm | exact (decide_eq_false (by omega)).symm | exact decide_eq_decide.2 (by omega) | (rw [Bool.eq_iff_iff]; simp; omega))⟩
   replace hg4 : ¬ ((c.toNat : Int) ≤ 90) := hg4
   refine os 3 ?_
   refine tbp 22 (fun hg5 => ?_) (fun hg5 => ?_)
   ·replace hg5 : (c.toNat : Int) ≥ 48 := hg5
    refine os 5 ?_
    refine kp [27, 3, 2, 0] ?_
    refine tbp 27 (fun hg6 => ?_) (fun hg6 => ?_)
    ·replace hg6 : (c.toNat : Int) ≤ 57 := hg6
     refine os 8 ?_
     refine kp [2, 3, 0] ?_
     refine nt ?_
     refine SW_ret ?_
     refine body_end (.bool true) (fun _ => rfl) ?_
     exact ⟨(), ow, congrArg Value.bool (by unfold isSm; first | exact (decide_eq_true (by omega)).symm | exact (decide_eq_false (by omega)).symm | exact decide_eq_decide.2 (by omega) | (rw [Bool.eq_iff_iff]; simp; omega))⟩
    replace hg6 : ¬ ((c.toNat : Int) ≤ 57) := hg6
    refine os 4 ?_
    refine tb 31 (fun hg7 => ?_) (fun hg7 => ?_)
    ·replace hg7 : ((c.toNat : Int) == 95) = true := hg7
     simp only [beq_iff_eq, bne_iff_ne, ne_eq, beq_eq_false_iff_ne, bne_eq_false_iff_eq, Classical.not_not] at hg7
     refine os 4 ?_
     refine kp [2, 3, 0] ?_
     refine nt ?_
     refine SW_ret ?_
     refine body_end (.bool true) (fun _ => rfl) ?_
     exact ⟨(), ow, congrArg Value.bool (by unfold isSm; first | exact (decide_eq_true (by omega)).symm | exact (decide_eq_false (by omega)).symm | exact decide_eq_decide.2 (by omega) | (rw [Bool.eq_iff_iff]; simp; omega))⟩
    replace hg7 : ((c.toNat : Int) == 95) = false := hg7
    simp only [beq_iff_eq, bne_iff_ne, ne_eq, beq_eq_false_iff_ne, bne_eq_false_iff_eq, Classical.not_not] at hg7
    refine os 4 ?_
    refine kp [2, 3, 0] ?_
    refine nt ?_
    refine SW_ret ?_
    refine body_end (.bool ((c.toNat : Int) == 36)) (fun _ => rfl) ?_
    exact ⟨(), ow, congrArg Value.bool (by unfold isSm; first | exact (decide_eq_true (by omega)).symm | exact (decide_eq_false (by omega)).symm | exact decide_eq_decide.2 (by omega) | (rw [Bool.eq_iff_iff]; simp; omega))⟩
   replace hg5 : ¬ ((c.toNat : Int) ≥ 48) := hg5
   refine os 9 ?_
   refine kp [31, 3, 2, 0] ?_
   refine tb 31 (fun hg8 => ?_) (fun hg8 => ?_)
   ·replace hg8 : ((c.toNat : Int) == 95) = true := hg8
    simp only [beq_iff_eq, bne_iff_ne, ne_eq, beq_eq_false_iff_ne, bne_eq_false_iff_eq, Classical.not_not] at hg8
    refine os 4 ?_
    refine kp [2, 3, 0] ?_
    refine nt ?_
    refine SW_ret ?_
    refine body_end (.bool true) (fun _ => rfl) ?_
    exact ⟨(), ow, congrArg Value.bool (by unfold isSm; first | exact (decide_eq_true (by omega)).symm | exact (decide_eq_false (by omega)).symm | exact decide_eq_decide.2 (by omega) | (rw [Bool.eq_iff_iff]; simp; omega))⟩
   replace hg8 : ((c.toNat : Int) == 95) = false := hg8
   simp only [beq_iff_eq, bne_iff_ne, ne_eq, beq_eq_false_iff_ne, bne_eq_false_iff_eq, Classical.not_not] at hg8
   refine os 4 ?_
   refine kp [2, 3, 0] ?_
   refine nt ?_
   refine SW_ret ?_
   refine body_end (.bool ((c.toNat : Int) == 36)) (fun _ => rfl) ?_
   exact ⟨(), ow, congrArg Value.bool (by unfold isSm; first | exact (decide_eq_true (by omega)).symm | exact (decide_eq_false (by omega)).symm | exact decide_eq_decide.2 (by omega) | (rw [Bool.eq_iff_iff]; simp; omega))⟩
  replace hg3 : ¬ ((c.toNat : Int) ≥ 65) := hg3
  refine os 5 ?_
  refine kp [3, 2, 0] ?_
  refine nsr ?_
  refine os 5 ?_
  refine tbp 22 (fun hg9 => ?_) (fun hg9 => ?_)
  ·replace hg9 : (c.toNat : Int) ≥ 48 := hg9
   refine os 5 ?_
   refine kp [27, 3, 2, 0] ?_
   refine tbp 27 (fun hg10 => ?_) (fun hg10 => ?_)
   ·replace hg10 : (c.toNat : Int) ≤ 57 := hg10
    refine os 8 ?_
    refine kp [2, 3, 0] ?_
    refine nt ?_
    refine SW_ret ?_
    refine body_end (.bool true) (fun _ => rfl) ?_
    exact ⟨(), ow, congrArg Value.bool (by unfold isSm; first | exact (decide_eq_true (by omega)).symm | exact (decide_eq_false (by omega)).symm | exact decide_eq_decide.2 (by omega) | (rw [Bool.eq_iff_iff]; simp; omega))⟩
   replace hg10 : ¬ ((c.toNat : Int) ≤ 57) := hg10
   refine os 4 ?_
   refine tb 31 (fun hg11 => ?_) (fun hg11 => ?_)
   ·replace hg11 : ((c.toNat : Int) == 95) = true := hg11
    simp only [beq_iff_eq, bne_iff_ne, ne_eq, beq_eq_false_iff_ne, bne_eq_false_iff_eq, Classical.not_not] at hg11
    refine os 4 ?_
    refine kp [2, 3, 0] ?_
    refine nt ?_
    refine SW_ret ?_
    refine body_end (.bool true) (fun _ => rfl) ?_
    exact ⟨(), ow, congrArg Value.bool (by unfold isSm; first | exact (decide_eq_true (by omega)).symm | exact (decide_eq_false (by omega)).symm | exact decide_eq_decide.2 (by omega) | (rw [Bool.eq_iff_iff]; simp; omega))⟩
   replace hg11 : ((c.toNat : Int) == 95) = false := hg11
   simp only [beq_iff_eq, bne_iff_ne, ne_eq, beq_eq_false_iff_ne, bne_eq_false_iff_eq, Classical.not_not] at hg11
   refine os 4 ?_
   refine kp [2, 3, 0] ?_
   refine nt ?_
   refine SW_ret ?_
   refine body_end (.bool ((c.toNat : Int) == 36)) (fun _ => rfl) ?_
   exact ⟨(), ow, congrArg Value.bool (by unfold isSm; first | exact (decide_eq_true (by omega)).symm | exact (decide_eq_false (by omega)).symm | exact decide_eq_decide.2 (by omega) | (rw [Bool.eq_iff_iff]; simp; omega))⟩
  replace hg9 : ¬ ((c.toNat : Int) ≥ 48) := hg9
  refine os 9 ?_
  refine kp [31, 3, 2, 0] ?_
  refine tb 31 (fun hg12 => ?_) (fun hg12 => ?_)
  ·replace hg12 : ((c.toNat : Int) == 95) = true := hg12
   simp only [beq_iff_eq, bne_iff_ne, ne_eq, beq_eq_false_iff_ne, bne_eq_false_iff_eq, Classical.not_not] at hg12
   refine os 4 ?_
   refine kp [2, 3, 0] ?_
   refine nt ?_
   refine SW_ret ?_
   refine body_end (.bool true) (fun _ => rfl) ?_
   exact ⟨(), ow, congrArg Value.bool (by unfold isSm; first | exact (decide_eq_true (by omega)).symm | exact (decide_eq_false (by omega)).symm | exact decide_eq_decide.2 (by omega) | (rw [Bool.eq_iff_iff]; simp; omega))⟩
  replace hg12 : ((c.toNat : Int) == 95) = false := hg12
  simp only [beq_iff_eq, bne_iff_ne, ne_eq, beq_eq_false_iff_ne, bne_eq_false_iff_eq, Classical.not_not] at hg12
  refine os 4 ?_
  refine kp [2, 3, 0] ?_
  refine nt ?_
  refine SW_ret ?_
  refine body_end (.bool ((c.toNat : Int) == 36)) (fun _ => rfl) ?_
  exact ⟨(), ow, congrArg Value.bool (by unfold isSm; first | exact (decide_eq_true (by omega)).symm | exact (decide_eq_false (by omega)).symm | exact decide_eq_decide.2 (by omega) | (rw [Bool.eq_iff_iff]; simp; omega))⟩
 replace hg1 : ¬ ((c.toNat : Int) ≥ 97) := hg1
 refine os 7 ?_
 refine kp [13, 10, 2, 0] ?_
 refine tbp 13 (fun hg13 => ?_) (fun hg13 => ?_)
 ·replace hg13 : (c.toNat : Int) ≥ 65 := hg13
  refine os 5 ?_
  refine kp [3, 2, 0] ?_
  refine nsr ?_
  refine os 2 ?_
  refine tbp 19 (fun hg14 => ?_) (fun hg14 => ?_)
  ·replace hg14 : (c.toNat : Int) ≤ 90 := hg14
   refine os 16 ?_
   refine kp [2, 3, 0] ?_
   refine nt ?_
   refine SW_ret ?_
   refine body_end (.bool true) (fun _ => rfl) ?_
   exact ⟨(), ow, congrArg Value.bool (by unfold isSm; first | exact (decide_eq_true (by omega)).symm | exact (decide_eq_false (by omega)).symm | exact decide_eq_decide.2 (by omega) | (rw [Bool.eq_iff_iff]; simp; omega))⟩
  replace hg14 : ¬ ((c.toNat : Int) ≤ 90) := hg14
  refine os 3 ?_
  refine tbp 22 (fun hg15 => ?_) (fun hg15 => ?_)
  ·replace hg15 : (c.toNat : Int) ≥ 48 := hg15
   refine os 5 ?_
   refine kp [27, 3, 2, 0] ?_
   refine tbp 27 (fun hg16 => ?_) (fun hg16 => ?_)
   ·replace hg16 : (c.toNat : Int) ≤ 57 := hg16
    refine os 8 ?_
    refine kp [2, 3, 0] ?_
    refine nt ?_
    refine SW_ret ?_
    refine body_end (.bool true) (fun _ => rfl) ?_
    exact ⟨(), ow, congrArg Value.bool (by unfold isSm; first | exact (decide_eq_true (by omega)).symm | exact (decide_eq_false (by omega)).symm | exact decide_eq_decide.2 (by omega) | (rw [Bool.eq_iff_iff]; simp; omega))⟩
   replace hg16 : ¬ ((c.toNat : Int) ≤ 57) := hg16
   refine os 4 ?_
   refine tb 31 (fun hg17 => ?_) (fun hg17 => ?_)
   ·replace hg17 : ((c.toNat : Int) == 95) = true := hg17
    simp only [beq_iff_eq, bne_iff_ne, ne_eq, beq_eq_false_iff_ne, bne_eq_false_iff_eq, Classical.not_not] at hg17
    refine os 4 ?_
    refine kp [2, 3, 0] ?_
    refine nt ?_
    refine SW_ret ?_
    refine body_end (.bool true) (fun _ => rfl) ?_
    exact ⟨(), ow, congrArg Value.bool (by unfold isSm; first | exact (decide_eq_true (by omega)).symm | exact (decide_eq_false (by omega)).symm | exact decide_eq_decide.2 (by omega) | (rw [Bool.eq_iff_iff]; simp; omega))⟩
   replace hg17 : ((c.toNat : Int) == 95) = false := hg17
   simp only [beq_iff_eq, bne_iff_ne, ne_eq, beq_eq_false_iff_ne, bne_eq_false_iff_eq, Classical.not_not] at hg17
   refine os 4 ?_
   refine kp [2, 3, 0] ?_
   refine nt ?_
   refine SW_ret ?_
   refine body_end (.bool ((c.toNat : Int) == 36)) (fun _ => rfl) ?_
   exact ⟨(), ow, congrArg Value.bool (by unfold isSm; first | exact (decide_eq_true (by omega)).symm | exact (decide_eq_false (by omega)).symm | exact decide_eq_decide.2 (by omega) | (rw [Bool.eq_iff_iff]; simp; omega))⟩
  replace hg15 : ¬ ((c.toNat : Int) ≥ 48) := hg15
  refine os 9 ?_
  refine kp [31, 3, 2, 0] ?_
  refine tb 31 (fun hg18 => ?_) (fun hg18 => ?_)
  ·replace hg18 : ((c.toNat : Int) == 95) = true := hg18
   simp only [beq_iff_eq, bne_iff_ne, ne_eq, beq_eq_false_iff_ne, bne_eq_false_iff_eq, Classical.not_not] at hg18
   refine os 4 ?_
   refine kp [2, 3, 0] ?_
   refine nt ?_
   refine SW_ret ?_
   refine body_end (.bool true) (fun _ => rfl) ?_
   exact ⟨(), ow, congrArg Value.bool (by unfold isSm; first | exact (decide_eq_true (by omega)).symm | exact (decide_eq_false (by omega)).symm | exact decide_eq_decide.2 (by omega) | (rw [Bool.eq_iff_iff]; simp; omega))⟩
  replace hg18 : ((c.toNat : Int) == 95) = false := hg18
  simp only [beq_iff_eq, bne_iff_ne, ne_eq, beq_eq_false_iff_ne, bne_eq_false_iff_eq, Classical.not_not] at hg18
  refine os 4 ?_
  refine kp [2, 3, 0] ?_
  refine nt ?_
  refine SW_ret ?_
  refine body_end (.bool ((c.toNat : Int) == 36)) (fun _ => rfl) ?_
  exact ⟨(), ow, congrArg Value.bool (by unfold isSm; first | exact (decide_eq_true (by omega)).symm | exact (decide_eq_false (by omega)).symm | exact decide_eq_decide.2 (by omega) | (rw [Bool.eq_iff_iff]; simp; omega))⟩
 replace hg13 : ¬ ((c.toNat : Int) ≥ 65) := hg13
 refine os 5 ?_
 refine kp [3, 2, 0] ?_
 refine nsr ?_
 refine os 5 ?_
 refine tbp 22 (fun hg19 => ?_) (fun hg19 => ?_)
 ·replace hg19 : (c.toNat : Int) ≥ 48 := hg19
  refine os 5 ?_
  refine kp [27, 3, 2, 0] ?_
  refine tbp 27 (fun hg20 => ?_) (fun hg20 => ?_)
  ·replace hg20 : (c.toNat : Int) ≤ 57 := hg20
   refine os 8 ?_
   refine kp [2, 3, 0] ?_
   refine nt ?_
   refine SW_ret ?_
   refine body_end (.bool true) (fun _ => rfl) ?_
   exact ⟨(), ow, congrArg Value.bool (by unfold isSm; first | exact (decide_eq_true (by omega)).symm | exact (decide_eq_false (by omega)).symm | exact decide_eq_decide.2 (by omega) | (rw [Bool.eq_iff_iff]; simp; omega))⟩
  replace hg20 : ¬ ((c.toNat : Int) ≤ 57) := hg20
  refine os 4 ?_
  refine tb 31 (fun hg21 => ?_) (fun hg21 => ?_)
  ·replace hg21 : ((c.toNat : Int) == 95) = true := hg21
   simp only [beq_iff_eq, bne_iff_ne, ne_eq, beq_eq_false_iff_ne, bne_eq_false_iff_eq, Classical.not_not] at hg21
   refine os 4 ?_
   refine kp [2, 3, 0] ?_
   refine nt ?_
   refine SW_ret ?_
   refine body_end (.bool true) (fun _ => rfl) ?_
   exact ⟨(), ow, congrArg Value.bool (by unfold isSm; first | exact (decide_eq_true (by omega)).symm | exact (decide_eq_false (by omega)).symm | exact decide_eq_decide.2 (by omega) | (rw [Bool.eq_iff_iff]; simp; omega))⟩
  replace hg21 : ((c.toNat : Int) == 95) = false := hg21
  simp only [beq_iff_eq, bne_iff_ne, ne_eq, beq_eq_false_iff_ne, bne_eq_false_iff_eq, Classical.not_not] at hg21
  refine os 4 ?_
  refine kp [2, 3, 0] ?_
  refine nt ?_
  refine SW_ret ?_
  refine body_end (.bool ((c.toNat : Int) == 36)) (fun _ => rfl) ?_
  exact ⟨(), ow, congrArg Value.bool (by unfold isSm; first | exact (decide_eq_true (by omega)).symm | exact (decide_eq_false (by omega)).symm | exact decide_eq_decide.2 (by omega) | (rw [Bool.eq_iff_iff]; simp; omega))⟩
 replace hg19 : ¬ ((c.toNat : Int) ≥ 48) := hg19
 refine os 9 ?_
 refine kp [31, 3, 2, 0] ?_
 refine tb 31 (fun hg22 => ?_) (fun hg22 => ?_)
 ·replace hg22 : ((c.toNat : Int) == 95) = true := hg22
  simp only [beq_iff_eq, bne_iff_ne, ne_eq, beq_eq_false_iff_ne, bne_eq_false_iff_eq, Classical.not_not] at hg22
  refine os 4 ?_
  refine kp [2, 3, 0] ?_
  refine nt ?_
  refine SW_ret ?_
  refine body_end (.bool true) (fun _ => rfl) ?_
  exact ⟨(), ow, congrArg Value.bool (by unfold isSm; first | exact (decide_eq_true (by omega)).symm | exact (decide_eq_false (by omega)).symm | exact decide_eq_decide.2 (by omega) | (rw [Bool.eq_iff_iff]; simp; omega))⟩
 replace hg22 : ((c.toNat : Int) == 95) = false := hg22
 simp only [beq_iff_eq, bne_iff_ne, ne_eq, beq_eq_false_iff_ne, bne_eq_false_iff_eq, Classical.not_not] at hg22
 refine os 4 ?_
 refine kp [2, 3, 0] ?_
 refine nt ?_
 refine SW_ret ?_
 refine body_end (.bool ((c.toNat : Int) == 36)) (fun _ => rfl) ?_
 exact ⟨(), ow, congrArg Value.bool (by unfold isSm; first | exact (decide_eq_true (by omega)).symm | exact (decide_eq_false (by omega)).symm | exact decide_eq_decide.2 (by omega) | (rw [Bool.eq_iff_iff]; simp; omega))⟩

theorem r5_Nibble {W0 : World} {c : UInt8} : SC Tryz.prog W0 116 #[.int .u8 (c.toNat : Int)] [] (Ret (fun _ : Unit => []) (fun v _ => v = .int .i64 (nibZ c))) := by
 refine SC_body (fn := Tryz.f116) (n := 33) Tryz.func116 rfl (by kernel_rfl) (ρ := [(0, .int .u8 (c.toNat : Int))]) rfl ?_
 have ho_ := or32 c
 refine sr ?_
 refine os 1 ?_
 refine nq ?_
 refine SW_block ?_
 refine sr ?_
 refine os 3 ?_
 refine tbp 6 (fun hg1 => ?_) (fun hg1 => ?_)
 ·replace hg1 : (c.toNat : Int) ≥ 48 := hg1
  refine os 4 ?_
  refine kp [3, 2, 0] ?_
  refine nt ?_
  refine cdp (fun hc2 : (c.toNat : Int) ≤ 57 => ?_) (fun hc2 => ?_)
  ·refine sr ?_
   refine os 4 ?_
   refine kp [2, 3, 0] ?_
   refine nt ?_
   refine SW_ret (r_in (r_then ?_))
   refine body_end (.int .i64 ((c.toNat : Int) - 48)) (fun _ => rfl) ?_
   exact ⟨(), ow, congrArg (Value.int .i64) (by unfold nibZ isHx nibV; rw [if_pos (decide_eq_true (by omega))]; split <;> (try split at ho_) <;> omega)⟩
  refine sr ?_
  refine os 3 ?_
  refine tbp 16 (fun hg3 => ?_) (fun hg3 => ?_)
  ·replace hg3 : (c.toNat : Int) ≥ 97 := hg3
   refine os 4 ?_
   refine kp [13, 3, 2, 0] ?_
   refine nt ?_
   refine cdp (fun hc4 : (c.toNat : Int) ≤ 102 => ?_) (fun hc4 => ?_)
   ·refine sr ?_
    refine os 4 ?_
    refine kp [2, 13, 3, 0] ?_
    refine nt ?_
    refine SW_ret (r_in (r_then ?_))
    refine body_end (.int .i64 ((c.toNat : Int) - 87)) (fun _ => rfl) ?_
    exact ⟨(), ow, congrArg (Value.int .i64) (by unfold nibZ isHx nibV; rw [if_pos (decide_eq_true (by omega))]; split <;> (try split at ho_) <;> omega)⟩
   refine sr ?_
   refine os 3 ?_
   refine tbp 26 (fun hg5 => ?_) (fun hg5 => ?_)
   ·replace hg5 : (c.toNat : Int) ≥ 65 := hg5
    refine os 4 ?_
    refine kp [23, 13, 3, 2, 0] ?_
    refine nt ?_
    refine cdp (fun hc6 : (c.toNat : Int) ≤ 70 => ?_) (fun hc6 => ?_)
    ·refine sr ?_
     refine os 4 ?_
     refine kp [2, 23, 13, 3, 0] ?_
     refine nt ?_
     refine SW_ret (r_in (r_then ?_))
     refine body_end (.int .i64 ((c.toNat : Int) - 55)) (fun _ => rfl) ?_
     exact ⟨(), ow, congrArg (Value.int .i64) (by unfold nibZ isHx nibV; rw [if_pos (decide_eq_true (by omega))]; split <;> (try split at ho_) <;> omega)⟩
    refine SW_skip (n_in (n_then ?_))
    refine sr ?_
    refine os 1 ?_
    refine nt ?_
    refine SW_ret ?_
    refine body_end (.int .i64 (-1)) (fun _ => rfl) ?_
    exact ⟨(), ow, congrArg (Value.int .i64) (by unfold nibZ isHx nibV; rw [if_neg (by rw [decide_eq_false (by omega)]; decide)])⟩
   replace hg5 : ¬ ((c.toNat : Int) ≥ 65) := hg5
   refine os 4 ?_
   refine kp [23, 13, 3, 2, 0] ?_
   refine nt ?_
   refine cf ?_
   refine SW_skip (n_in (n_then ?_))
   refine sr ?_
   refine os 1 ?_
   refine nt ?_
   refine SW_ret ?_
   refine body_end (.int .i64 (-1)) (fun _ => rfl) ?_
   exact ⟨(), ow, congrArg (Value.int .i64) (by unfold nibZ isHx nibV; rw [if_neg (by rw [decide_eq_false (by omega)]; decide)])⟩
  replace hg3 : ¬ ((c.toNat : Int) ≥ 97) := hg3
  refine os 4 ?_
  refine kp [13, 3, 2, 0] ?_
  refine nt ?_
  refine cf ?_
  refine sr ?_
  refine os 3 ?_
  refine tbp 26 (fun hg7 => ?_) (fun hg7 => ?_)
  ·replace hg7 : (c.toNat : Int) ≥ 65 := hg7
   refine os 4 ?_
   refine kp [23, 13, 3, 2, 0] ?_
   refine nt ?_
   refine cdp (fun hc8 : (c.toNat : Int) ≤ 70 => ?_) (fun hc8 => ?_)
   ·refine sr ?_
    refine os 4 ?_
    refine kp [2, 23, 13, 3, 0] ?_
    refine nt ?_
    refine SW_ret (r_in (r_then ?_))
    refine body_end (.int .i64 ((c.toNat : Int) - 55)) (fun _ => rfl) ?_
    exact ⟨(), ow, congrArg (Value.int .i64) (by unfold nibZ isHx nibV; rw [if_pos (decide_eq_true (by omega))]; split <;> (try split at ho_) <;> omega)⟩
   refine SW_skip (n_in (n_then ?_))
   refine sr ?_
   refine os 1 ?_
   refine nt ?_
   refine SW_ret ?_
   refine body_end (.int .i64 (-1)) (fun _ => rfl) ?_
   exact ⟨(), ow, congrArg (Value.int .i64) (by unfold nibZ isHx nibV; rw [if_neg (by rw [decide_eq_false (by omega)]; decide)])⟩
  replace hg7 : ¬ ((c.toNat : Int) ≥ 65) := hg7
  refine os 4 ?_
  refine kp [23, 13, 3, 2, 0] ?_
  refine nt ?_
  refine cf ?_
  refine SW_skip (n_in (n_then ?_))
  refine sr ?_
  refine os 1 ?_
  refine nt ?_
  refine SW_ret ?_
  refine body_end (.int .i64 (-1)) (fun _ => rfl) ?_
  exact ⟨(), ow, congrArg (Value.int .i64) (by unfold nibZ isHx nibV; rw [if_neg (by rw [decide_eq_false (by omega)]; decide)])⟩
 replace hg1 : ¬ ((c.toNat : Int) ≥ 48) := hg1
 refine os 4 ?_
 refine kp [3, 2, 0] ?_
 refine nt ?_
 refine cf ?_
 refine sr ?_
 refine os 3 ?_
 refine tbp 16 (fun hg9 => ?_) (fun hg9 => ?_)
 ·replace hg9 : (c.toNat : Int) ≥ 97 := hg9
  refine os 4 ?_
  refine kp [13, 3, 2, 0] ?_
  refine nt ?_
  refine cdp (fun hc10 : (c.toNat : Int) ≤ 102 => ?_) (fun hc10 => ?_)
  ·refine sr ?_
   refine os 4 ?_
   refine kp [2, 13, 3, 0] ?_
   refine nt ?_
   refine SW_ret (r_in (r_then ?_))
   refine body_end (.int .i64 ((c.toNat : Int) - 87)) (fun _ => rfl) ?_
   exact ⟨(), ow, congrArg (Value.int .i64) (by unfold nibZ isHx nibV; rw [if_pos (decide_eq_true (by omega))]; split <;> (try split at ho_) <;> omega)⟩
  refine sr ?_
  refine os 3 ?_
  refine tbp 26 (fun hg11 => ?_) (fun hg11 => ?_)
  ·replace hg11 : (c.toNat : Int) ≥ 65 := hg11
   refine os 4 ?_
   refine kp [23, 13, 3, 2, 0] ?_
   refine nt ?_
   refine cdp (fun hc12 : (c.toNat : Int) ≤ 70 => ?_) (fun hc12 => ?_)
   ·refine sr ?_
    refine os 4 ?_
    refine kp [2, 23, 13, 3, 0] ?_
    refine nt ?_
    refine SW_ret (r_in (r_then ?_))
    refine body_end (.int .i64 ((c.toNat : Int) - 55)) (fun _ => rfl) ?_
    exact ⟨(), ow, congrArg (Value.int .i64) (by unfold nibZ isHx nibV; rw [if_pos (decide_eq_true (by omega))]; split <;> (try split at ho_) <;> omega)⟩
   refine SW_skip (n_in (n_then ?_))
   refine sr ?_
   refine os 1 ?_
   refine nt ?_
   refine SW_ret ?_
   refine body_end (.int .i64 (-1)) (fun _ => rfl) ?_
   exact ⟨(), ow, congrArg (Value.int .i64) (by unfold nibZ isHx nibV; rw [if_neg (by rw [decide_eq_false (by omega)]; decide)])⟩
  replace hg11 : ¬ ((c.toNat : Int) ≥ 65) := hg11
  refine os 4 ?_
  refine kp [23, 13, 3, 2, 0] ?_
  refine nt ?_
  refine cf ?_
  refine SW_skip (n_in (n_then ?_))
  refine sr ?_
  refine os 1 ?_
  refine nt ?_
  refine SW_ret ?_
  refine body_end (.int .i64 (-1)) (fun _ => rfl) ?_
  exact ⟨(), ow, congrArg (Value.int .i64) (by unfold nibZ isHx nibV; rw [if_neg (by rw [decide_eq_false (by omega)]; decide)])⟩
 replace hg9 : ¬ ((c.toNat : Int) ≥ 97) := hg9
 refine os 4 ?_
 refine kp [13, 3, 2, 0] ?_
 refine nt ?_
 refine cf ?_
 refine sr ?_
 refine os 3 ?_
 refine tbp 26 (fun hg13 => ?_) (fun hg13 => ?_)
 ·replace hg13 : (c.toNat : Int) ≥ 65 := hg13
  refine os 4 ?_
  refine kp [23, 13, 3, 2, 0] ?_
  refine nt ?_
  refine cdp (fun hc14 : (c.toNat : Int) ≤ 70 => ?_) (fun hc14 => ?_)
  ·refine sr ?_
   refine os 4 ?_
   refine kp [2, 23, 13, 3, 0] ?_
   refine nt ?_
   refine SW_ret (r_in (r_then ?_))
   refine body_end (.int .i64 ((c.toNat : Int) - 55)) (fun _ => rfl) ?_
   exact ⟨(), ow, congrArg (Value.int .i64) (by unfold nibZ isHx nibV; rw [if_pos (decide_eq_true (by omega))]; split <;> (try split at ho_) <;> omega)⟩
  refine SW_skip (n_in (n_then ?_))
  refine sr ?_
  refine os 1 ?_
  refine nt ?_
  refine SW_ret ?_
  refine body_end (.int .i64 (-1)) (fun _ => rfl) ?_
  exact ⟨(), ow, congrArg (Value.int .i64) (by unfold nibZ isHx nibV; rw [if_neg (by rw [decide_eq_false (by omega)]; decide)])⟩
 replace hg13 : ¬ ((c.toNat : Int) ≥ 65) := hg13
 refine os 4 ?_
 refine kp [23, 13, 3, 2, 0] ?_
 refine nt ?_
 refine cf ?_
 refine SW_skip (n_in (n_then ?_))
 refine sr ?_
 refine os 1 ?_
 refine nt ?_
 refine SW_ret ?_
 refine body_end (.int .i64 (-1)) (fun _ => rfl) ?_
 exact ⟨(), ow, congrArg (Value.int .i64) (by unfold nibZ isHx nibV; rw [if_neg (by rw [decide_eq_false (by omega)]; decide)])⟩

theorem r5_At {W0 : World} {X : Bytes} {n : Nat} (hX : X.length ≤ 1048576) : SC Tryz.prog W0 61 #[.string (bS X), .int .i64 (n : Int)] [] (Ret (fun _ : Unit => []) (fun v _ => v = .int .u8 ((atB X n).toNat : Int))) := by
 refine SC_body (fn := Tryz.f61) (n := 12) Tryz.func61 rfl (by kernel_rfl) (ρ := [(0, .string (bS X)), (1, .int .i64 (n : Int))]) rfl ?_
 refine sr ?_
 refine os 1 ?_
 refine nq ?_
 refine sr ?_
 refine os 2 ?_
 refine oX (.int .i64 ((bS X).size : Int)) (.int .i64 (X.length : Int)) (congrArg (fun n_ : Nat => Value.int .i64 (n_ : Int)) (bS_size _)) ?_
 refine os 1 ?_
 refine kp [8, 4, 0, 1] ?_
 refine nt ?_
 refine cdp (fun hc1 : (n : Int) < (X.length : Int) => ?_) (fun hc1 => ?_)
 ·refine sr ?_
  refine os 2 ?_
  obtain ⟨e1, he1⟩ : ∃ y_, X[n]? = some y_ := ⟨_, List.getElem?_eq_getElem (by omega)⟩
  refine ixb (n : Int) X .i64 e1 Tryz.underlying9 he1 ?_
  refine os 1 ?_
  refine kp [4, 8, 0, 1] ?_
  refine nt ?_
  refine SW_ret (r_then ?_)
  refine body_end (.int .u8 (e1.toNat : Int)) (fun _ => rfl) ?_
  exact ⟨(), ow, by rw [atB_some he1]⟩
 refine SW_skip (n_then ?_)
 refine sr ?_
 refine os 1 ?_
 refine nt ?_
 refine SW_ret ?_
 refine body_end (.int .u8 0) (fun _ => rfl) ?_
 exact ⟨(), ow, by rw [atB_none (by omega)]; rfl⟩

theorem r5_AtZ {W0 : World} {X : Bytes} {n : Nat} {z : Int} (hz : z = (n : Int)) (hX : X.length ≤ 1048576) : SC Tryz.prog W0 61 #[.string (bS X), .int .i64 z] [] (Ret (fun _ : Unit => []) (fun v _ => v = .int .u8 ((atB X n).toNat : Int))) := by
 subst hz; exact r5_At hX

theorem is42 {c : UInt8} (h : (c.toNat : Int) = 42) : c = 42 := (u8_eq (n := 42) (by decide)).1 h
theorem is47 {c : UInt8} (h : (c.toNat : Int) = 47) : c = 47 := (u8_eq (n := 47) (by decide)).1 h

theorem r5_Blanks {W0 : World} {X : Bytes} (hX : X.length ≤ 1048576) : SC Tryz.prog W0 29 #[.string (bS X)] [] (Ret (fun _ : Unit => []) (fun v _ => v = .tuple #[.int .i64 ((blP X 0).1 : Int), .bool (blP X 0).2])) := by
 refine SC_body (fn := Tryz.f29) (n := 97) Tryz.func29 rfl (by kernel_rfl) (ρ := [(0, .string (bS X))]) rfl ?_
 refine sr ?_
 refine os 2 ?_
 refine nsr ?_
 refine os 1 ?_
 refine nq ?_
 refine SW_block ?_
 refine SW_loop (α := Nat × Nat) (fun z_ ρ_ σ_ => Fits ρ_ σ_ [(0, .string (bS X)), (4, .int .i64 (z_.2 : Int))] ([]) ∧ z_.2 ≤ X.length ∧ X.length - z_.2 < z_.1 ∧ blE z_.1 X z_.2 = blP X 0) (fun z_ => X.length - z_.2) ((X.length + 1), 0) ⟨⟨fun _ => rfl, ow⟩, Nat.zero_le _, (show X.length - 0 < X.length + 1 by omega), rfl⟩ ?_
 rintro ⟨f, n⟩ ρ_ σ_ ⟨hfit, hi0, hi1, hi2⟩
 refine SW_fits hfit ?_
 clear hfit
 simp only [] at hi0 hi1 hi2 ⊢
 obtain ⟨f, rfl⟩ : ∃ q_, f = q_ + 1 := ⟨f - 1, by omega⟩
 refine SW_seq ?_
 refine sr ?_
 refine os 2 ?_
 refine oX (.int .i64 ((bS X).size : Int)) (.int .i64 (X.length : Int)) (congrArg (fun n_ : Nat => Value.int .i64 (n_ : Int)) (bS_size _)) ?_
 refine os 1 ?_
 refine kp [9, 0, 4] ?_
 refine nt ?_
 refine cdp (fun hc1 : (n : Int) < (X.length : Int) => ?_) (fun hc1 => ?_)
 ·refine SW_skip (n_then ?_)
  refine SW_block ?_
  refine SW_block ?_
  refine sr ?_
  refine os 2 ?_
  obtain ⟨e1, he1⟩ : ∃ y_, X[n]? = some y_ := ⟨_, List.getElem?_eq_getElem (by omega)⟩
  refine ixb (n : Int) X .i64 e1 Tryz.underlying9 he1 ?_
  refine os 2 ?_
  refine tb 16 (fun hg2 => ?_) (fun hg2 => ?_)
  ·replace hg2 : ((e1.toNat : Int) == 9) = true := hg2
   simp only [beq_iff_eq, bne_iff_ne, ne_eq, beq_eq_false_iff_ne, bne_eq_false_iff_eq, Classical.not_not] at hg2
   refine os 12 ?_
   refine kp [11, 9, 0, 4] ?_
   refine nt ?_
   refine ct ?_
   refine SW_region ?_
   refine os 3 ?_
   refine SL_nil (n_in (n_in (n_then ?_)))
   have hn_ := atB_some he1
   rw [blE_sp (by omega) (by rw [hn_]; omega)] at hi2
   rw [show (n : Int) + 1 = (((n + 1) : Nat) : Int) from by omega]
   exact ⟨(f, (n + 1)), by simp only []; omega, ⟨fun _ => rfl, ow⟩, by simp only []; omega, by simp only []; omega, hi2⟩
  replace hg2 : ((e1.toNat : Int) == 9) = false := hg2
  simp only [beq_iff_eq, bne_iff_ne, ne_eq, beq_eq_false_iff_ne, bne_eq_false_iff_eq, Classical.not_not] at hg2
  refine os 2 ?_
  refine ixb (n : Int) X .i64 e1 Tryz.underlying9 he1 ?_
  refine os 3 ?_
  refine kp [22, 9, 0, 4] ?_
  refine tb 22 (fun hg3 => ?_) (fun hg3 => ?_)
  ·replace hg3 : ((e1.toNat : Int) == 10) = true := hg3
   simp only [beq_iff_eq, bne_iff_ne, ne_eq, beq_eq_false_iff_ne, bne_eq_false_iff_eq, Classical.not_not] at hg3
   refine os 6 ?_
   refine kp [11, 9, 0, 4] ?_
   refine nt ?_
   refine ct ?_
   refine SW_region ?_
   refine os 3 ?_
   refine SL_nil (n_in (n_in (n_then ?_)))
   have hn_ := atB_some he1
   rw [blE_sp (by omega) (by rw [hn_]; omega)] at hi2
   rw [show (n : Int) + 1 = (((n + 1) : Nat) : Int) from by omega]
   exact ⟨(f, (n + 1)), by simp only []; omega, ⟨fun _ => rfl, ow⟩, by simp only []; omega, by simp only []; omega, hi2⟩
  replace hg3 : ((e1.toNat : Int) == 10) = false := hg3
  simp only [beq_iff_eq, bne_iff_ne, ne_eq, beq_eq_false_iff_ne, bne_eq_false_iff_eq, Classical.not_not] at hg3
  refine os 2 ?_
  refine ixb (n : Int) X .i64 e1 Tryz.underlying9 he1 ?_
  refine os 3 ?_
  refine kp [11, 9, 0, 4] ?_
  refine nt ?_
  refine cd (fun hc4 : ((e1.toNat : Int) == 32) = true => ?_) (fun hc4 => ?_)
  ·simp only [beq_iff_eq, bne_iff_ne, ne_eq, beq_eq_false_iff_ne, bne_eq_false_iff_eq, Classical.not_not] at hc4
   refine SW_region ?_
   refine os 3 ?_
   refine SL_nil (n_in (n_in (n_then ?_)))
   have hn_ := atB_some he1
   rw [blE_sp (by omega) (by rw [hn_]; omega)] at hi2
   rw [show (n : Int) + 1 = (((n + 1) : Nat) : Int) from by omega]
   exact ⟨(f, (n + 1)), by simp only []; omega, ⟨fun _ => rfl, ow⟩, by simp only []; omega, by simp only []; omega, hi2⟩
  simp only [beq_iff_eq, bne_iff_ne, ne_eq, beq_eq_false_iff_ne, bne_eq_false_iff_eq, Classical.not_not] at hc4
  refine sr ?_
  refine os 2 ?_
  refine ixb (n : Int) X .i64 e1 Tryz.underlying9 he1 ?_
  refine os 2 ?_
  refine tb 35 (fun hg5 => ?_) (fun hg5 => ?_)
  ·replace hg5 : ((e1.toNat : Int) == 47) = true := hg5
   simp only [beq_iff_eq, bne_iff_ne, ne_eq, beq_eq_false_iff_ne, bne_eq_false_iff_eq, Classical.not_not] at hg5
   refine os 3 ?_
   refine L (cl (r5_AtZ (X := X) (n := (n + 1)) (z := (n : Int) + 1) (by omega) (by omega)) ?_)
   rintro _ _ rfl
   refine un ?_
   refine os 3 ?_
   refine kp [30, 11, 9, 0, 4] ?_
   refine nt ?_
   refine cd (fun hc6 : (((atB X (n + 1)).toNat : Int) == 47) = true => ?_) (fun hc6 => ?_)
   ·simp only [beq_iff_eq, bne_iff_ne, ne_eq, beq_eq_false_iff_ne, bne_eq_false_iff_eq, Classical.not_not] at hc6
    refine SW_block ?_
    refine SW_loop (α := Nat) (fun z_ ρ_ σ_ => Fits ρ_ σ_ [(0, .string (bS X)), (4, .int .i64 (z_ : Int))] ([]) ∧ z_ ≤ X.length ∧ runL notNl X z_ = runL notNl X n) (fun z_ => X.length - z_) n ⟨⟨fun _ => rfl, ow⟩, hi0, rfl⟩ ?_
    rintro i ρ_ σ_ ⟨hfit, hj0, hj1⟩
    refine SW_fits hfit ?_
    clear hfit
    refine SW_seq ?_
    refine sr ?_
    refine os 2 ?_
    refine oX (.int .i64 ((bS X).size : Int)) (.int .i64 (X.length : Int)) (congrArg (fun n_ : Nat => Value.int .i64 (n_ : Int)) (bS_size _)) ?_
    refine os 2 ?_
    refine tbp 46 (fun hg7 => ?_) (fun hg7 => ?_)
    ·replace hg7 : (i : Int) < (X.length : Int) := hg7
     refine os 2 ?_
     obtain ⟨e2, he2⟩ : ∃ y_, X[i]? = some y_ := ⟨_, List.getElem?_eq_getElem (by omega)⟩
     refine ixb (i : Int) X .i64 e2 Tryz.underlying9 he2 ?_
     refine os 2 ?_
     refine kp [51, 0, 4] ?_
     refine nt ?_
     refine cd (fun hc8 : ((e2.toNat : Int) != 10) = true => ?_) (fun hc8 => ?_)
     ·simp only [beq_iff_eq, bne_iff_ne, ne_eq, beq_eq_false_iff_ne, bne_eq_false_iff_eq, Classical.not_not] at hc8
      refine SW_skip (n_then ?_)
      refine SW_block ?_
      refine SW_region ?_
      refine os 3 ?_
      refine SL_nil (n_in (n_then ?_))
      rw [show (i : Int) + 1 = ((i + 1 : Nat) : Int) from by omega]
      exact ⟨i + 1, by omega, ⟨fun _ => rfl, ow⟩, by omega, (runL_step he2 (by unfold notNl; exact decide_eq_true (by omega))).symm.trans hj1⟩
     simp only [beq_iff_eq, bne_iff_ne, ne_eq, beq_eq_false_iff_ne, bne_eq_false_iff_eq, Classical.not_not] at hc8
     refine SW_exit (x_then (x_then (x_in (n_in (n_in (n_then ?_))))))
     have hn_ := atB_some he1
     have hre_ : i = runL notNl X n := by rw [← hj1]; exact (runL_stop he2 (by unfold notNl; exact decide_eq_false (by omega))).symm
     have hlg_ := line_gt (X := X) (a := n) (by omega) (by rw [hn_]; omega)
     rw [blE_line (by omega) (by rw [hn_]; omega) (by omega), ← hre_] at hi2
     rw [← hre_] at hlg_
     exact ⟨(f, i), by simp only []; omega, ⟨fun _ => rfl, ow⟩, by simp only []; omega, by simp only []; omega, hi2⟩
    replace hg7 : ¬ ((i : Int) < (X.length : Int)) := hg7
    refine os 5 ?_
    refine kp [51, 0, 4] ?_
    refine nt ?_
    refine cf ?_
    refine SW_exit (x_then (x_then (x_in (n_in (n_in (n_then ?_))))))
    have hn_ := atB_some he1
    have hre_ : i = runL notNl X n := by rw [← hj1]; exact (runL_end (by omega)).symm
    have hlg_ := line_gt (X := X) (a := n) (by omega) (by rw [hn_]; omega)
    rw [blE_line (by omega) (by rw [hn_]; omega) (by omega), ← hre_] at hi2
    rw [← hre_] at hlg_
    exact ⟨(f, i), by simp only []; omega, ⟨fun _ => rfl, ow⟩, by simp only []; omega, by simp only []; omega, hi2⟩
   simp only [beq_iff_eq, bne_iff_ne, ne_eq, beq_eq_false_iff_ne, bne_eq_false_iff_eq, Classical.not_not] at hc6
   refine sr ?_
   refine os 2 ?_
   refine ixb (n : Int) X .i64 e1 Tryz.underlying9 he1 ?_
   refine os 2 ?_
   refine tb 59 (fun hg9 => ?_) (fun hg9 => ?_)
   ·replace hg9 : ((e1.toNat : Int) == 47) = true := hg9
    simp only [beq_iff_eq, bne_iff_ne, ne_eq, beq_eq_false_iff_ne, bne_eq_false_iff_eq, Classical.not_not] at hg9
    refine os 3 ?_
    refine L (cl (r5_AtZ (X := X) (n := (n + 1)) (z := (n : Int) + 1) (by omega) (by omega)) ?_)
    rintro _ _ rfl
    refine un ?_
    refine os 3 ?_
    refine kp [54, 30, 11, 9, 0, 4] ?_
    refine nt ?_
    refine cd (fun hc10 : (((atB X (n + 1)).toNat : Int) == 42) = true => ?_) (fun hc10 => ?_)
    ·simp only [beq_iff_eq, bne_iff_ne, ne_eq, beq_eq_false_iff_ne, bne_eq_false_iff_eq, Classical.not_not] at hc10
     have h2_ : n + 1 < X.length := atB_lt (by omega)
     refine sr ?_
     refine os 3 ?_
     refine nq ?_
     refine SW_block ?_
     rw [show (n : Int) + 2 = ((n + 2 : Nat) : Int) from by omega]
     refine SW_loop (α := Nat) (fun z_ ρ_ σ_ => Fits ρ_ σ_ [(0, .string (bS X)), (4, .int .i64 (n : Int)), (5, .int .i64 (z_ : Int))] ([]) ∧ (n + 2 ≤ z_ ∧ z_ ≤ X.length) ∧ Lib.index (X.drop (n + 2)) [42, 47] = shI (z_ - (n + 2)) (Lib.index (X.drop z_) [42, 47])) (fun z_ => X.length - z_) (n + 2) ⟨⟨fun _ => rfl, ow⟩, ⟨Nat.le_refl _, by omega⟩, by rw [Nat.sub_self]; unfold shI; split <;> omega⟩ ?_
     rintro k ρ_ σ_ ⟨hfit, hj0, hj1⟩
     refine SW_fits hfit ?_
     clear hfit
     refine SW_seq ?_
     refine sr ?_
     refine os 3 ?_
     refine oX (.int .i64 ((bS X).size : Int)) (.int .i64 (X.length : Int)) (congrArg (fun n_ : Nat => Value.int .i64 (n_ : Int)) (bS_size _)) ?_
     refine os 2 ?_
     refine tbp 73 (fun hg11 => ?_) (fun hg11 => ?_)
     ·replace hg11 : ((k : Int) + 1) < (X.length : Int) := hg11
      refine os 2 ?_
      obtain ⟨e3, he3⟩ : ∃ y_, X[k]? = some y_ := ⟨_, List.getElem?_eq_getElem (by omega)⟩
      refine ixb (k : Int) X .i64 e3 Tryz.underlying9 he3 ?_
      refine os 2 ?_
      refine kp [78, 73, 0, 4, 5] ?_
      refine tb 78 (fun hg12 => ?_) (fun hg12 => ?_)
      ·replace hg12 : ((e3.toNat : Int) != 42) = true := hg12
       simp only [beq_iff_eq, bne_iff_ne, ne_eq, beq_eq_false_iff_ne, bne_eq_false_iff_eq, Classical.not_not] at hg12
       refine os 7 ?_
       refine kp [85, 0, 4, 5] ?_
       refine nt ?_
       refine ct ?_
       refine SW_skip (n_then ?_)
       refine SW_block ?_
       refine SW_region ?_
       refine os 3 ?_
       refine SL_nil (n_in (n_then ?_))
       rw [show (k : Int) + 1 = ((k + 1 : Nat) : Int) from by omega]
       exact ⟨k + 1, by omega, ⟨fun _ => rfl, ow⟩, by omega, idx_step (by omega) he3 (by rintro ⟨q1_, q2_⟩; subst q1_; simp at *) hj1⟩
      replace hg12 : ((e3.toNat : Int) != 42) = false := hg12
      simp only [beq_iff_eq, bne_iff_ne, ne_eq, beq_eq_false_iff_ne, bne_eq_false_iff_eq, Classical.not_not] at hg12
      refine os 3 ?_
      obtain ⟨e4, he4⟩ : ∃ y_, X[(k + 1)]? = some y_ := ⟨_, List.getElem?_eq_getElem (by omega)⟩
      refine ixb ((k : Int) + 1) X .i64 e4 Tryz.underlying9 (by rw [show ((k : Int) + 1).toNat = (k + 1) from by omega]; exact he4) ?_
      refine os 3 ?_
      refine kp [85, 0, 4, 5] ?_
      refine nt ?_
      refine cd (fun hc13 : ((e4.toNat : Int) != 47) = true => ?_) (fun hc13 => ?_)
      ·simp only [beq_iff_eq, bne_iff_ne, ne_eq, beq_eq_false_iff_ne, bne_eq_false_iff_eq, Classical.not_not] at hc13
       refine SW_skip (n_then ?_)
       refine SW_block ?_
       refine SW_region ?_
       refine os 3 ?_
       refine SL_nil (n_in (n_then ?_))
       rw [show (k : Int) + 1 = ((k + 1 : Nat) : Int) from by omega]
       exact ⟨k + 1, by omega, ⟨fun _ => rfl, ow⟩, by omega, idx_step (by omega) he3 (by rintro ⟨q1_, q2_⟩; rw [he4] at q2_; injection q2_ with q2_; subst q2_; simp at *) hj1⟩
      simp only [beq_iff_eq, bne_iff_ne, ne_eq, beq_eq_false_iff_ne, bne_eq_false_iff_eq, Classical.not_not] at hc13
      refine SW_exit (x_then (x_then (x_in (n_then ?_))))
      refine SW_seq ?_
      refine SW_seq ?_
      have hix_ : Lib.index (X.drop (n + 2)) [42, 47] = ((k - (n + 2) : Nat) : Int) := by rw [hj1, idx_hit (by rw [he3, show e3 = 42 from is42 (by omega)]) (by rw [he4, show e4 = 47 from is47 (by omega)])]; unfold shI; rw [if_neg (by decide)]; omega
      refine SW_region ?_
      refine os 3 ?_
      refine oX (.int .i64 ((bS X).size : Int)) (.int .i64 (X.length : Int)) (congrArg (fun n_ : Nat => Value.int .i64 (n_ : Int)) (bS_size _)) ?_
      refine os 1 ?_
      refine kp [92, 85, 0, 4, 5] ?_
      refine nt ?_
      refine SW_false (fun _ => (congrArg Value.bool (show (decide (((k : Int) + 1) ≥ (X.length : Int))) = false from (decide_eq_false (by omega))))) ?_
      refine SW_skip (n_then ?_)
      refine SW_region ?_
      refine os 3 ?_
      refine SL_nil (n_in (n_in (n_then ?_)))
      have hn_ := atB_some he1
      rw [blE_rem (by omega) (by rw [hn_]; omega) (by omega) (by rw [hix_]; omega), hix_, Int.toNat_natCast, show n + (k - (n + 2) + 4) = k + 2 from by omega] at hi2
      rw [show (k : Int) + 2 = (((k + 2) : Nat) : Int) from by omega]
      exact ⟨(f, (k + 2)), by simp only []; omega, ⟨fun _ => rfl, ow⟩, by simp only []; omega, by simp only []; omega, hi2⟩
     replace hg11 : ¬ (((k : Int) + 1) < (X.length : Int)) := hg11
     refine os 12 ?_
     refine kp [85, 0, 4, 5] ?_
     refine nt ?_
     refine cf ?_
     refine SW_exit (x_then (x_then (x_in (n_then ?_))))
     refine SW_seq ?_
     refine SW_seq ?_
     have hix_ : Lib.index (X.drop (n + 2)) [42, 47] = -1 := by rw [hj1, idx_end (by omega)]; rfl
     refine SW_region ?_
     refine os 3 ?_
     refine oX (.int .i64 ((bS X).size : Int)) (.int .i64 (X.length : Int)) (congrArg (fun n_ : Nat => Value.int .i64 (n_ : Int)) (bS_size _)) ?_
     refine os 1 ?_
     refine kp [92, 85, 0, 4, 5] ?_
     refine nt ?_
     refine SW_true (fun _ => (congrArg Value.bool (show (decide (((k : Int) + 1) ≥ (X.length : Int))) = true from (decide_eq_true (by omega))))) ?_
     refine sr ?_
     refine os 3 ?_
     refine nt ?_
     refine SW_ret (r_then (r_in (r_in (r_then (r_in (r_then ?_))))))
     refine body_end (.tuple #[.int .i64 (n : Int), .bool false]) (fun _ => rfl) ?_
     have hn_ := atB_some he1
     have hr_ : blP X 0 = (n, false) := hi2.symm.trans (blE_bad (by omega) (by rw [hn_]; omega) (by omega) (by rw [hix_]; decide))
     rw [hr_]
     exact ⟨(), ow, rfl⟩
    simp only [beq_iff_eq, bne_iff_ne, ne_eq, beq_eq_false_iff_ne, bne_eq_false_iff_eq, Classical.not_not] at hc10
    refine sr ?_
    refine os 3 ?_
    refine nt ?_
    refine SW_ret (r_in (r_in (r_then (r_in (r_then ?_)))))
    refine body_end (.tuple #[.int .i64 (n : Int), .bool true]) (fun _ => rfl) ?_
    have hn_ := atB_some he1
    have hr_ : blP X 0 = (n, true) := hi2.symm.trans (blE_other (by omega) (by rw [hn_]; omega) (by rw [hn_]; omega) (by rw [hn_]; omega))
    rw [hr_]
    exact ⟨(), ow, rfl⟩
   replace hg9 : ((e1.toNat : Int) == 47) = false := hg9
   simp only [beq_iff_eq, bne_iff_ne, ne_eq, beq_eq_false_iff_ne, bne_eq_false_iff_eq, Classical.not_not] at hg9
   refine os 7 ?_
   refine kp [54, 30, 11, 9, 0, 4] ?_
   refine nt ?_
   refine cf ?_
   refine sr ?_
   refine os 3 ?_
   refine nt ?_
   refine SW_ret (r_in (r_in (r_then (r_in (r_then ?_)))))
   refine body_end (.tuple #[.int .i64 (n : Int), .bool true]) (fun _ => rfl) ?_
   have hn_ := atB_some he1
   have hr_ : blP X 0 = (n, true) := hi2.symm.trans (blE_other (by omega) (by rw [hn_]; omega) (by rw [hn_]; omega) (by rw [hn_]; omega))
   rw [hr_]
   exact ⟨(), ow, rfl⟩
  replace hg5 : ((e1.toNat : Int) == 47) = false := hg5
  simp only [beq_iff_eq, bne_iff_ne, ne_eq, beq_eq_false_iff_ne, bne_eq_false_iff_eq, Classical.not_not] at hg5
  refine os 7 ?_
  refine kp [30, 11, 9, 0, 4] ?_
  refine nt ?_
  refine cf ?_
  refine sr ?_
  refine os 2 ?_
  refine ixb (n : Int) X .i64 e1 Tryz.underlying9 he1 ?_
  refine os 2 ?_
  refine tb 59 (fun hg14 => ?_) (fun hg14 => ?_)
  ·replace hg14 : ((e1.toNat : Int) == 47) = true := hg14
   simp only [beq_iff_eq, bne_iff_ne, ne_eq, beq_eq_false_iff_ne, bne_eq_false_iff_eq, Classical.not_not] at hg14
   refine os 3 ?_
   refine L (cl (r5_AtZ (X := X) (n := (n + 1)) (z := (n : Int) + 1) (by omega) (by omega)) ?_)
   rintro _ _ rfl
   refine un ?_
   refine os 3 ?_
   refine kp [54, 30, 11, 9, 0, 4] ?_
   refine nt ?_
   refine cd (fun hc15 : (((atB X (n + 1)).toNat : Int) == 42) = true => ?_) (fun hc15 => ?_)
   ·simp only [beq_iff_eq, bne_iff_ne, ne_eq, beq_eq_false_iff_ne, bne_eq_false_iff_eq, Classical.not_not] at hc15
    have h2_ : n + 1 < X.length := atB_lt (by omega)
    refine sr ?_
    refine os 3 ?_
    refine nq ?_
    refine SW_block ?_
    rw [show (n : Int) + 2 = ((n + 2 : Nat) : Int) from by omega]
    refine SW_loop (α := Nat) (fun z_ ρ_ σ_ => Fits ρ_ σ_ [(0, .string (bS X)), (4, .int .i64 (n : Int)), (5, .int .i64 (z_ : Int))] ([]) ∧ (n + 2 ≤ z_ ∧ z_ ≤ X.length) ∧ Lib.index (X.drop (n + 2)) [42, 47] = shI (z_ - (n + 2)) (Lib.index (X.drop z_) [42, 47])) (fun z_ => X.length - z_) (n + 2) ⟨⟨fun _ => rfl, ow⟩, ⟨Nat.le_refl _, by omega⟩, by rw [Nat.sub_self]; unfold shI; split <;> omega⟩ ?_
    rintro k ρ_ σ_ ⟨hfit, hj0, hj1⟩
    refine SW_fits hfit ?_
    clear hfit
    refine SW_seq ?_
    refine sr ?_
    refine os 3 ?_
    refine oX (.int .i64 ((bS X).size : Int)) (.int .i64 (X.length : Int)) (congrArg (fun n_ : Nat => Value.int .i64 (n_ : Int)) (bS_size _)) ?_
    refine os 2 ?_
    refine tbp 73 (fun hg16 => ?_) (fun hg16 => ?_)
    ·replace hg16 : ((k : Int) + 1) < (X.length : Int) := hg16
     refine os 2 ?_
     obtain ⟨e5, he5⟩ : ∃ y_, X[k]? = some y_ := ⟨_, List.getElem?_eq_getElem (by omega)⟩
     refine ixb (k : Int) X .i64 e5 Tryz.underlying9 he5 ?_
     refine os 2 ?_
     refine kp [78, 73, 0, 4, 5] ?_
     refine tb 78 (fun hg17 => ?_) (fun hg17 => ?_)
     ·replace hg17 : ((e5.toNat : Int) != 42) = true := hg17
      simp only [beq_iff_eq, bne_iff_ne, ne_eq, beq_eq_false_iff_ne, bne_eq_false_iff_eq, Classical.not_not] at hg17
      refine os 7 ?_
      refine kp [85, 0, 4, 5] ?_
      refine nt ?_
      refine ct ?_
      refine SW_skip (n_then ?_)
      refine SW_block ?_
      refine SW_region ?_
      refine os 3 ?_
      refine SL_nil (n_in (n_then ?_))
      rw [show (k : Int) + 1 = ((k + 1 : Nat) : Int) from by omega]
      exact ⟨k + 1, by omega, ⟨fun _ => rfl, ow⟩, by omega, idx_step (by omega) he5 (by rintro ⟨q1_, q2_⟩; subst q1_; simp at *) hj1⟩
     replace hg17 : ((e5.toNat : Int) != 42) = false := hg17
     simp only [beq_iff_eq, bne_iff_ne, ne_eq, beq_eq_false_iff_ne, bne_eq_false_iff_eq, Classical.not_not] at hg17
     refine os 3 ?_
     obtain ⟨e6, he6⟩ : ∃ y_, X[(k + 1)]? = some y_ := ⟨_, List.getElem?_eq_getElem (by omega)⟩
     refine ixb ((k : Int) + 1) X .i64 e6 Tryz.underlying9 (by rw [show ((k : Int) + 1).toNat = (k + 1) from by omega]; exact he6) ?_
     refine os 3 ?_
     refine kp [85, 0, 4, 5] ?_
     refine nt ?_
     refine cd (fun hc18 : ((e6.toNat : Int) != 47) = true => ?_) (fun hc18 => ?_)
     ·simp only [beq_iff_eq, bne_iff_ne, ne_eq, beq_eq_false_iff_ne, bne_eq_false_iff_eq, Classical.not_not] at hc18
      refine SW_skip (n_then ?_)
      refine SW_block ?_
      refine SW_region ?_
      refine os 3 ?_
      refine SL_nil (n_in (n_then ?_))
      rw [show (k : Int) + 1 = ((k + 1 : Nat) : Int) from by omega]
      exact ⟨k + 1, by omega, ⟨fun _ => rfl, ow⟩, by omega, idx_step (by omega) he5 (by rintro ⟨q1_, q2_⟩; rw [he6] at q2_; injection q2_ with q2_; subst q2_; simp at *) hj1⟩
     simp only [beq_iff_eq, bne_iff_ne, ne_eq, beq_eq_false_iff_ne, bne_eq_false_iff_eq, Classical.not_not] at hc18
     refine SW_exit (x_then (x_then (x_in (n_then ?_))))
     refine SW_seq ?_
     refine SW_seq ?_
     have hix_ : Lib.index (X.drop (n + 2)) [42, 47] = ((k - (n + 2) : Nat) : Int) := by rw [hj1, idx_hit (by rw [he5, show e5 = 42 from is42 (by omega)]) (by rw [he6, show e6 = 47 from is47 (by omega)])]; unfold shI; rw [if_neg (by decide)]; omega
     refine SW_region ?_
     refine os 3 ?_
     refine oX (.int .i64 ((bS X).size : Int)) (.int .i64 (X.length : Int)) (congrArg (fun n_ : Nat => Value.int .i64 (n_ : Int)) (bS_size _)) ?_
     refine os 1 ?_
     refine kp [92, 85, 0, 4, 5] ?_
     refine nt ?_
     refine SW_false (fun _ => (congrArg Value.bool (show (decide (((k : Int) + 1) ≥ (X.length : Int))) = false from (decide_eq_false (by omega))))) ?_
     refine SW_skip (n_then ?_)
     refine SW_region ?_
     refine os 3 ?_
     refine SL_nil (n_in (n_in (n_then ?_)))
     have hn_ := atB_some he1
     rw [blE_rem (by omega) (by rw [hn_]; omega) (by omega) (by rw [hix_]; omega), hix_, Int.toNat_natCast, show n + (k - (n + 2) + 4) = k + 2 from by omega] at hi2
     rw [show (k : Int) + 2 = (((k + 2) : Nat) : Int) from by omega]
     exact ⟨(f, (k + 2)), by simp only []; omega, ⟨fun _ => rfl, ow⟩, by simp only []; omega, by simp only []; omega, hi2⟩
    replace hg16 : ¬ (((k : Int) + 1) < (X.length : Int)) := hg16
    refine os 12 ?_
    refine kp [85, 0, 4, 5] ?_
    refine nt ?_
    refine cf ?_
    refine SW_exit (x_then (x_then (x_in (n_then ?_))))
    refine SW_seq ?_
    refine SW_seq ?_
    have hix_ : Lib.index (X.drop (n + 2)) [42, 47] = -1 := by rw [hj1, idx_end (by omega)]; rfl
    refine SW_region ?_
    refine os 3 ?_
    refine oX (.int .i64 ((bS X).size : Int)) (.int .i64 (X.length : Int)) (congrArg (fun n_ : Nat => Value.int .i64 (n_ : Int)) (bS_size _)) ?_
    refine os 1 ?_
    refine kp [92, 85, 0, 4, 5] ?_
    refine nt ?_
    refine SW_true (fun _ => (congrArg Value.bool (show (decide (((k : Int) + 1) ≥ (X.length : Int))) = true from (decide_eq_true (by omega))))) ?_
    refine sr ?_
    refine os 3 ?_
    refine nt ?_
    refine SW_ret (r_then (r_in (r_in (r_then (r_in (r_then ?_))))))
    refine body_end (.tuple #[.int .i64 (n : Int), .bool false]) (fun _ => rfl) ?_
    have hn_ := atB_some he1
    have hr_ : blP X 0 = (n, false) := hi2.symm.trans (blE_bad (by omega) (by rw [hn_]; omega) (by omega) (by rw [hix_]; decide))
    rw [hr_]
    exact ⟨(), ow, rfl⟩
   simp only [beq_iff_eq, bne_iff_ne, ne_eq, beq_eq_false_iff_ne, bne_eq_false_iff_eq, Classical.not_not] at hc15
   refine sr ?_
   refine os 3 ?_
   refine nt ?_
   refine SW_ret (r_in (r_in (r_then (r_in (r_then ?_)))))
   refine body_end (.tuple #[.int .i64 (n : Int), .bool true]) (fun _ => rfl) ?_
   have hn_ := atB_some he1
   have hr_ : blP X 0 = (n, true) := hi2.symm.trans (blE_other (by omega) (by rw [hn_]; omega) (by rw [hn_]; omega) (by rw [hn_]; omega))
   rw [hr_]
   exact ⟨(), ow, rfl⟩
  replace hg14 : ((e1.toNat : Int) == 47) = false := hg14
  simp only [beq_iff_eq, bne_iff_ne, ne_eq, beq_eq_false_iff_ne, bne_eq_false_iff_eq, Classical.not_not] at hg14
  refine os 7 ?_
  refine kp [54, 30, 11, 9, 0, 4] ?_
  refine nt ?_
  refine cf ?_
  refine sr ?_
  refine os 3 ?_
  refine nt ?_
  refine SW_ret (r_in (r_in (r_then (r_in (r_then ?_)))))
  refine body_end (.tuple #[.int .i64 (n : Int), .bool true]) (fun _ => rfl) ?_
  have hn_ := atB_some he1
  have hr_ : blP X 0 = (n, true) := hi2.symm.trans (blE_other (by omega) (by rw [hn_]; omega) (by rw [hn_]; omega) (by rw [hn_]; omega))
  rw [hr_]
  exact ⟨(), ow, rfl⟩
 refine SW_exit (x_then (x_then (x_in (n_then ?_))))
 refine sr ?_
 refine os 3 ?_
 refine nt ?_
 refine SW_ret ?_
 refine body_end (.tuple #[.int .i64 (n : Int), .bool true]) (fun _ => rfl) ?_
 have hr_ : blP X 0 = (n, true) := hi2.symm.trans (blE_end (by omega))
 rw [hr_]
 exact ⟨(), ow, rfl⟩

end Go.Proofs.YtnhmmjogfkjceaaGreatDoor
