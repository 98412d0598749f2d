/-
  What the functions of numbers as texts do, step by step: each theorem is one function's contract. Conditions: those that each theorem names.
-/
import Derived.Test.YtnhmmjogfkjceaaGreatDoorProg
import Derived.Test.YtnhmmjogfkjceaaGreatDoorM2
import Derived.Test.YtnhmmjogfkjceaaGreatDoorM1
set_option linter.unusedVariables false
set_option linter.unusedSimpArgs false
set_option maxRecDepth 100000
set_option maxHeartbeats 4000000
namespace Go.Proofs.YtnhmmjogfkjceaaGreatDoor
open Go.Sl

theorem num_signed {W0 : World} {x : Int} : SC Tryz.prog W0 163 #[.bool false, .int .u64 x] [] (Ret (fun _ : Unit => []) (fun v _ => v = .int .u64 x)) := by
 refine SC_body (fn := Tryz.f163) (n := 9) Tryz.func163 rfl (by kernel_rfl) (ρ := [(0, .bool false), (1, .int .u64 x)]) rfl ?_
 refine sr ?_
 refine os 1 ?_
 refine nq ?_
 refine sr ?_
 refine os 1 ?_
 refine nt ?_
 refine cf ?_
 refine SW_skip (n_then ?_)
 refine sr ?_
 refine os 2 ?_
 refine nt ?_
 refine SW_ret ?_
 refine body_end (.int .u64 x) (fun _ => rfl) ?_
 exact ⟨(), ow, rfl⟩

theorem num_lead {W0 : World} {m e : Int} (he : -10000 ≤ e ∧ e ≤ 10000) : SC Tryz.prog W0 162 #[.agg #[.bool false, .int .u64 m, .int .i64 e]] [] (Ret (fun _ : Unit => []) (fun v _ => v = .int .i64 (e + 63))) := by
 refine SC_body (fn := Tryz.f162) (n := 6) Tryz.func162 rfl (by kernel_rfl) (ρ := [(0, .agg #[.bool false, .int .u64 m, .int .i64 e])]) rfl ?_
 refine sr ?_
 refine L (nw 137 3 [.bool false, .int .u64 m, .int .i64 e] ?_)
 intro b1
 refine os 1 ?_
 refine nsr ?_
 refine os 1 ?_
 refine L (ld ?_)
 refine os 2 ?_
 refine kp [2, 1, 0] ?_
 refine nt ?_
 refine SW_ret ?_
 refine body_end (.int .i64 (e + 63)) (fun _ => rfl) ?_
 exact ⟨(), ow, rfl⟩

theorem num_near {W0 : World} {m : Nat} {e : Int} {h : Bool} (hm : m < 18446744073709551616) (he : -10000 ≤ e ∧ e ≤ 10000) : SC Tryz.prog W0 129 #[.agg #[.bool false, .int .u64 (m : Int), .int .i64 e], .bool h] [] (Ret (fun _ : Unit => []) (fun v _ => v = .int .u64 (formNear m e h : Int))) := by
 refine SC_body (fn := Tryz.f129) (n := 61) Tryz.func129 rfl (by kernel_rfl) (ρ := [(0, .agg #[.bool false, .int .u64 (m : Int), .int .i64 e]), (1, .bool h)]) rfl ?_
 refine sr ?_
 refine L (nw 137 3 [.bool false, .int .u64 (m : Int), .int .i64 e] ?_)
 intro b1
 refine os 1 ?_
 refine nq ?_
 refine sr ?_
 refine L (lds 3 ?_)
 refine L (cl (num_lead he) ?_)
 rintro _ _ rfl
 refine un ?_
 refine os 1 ?_
 refine nt ?_
 refine cdp (fun hc2 : (e + 63) > 1023 => ?_) (fun hc2 => ?_)
 ·refine sr ?_
  refine os 1 ?_
  refine L (ld ?_)
  refine L (cl (num_signed) ?_)
  rintro _ _ rfl
  refine un ?_
  refine os 1 ?_
  refine kp [4, 11, 2, 0, 1] ?_
  refine nt ?_
  refine SW_ret (r_then ?_)
  refine body_end (.int .u64 9218868437227405312) (fun _ => rfl) ?_
  exact ⟨(), ow, by rw [formNear_hi (by omega)]; rfl⟩
 refine SW_skip (n_then ?_)
 refine sr ?_
 refine L (lds 3 ?_)
 refine L (cl (num_lead he) ?_)
 rintro _ _ rfl
 refine un ?_
 refine os 3 ?_
 refine kp [6, 5, 11, 4, 2, 0, 1] ?_
 refine nq ?_
 refine sr ?_
 refine os 2 ?_
 refine nt ?_
 refine cdp (fun hc3 : ((e + 63) + 1023) < 1 => ?_) (fun hc3 => ?_)
 ·refine SW_region ?_
  refine os 4 ?_
  refine kp [6, 5, 19, 11, 4, 2, 0, 1] ?_
  refine nq ?_
  refine sr ?_
  refine os 2 ?_
  refine nt ?_
  refine cdp (fun hc4 : (12 - ((e + 63) + 1023)) > 64 => ?_) (fun hc4 => ?_)
  ·refine sr ?_
   refine os 1 ?_
   refine L (ld ?_)
   refine L (cl (num_signed) ?_)
   rintro _ _ rfl
   refine un ?_
   refine os 1 ?_
   refine kp [4, 23, 6, 5, 19, 11, 2, 0, 1] ?_
   refine nt ?_
   refine SW_ret (r_then ?_)
   refine body_end (.int .u64 0) (fun _ => rfl) ?_
   exact ⟨(), ow, by rw [formNear_lo (by omega) (by omega)]; rfl⟩
  refine SW_skip (n_then ?_)
  refine SW_seq ?_
  obtain ⟨M, hM⟩ : ∃ M, M = m / 2 ^ (12 - (e + 63 + 1023)).toNat := ⟨_, rfl⟩
  obtain ⟨R, hR⟩ : ∃ R, R = m * 2 ^ (64 - (12 - (e + 63 + 1023)).toNat) % 18446744073709551616 := ⟨_, rfl⟩
  have hdv_ := div_pow_lt (s := (12 - (e + 63 + 1023)).toNat) hm (by omega)
  rw [← hM] at hdv_
  have hrl_ : R < 18446744073709551616 := by rw [hR]; exact Nat.mod_lt _ (by decide)
  refine SW_region ?_
  refine os 1 ?_
  refine L (ld ?_)
  refine os 1 ?_
  refine oV (.int .u64 (M : Int)) ?_ (hs := shrR (m := (m : Int)) (c := 12 - ((e + 63) + 1023)) _ (by omega) (by rw [show IntKind.u64.bits = 64 from rfl, Nat.min_eq_left (by omega)]; rw [Int.fdiv_eq_ediv_of_nonneg _ (by exact_mod_cast Nat.zero_le _), hM]; simp))
  refine os 1 ?_
  refine kp [7, 23, 6, 5, 19, 11, 4, 2, 0, 1] ?_
  refine nsr ?_
  refine os 1 ?_
  refine L (ld ?_)
  refine os 2 ?_
  refine oV (.int .u64 (R : Int)) ?_ (hs := shlR (m := (m : Int)) (c := 64 - (12 - ((e + 63) + 1023))) _ (by omega) (by rw [show IntKind.u64.bits = 64 from rfl, Nat.min_eq_left (by omega), wrap64, hR, show (64 - (12 - ((e + 63) + 1023))).toNat = 64 - (12 - (e + 63 + 1023)).toNat from by omega]; simp))
  refine os 1 ?_
  refine kp [8, 7, 23, 6, 5, 19, 11, 4, 2, 0, 1] ?_
  refine nq ?_
  refine sr ?_
  refine os 3 ?_
  refine tbp 38 (fun hg5 => ?_) (fun hg5 => ?_)
  ·replace hg5 : (R : Int) > 9223372036854775808 := hg5
   refine os 11 ?_
   refine kp [49, 8, 7, 23, 6, 5, 19, 11, 4, 2, 0, 1] ?_
   refine nt ?_
   refine ct ?_
   refine SW_region ?_
   refine os 3 ?_
   refine nsr ?_
   refine os 1 ?_
   refine L (ld ?_)
   refine os 1 ?_
   refine oV (.int .i64 0) ?_
   refine oV (.int .u64 0) ?_
   refine oV (.int .u64 0) ?_
   refine os 2 ?_
   refine kp [59, 53, 7, 49, 8, 23, 6, 5, 19, 11, 4, 2, 0, 1] ?_
   refine L (cl (num_signed) ?_)
   rintro _ _ rfl
   refine un ?_
   refine os 1 ?_
   refine kp [4, 7, 49, 8, 23, 6, 5, 19, 11, 2, 0, 1] ?_
   refine nt ?_
   refine SW_ret ?_
   refine body_end (.int .u64 (0 + ((M : Int) + 1))) (fun _ => rfl) ?_
   have hfn_ := formNear_d (m := m) (e := e) (h := h) (by omega) (by omega) hM hR
   rw [up_if (show upIf R M h from by first | exact .inl (by omega) | exact .inr ⟨by omega, .inl (by assumption)⟩ | exact .inr ⟨by omega, .inr (by omega)⟩)] at hfn_
   exact ⟨(), ow, congrArg (Value.int .u64) (by omega)⟩
  replace hg5 : ¬ ((R : Int) > 9223372036854775808) := hg5
  refine os 3 ?_
  refine tb 41 (fun hg6 => ?_) (fun hg6 => ?_)
  ·replace hg6 : ((R : Int) == 9223372036854775808) = true := hg6
   simp only [beq_iff_eq, bne_iff_ne, ne_eq, beq_eq_false_iff_ne, bne_eq_false_iff_eq, Classical.not_not] at hg6
   refine os 2 ?_
   refine tb 43 (fun hg7 => ?_) (fun hg7 => ?_)
   ·replace hg7 : h = true := hg7
    refine os 6 ?_
    refine kp [49, 8, 7, 23, 6, 5, 19, 11, 4, 2, 0, 1] ?_
    refine nt ?_
    refine ct ?_
    refine SW_region ?_
    refine os 3 ?_
    refine nsr ?_
    refine os 1 ?_
    refine L (ld ?_)
    refine os 1 ?_
    refine oV (.int .i64 0) ?_
    refine oV (.int .u64 0) ?_
    refine oV (.int .u64 0) ?_
    refine os 2 ?_
    refine kp [59, 53, 7, 49, 8, 23, 6, 5, 19, 11, 4, 2, 0, 1] ?_
    refine L (cl (num_signed) ?_)
    rintro _ _ rfl
    refine un ?_
    refine os 1 ?_
    refine kp [4, 7, 49, 8, 23, 6, 5, 19, 11, 2, 0, 1] ?_
    refine nt ?_
    refine SW_ret ?_
    refine body_end (.int .u64 (0 + ((M : Int) + 1))) (fun _ => rfl) ?_
    have hfn_ := formNear_d (m := m) (e := e) (h := h) (by omega) (by omega) hM hR
    rw [up_if (show upIf R M h from by first | exact .inl (by omega) | exact .inr ⟨by omega, .inl (by assumption)⟩ | exact .inr ⟨by omega, .inr (by omega)⟩)] at hfn_
    exact ⟨(), ow, congrArg (Value.int .u64) (by omega)⟩
   replace hg7 : h = false := hg7
   refine os 1 ?_
   refine oV (.int .u64 ((M % 2 : Nat) : Int)) ?_ (hs := andR (m := (M : Int)) (c := 1) _ (and1_64 M (by omega)))
   refine os 4 ?_
   refine kp [49, 8, 7, 23, 6, 5, 19, 11, 4, 2, 0, 1] ?_
   refine nt ?_
   refine cd (fun hc8 : (((M % 2 : Nat) : Int) == 1) = true => ?_) (fun hc8 => ?_)
   ·simp only [beq_iff_eq, bne_iff_ne, ne_eq, beq_eq_false_iff_ne, bne_eq_false_iff_eq, Classical.not_not] at hc8
    refine SW_region ?_
    refine os 3 ?_
    refine nsr ?_
    refine os 1 ?_
    refine L (ld ?_)
    refine os 1 ?_
    refine oV (.int .i64 0) ?_
    refine oV (.int .u64 0) ?_
    refine oV (.int .u64 0) ?_
    refine os 2 ?_
    refine kp [59, 53, 7, 49, 8, 23, 6, 5, 19, 11, 4, 2, 0, 1] ?_
    refine L (cl (num_signed) ?_)
    rintro _ _ rfl
    refine un ?_
    refine os 1 ?_
    refine kp [4, 7, 49, 8, 23, 6, 5, 19, 11, 2, 0, 1] ?_
    refine nt ?_
    refine SW_ret ?_
    refine body_end (.int .u64 (0 + ((M : Int) + 1))) (fun _ => rfl) ?_
    have hfn_ := formNear_d (m := m) (e := e) (h := h) (by omega) (by omega) hM hR
    rw [up_if (show upIf R M h from by first | exact .inl (by omega) | exact .inr ⟨by omega, .inl (by assumption)⟩ | exact .inr ⟨by omega, .inr (by omega)⟩)] at hfn_
    exact ⟨(), ow, congrArg (Value.int .u64) (by omega)⟩
   simp only [beq_iff_eq, bne_iff_ne, ne_eq, beq_eq_false_iff_ne, bne_eq_false_iff_eq, Classical.not_not] at hc8
   refine SW_skip (n_then ?_)
   refine sr ?_
   refine os 1 ?_
   refine L (ld ?_)
   refine os 1 ?_
   refine oV (.int .i64 0) ?_
   refine oV (.int .u64 0) ?_
   refine oV (.int .u64 0) ?_
   refine os 2 ?_
   refine kp [59, 53, 49, 8, 7, 23, 6, 5, 19, 11, 4, 2, 0, 1] ?_
   refine L (cl (num_signed) ?_)
   rintro _ _ rfl
   refine un ?_
   refine os 1 ?_
   refine kp [4, 49, 8, 7, 23, 6, 5, 19, 11, 2, 0, 1] ?_
   refine nt ?_
   refine SW_ret ?_
   refine body_end (.int .u64 (0 + (M : Int))) (fun _ => rfl) ?_
   have hfn_ := formNear_d (m := m) (e := e) (h := h) (by omega) (by omega) hM hR
   rw [dn_if (show ¬ upIf R M h from by rintro (q | ⟨q1, q2 | q2⟩) <;> first | omega | simp_all)] at hfn_
   exact ⟨(), ow, congrArg (Value.int .u64) (by omega)⟩
  replace hg6 : ((R : Int) == 9223372036854775808) = false := hg6
  simp only [beq_iff_eq, bne_iff_ne, ne_eq, beq_eq_false_iff_ne, bne_eq_false_iff_eq, Classical.not_not] at hg6
  refine os 8 ?_
  refine kp [49, 8, 7, 23, 6, 5, 19, 11, 4, 2, 0, 1] ?_
  refine nt ?_
  refine cf ?_
  refine SW_skip (n_then ?_)
  refine sr ?_
  refine os 1 ?_
  refine L (ld ?_)
  refine os 1 ?_
  refine oV (.int .i64 0) ?_
  refine oV (.int .u64 0) ?_
  refine oV (.int .u64 0) ?_
  refine os 2 ?_
  refine kp [59, 53, 49, 8, 7, 23, 6, 5, 19, 11, 4, 2, 0, 1] ?_
  refine L (cl (num_signed) ?_)
  rintro _ _ rfl
  refine un ?_
  refine os 1 ?_
  refine kp [4, 49, 8, 7, 23, 6, 5, 19, 11, 2, 0, 1] ?_
  refine nt ?_
  refine SW_ret ?_
  refine body_end (.int .u64 (0 + (M : Int))) (fun _ => rfl) ?_
  have hfn_ := formNear_d (m := m) (e := e) (h := h) (by omega) (by omega) hM hR
  rw [dn_if (show ¬ upIf R M h from by rintro (q | ⟨q1, q2 | q2⟩) <;> first | omega | simp_all)] at hfn_
  exact ⟨(), ow, congrArg (Value.int .u64) (by omega)⟩
 refine SW_skip (n_then ?_)
 refine SW_seq ?_
 refine sr ?_
 refine os 1 ?_
 refine oV (.bool false) ?_
 refine nt ?_
 refine cf ?_
 refine SW_skip (n_then ?_)
 refine SW_seq ?_
 obtain ⟨M, hM⟩ : ∃ M, M = m / 2 ^ 11 := ⟨_, rfl⟩
 obtain ⟨R, hR⟩ : ∃ R, R = m * 2 ^ 53 % 18446744073709551616 := ⟨_, rfl⟩
 have hdv_ := div_pow_lt (s := 11) hm (by omega)
 rw [← hM] at hdv_
 have hrl_ : R < 18446744073709551616 := by rw [hR]; exact Nat.mod_lt _ (by decide)
 refine SW_region ?_
 refine os 1 ?_
 refine L (ld ?_)
 refine os 1 ?_
 refine oV (.int .u64 (M : Int)) ?_ (hs := shrR (m := (m : Int)) (c := 11) _ (by omega) (by rw [show IntKind.u64.bits = 64 from rfl, Nat.min_eq_left (by omega)]; rw [Int.fdiv_eq_ediv_of_nonneg _ (by exact_mod_cast Nat.zero_le _), hM]; simp))
 refine os 1 ?_
 refine kp [7, 23, 19, 6, 5, 11, 4, 2, 0, 1] ?_
 refine nsr ?_
 refine os 1 ?_
 refine L (ld ?_)
 refine os 1 ?_
 refine oV (.int .i64 53) ?_
 refine oV (.int .u64 (R : Int)) ?_ (hs := shlR (m := (m : Int)) (c := 53) _ (by omega) (by rw [show IntKind.u64.bits = 64 from rfl, Nat.min_eq_left (by omega), wrap64, hR, show (53 : Int).toNat = 53 from rfl]; simp))
 refine os 1 ?_
 refine kp [8, 7, 23, 19, 6, 5, 11, 4, 2, 0, 1] ?_
 refine nq ?_
 refine sr ?_
 refine os 3 ?_
 refine tbp 38 (fun hg9 => ?_) (fun hg9 => ?_)
 ·replace hg9 : (R : Int) > 9223372036854775808 := hg9
  refine os 11 ?_
  refine kp [49, 8, 7, 23, 19, 6, 5, 11, 4, 2, 0, 1] ?_
  refine nt ?_
  refine ct ?_
  refine SW_region ?_
  refine os 3 ?_
  refine nsr ?_
  refine os 1 ?_
  refine L (ld ?_)
  refine os 3 ?_
  refine oX (.int .u64 (IntKind.wrap .u64 ((((e + 63) + 1023) - 1) * 4503599627370496))) (.int .u64 ((((e + 63) + 1023) - 1) * 4503599627370496)) (congrArg (Value.int .u64) (IntWalk.u64_in _ (by omega))) ?_
  refine os 2 ?_
  refine kp [59, 53, 7, 49, 8, 23, 19, 6, 5, 11, 4, 2, 0, 1] ?_
  refine L (cl (num_signed) ?_)
  rintro _ _ rfl
  refine un ?_
  refine os 1 ?_
  refine kp [4, 7, 49, 8, 23, 19, 6, 5, 11, 2, 0, 1] ?_
  refine nt ?_
  refine SW_ret ?_
  refine body_end (.int .u64 (((((e + 63) + 1023) - 1) * 4503599627370496) + ((M : Int) + 1))) (fun _ => rfl) ?_
  have hfn_ := formNear_n (m := m) (e := e) (h := h) (by omega) (by omega) hM hR
  rw [up_if (show upIf R M h from by first | exact .inl (by omega) | exact .inr ⟨by omega, .inl (by assumption)⟩ | exact .inr ⟨by omega, .inr (by omega)⟩)] at hfn_
  exact ⟨(), ow, congrArg (Value.int .u64) (by omega)⟩
 replace hg9 : ¬ ((R : Int) > 9223372036854775808) := hg9
 refine os 3 ?_
 refine tb 41 (fun hg10 => ?_) (fun hg10 => ?_)
 ·replace hg10 : ((R : Int) == 9223372036854775808) = true := hg10
  simp only [beq_iff_eq, bne_iff_ne, ne_eq, beq_eq_false_iff_ne, bne_eq_false_iff_eq, Classical.not_not] at hg10
  refine os 2 ?_
  refine tb 43 (fun hg11 => ?_) (fun hg11 => ?_)
  ·replace hg11 : h = true := hg11
   refine os 6 ?_
   refine kp [49, 8, 7, 23, 19, 6, 5, 11, 4, 2, 0, 1] ?_
   refine nt ?_
   refine ct ?_
   refine SW_region ?_
   refine os 3 ?_
   refine nsr ?_
   refine os 1 ?_
   refine L (ld ?_)
   refine os 3 ?_
   refine oX (.int .u64 (IntKind.wrap .u64 ((((e + 63) + 1023) - 1) * 4503599627370496))) (.int .u64 ((((e + 63) + 1023) - 1) * 4503599627370496)) (congrArg (Value.int .u64) (IntWalk.u64_in _ (by omega))) ?_
   refine os 2 ?_
   refine kp [59, 53, 7, 49, 8, 23, 19, 6, 5, 11, 4, 2, 0, 1] ?_
   refine L (cl (num_signed) ?_)
   rintro _ _ rfl
   refine un ?_
   refine os 1 ?_
   refine kp [4, 7, 49, 8, 23, 19, 6, 5, 11, 2, 0, 1] ?_
   refine nt ?_
   refine SW_ret ?_
   refine body_end (.int .u64 (((((e + 63) + 1023) - 1) * 4503599627370496) + ((M : Int) + 1))) (fun _ => rfl) ?_
   have hfn_ := formNear_n (m := m) (e := e) (h := h) (by omega) (by omega) hM hR
   rw [up_if (show upIf R M h from by first | exact .inl (by omega) | exact .inr ⟨by omega, .inl (by assumption)⟩ | exact .inr ⟨by omega, .inr (by omega)⟩)] at hfn_
   exact ⟨(), ow, congrArg (Value.int .u64) (by omega)⟩
  replace hg11 : h = false := hg11
  refine os 1 ?_
  refine oV (.int .u64 ((M % 2 : Nat) : Int)) ?_ (hs := andR (m := (M : Int)) (c := 1) _ (and1_64 M (by omega)))
  refine os 4 ?_
  refine kp [49, 8, 7, 23, 19, 6, 5, 11, 4, 2, 0, 1] ?_
  refine nt ?_
  refine cd (fun hc12 : (((M % 2 : Nat) : Int) == 1) = true => ?_) (fun hc12 => ?_)
  ·simp only [beq_iff_eq, bne_iff_ne, ne_eq, beq_eq_false_iff_ne, bne_eq_false_iff_eq, Classical.not_not] at hc12
   refine SW_region ?_
   refine os 3 ?_
   refine nsr ?_
   refine os 1 ?_
   refine L (ld ?_)
   refine os 3 ?_
   refine oX (.int .u64 (IntKind.wrap .u64 ((((e + 63) + 1023) - 1) * 4503599627370496))) (.int .u64 ((((e + 63) + 1023) - 1) * 4503599627370496)) (congrArg (Value.int .u64) (IntWalk.u64_in _ (by omega))) ?_
   refine os 2 ?_
   refine kp [59, 53, 7, 49, 8, 23, 19, 6, 5, 11, 4, 2, 0, 1] ?_
   refine L (cl (num_signed) ?_)
   rintro _ _ rfl
   refine un ?_
   refine os 1 ?_
   refine kp [4, 7, 49, 8, 23, 19, 6, 5, 11, 2, 0, 1] ?_
   refine nt ?_
   refine SW_ret ?_
   refine body_end (.int .u64 (((((e + 63) + 1023) - 1) * 4503599627370496) + ((M : Int) + 1))) (fun _ => rfl) ?_
   have hfn_ := formNear_n (m := m) (e := e) (h := h) (by omega) (by omega) hM hR
   rw [up_if (show upIf R M h from by first | exact .inl (by omega) | exact .inr ⟨by omega, .inl (by assumption)⟩ | exact .inr ⟨by omega, .inr (by omega)⟩)] at hfn_
   exact ⟨(), ow, congrArg (Value.int .u64) (by omega)⟩
  simp only [beq_iff_eq, bne_iff_ne, ne_eq, beq_eq_false_iff_ne, bne_eq_false_iff_eq, Classical.not_not] at hc12
  refine SW_skip (n_then ?_)
  refine sr ?_
  refine os 1 ?_
  refine L (ld ?_)
  refine os 3 ?_
  refine oX (.int .u64 (IntKind.wrap .u64 ((((e + 63) + 1023) - 1) * 4503599627370496))) (.int .u64 ((((e + 63) + 1023) - 1) * 4503599627370496)) (congrArg (Value.int .u64) (IntWalk.u64_in _ (by omega))) ?_
  refine os 2 ?_
  refine kp [59, 53, 49, 8, 7, 23, 19, 6, 5, 11, 4, 2, 0, 1] ?_
  refine L (cl (num_signed) ?_)
  rintro _ _ rfl
  refine un ?_
  refine os 1 ?_
  refine kp [4, 49, 8, 7, 23, 19, 6, 5, 11, 2, 0, 1] ?_
  refine nt ?_
  refine SW_ret ?_
  refine body_end (.int .u64 (((((e + 63) + 1023) - 1) * 4503599627370496) + (M : Int))) (fun _ => rfl) ?_
  have hfn_ := formNear_n (m := m) (e := e) (h := h) (by omega) (by omega) hM hR
  rw [dn_if (show ¬ upIf R M h from by rintro (q | ⟨q1, q2 | q2⟩) <;> first | omega | simp_all)] at hfn_
  exact ⟨(), ow, congrArg (Value.int .u64) (by omega)⟩
 replace hg10 : ((R : Int) == 9223372036854775808) = false := hg10
 simp only [beq_iff_eq, bne_iff_ne, ne_eq, beq_eq_false_iff_ne, bne_eq_false_iff_eq, Classical.not_not] at hg10
 refine os 8 ?_
 refine kp [49, 8, 7, 23, 19, 6, 5, 11, 4, 2, 0, 1] ?_
 refine nt ?_
 refine cf ?_
 refine SW_skip (n_then ?_)
 refine sr ?_
 refine os 1 ?_
 refine L (ld ?_)
 refine os 3 ?_
 refine oX (.int .u64 (IntKind.wrap .u64 ((((e + 63) + 1023) - 1) * 4503599627370496))) (.int .u64 ((((e + 63) + 1023) - 1) * 4503599627370496)) (congrArg (Value.int .u64) (IntWalk.u64_in _ (by omega))) ?_
 refine os 2 ?_
 refine kp [59, 53, 49, 8, 7, 23, 19, 6, 5, 11, 4, 2, 0, 1] ?_
 refine L (cl (num_signed) ?_)
 rintro _ _ rfl
 refine un ?_
 refine os 1 ?_
 refine kp [4, 49, 8, 7, 23, 19, 6, 5, 11, 2, 0, 1] ?_
 refine nt ?_
 refine SW_ret ?_
 refine body_end (.int .u64 (((((e + 63) + 1023) - 1) * 4503599627370496) + (M : Int))) (fun _ => rfl) ?_
 have hfn_ := formNear_n (m := m) (e := e) (h := h) (by omega) (by omega) hM hR
 rw [dn_if (show ¬ upIf R M h from by rintro (q | ⟨q1, q2 | q2⟩) <;> first | omega | simp_all)] at hfn_
 exact ⟨(), ow, congrArg (Value.int .u64) (by omega)⟩

theorem num_Near {W0 : World} {m : Nat} {e : Int} {h : Bool} (hm : m < 18446744073709551616) : SC Tryz.prog W0 87 #[.int .u64 (m : Int), .int .i64 e, .bool h] [] (Ret (fun _ : Unit => []) (fun v _ => v = .int .u64 (nearN m e h : Int))) := by
 refine SC_body (fn := Tryz.f87) (n := 42) Tryz.func87 rfl (by kernel_rfl) (ρ := [(0, .int .u64 (m : Int)), (1, .int .i64 e), (2, .bool h)]) rfl ?_
 have hs64_ := bitsN_le64 hm
 have hst_ := shl_top hm
 refine sr ?_
 refine os 1 ?_
 refine nsr ?_
 refine os 1 ?_
 refine oV (.int .i64 (if -5000 > e then -5000 else e)) ?_
 refine oV (.int .i64 (if 5000 < if -5000 > e then -5000 else e then 5000 else if -5000 > e then -5000 else e)) ?_
 refine os 1 ?_
 refine kp [1, 6, 0, 2] ?_
 refine nq ?_
 refine SW_seq ?_
 rw [show (if 5000 < if -5000 > e then -5000 else e then 5000 else if -5000 > e then -5000 else e : Int) = clampE e from clampE_eq e]
 have hcl_ := clampE_in e
 refine SW_region ?_
 refine os 3 ?_
 refine tb 13 (fun hg1 => ?_) (fun hg1 => ?_)
 ·replace hg1 : ((m : Int) == 0) = true := hg1
  simp only [beq_iff_eq, bne_iff_ne, ne_eq, beq_eq_false_iff_ne, bne_eq_false_iff_eq, Classical.not_not] at hg1
  refine os 2 ?_
  refine kp [15, 1, 6, 0, 2] ?_
  refine nt ?_
  refine cd (fun hc2 : (h) = true => ?_) (fun hc2 => ?_)
  ·subst hc2
   refine SW_region ?_
   refine os 5 ?_
   refine nq ?_
   refine sr ?_
   refine os 1 ?_
   refine oV (.bool false) ?_
   refine kp [19, 2, 1, 0, 15, 6] ?_
   refine nt ?_
   refine cf ?_
   refine SW_skip (n_then ?_)
   refine sr ?_
   refine os 1 ?_
   refine L (cl (str_lz64 1 (by decide)) ?_)
   rintro v1 _ hv1
   obtain rfl : v1 = .int .i64 63 := hv1.trans (by rw [lz_one])
   refine un ?_
   refine os 1 ?_
   refine nsr ?_
   refine os 2 ?_
   refine oV (.int .u64 9223372036854775808) ?_
   refine os 1 ?_
   refine kp [0, 7, 19, 2, 1, 15, 6] ?_
   refine nq ?_
   refine sr ?_
   refine os 5 ?_
   refine kp [29, 0, 7, 19, 2, 1, 15, 6] ?_
   refine nt ?_
   refine cf ?_
   refine SW_skip (n_then ?_)
   refine sr ?_
   refine os 4 ?_
   refine oV (.agg #[.bool false, .int .u64 9223372036854775808, .int .i64 (((clampE e) - 1) - 63)]) ?_
   refine os 1 ?_
   refine L (cl (num_near (m := 9223372036854775808) (e := ((clampE e) - 1) - 63) (h := false) (by omega) (by omega)) ?_)
   rintro v2 _ hv2
   obtain rfl : v2 = .int .u64 (formNear 9223372036854775808 (((clampE e) - 1) - 63) false : Int) := hv2.trans (rfl)
   refine un ?_
   refine os 1 ?_
   refine kp [6, 29, 0, 7, 19, 2, 1, 15] ?_
   refine nt ?_
   refine SW_ret ?_
   refine body_end (.int .u64 (formNear 9223372036854775808 (((clampE e) - 1) - 63) false : Int)) (fun _ => rfl) ?_
   have hm0_ : m = 0 := by omega
   subst hm0_
   exact ⟨(), ow, congrArg (Value.int .u64) (by rw [near_z])⟩
  subst hc2
  refine SW_skip (n_then ?_)
  refine SW_seq ?_
  refine sr ?_
  refine os 2 ?_
  refine nt ?_
  refine SW_true (fun _ => (congrArg Value.bool (show ((m : Int) == 0) = true from (by simp; omega)))) ?_
  refine sr ?_
  refine os 1 ?_
  refine nt ?_
  refine SW_ret (r_then ?_)
  refine body_end (.int .u64 0) (fun _ => rfl) ?_
  have hm0_ : m = 0 := by omega
  subst hm0_
  exact ⟨(), ow, congrArg (Value.int .u64) (by rw [near_0 rfl]; rfl)⟩
 replace hg1 : ((m : Int) == 0) = false := hg1
 simp only [beq_iff_eq, bne_iff_ne, ne_eq, beq_eq_false_iff_ne, bne_eq_false_iff_eq, Classical.not_not] at hg1
 refine os 2 ?_
 refine kp [15, 1, 6, 0, 2] ?_
 refine nt ?_
 refine cf ?_
 refine SW_skip (n_then ?_)
 refine SW_seq ?_
 refine sr ?_
 refine os 2 ?_
 refine nt ?_
 refine SW_false (fun _ => (congrArg Value.bool (show ((m : Int) == 0) = false from (by simp; omega)))) ?_
 refine SW_skip (n_then ?_)
 refine sr ?_
 refine os 1 ?_
 refine L (cl (str_lz64 (m : Int) (by omega)) ?_)
 rintro v3 _ hv3
 obtain rfl : v3 = .int .i64 ((64 - bitsN m : Nat) : Int) := hv3.trans (by rw [lz_eq hm])
 refine un ?_
 refine os 1 ?_
 refine kp [7, 19, 15, 1, 6, 0, 2] ?_
 refine nsr ?_
 refine os 2 ?_
 refine oV (.int .u64 ((m * 2 ^ (64 - bitsN m) : Nat) : Int)) ?_ (hs := shlR (m := (m : Int)) (c := ((64 - bitsN m : Nat) : Int)) _ (by omega) (shl_wrap (shl_top hm) (by omega)))
 refine os 1 ?_
 refine kp [0, 7, 19, 15, 1, 6, 2] ?_
 refine nq ?_
 refine sr ?_
 refine os 2 ?_
 refine tb 26 (fun hg3 => ?_) (fun hg3 => ?_)
 ·replace hg3 : h = true := hg3
  subst hg3
  refine os 3 ?_
  refine kp [29, 0, 7, 19, 15, 1, 6, 2] ?_
  refine nt ?_
  refine cdp (fun hc4 : ((64 - bitsN m : Nat) : Int) > 0 => ?_) (fun hc4 => ?_)
  ·refine SW_region ?_
   refine os 3 ?_
   refine oV (.int .u64 ((2 ^ ((64 - bitsN m) - 1) : Nat) : Int)) ?_ (hs := shlR (m := 1) (c := ((64 - bitsN m : Nat) : Int) - 1) _ (by omega) (by rw [show ((64 - bitsN m : Nat) : Int) - 1 = (((64 - bitsN m) - 1 : Nat) : Int) from by omega]; exact one_shl (by omega)))
   refine oV (.int .u64 ((m * 2 ^ (64 - bitsN m) + 2 ^ ((64 - bitsN m) - 1) : Nat) : Int)) ?_ (hs := orR (m := ((m * 2 ^ (64 - bitsN m) : Nat) : Int)) (c := ((2 ^ ((64 - bitsN m) - 1) : Nat) : Int)) _ (or_half (by omega) (shl_half (shl_top hm) (by omega) (by omega))))
   refine os 2 ?_
   refine kp [2, 0, 29, 7, 19, 15, 1, 6] ?_
   refine nsr ?_
   refine os 4 ?_
   refine oV (.agg #[.bool false, .int .u64 ((m * 2 ^ (64 - bitsN m) + 2 ^ ((64 - bitsN m) - 1) : Nat) : Int), .int .i64 ((clampE e) - ((64 - bitsN m : Nat) : Int))]) ?_
   refine os 1 ?_
   refine L (cl (num_near (m := m * 2 ^ (64 - bitsN m) + 2 ^ ((64 - bitsN m) - 1)) (e := (clampE e) - ((64 - bitsN m : Nat) : Int)) (h := false) (shl_half (shl_top hm) (by omega) (by omega)) (by omega)) ?_)
   rintro v4 _ hv4
   obtain rfl : v4 = .int .u64 (formNear (m * 2 ^ (64 - bitsN m) + 2 ^ ((64 - bitsN m) - 1)) ((clampE e) - ((64 - bitsN m : Nat) : Int)) false : Int) := hv4.trans (rfl)
   refine un ?_
   refine os 1 ?_
   refine kp [6, 2, 0, 29, 7, 19, 15, 1] ?_
   refine nt ?_
   refine SW_ret ?_
   refine body_end (.int .u64 (formNear (m * 2 ^ (64 - bitsN m) + 2 ^ ((64 - bitsN m) - 1)) ((clampE e) - ((64 - bitsN m : Nat) : Int)) false : Int)) (fun _ => rfl) ?_
   exact ⟨(), ow, congrArg (Value.int .u64) (by rw [near_half (by omega) rfl (by omega)])⟩
  refine SW_skip (n_then ?_)
  refine sr ?_
  refine os 4 ?_
  refine oV (.agg #[.bool false, .int .u64 ((m * 2 ^ (64 - bitsN m) : Nat) : Int), .int .i64 ((clampE e) - ((64 - bitsN m : Nat) : Int))]) ?_
  refine os 1 ?_
  refine L (cl (num_near (m := m * 2 ^ (64 - bitsN m)) (e := (clampE e) - ((64 - bitsN m : Nat) : Int)) (h := true) (by omega) (by omega)) ?_)
  rintro v5 _ hv5
  obtain rfl : v5 = .int .u64 (formNear (m * 2 ^ (64 - bitsN m)) ((clampE e) - ((64 - bitsN m : Nat) : Int)) true : Int) := hv5.trans (rfl)
  refine un ?_
  refine os 1 ?_
  refine kp [6, 29, 0, 7, 19, 15, 1, 2] ?_
  refine nt ?_
  refine SW_ret ?_
  refine body_end (.int .u64 (formNear (m * 2 ^ (64 - bitsN m)) ((clampE e) - ((64 - bitsN m : Nat) : Int)) true : Int)) (fun _ => rfl) ?_
  exact ⟨(), ow, congrArg (Value.int .u64) (by rw [near_up (by omega) (by rintro ⟨q1, q2⟩; first | omega | simp_all)])⟩
 replace hg3 : h = false := hg3
 subst hg3
 refine os 3 ?_
 refine kp [29, 0, 7, 19, 15, 1, 6, 2] ?_
 refine nt ?_
 refine cf ?_
 refine SW_skip (n_then ?_)
 refine sr ?_
 refine os 4 ?_
 refine oV (.agg #[.bool false, .int .u64 ((m * 2 ^ (64 - bitsN m) : Nat) : Int), .int .i64 ((clampE e) - ((64 - bitsN m : Nat) : Int))]) ?_
 refine os 1 ?_
 refine L (cl (num_near (m := m * 2 ^ (64 - bitsN m)) (e := (clampE e) - ((64 - bitsN m : Nat) : Int)) (h := false) (by omega) (by omega)) ?_)
 rintro v6 _ hv6
 obtain rfl : v6 = .int .u64 (formNear (m * 2 ^ (64 - bitsN m)) ((clampE e) - ((64 - bitsN m : Nat) : Int)) false : Int) := hv6.trans (rfl)
 refine un ?_
 refine os 1 ?_
 refine kp [6, 29, 0, 7, 19, 15, 1, 2] ?_
 refine nt ?_
 refine SW_ret ?_
 refine body_end (.int .u64 (formNear (m * 2 ^ (64 - bitsN m)) ((clampE e) - ((64 - bitsN m : Nat) : Int)) false : Int)) (fun _ => rfl) ?_
 exact ⟨(), ow, congrArg (Value.int .u64) (by rw [near_up (by omega) (by rintro ⟨q1, q2⟩; first | omega | simp_all)])⟩

end Go.Proofs.YtnhmmjogfkjceaaGreatDoor
namespace Go.Proofs.YtnhmmjogfkjceaaGreatDoor
open Go.Sl

theorem num_upZ {W0 : World} {a : Gs} {a0 n : Nat} {z : Int} (hz : z = (n : Int)) (hk : Gs.ok 1 (lim a0).length a ((lim a0).map encP)) (hs0 : (lim a0).length ≤ 1048576) (hn : n ≤ 33554431) : SC Tryz.prog W0 120 #[a.val (lim a0).length, .int .i64 z] (Gs.ent 87 1 a ((lim a0).map encP)) (Ret (fun g : Gs => Gs.ent 87 1 g ((lim (a0 * 2 ^ n)).map encP) ++ (Gs.ent 87 1 a ((lim a0).map encP))) (fun v g => v = g.val (lim (a0 * 2 ^ n)).length ∧ Gs.ok 1 (lim (a0 * 2 ^ n)).length g ((lim (a0 * 2 ^ n)).map encP))) := by
 subst hz
 have := num_up (W0 := W0) (k := n / 32) (s := n % 32) hk hs0 (by omega) (by omega)
 rw [show 32 * (n / 32) + n % 32 = n by omega] at this
 exact this

theorem num_rounded {W0 : World} {a b : Gs} {p0 q0 : Nat} (hk : Gs.ok 1 (lim p0).length a ((lim p0).map encP)) (hkb : Gs.ok 1 (lim q0).length b ((lim q0).map encP)) (hp : bitsN p0 ≤ 8192) (hq : bitsN q0 ≤ 8192) : SC Tryz.prog W0 90 #[a.val (lim p0).length, b.val (lim q0).length] (Gs.ent 87 1 a ((lim p0).map encP) ++ Gs.ent 87 1 b ((lim q0).map encP)) (Ret (fun _ : Unit => []) (fun v _ => v = .int .u64 (roundN p0 q0 : Int))) := by
 refine SC_body (fn := Tryz.f90) (n := 48) Tryz.func90 rfl (by kernel_rfl) (ρ := [(0, Gs.val a ((lim p0).length)), (1, Gs.val b ((lim q0).length))]) rfl ?_
 refine SW_sig ((Gs.ent 87 1 a ((lim p0).map encP)) ++ ((Gs.ent 87 1 b ((lim q0).map encP)) ++ ([]))) (by simp only [List.append_nil, List.append_assoc]) ?_
 refine sr ?_
 refine os 1 ?_
 refine nsr ?_
 refine os 1 ?_
 refine L (cl (num_size (a0 := p0) hk (by first | exact hbq_ | exact hbp_ | exact len_bits (by omega))) ?_)
 rintro _ _ rfl
 refine os 2 ?_
 refine L (cl (num_size (a0 := q0) hkb (by first | exact hbq_ | exact hbp_ | exact len_bits (by omega))) ?_)
 rintro _ _ rfl
 refine os 2 ?_
 refine kp [5, 4, 0, 1] ?_
 refine nq ?_
 have hbp0_ := bitsN_mul_pow p0 (63 - (bitsN p0 : Int) + (bitsN q0 : Int)).toNat
 have hbq0_ := bitsN_mul_pow q0 (-(63 - (bitsN p0 : Int) + (bitsN q0 : Int))).toNat
 have hbt0_ := bitsN_mul_pow (q0 * 2 ^ (-(63 - (bitsN p0 : Int) + (bitsN q0 : Int))).toNat) 63
 have hbp_ : (lim (p0 * 2 ^ (63 - (bitsN p0 : Int) + (bitsN q0 : Int)).toNat)).length ≤ 1048576 := len_bits (by omega)
 have hbt_ : (lim (q0 * 2 ^ (-(63 - (bitsN p0 : Int) + (bitsN q0 : Int))).toNat * 2 ^ 63)).length ≤ 1048576 := len_bits (by omega)
 have hbq_ : (lim (q0 * 2 ^ (-(63 - (bitsN p0 : Int) + (bitsN q0 : Int))).toNat)).length ≤ 1048576 := len_bits (by omega)
 refine SW_region ?_
 refine os 2 ?_
 refine oV (.int .i64 (if 0 > (63 - (bitsN p0 : Int)) + (bitsN q0 : Int) then 0 else (63 - (bitsN p0 : Int)) + (bitsN q0 : Int))) ?_
 refine L (cl (num_upZ (n := ((63 - (bitsN p0 : Int)) + (bitsN q0 : Int)).toNat) (max0_eq _) hk (by first | exact hbq_ | exact hbp_ | exact len_bits (by omega)) (by omega)) ?_)
 rintro _ u1 ⟨rfl, hku1⟩
 refine un ?_
 refine os 2 ?_
 refine oX (.int .i64 (IntKind.wrap .i64 (0 - ((63 - (bitsN p0 : Int)) + (bitsN q0 : Int))))) (.int .i64 (-((63 - (bitsN p0 : Int)) + (bitsN q0 : Int)))) (congrArg (Value.int .i64) ((IntWalk.i64_in _ (by omega)).trans (Int.zero_sub _))) ?_
 refine oV (.int .i64 (if 0 > -((63 - (bitsN p0 : Int)) + (bitsN q0 : Int)) then 0 else -((63 - (bitsN p0 : Int)) + (bitsN q0 : Int)))) ?_
 refine L (cl (num_upZ (n := (-((63 - (bitsN p0 : Int)) + (bitsN q0 : Int))).toNat) (max0_eq _) hkb (by first | exact hbq_ | exact hbp_ | exact len_bits (by omega)) (by omega)) ?_)
 rintro _ u2 ⟨rfl, hku2⟩
 refine un ?_
 refine os 2 ?_
 refine kp [1, 0, 5, 4] ?_
 refine nsr ?_
 refine os 1 ?_
 refine L (cl (num_upZ (n := 63) rfl hku2 (by first | exact hbq_ | exact hbp_ | exact len_bits (by omega)) (by omega)) ?_)
 rintro _ u3 ⟨rfl, hku3⟩
 refine un ?_
 refine os 1 ?_
 refine nsr ?_
 refine os 1 ?_
 refine nq ?_
 refine sr ?_
 refine os 1 ?_
 refine nt ?_
 refine SW_block ?_
 refine SW_loop (α := Nat × Gs × Gs × Nat × Nat × Nat) (fun z_ ρ_ σ_ => Fits ρ_ σ_ [(0, Gs.val z_.2.1 ((lim z_.2.2.2.1).length)), (6, Gs.val z_.2.2.1 ((lim z_.2.2.2.2.1).length)), (5, .int .i64 ((63 - (bitsN p0 : Int)) + (bitsN q0 : Int))), (7, .int .u64 (z_.2.2.2.2.2 : Int)), (25, .int .i64 (z_.1 : Int))] ((Gs.ent 87 1 z_.2.1 ((lim z_.2.2.2.1).map encP)) ++ ((Gs.ent 87 1 z_.2.2.1 ((lim z_.2.2.2.2.1).map encP)) ++ ([]))) ∧ z_.1 ≤ 64 ∧ Gs.ok 1 (lim z_.2.2.2.1).length z_.2.1 ((lim z_.2.2.2.1).map encP) ∧ Gs.ok 1 (lim z_.2.2.2.2.1).length z_.2.2.1 ((lim z_.2.2.2.2.1).map encP) ∧ (z_.2.2.2.1 ≤ (p0 * 2 ^ (63 - (bitsN p0 : Int) + (bitsN q0 : Int)).toNat) ∧ z_.2.2.2.2.1 ≤ (q0 * 2 ^ (-(63 - (bitsN p0 : Int) + (bitsN q0 : Int))).toNat * 2 ^ 63) ∧ z_.2.2.2.2.2 < 18446744073709551616) ∧ divN (64 - z_.1) z_.2.2.2.1 z_.2.2.2.2.1 z_.2.2.2.2.2 = divN 64 (p0 * 2 ^ (63 - (bitsN p0 : Int) + (bitsN q0 : Int)).toNat) (q0 * 2 ^ (-(63 - (bitsN p0 : Int) + (bitsN q0 : Int))).toNat * 2 ^ 63) 0) (fun z_ => 64 - z_.1) (0, u1, u3, (p0 * 2 ^ (((63 - (bitsN p0 : Int)) + (bitsN q0 : Int)).toNat)), ((q0 * 2 ^ ((-((63 - (bitsN p0 : Int)) + (bitsN q0 : Int))).toNat)) * 2 ^ 63), 0) ⟨⟨fun _ => rfl, ow⟩, by omega, hku1, hku3, ⟨Nat.le_refl _, Nat.le_refl _, (show 0 < 18446744073709551616 by decide)⟩, rfl⟩ ?_
 rintro ⟨i, x, y, p, t, m⟩ ρ_ σ_ ⟨hfit, hi0, hi1, hi2, hi3, hi4⟩
 refine SW_fits hfit ?_
 clear hfit
 simp only [] at hi0 hi1 hi2 hi3 hi4 ⊢
 obtain ⟨hp_, ht_, hm_⟩ := hi3
 have hlp_ := len_mono hp_ hbp_
 have hlt_ := len_mono ht_ hbt_
 refine sr ?_
 refine os 1 ?_
 refine nq ?_
 refine cdp (fun hc4 : (i : Int) < 64 => ?_) (fun hc4 => ?_)
 ·refine SW_skip (n_then ?_)
  refine SW_seq ?_
  refine SW_block ?_
  refine sr ?_
  refine os 1 ?_
  refine oV (.int .u64 ((m * 2 % 18446744073709551616 : Nat) : Int)) ?_ (hs := shlR (m := (m : Int)) (c := 1) _ (by decide) (shl_one m))
  refine os 1 ?_
  refine nq ?_
  refine sr ?_
  refine os 2 ?_
  refine L (cl (num_order (a0 := p) (b0 := t) hi1 hi2 hlp_) ?_)
  rintro _ _ rfl
  refine un ?_
  refine os 1 ?_
  refine kp [32, 7, 26, 0, 6, 5, 25] ?_
  refine nt ?_
  refine cdp (fun hc5 : (cmpN p t) ≥ 0 => ?_) (fun hc5 => ?_)
  ·refine sr ?_
   refine os 2 ?_
   refine L (cl (num_less (a0 := p) (b0 := t) hi1 hi2 hlp_ (cmp_ge hc5)) ?_)
   rintro _ u6 ⟨rfl, hku6⟩
   refine un ?_
   refine os 1 ?_
   refine kp [0, 32, 7, 26, 6, 5, 25] ?_
   refine nr ?_
   refine os 1 ?_
   refine oV (.int .u64 ((m * 2 % 18446744073709551616 + 1 : Nat) : Int)) ?_ (hs := orR (m := ((m * 2 % 18446744073709551616 : Nat) : Int)) (c := 1) _ (or_one m))
   refine os 1 ?_
   refine nr ?_
   refine os 1 ?_
   refine L (cl (num_half (a0 := t) hi2 hlt_) ?_)
   rintro _ u7 ⟨rfl, hku7⟩
   refine un ?_
   refine os 1 ?_
   refine kp [6, 7, 0, 32, 26, 5, 25] ?_
   refine SL_nil (n_in (n_then ?_))
   refine SW_region ?_
   refine os 2 ?_
   refine nt ?_
   obtain ⟨k, hk_⟩ : ∃ k, 64 - i = k + 1 := ⟨63 - i, by omega⟩
   rw [hk_, divN_step1 (cmp_ge hc5)] at hi4
   refine ⟨(i + 1, u6, u7, (p - t), (t / 2), m * 2 % 18446744073709551616 + 1), by simp only []; omega, ?_⟩
   simp only []
   exact ⟨⟨fun _ => rfl, ow⟩, by omega, hku6, hku7, ⟨by omega, by omega, by omega⟩, by rw [show 64 - (i + 1) = k from by omega]; exact hi4⟩
  refine SW_skip (n_then ?_)
  refine SW_region ?_
  refine os 1 ?_
  refine L (cl (num_half (a0 := t) hi2 hlt_) ?_)
  rintro _ u8 ⟨rfl, hku8⟩
  refine un ?_
  refine os 1 ?_
  refine SL_nil (n_in (n_then ?_))
  refine SW_region ?_
  refine os 2 ?_
  refine kp [25, 6, 32, 7, 26, 0, 5] ?_
  refine nt ?_
  obtain ⟨k, hk_⟩ : ∃ k, 64 - i = k + 1 := ⟨63 - i, by omega⟩
  rw [hk_, divN_step0 (cmp_nge hc5)] at hi4
  refine ⟨(i + 1, x, u8, p, (t / 2), m * 2 % 18446744073709551616), by simp only []; omega, ?_⟩
  simp only []
  exact ⟨⟨fun _ => rfl, ow⟩, by omega, hi1, hku8, ⟨by omega, by omega, by omega⟩, by rw [show 64 - (i + 1) = k from by omega]; exact hi4⟩
 refine SW_exit (x_then (x_then (x_in (n_then ?_))))
 refine sr ?_
 refine os 2 ?_
 refine oX (.int .i64 (IntKind.wrap .i64 (0 - ((63 - (bitsN p0 : Int)) + (bitsN q0 : Int))))) (.int .i64 (-((63 - (bitsN p0 : Int)) + (bitsN q0 : Int)))) (congrArg (Value.int .i64) ((IntWalk.i64_in _ (by omega)).trans (Int.zero_sub _))) ?_
 refine os 3 ?_
 refine L (cl (num_Near (m := m) (by omega)) ?_)
 rintro _ _ rfl
 refine un ?_
 refine os 1 ?_
 refine kp [4, 26, 0, 6, 5, 7, 25] ?_
 refine nt ?_
 refine SW_ret ?_
 refine body_end (.int .u64 (nearN m (-((63 - (bitsN p0 : Int)) + (bitsN q0 : Int))) (decide (((((lim p).length : Nat)) : Int) > 0)) : Int)) (fun _ => rfl) ?_
 have hin_ : i = 64 := by omega
 rw [hin_, show 64 - 64 = 0 from rfl] at hi4
 exact ⟨(), ow, congrArg (Value.int .u64) (by rw [roundN_eq hi4])⟩

end Go.Proofs.YtnhmmjogfkjceaaGreatDoor
namespace Go.Proofs.YtnhmmjogfkjceaaGreatDoor
open Go.Sl

theorem num_figures {W0 : World} {X : Bytes} (hX : X.length ≤ 4611686018427387904) : SC Tryz.prog W0 88 #[.string (bS X)] [] (Ret (fun _ : Unit => []) (fun v _ => v = .tuple #[.string (bS (X.takeWhile isDig)), .string (bS (X.dropWhile isDig))])) := by
 refine SC_body (fn := Tryz.f88) (n := 15) Tryz.func88 rfl (by kernel_rfl) (ρ := [(0, .string (bS X))]) rfl ?_
 have hdl_ := dropWhile_len isDig X
 refine sr ?_
 refine os 2 ?_
 refine nsr ?_
 refine os 1 ?_
 refine L (cl (str_TrimLeft X [48, 49, 50, 51, 52, 53, 54, 55, 56, 57] (by decide) (by decide)) ?_)
 rintro v1 _ hv1
 obtain rfl : v1 = .string (bS (X.dropWhile isDig)) := hv1.trans (congrArg (fun l_ => Value.string (bS l_)) (trimLeft_digs X))
 refine un ?_
 refine os 1 ?_
 refine nsr ?_
 refine os 2 ?_
 refine oX (.int .i64 ((bS X).size : Int)) (.int .i64 (X.length : Int)) (congrArg (fun n_ : Nat => Value.int .i64 (n_ : Int)) (bS_size _)) ?_
 refine os 1 ?_
 refine oX (.int .i64 ((bS (X.dropWhile isDig)).size : Int)) (.int .i64 ((X.dropWhile isDig).length : Int)) (congrArg (fun n_ : Nat => Value.int .i64 (n_ : Int)) (bS_size _)) ?_
 refine os 1 ?_
 refine kp [12, 7, 4, 3, 2, 0] ?_
 refine L (O_val (.string (bS (X.take ((X.length : Int) - ((X.dropWhile isDig).length : Int)).toNat))) rfl (fun δ w _ => run_strTo (l := X) ((X.length : Int) - ((X.dropWhile isDig).length : Int)) .i64 Tryz.underlying9 rfl rfl (by omega) (by omega)) ?_)
 rw [show ((X.length : Int) - ((X.dropWhile isDig).length : Int)).toNat = (X.length - (X.dropWhile isDig).length) from by omega]
 refine os 3 ?_
 refine kp [3, 2, 4, 0] ?_
 refine nt ?_
 refine SW_ret ?_
 refine body_end (.tuple #[.string (bS (X.take (X.length - (X.dropWhile isDig).length))), .string (bS (X.dropWhile isDig))]) (fun _ => rfl) ?_
 exact ⟨(), ow, by rw [take_drop_len]⟩

theorem num_decimal {W0 : World} {X : Bytes} (hX : X.length ≤ 4611686018427387904) : SC Tryz.prog W0 41 #[.string (bS X)] [] (Ret (fun _ : Unit => []) (fun v _ => v = numV (decP X))) := by
 refine SC_body (fn := Tryz.f41) (n := 100) Tryz.func41 rfl (by kernel_rfl) (ρ := [(0, .string (bS X))]) rfl ?_
 have hdd_ := dropWhile_len isDig X
 refine sr ?_
 refine L (nw 62 3 [.string (bS []), .string (bS []), .int .i64 0] ?_)
 intro b1
 refine os 1 ?_
 refine nsr ?_
 refine L (nw 62 3 [.string (bS []), .string (bS []), .int .i64 0] ?_)
 intro b2
 refine nsr ?_
 refine os 1 ?_
 refine L (cl (num_figures (X := X) (by first | omega | (simp; omega))) ?_)
 rintro _ _ rfl
 refine un ?_
 refine os 4 ?_
 refine L (st [.string (bS (X.takeWhile isDig)), .string (bS []), .int .i64 0] ?_)
 refine os 1 ?_
 refine kp [0, 4, 3, 2] ?_
 refine nq ?_
 refine SW_seq ?_
 refine SW_cut3 (fun ρ_ σ_ => Fits ρ_ σ_ [(2, pt b1 0), (3, .bool false), (4, pt b2 0), (0, .string (bS (fracP (X.dropWhile isDig)).2))] ((b2, .cells 62 3 [.string (bS (X.takeWhile isDig)), .string (bS (fracP (X.dropWhile isDig)).1), .int .i64 0]) :: ((b1, .cells 62 3 [.string (bS []), .string (bS []), .int .i64 0]) :: ([])))) ?_ ?_
 ·refine SW_region ?_
  refine os 1 ?_
  refine L (cl (str_HasPrefix (X.dropWhile isDig) [46]) ?_)
  rintro _ _ rfl
  refine un ?_
  refine nt ?_
  refine cd (fun hc3 : (Lib.hasPrefix (X.dropWhile isDig) [46]) = true => ?_) (fun hc3 => ?_)
  ·obtain ⟨r_, hr_⟩ := pre_dot hc3
   have hdl_ : 1 ≤ (X.dropWhile isDig).length := by rw [hr_]; simp
   refine SW_region ?_
   refine os 1 ?_
   refine L (O_val (.string (bS ((X.dropWhile isDig).drop 1))) rfl (fun δ w _ => run_strFrom (l := (X.dropWhile isDig)) 1 .i64 Tryz.underlying9 rfl rfl (by omega) (by omega)) ?_)
   refine L (cl (num_figures (X := ((X.dropWhile isDig).drop 1)) (by first | omega | (simp; omega))) ?_)
   rintro _ _ rfl
   refine un ?_
   refine os 4 ?_
   refine L (st [.string (bS (X.takeWhile isDig)), .string (bS (((X.dropWhile isDig).drop 1).takeWhile isDig)), .int .i64 0] ?_)
   refine os 1 ?_
   refine kp [0, 17, 4, 3, 2] ?_
   refine nt ?_
   have hfp_ : fracP (X.dropWhile isDig) = (((X.dropWhile isDig).drop 1).takeWhile isDig, ((X.dropWhile isDig).drop 1).dropWhile isDig) := by rw [hr_]; rfl
   rw [hfp_]
   exact ⟨fun _ => rfl, ow⟩
  refine SW_skip (n_then ?_)
  rw [fracP_no (by simpa using hc3)]
  exact ⟨fun _ => rfl, ow⟩
 ·rintro ρ_ σ_ hfit
  refine SW_fits hfit ?_
  clear hfit
  refine SW_seq ?_
  refine SW_seq ?_
  have hRl_ : (fracP (X.dropWhile isDig)).2.length ≤ X.length := Nat.le_trans (fracP_len _).2 (dropWhile_len _ _)
  generalize hB_ : (fracP (X.dropWhile isDig)).1 = B
  generalize hR_ : (fracP (X.dropWhile isDig)).2 = R at hRl_ ⊢
  generalize hA_ : X.takeWhile isDig = A
  refine SW_cut3 (fun ρ_ σ_ => Fits ρ_ σ_ [(2, pt b1 0), (3, .bool false), (4, pt b2 0), (0, .string (bS R))] ((b2, .cells 62 3 [.string (bS A), .string (bS B), .int .i64 0]) :: ((b1, .cells 62 3 [.string (bS []), .string (bS []), .int .i64 0]) :: ([]))) ∧ (¬ (A = [] ∧ B = []))) ?_ ?_
  ·refine SW_region ?_
   refine os 1 ?_
   refine L (ld ?_)
   refine oX (.bool ((bS A).toList == (bS []).toList)) (.bool (decide (A = []))) (congrArg Value.bool (by rw [strB_eq])) ?_
   refine os 1 ?_
   refine tbp 28 (fun hg4 => ?_) (fun hg4 => ?_)
   ·replace hg4 : A = [] := hg4
    refine os 1 ?_
    refine L (ld ?_)
    refine oX (.bool ((bS B).toList == (bS []).toList)) (.bool (decide (B = []))) (congrArg Value.bool (by rw [strB_eq])) ?_
    refine os 1 ?_
    refine kp [32, 2, 3, 4, 0] ?_
    refine nt ?_
    refine cdp (fun hc5 : B = [] => ?_) (fun hc5 => ?_)
    ·refine sr ?_
     refine L (lds 3 ?_)
     refine L (st [.string (bS A), .string (bS B), .int .i64 0] ?_)
     refine os 1 ?_
     refine nt ?_
     refine SW_ret (r_then ?_)
     refine body_endC [.agg #[.string (bS A), .string (bS B), .int .i64 0], .bool false] (fun _ => (.cons ⟨b1, 0, rfl, .inl ⟨[.string (bS A), .string (bS B), .int .i64 0], by kernel_rfl, (cells_cons (Cell.own mem_z rfl) (cells_cons (Cell.own mem_z rfl) (cells_cons (Cell.own mem_z rfl) cells_nil))), rfl⟩⟩ (.cons rfl .nil))) ?_
     exact ⟨(), ow, by rw [decP_none hA_ hB_ ⟨by assumption, by assumption⟩]; rfl⟩
    refine SW_skip (n_then ?_)
    exact ⟨⟨fun _ => rfl, ow⟩, fun q => by first | exact absurd q.1 (by assumption) | exact absurd q.2 (by assumption)⟩
   replace hg4 : ¬ (A = []) := hg4
   refine os 4 ?_
   refine kp [32, 2, 3, 4, 0] ?_
   refine nt ?_
   refine cf ?_
   refine SW_skip (n_then ?_)
   exact ⟨⟨fun _ => rfl, ow⟩, fun q => by first | exact absurd q.1 (by assumption) | exact absurd q.2 (by assumption)⟩
  ·rintro ρ_ σ_ ⟨hfit, hab_⟩
   refine SW_fits hfit ?_
   clear hfit
   refine SW_seq ?_
   refine sr ?_
   refine os 1 ?_
   refine oX (.bool ((bS R).toList == (bS []).toList)) (.bool (decide (R = []))) (congrArg Value.bool (by rw [strB_eq])) ?_
   refine nt ?_
   refine cdp (fun hc6 : R = [] => ?_) (fun hc6 => ?_)
   ·refine sr ?_
    refine L (lds 3 ?_)
    refine L (st [.string (bS A), .string (bS B), .int .i64 0] ?_)
    refine os 1 ?_
    refine nt ?_
    refine SW_ret (r_then ?_)
    refine body_endC [.agg #[.string (bS A), .string (bS B), .int .i64 0], .bool true] (fun _ => (.cons ⟨b1, 0, rfl, .inl ⟨[.string (bS A), .string (bS B), .int .i64 0], by kernel_rfl, (cells_cons (Cell.own mem_z rfl) (cells_cons (Cell.own mem_z rfl) (cells_cons (Cell.own mem_z rfl) cells_nil))), rfl⟩⟩ (.cons rfl .nil))) ?_
    exact ⟨(), ow, by rw [decP_end hA_ hB_ hR_ hab_ (by assumption)]; rfl⟩
   refine SW_skip (n_then ?_)
   refine SW_seq ?_
   refine SW_seq ?_
   have hpos_ : 0 < R.length := List.length_pos_iff.2 hc6
   obtain ⟨c, hc0_⟩ : ∃ y_, R[0]? = some y_ := ⟨_, List.getElem?_eq_getElem hpos_⟩
   have hcr_ := cons_of_at hc0_
   refine SW_cut3 (fun ρ_ σ_ => Fits ρ_ σ_ [(2, pt b1 0), (3, .bool false), (4, pt b2 0), (0, .string (bS R))] ((b2, .cells 62 3 [.string (bS A), .string (bS B), .int .i64 0]) :: ((b1, .cells 62 3 [.string (bS []), .string (bS []), .int .i64 0]) :: ([]))) ∧ (c = 101 ∨ c = 69)) ?_ ?_
   ·refine SW_region ?_
    refine os 1 ?_
    refine ixb 0 R .i64 c Tryz.underlying9 hc0_ ?_
    refine os 2 ?_
    refine tb 40 (fun hg7 => ?_) (fun hg7 => ?_)
    ·replace hg7 : ((c.toNat : Int) != 101) = true := hg7
     simp only [beq_iff_eq, bne_iff_ne, ne_eq, beq_eq_false_iff_ne, bne_eq_false_iff_eq, Classical.not_not] at hg7
     refine os 1 ?_
     refine ixb 0 R .i64 c Tryz.underlying9 hc0_ ?_
     refine os 2 ?_
     refine kp [44, 35, 2, 3, 4, 0] ?_
     refine nt ?_
     refine cd (fun hc8 : ((c.toNat : Int) != 69) = true => ?_) (fun hc8 => ?_)
     ·simp only [beq_iff_eq, bne_iff_ne, ne_eq, beq_eq_false_iff_ne, bne_eq_false_iff_eq, Classical.not_not] at hc8
      refine sr ?_
      refine L (lds 3 ?_)
      refine L (st [.string (bS A), .string (bS B), .int .i64 0] ?_)
      refine os 1 ?_
      refine nt ?_
      refine SW_ret (r_then ?_)
      refine body_endC [.agg #[.string (bS A), .string (bS B), .int .i64 0], .bool false] (fun _ => (.cons ⟨b1, 0, rfl, .inl ⟨[.string (bS A), .string (bS B), .int .i64 0], by kernel_rfl, (cells_cons (Cell.own mem_z rfl) (cells_cons (Cell.own mem_z rfl) (cells_cons (Cell.own mem_z rfl) cells_nil))), rfl⟩⟩ (.cons rfl .nil))) ?_
      exact ⟨(), ow, by rw [decP_other hA_ hB_ hR_ hab_ hcr_ ⟨fun q => by subst q; simp at *, fun q => by subst q; simp at *⟩]; rfl⟩
     simp only [beq_iff_eq, bne_iff_ne, ne_eq, beq_eq_false_iff_ne, bne_eq_false_iff_eq, Classical.not_not] at hc8
     refine SW_skip (n_then ?_)
     exact ⟨⟨fun _ => rfl, ow⟩, by first | exact .inl ((u8_eq (n := 101) (by decide)).1 (by omega)) | exact .inr ((u8_eq (n := 69) (by decide)).1 (by omega))⟩
    replace hg7 : ((c.toNat : Int) != 101) = false := hg7
    simp only [beq_iff_eq, bne_iff_ne, ne_eq, beq_eq_false_iff_ne, bne_eq_false_iff_eq, Classical.not_not] at hg7
    refine os 4 ?_
    refine kp [44, 35, 2, 3, 4, 0] ?_
    refine nt ?_
    refine cf ?_
    refine SW_skip (n_then ?_)
    exact ⟨⟨fun _ => rfl, ow⟩, by first | exact .inl ((u8_eq (n := 101) (by decide)).1 (by omega)) | exact .inr ((u8_eq (n := 69) (by decide)).1 (by omega))⟩
   ·rintro ρ_ σ_ ⟨hfit, hce_⟩
    refine SW_fits hfit ?_
    clear hfit
    refine sr ?_
    refine os 1 ?_
    refine L (O_val (.string (bS (R.drop 1))) rfl (fun δ w _ => run_strFrom (l := R) 1 .i64 Tryz.underlying9 rfl rfl (by omega) (by omega)) ?_)
    refine os 1 ?_
    refine nsr ?_
    refine os 1 ?_
    refine nq ?_
    refine SW_seq ?_
    have hrl_ : (R.drop 1).length ≤ X.length := by rw [List.length_drop]; omega
    generalize hr_ : R.drop 1 = r at hrl_ hcr_ ⊢
    refine SW_cut3 (fun ρ_ σ_ => Fits ρ_ σ_ [(2, pt b1 0), (3, .bool false), (4, pt b2 0), (0, .string (bS (wayP r).2)), (5, .int .i64 ((wayP r).1))] ((b2, .cells 62 3 [.string (bS A), .string (bS B), .int .i64 0]) :: ((b1, .cells 62 3 [.string (bS []), .string (bS []), .int .i64 0]) :: ([])))) ?_ ?_
    ·refine SW_region ?_
     refine os 1 ?_
     refine oX (.bool (!((bS r).toList == (bS []).toList))) (.bool (!(decide (r = [])))) (congrArg Value.bool (by rw [strB_eq])) ?_
     refine os 1 ?_
     refine tb 50 (fun hg9 => ?_) (fun hg9 => ?_)
     ·replace hg9 : (!(decide (r = []))) = true := hg9
      replace hg9 := bnot_t hg9
      replace hg9 := of_decide_eq_false hg9
      have hrp_ : 0 < r.length := List.length_pos_iff.2 hg9
      refine os 1 ?_
      obtain ⟨e1, he1⟩ : ∃ y_, r[0]? = some y_ := ⟨_, List.getElem?_eq_getElem (by omega)⟩
      refine ixb 0 r .i64 e1 Tryz.underlying9 he1 ?_
      refine os 2 ?_
      refine kp [54, 50, 5, 0, 2, 3, 4] ?_
      refine tb 54 (fun hg10 => ?_) (fun hg10 => ?_)
      ·replace hg10 : ((e1.toNat : Int) == 43) = true := hg10
       simp only [beq_iff_eq, bne_iff_ne, ne_eq, beq_eq_false_iff_ne, bne_eq_false_iff_eq, Classical.not_not] at hg10
       refine os 5 ?_
       refine kp [59, 5, 0, 2, 3, 4] ?_
       refine nt ?_
       refine ct ?_
       refine sr ?_
       refine os 1 ?_
       refine ixb 0 r .i64 e1 Tryz.underlying9 he1 ?_
       refine os 3 ?_
       refine kp [5, 59, 0, 2, 3, 4] ?_
       refine nr ?_
       refine os 1 ?_
       refine L (O_val (.string (bS (r.drop 1))) rfl (fun δ w _ => run_strFrom (l := r) 1 .i64 Tryz.underlying9 rfl rfl (by omega) (by omega)) ?_)
       refine os 1 ?_
       refine nt ?_
       have hw_ := wayP_hit he1 (by first | exact .inl ((u8_eq (n := 43) (by decide)).1 (by omega)) | exact .inr ((u8_eq (n := 45) (by decide)).1 (by omega)))
       rw [hw_]
       exact ⟨fun _ => rfl, ow⟩
      replace hg10 : ((e1.toNat : Int) == 43) = false := hg10
      simp only [beq_iff_eq, bne_iff_ne, ne_eq, beq_eq_false_iff_ne, bne_eq_false_iff_eq, Classical.not_not] at hg10
      refine os 1 ?_
      refine ixb 0 r .i64 e1 Tryz.underlying9 he1 ?_
      refine os 3 ?_
      refine kp [59, 5, 0, 2, 3, 4] ?_
      refine nt ?_
      refine cd (fun hc11 : ((e1.toNat : Int) == 45) = true => ?_) (fun hc11 => ?_)
      ·simp only [beq_iff_eq, bne_iff_ne, ne_eq, beq_eq_false_iff_ne, bne_eq_false_iff_eq, Classical.not_not] at hc11
       refine sr ?_
       refine os 1 ?_
       refine ixb 0 r .i64 e1 Tryz.underlying9 he1 ?_
       refine os 3 ?_
       refine kp [5, 59, 0, 2, 3, 4] ?_
       refine nr ?_
       refine os 1 ?_
       refine L (O_val (.string (bS (r.drop 1))) rfl (fun δ w _ => run_strFrom (l := r) 1 .i64 Tryz.underlying9 rfl rfl (by omega) (by omega)) ?_)
       refine os 1 ?_
       refine nt ?_
       have hw_ := wayP_hit he1 (by first | exact .inl ((u8_eq (n := 43) (by decide)).1 (by omega)) | exact .inr ((u8_eq (n := 45) (by decide)).1 (by omega)))
       rw [hw_]
       exact ⟨fun _ => rfl, ow⟩
      simp only [beq_iff_eq, bne_iff_ne, ne_eq, beq_eq_false_iff_ne, bne_eq_false_iff_eq, Classical.not_not] at hc11
      refine SW_skip (n_then ?_)
      have hw_ := wayP_miss he1 (by rintro (q | q) <;> subst q <;> simp at *)
      rw [hw_]
      exact ⟨fun _ => rfl, ow⟩
     replace hg9 : (!(decide (r = []))) = false := hg9
     replace hg9 := bnot_f hg9
     replace hg9 := of_decide_eq_true hg9
     refine os 9 ?_
     refine kp [59, 5, 0, 2, 3, 4] ?_
     refine nt ?_
     refine cf ?_
     refine SW_skip (n_then ?_)
     have hw_ : wayP r = (1, r) := by rw [hg9]; rfl
     rw [hw_]
     exact ⟨fun _ => rfl, ow⟩
    ·rintro ρ_ σ_ hfit
     refine SW_fits hfit ?_
     clear hfit
     refine SW_seq ?_
     have hQl_ : (wayP r).2.length ≤ X.length := Nat.le_trans (wayP_len r) hrl_
     have hW_ := wayP_in r
     generalize hQ_ : (wayP r).2 = Q at hQl_ ⊢
     generalize hw_ : (wayP r).1 = W at hW_ ⊢
     have hEl_ := takeWhile_len isDig Q
     have hEd_ := dropWhile_len isDig Q
     refine SW_region ?_
     refine os 1 ?_
     refine L (cl (num_figures (X := Q) (by first | omega | (simp; omega))) ?_)
     rintro _ _ rfl
     refine un ?_
     refine os 5 ?_
     refine kp [7, 6, 2, 3, 4, 0, 5] ?_
     refine nq ?_
     refine sr ?_
     refine os 1 ?_
     refine L (O_txt (bS (Q.takeWhile isDig)) Tryz.underlying9 Tryz.underlying95 Tryz.underlying5 (fun _ => rfl) rfl ?_)
     intro b12 capb12 hcapb12
     rw [bS_size] at hcapb12 ⊢
     refine os 2 ?_
     refine nt ?_
     refine SW_block ?_
     refine SW_loop (α := Nat) (fun z_ ρ_ σ_ => Fits ρ_ σ_ [(2, pt b1 0), (3, .bool false), (4, pt b2 0), (5, .int .i64 W), (6, .string (bS (Q.takeWhile isDig))), (7, .string (bS (Q.dropWhile isDig))), (72, .slice (some ⟨b12, 0, none⟩) ((Q.takeWhile isDig).length) capb12), (73, .int .i64 ((((Q.takeWhile isDig).length : Nat)) : Int)), (74, .int .i64 (z_ : Int))] ((b2, .cells 62 3 [.string (bS A), .string (bS B), .int .i64 (powN 0 ((Q.takeWhile isDig).take z_))]) :: ((b12, .txt (txtV (Q.takeWhile isDig))) :: ((b1, .cells 62 3 [.string (bS []), .string (bS []), .int .i64 0]) :: ([])))) ∧ z_ ≤ (Q.takeWhile isDig).length) (fun z_ => (Q.takeWhile isDig).length - z_) 0 ⟨⟨fun _ => rfl, (by simp only [List.take_zero, powN]; exact ow)⟩, Nat.zero_le _⟩ ?_
     rintro i ρ_ σ_ ⟨hfit, hi0⟩
     refine SW_fits hfit ?_
     clear hfit
     have hpw_ := powN_in ((Q.takeWhile isDig).take i) 0 (by omega) (fun c hc => takeWhile_dig (List.mem_of_mem_take hc))
     refine sr ?_
     refine os 1 ?_
     refine nq ?_
     refine cdp (fun hc13 : (i : Int) < ((((Q.takeWhile isDig).length : Nat)) : Int) => ?_) (fun hc13 => ?_)
     ·refine SW_skip (n_then ?_)
      refine SW_seq ?_
      refine SW_block ?_
      refine sr ?_
      refine L (O_indexAddr' (i : Int) (i) b12 0 ((Q.takeWhile isDig).length) capb12 .i64 1 Tryz.underlying95 (by kernel_rfl) (fun _ => rfl) (fun _ => rfl) (by omega) (by omega) (by omega) rfl ?_)
      obtain ⟨e2, he2⟩ : ∃ y_, (Q.takeWhile isDig)[i]? = some y_ := ⟨_, List.getElem?_eq_getElem (by omega)⟩
      refine L (ld ?_ (hc := Cell.txt (mem_c mem_z) (txt_at he2)))
      refine os 1 ?_
      refine nt ?_
      have hde_ := takeWhile_dig (List.mem_of_getElem? he2)
      refine SW_region ?_
      refine os 1 ?_
      refine L (ld ?_)
      refine os 5 ?_
      refine oV (.int .i64 (if 1099511627776 < ((powN 0 ((Q.takeWhile isDig).take i)) * 10) + ((e2.toNat : Int) - 48) then 1099511627776 else ((powN 0 ((Q.takeWhile isDig).take i)) * 10) + ((e2.toNat : Int) - 48))) ?_
      refine os 1 ?_
      refine kp [86, 85, 9, 75, 2, 3, 4, 5, 6, 7, 72, 73, 74] ?_
      refine L (st [.string (bS A), .string (bS B), .int .i64 (if 1099511627776 < ((powN 0 ((Q.takeWhile isDig).take i)) * 10) + ((e2.toNat : Int) - 48) then 1099511627776 else ((powN 0 ((Q.takeWhile isDig).take i)) * 10) + ((e2.toNat : Int) - 48))] ?_)
      refine SL_nil (n_in (n_then ?_))
      refine SW_region ?_
      refine os 2 ?_
      refine kp [74, 9, 75, 2, 3, 4, 5, 6, 7, 72, 73] ?_
      refine nt ?_
      refine ⟨i + 1, by omega, ?_, by omega⟩
      rw [powN_step he2, ← min_if]
      exact ⟨fun _ => rfl, ow⟩
     refine SW_exit (x_then (x_then (x_in (n_then ?_))))
     refine SW_seq ?_
     have hwm_ := way_mul hpw_ hW_
     refine SW_region ?_
     refine os 1 ?_
     refine L (ld ?_)
     refine os 3 ?_
     refine L (st [.string (bS A), .string (bS B), .int .i64 ((powN 0 ((Q.takeWhile isDig).take i)) * W)] ?_)
     refine nsr ?_
     refine L (lds 3 ?_)
     refine os 1 ?_
     refine oX (.bool (!((bS (Q.takeWhile isDig)).toList == (bS []).toList))) (.bool (!(decide ((Q.takeWhile isDig) = [])))) (congrArg Value.bool (by rw [strB_eq])) ?_
     refine os 1 ?_
     refine kp [96, 93, 75, 2, 3, 4, 5, 6, 7, 72, 73, 74] ?_
     refine tb 96 (fun hg14 => ?_) (fun hg14 => ?_)
     ·replace hg14 : (!(decide ((Q.takeWhile isDig) = []))) = true := hg14
      replace hg14 := bnot_t hg14
      replace hg14 := of_decide_eq_false hg14
      refine os 1 ?_
      refine oX (.bool ((bS (Q.dropWhile isDig)).toList == (bS []).toList)) (.bool (decide ((Q.dropWhile isDig) = []))) (congrArg Value.bool (by rw [strB_eq])) ?_
      refine os 1 ?_
      refine L (st [.string (bS A), .string (bS B), .int .i64 ((powN 0 ((Q.takeWhile isDig).take i)) * W)] ?_)
      refine os 1 ?_
      refine kp [3, 75, 2, 4, 5, 6, 7, 72, 73, 74] ?_
      refine nt ?_
      refine SW_ret ?_
      refine body_endC [.agg #[.string (bS A), .string (bS B), .int .i64 ((powN 0 ((Q.takeWhile isDig).take i)) * W)], .bool (decide ((Q.dropWhile isDig) = []))] (fun _ => (.cons ⟨b1, 0, rfl, .inl ⟨[.string (bS A), .string (bS B), .int .i64 ((powN 0 ((Q.takeWhile isDig).take i)) * W)], by kernel_rfl, (cells_cons (Cell.own mem_z rfl) (cells_cons (Cell.own mem_z rfl) (cells_cons (Cell.own mem_z rfl) cells_nil))), rfl⟩⟩ (.cons rfl .nil))) ?_
      have hin_ : i = (Q.takeWhile isDig).length := by omega
      refine ⟨(), ow, ?_⟩
      rw [decP_pow hA_ hB_ hR_ hab_ hcr_ hce_, hw_, hQ_]
      exact num_eq (by rw [hin_, List.take_length]) (decide_eq_decide.2 ⟨fun q => ⟨hg14, q⟩, fun q => q.2⟩)
     replace hg14 : (!(decide ((Q.takeWhile isDig) = []))) = false := hg14
     replace hg14 := bnot_f hg14
     replace hg14 := of_decide_eq_true hg14
     refine os 3 ?_
     refine L (st [.string (bS A), .string (bS B), .int .i64 ((powN 0 ((Q.takeWhile isDig).take i)) * W)] ?_)
     refine os 1 ?_
     refine kp [3, 75, 2, 4, 5, 6, 7, 72, 73, 74] ?_
     refine nt ?_
     refine SW_ret ?_
     refine body_endC [.agg #[.string (bS A), .string (bS B), .int .i64 ((powN 0 ((Q.takeWhile isDig).take i)) * W)], .bool false] (fun _ => (.cons ⟨b1, 0, rfl, .inl ⟨[.string (bS A), .string (bS B), .int .i64 ((powN 0 ((Q.takeWhile isDig).take i)) * W)], by kernel_rfl, (cells_cons (Cell.own mem_z rfl) (cells_cons (Cell.own mem_z rfl) (cells_cons (Cell.own mem_z rfl) cells_nil))), rfl⟩⟩ (.cons rfl .nil))) ?_
     have hin_ : i = (Q.takeWhile isDig).length := by omega
     refine ⟨(), ow, ?_⟩
     rw [decP_pow hA_ hB_ hR_ hab_ hcr_ hce_, hw_, hQ_]
     exact num_eq (by rw [hin_, List.take_length]) (decide_eq_false fun q => q.1 hg14).symm

end Go.Proofs.YtnhmmjogfkjceaaGreatDoor
namespace Go.Proofs.YtnhmmjogfkjceaaGreatDoor
open Go.Sl

theorem num_tensZ {W0 : World} {a : Gs} {a0 n : Nat} {z : Int} (hz : z = (n : Int)) (hk : Gs.ok 1 (lim a0).length a ((lim a0).map encP)) (hb : (lim (a0 * 10 ^ n)).length ≤ 1048576) (hn : n ≤ 1048576) : SC Tryz.prog W0 92 #[a.val (lim a0).length, .int .i64 z] (Gs.ent 87 1 a ((lim a0).map encP)) (Ret (fun g : Gs => Gs.ent 87 1 g ((lim (a0 * 10 ^ n)).map encP)) (fun v g => v = g.val (lim (a0 * 10 ^ n)).length ∧ Gs.ok 1 (lim (a0 * 10 ^ n)).length g ((lim (a0 * 10 ^ n)).map encP))) := by
 subst hz; exact num_tens hk hb hn

theorem num_nearest {W0 : World} {A B : Bytes} {p : Int} (hl : A.length + B.length ≤ 4611686018427387904) (hd : ∀ c ∈ A ++ B, 48 ≤ c.toNat ∧ c.toNat ≤ 57) (hp : -1099511627776 ≤ p ∧ p ≤ 1099511627776) : SC Tryz.prog W0 43 #[.agg #[.string (bS A), .string (bS B), .int .i64 p]] [] (Ret (fun _ : Unit => []) (fun v _ => v = .int .u64 (nearestP ⟨A, B, p⟩ : Int))) := by
 refine SC_body (fn := Tryz.f43) (n := 63) Tryz.func43 rfl (by kernel_rfl) (ρ := [(0, .agg #[.string (bS A), .string (bS B), .int .i64 p])]) rfl ?_
 refine sr ?_
 refine L (nw 62 3 [.string (bS A), .string (bS B), .int .i64 p] ?_)
 intro b1
 refine os 1 ?_
 refine nsr ?_
 refine os 1 ?_
 refine L (ld ?_)
 refine os 1 ?_
 refine L (ld ?_)
 refine oV (.string (bS (A ++ B))) ?_ (hs := (fun δ w_ => run_catB A B (by first | omega | (simp; omega)) rfl rfl))
 refine L (cl (str_TrimLeft (A ++ B) [48] (by decide) (by decide)) ?_)
 rintro v1 _ hv1
 obtain rfl : v1 = .string (bS ((A ++ B).dropWhile (· == 48))) := hv1.trans (congrArg (fun l_ => Value.string (bS l_)) (trimLeft_0 (A ++ B)))
 refine un ?_
 refine os 1 ?_
 refine kp [3, 2, 1, 0] ?_
 refine nq ?_
 have hLl_ : ((A ++ B).dropWhile (· == 48)).length ≤ A.length + B.length := Nat.le_trans (dropWhile_len _ _) (by simp)
 have hLd_ : ∀ c ∈ ((A ++ B).dropWhile (· == 48)), 48 ≤ c.toNat ∧ c.toNat ≤ 57 := fun c hc => hd c ((List.dropWhile_sublist _).subset hc)
 generalize hL_ : (A ++ B).dropWhile (· == 48) = Y at hLl_ hLd_ ⊢
 refine SW_region ?_
 refine os 1 ?_
 refine L (ld ?_)
 refine os 1 ?_
 refine L (ld ?_)
 refine oX (.int .i64 ((bS B).size : Int)) (.int .i64 (B.length : Int)) (congrArg (fun n_ : Nat => Value.int .i64 (n_ : Int)) (bS_size _)) ?_
 refine os 2 ?_
 refine kp [4, 3, 2, 1, 0] ?_
 refine nq ?_
 refine SW_seq ?_
 generalize hP_ : p - (B.length : Int) = P
 have hPr_ : -1099511627776 - (B.length : Int) ≤ P ∧ P ≤ 1099511627776 := by omega
 refine SW_cut3 (fun ρ_ σ_ => Fits ρ_ σ_ [(2, .int .u64 0), (3, .string (bS (cutD Y P).1)), (4, .int .i64 ((cutD Y P).2))] ([])) ?_ ?_
 ·refine SW_region ?_
  refine os 1 ?_
  refine oX (.int .i64 ((bS Y).size : Int)) (.int .i64 (Y.length : Int)) (congrArg (fun n_ : Nat => Value.int .i64 (n_ : Int)) (bS_size _)) ?_
  refine os 1 ?_
  refine nt ?_
  refine cdp (fun hc2 : (Y.length : Int) > 800 => ?_) (fun hc2 => ?_)
  ·refine sr ?_
   refine os 1 ?_
   refine L (O_val (.string (bS (Y.drop 800))) rfl (fun δ w _ => run_strFrom (l := Y) 800 .i64 Tryz.underlying9 rfl rfl (by omega) (by omega)) ?_)
   refine L (cl (str_Trim (Y.drop 800) [48] (by first | omega | (simp; omega)) (by decide) (by decide)) ?_)
   rintro _ _ rfl
   refine un ?_
   refine oX (.bool (!((bS (Lib.trimS (Y.drop 800) [48])).toList == (bS []).toList))) (.bool (!(decide ((Lib.trimS (Y.drop 800) [48]) = [])))) (congrArg Value.bool (by rw [strB_eq])) ?_
   refine os 1 ?_
   refine kp [5, 21, 2, 3, 4] ?_
   refine nsr ?_
   refine os 2 ?_
   refine oX (.int .i64 ((bS Y).size : Int)) (.int .i64 (Y.length : Int)) (congrArg (fun n_ : Nat => Value.int .i64 (n_ : Int)) (bS_size _)) ?_
   refine os 3 ?_
   refine kp [4, 5, 21, 2, 3] ?_
   refine nsr ?_
   refine os 1 ?_
   refine L (O_val (.string (bS (Y.take 800))) rfl (fun δ w _ => run_strTo (l := Y) 800 .i64 Tryz.underlying9 rfl rfl (by omega) (by omega)) ?_)
   refine os 1 ?_
   refine nsr ?_
   refine os 1 ?_
   refine nt ?_
   refine cd (fun hc3 : (!(decide ((Lib.trimS (Y.drop 800) [48]) = []))) = true => ?_) (fun hc3 => ?_)
   ·replace hc3 := bnot_t hc3
    replace hc3 := of_decide_eq_false hc3
    refine sr ?_
    refine os 1 ?_
    refine oV (.string (bS ((Y.take 800) ++ [49]))) ?_ (hs := (fun δ w_ => run_catB (Y.take 800) [49] (by first | omega | (simp; omega)) rfl rfl))
    refine os 1 ?_
    refine kp [3, 33, 4, 5, 21, 2] ?_
    refine nr ?_
    refine os 3 ?_
    refine nt ?_
    rw [cutD_more (by omega) hc3]
    exact ⟨fun _ => rfl, ow⟩
   replace hc3 := bnot_f hc3
   replace hc3 := of_decide_eq_true hc3
   refine SW_skip (n_then ?_)
   rw [cutD_cut (by omega) hc3]
   exact ⟨fun _ => rfl, ow⟩
  refine SW_skip (n_then ?_)
  rw [cutD_no (L := Y) (by omega)]
  exact ⟨fun _ => rfl, ow⟩
 ·rintro ρ_ σ_ hfit
  refine SW_fits hfit ?_
  clear hfit
  refine SW_seq ?_
  refine SW_seq ?_
  have hcf_ := cutD_facts (P := P) hLd_
  generalize hc1_ : (cutD Y P).1 = M at hcf_ ⊢
  generalize hc2_ : (cutD Y P).2 = q at hcf_ ⊢
  obtain ⟨hMl_, hMd_, hq1_, hq2_⟩ := hcf_
  refine SW_region ?_
  refine os 1 ?_
  refine oX (.int .i64 ((bS M).size : Int)) (.int .i64 (M.length : Int)) (congrArg (fun n_ : Nat => Value.int .i64 (n_ : Int)) (bS_size _)) ?_
  refine os 3 ?_
  refine kp [6, 2, 3, 4] ?_
  refine nt ?_
  refine SW_block ?_
  refine sr ?_
  refine os 1 ?_
  refine oX (.bool ((bS M).toList == (bS []).toList)) (.bool (decide (M = []))) (congrArg Value.bool (by rw [strB_eq])) ?_
  refine os 1 ?_
  refine tbp 45 (fun hg4 => ?_) (fun hg4 => ?_)
  ·replace hg4 : M = [] := hg4
   refine os 4 ?_
   refine kp [42, 6, 2, 3, 4] ?_
   refine nt ?_
   refine ct ?_
   refine sr ?_
   refine os 1 ?_
   refine nt ?_
   refine SW_ret (r_in (r_then ?_))
   refine body_end (.int .u64 0) (fun _ => rfl) ?_
   exact ⟨(), ow, congrArg (Value.int .u64) (by rw [nearestP_eq hL_ hP_ hc1_ hc2_, nearD_none (by first | exact .inl (by assumption) | exact .inr (by omega))]; rfl)⟩
  replace hg4 : ¬ (M = []) := hg4
  refine os 4 ?_
  refine kp [42, 6, 2, 3, 4] ?_
  refine nt ?_
  refine cdp (fun hc5 : ((M.length : Int) + q) < (-330) => ?_) (fun hc5 => ?_)
  ·refine sr ?_
   refine os 1 ?_
   refine nt ?_
   refine SW_ret (r_in (r_then ?_))
   refine body_end (.int .u64 0) (fun _ => rfl) ?_
   exact ⟨(), ow, congrArg (Value.int .u64) (by rw [nearestP_eq hL_ hP_ hc1_ hc2_, nearD_none (by first | exact .inl (by assumption) | exact .inr (by omega))]; rfl)⟩
  refine sr ?_
  refine os 3 ?_
  refine nt ?_
  refine cdp (fun hc6 : ((M.length : Int) + q) > 310 => ?_) (fun hc6 => ?_)
  ·refine sr ?_
   refine os 1 ?_
   refine nt ?_
   refine SW_ret (r_in (r_then ?_))
   refine body_end (.int .u64 9218868437227405312) (fun _ => rfl) ?_
   exact ⟨(), ow, congrArg (Value.int .u64) (by rw [nearestP_eq hL_ hP_ hc1_ hc2_, nearD_inf (by assumption) (by omega) (by omega)]; rfl)⟩
  refine SW_skip (n_in (n_then ?_))
  refine sr ?_
  refine os 1 ?_
  refine L (cl (num_of (X := M) hMd_ (len_mono (Nat.le_of_lt (ofD_lt _ _ rfl hMd_)) (len_bits (Nat.le_trans (bitsN_ten (Nat.le_refl _)) (by omega)))) (by omega)) ?_)
  rintro _ u7 ⟨rfl, hku7⟩
  refine os 1 ?_
  refine oV (.int .i64 (if 0 > q then 0 else q)) ?_
  refine L (cl (num_tensZ (n := (q).toNat) (max0_eq _) hku7 (len_bits (Nat.le_trans (bitsN_ten (ofD_tens hMd_ hMl_)) (by omega))) (by omega)) ?_)
  rintro _ u8 ⟨rfl, hku8⟩
  have hsm_ := num_small (W0 := W0) (n := 1) (by decide)
  refine L (cl (hsm_) ?_)
  rintro _ u9 ⟨rfl, hku9⟩
  refine os 1 ?_
  refine oX (.int .i64 (IntKind.wrap .i64 (0 - q))) (.int .i64 (-q)) (congrArg (Value.int .i64) ((IntWalk.i64_in _ (by omega)).trans (Int.zero_sub _))) ?_
  refine oV (.int .i64 (if 0 > -q then 0 else -q)) ?_
  refine kp [60, 57, 56, 49, 42, 6, 2, 3, 4] ?_
  refine L (cl (num_tensZ (n := (-q).toNat) (max0_eq _) hku9 (len_bits (Nat.le_trans (bitsN_ten (one_tens _)) (by omega))) (by omega)) ?_)
  rintro _ u10 ⟨rfl, hku10⟩
  refine L (cl (num_rounded (p0 := (ofD M) * 10 ^ ((q).toNat)) (q0 := 1 * 10 ^ ((-q).toNat)) hku8 hku10 (Nat.le_trans (bitsN_ten (ofD_tens hMd_ hMl_)) (by omega)) (Nat.le_trans (bitsN_ten (one_tens _)) (by omega))) ?_)
  rintro _ _ rfl
  refine un ?_
  refine os 1 ?_
  refine kp [2, 49, 42, 6, 3, 4] ?_
  refine nt ?_
  refine SW_ret ?_
  refine body_end (.int .u64 (roundN ((ofD M) * 10 ^ ((q).toNat)) (1 * 10 ^ ((-q).toNat)) : Int)) (fun _ => rfl) ?_
  exact ⟨(), ow, congrArg (Value.int .u64) (by rw [nearestP_eq hL_ hP_ hc1_ hc2_, nearD_some (by assumption) (by omega) (by omega)])⟩

theorem num_hex {W0 : World} {X : Bytes} (hX : X.length ≤ 1152921504606846976) : SC Tryz.prog W0 40 #[.string (bS X)] [] (Ret (fun _ : Unit => []) (fun v _ => v = .tuple #[.int .u64 ((hexP X).1 : Int), .bool (hexP X).2])) := by
 refine SC_body (fn := Tryz.f40) (n := 59) Tryz.func40 rfl (by kernel_rfl) (ρ := [(0, .string (bS X))]) rfl ?_
 refine sr ?_
 refine os 2 ?_
 refine nsr ?_
 refine os 3 ?_
 refine nq ?_
 refine sr ?_
 refine os 1 ?_
 refine L (O_txt (bS X) Tryz.underlying9 Tryz.underlying95 Tryz.underlying5 (fun _ => rfl) rfl ?_)
 intro b1 capb1 hcapb1
 rw [bS_size] at hcapb1 ⊢
 refine os 2 ?_
 refine nt ?_
 refine SW_block ?_
 refine SW_loop (α := Nat × Nat × Int × Bool) (fun z_ ρ_ σ_ => Fits ρ_ σ_ [(0, .string (bS X)), (2, .int .u64 0), (3, .bool false), (11, .slice (some ⟨b1, 0, none⟩) X.length capb1), (12, .int .i64 (X.length : Int)), (4, .int .u64 (z_.2.1 : Int)), (5, .int .i64 z_.2.2.1), (6, .bool z_.2.2.2), (13, .int .i64 (z_.1 : Int))] ((b1, .txt (txtV X)) :: ([])) ∧ z_.1 ≤ X.length ∧ (z_.2.1 < 18446744073709551616 ∧ 0 ≤ z_.2.2.1 ∧ z_.2.2.1 ≤ 4 * (z_.1 : Int)) ∧ hexGo z_.2.1 z_.2.2.1 z_.2.2.2 (X.drop z_.1) = hexGo 0 0 false X) (fun z_ => X.length - z_.1) (0, 0, 0, false) ⟨⟨fun _ => rfl, ow⟩, Nat.zero_le _, ⟨(show 0 < 18446744073709551616 by decide), Int.le_refl _, (show (0 : Int) ≤ 4 * ((0 : Nat) : Int) by decide)⟩, by simp⟩ ?_
 rintro ⟨i, m, x, b⟩ ρ_ σ_ ⟨hfit, hi0, hi1, hi2⟩
 refine SW_fits hfit ?_
 clear hfit
 simp only [] at hi0 hi1 hi2 ⊢
 obtain ⟨hm_, hx0_, hx1_⟩ := hi1
 refine sr ?_
 refine os 1 ?_
 refine nq ?_
 refine cdp (fun hc2 : (i : Int) < (X.length : Int) => ?_) (fun hc2 => ?_)
 ·refine SW_skip (n_then ?_)
  refine SW_seq ?_
  refine SW_block ?_
  refine sr ?_
  refine L (O_indexAddr' (i : Int) (i) b1 0 X.length capb1 .i64 1 Tryz.underlying95 (by kernel_rfl) (fun _ => rfl) (fun _ => rfl) (by omega) (by omega) (by omega) rfl ?_)
  obtain ⟨e1, he1⟩ : ∃ y_, X[i]? = some y_ := ⟨_, List.getElem?_eq_getElem (by omega)⟩
  refine L (ld ?_ (hc := Cell.txt mem_z (txt_at he1)))
  refine os 1 ?_
  refine nsr ?_
  refine os 1 ?_
  refine oV (.int .u8 ((e1 ||| 32).toNat : Int)) ?_ (hs := or8R (m := (e1.toNat : Int)) (c := 32) _ (or8 e1))
  refine L (cl (str_IndexByte [48, 49, 50, 51, 52, 53, 54, 55, 56, 57, 97, 98, 99, 100, 101, 102] (e1 ||| 32)) ?_)
  rintro v1 _ hv1
  obtain rfl : v1 = .int .i64 (Lib.indexByte nibs (e1 ||| 32)) := hv1.trans (rfl)
  refine un ?_
  refine os 1 ?_
  refine kp [9, 8, 14, 0, 2, 3, 11, 12, 4, 5, 6, 13] ?_
  refine nq ?_
  refine SW_seq ?_
  rw [drop_at he1] at hi2
  refine SW_cut3 (fun ρ_ σ_ => Fits ρ_ σ_ [(0, .string (bS X)), (2, .int .u64 0), (3, .bool false), (4, .int .u64 (m : Int)), (5, .int .i64 x), (6, .bool b), (11, .slice (some ⟨b1, 0, none⟩) X.length capb1), (12, .int .i64 (X.length : Int)), (13, .int .i64 (i : Int)), (9, .int .i64 (Lib.indexByte nibs (e1 ||| 32)))] ((b1, .txt (txtV X)) :: ([])) ∧ (hexD e1 = some (Lib.indexByte nibs (e1 ||| 32)).toNat ∧ 0 ≤ (Lib.indexByte nibs (e1 ||| 32)))) ?_ ?_
  ·refine SW_region ?_
   refine os 3 ?_
   refine tbp 22 (fun hg3 => ?_) (fun hg3 => ?_)
   ·replace hg3 : (e1.toNat : Int) < 48 := hg3
    refine os 14 ?_
    refine kp [36, 9, 8, 14, 0, 2, 3, 11, 12, 4, 5, 6, 13] ?_
    refine nt ?_
    refine ct ?_
    refine sr ?_
    refine os 2 ?_
    refine nt ?_
    refine SW_ret (r_then (r_in (r_then (r_then (r_in (r_then ?_))))))
    refine body_end (.tuple #[.int .u64 0, .bool false]) (fun _ => rfl) ?_
    rw [hexGo_none (hexD_none (by first | exact .inl (by omega) | exact .inr (.inl (by omega)) | exact .inr (.inr ⟨by omega, by omega⟩)))] at hi2
    exact ⟨(), ow, by rw [hexP_none hi2.symm]; rfl⟩
   replace hg3 : ¬ ((e1.toNat : Int) < 48) := hg3
   refine os 4 ?_
   refine kp [26, 9, 8, 14, 0, 2, 3, 11, 12, 4, 5, 6, 13] ?_
   refine tbp 26 (fun hg4 => ?_) (fun hg4 => ?_)
   ·replace hg4 : (Lib.indexByte nibs (e1 ||| 32)) < 0 := hg4
    refine os 10 ?_
    refine kp [36, 9, 8, 14, 0, 2, 3, 11, 12, 4, 5, 6, 13] ?_
    refine nt ?_
    refine ct ?_
    refine sr ?_
    refine os 2 ?_
    refine nt ?_
    refine SW_ret (r_then (r_in (r_then (r_then (r_in (r_then ?_))))))
    refine body_end (.tuple #[.int .u64 0, .bool false]) (fun _ => rfl) ?_
    rw [hexGo_none (hexD_none (by first | exact .inl (by omega) | exact .inr (.inl (by omega)) | exact .inr (.inr ⟨by omega, by omega⟩)))] at hi2
    exact ⟨(), ow, by rw [hexP_none hi2.symm]; rfl⟩
   replace hg4 : ¬ ((Lib.indexByte nibs (e1 ||| 32)) < 0) := hg4
   refine os 3 ?_
   refine tbp 29 (fun hg5 => ?_) (fun hg5 => ?_)
   ·replace hg5 : (Lib.indexByte nibs (e1 ||| 32)) < 10 := hg5
    refine os 7 ?_
    refine kp [36, 9, 8, 14, 0, 2, 3, 11, 12, 4, 5, 6, 13] ?_
    refine nt ?_
    refine cd (fun hc6 : ((e1.toNat : Int) != (48 + (Lib.indexByte nibs (e1 ||| 32)))) = true => ?_) (fun hc6 => ?_)
    ·simp only [beq_iff_eq, bne_iff_ne, ne_eq, beq_eq_false_iff_ne, bne_eq_false_iff_eq, Classical.not_not] at hc6
     refine sr ?_
     refine os 2 ?_
     refine nt ?_
     refine SW_ret (r_then (r_in (r_then (r_then (r_in (r_then ?_))))))
     refine body_end (.tuple #[.int .u64 0, .bool false]) (fun _ => rfl) ?_
     rw [hexGo_none (hexD_none (by first | exact .inl (by omega) | exact .inr (.inl (by omega)) | exact .inr (.inr ⟨by omega, by omega⟩)))] at hi2
     exact ⟨(), ow, by rw [hexP_none hi2.symm]; rfl⟩
    simp only [beq_iff_eq, bne_iff_ne, ne_eq, beq_eq_false_iff_ne, bne_eq_false_iff_eq, Classical.not_not] at hc6
    refine SW_skip (n_then ?_)
    exact ⟨⟨fun _ => rfl, ow⟩, hexD_some (by rintro (q | q | ⟨q1, q2⟩) <;> omega), by omega⟩
   replace hg5 : ¬ ((Lib.indexByte nibs (e1 ||| 32)) < 10) := hg5
   refine os 7 ?_
   refine kp [36, 9, 8, 14, 0, 2, 3, 11, 12, 4, 5, 6, 13] ?_
   refine nt ?_
   refine cf ?_
   refine SW_skip (n_then ?_)
   exact ⟨⟨fun _ => rfl, ow⟩, hexD_some (by rintro (q | q | ⟨q1, q2⟩) <;> omega), by omega⟩
  ·rintro ρ_ σ_ ⟨hfit, ⟨hxd_, hx9_⟩⟩
   refine SW_fits hfit ?_
   clear hfit
   refine SW_seq ?_
   refine SW_seq ?_
   have hnl_ := nib_lt (e1 ||| 32)
   obtain ⟨d, hd_⟩ := Int.eq_ofNat_of_zero_le hx9_
   rw [hd_] at hxd_ hnl_ ⊢
   rw [Int.toNat_natCast] at hxd_
   refine SW_region ?_
   refine os 1 ?_
   refine oX (.int .u64 (Int.fdiv (m : Int) 1152921504606846976)) (.int .u64 ((m : Int) / 1152921504606846976)) (congrArg (Value.int .u64) (Int.fdiv_eq_ediv_of_nonneg _ (by omega))) ?_
   refine os 1 ?_
   refine nt ?_
   refine cd (fun hc7 : (((m : Int) / 1152921504606846976) == 0) = true => ?_) (fun hc7 => ?_)
   ·simp only [beq_iff_eq, bne_iff_ne, ne_eq, beq_eq_false_iff_ne, bne_eq_false_iff_eq, Classical.not_not] at hc7
    refine sr ?_
    refine os 1 ?_
    refine oV (.int .u64 ((m * 16 : Nat) : Int)) ?_ (hs := shlR (m := (m : Int)) (c := 4) _ (by decide) (shl_nib m (by omega)))
    refine os 2 ?_
    refine oV (.int .u64 ((m * 16 + d : Nat) : Int)) ?_ (hs := orR (m := ((m * 16 : Nat) : Int)) (c := (d : Int)) _ (or_nib (by omega) (by omega)))
    refine os 1 ?_
    refine kp [4, 39, 0, 2, 3, 5, 6, 11, 12, 13, 9] ?_
    refine nt ?_
    refine SW_exit (x_then (x_in (n_then ?_)))
    refine SW_region ?_
    refine os 2 ?_
    refine nt ?_
    rw [hexGo_in hxd_ (by omega)] at hi2
    exact ⟨(i + 1, m * 16 + d, x, b), by simp only []; omega, ⟨fun _ => rfl, ow⟩, by simp only []; omega, ⟨by simp only []; omega, by simp only []; omega, by simp only []; omega⟩, hi2⟩
   simp only [beq_iff_eq, bne_iff_ne, ne_eq, beq_eq_false_iff_ne, bne_eq_false_iff_eq, Classical.not_not] at hc7
   refine SW_skip (n_then ?_)
   refine sr ?_
   refine os 3 ?_
   refine kp [5, 39, 0, 2, 3, 4, 6, 11, 12, 13, 9] ?_
   refine nr ?_
   refine os 2 ?_
   refine tb 48 (fun hg8 => ?_) (fun hg8 => ?_)
   ·replace hg8 : b = true := hg8
    refine os 4 ?_
    refine kp [6, 5, 39, 0, 2, 3, 4, 11, 12, 13, 9] ?_
    refine SL_nil (n_in (n_then ?_))
    refine SW_region ?_
    refine os 2 ?_
    refine nt ?_
    rw [hexGo_out hxd_ (by omega), show (b || decide (0 < d)) = true from by simp [hg8]] at hi2
    exact ⟨(i + 1, m, x + 4, true), by simp only []; omega, ⟨fun _ => rfl, ow⟩, by simp only []; omega, ⟨by simp only []; omega, by simp only []; omega, by simp only []; omega⟩, hi2⟩
   replace hg8 : b = false := hg8
   refine os 4 ?_
   refine kp [6, 5, 39, 0, 2, 3, 4, 11, 12, 13, 9] ?_
   refine SL_nil (n_in (n_then ?_))
   refine SW_region ?_
   refine os 2 ?_
   refine nt ?_
   rw [hexGo_out hxd_ (by omega), show (b || decide (0 < d)) = decide ((d : Int) > 0) from by simp [hg8]] at hi2
   exact ⟨(i + 1, m, x + 4, decide ((d : Int) > 0)), by simp only []; omega, ⟨fun _ => rfl, ow⟩, by simp only []; omega, ⟨by simp only []; omega, by simp only []; omega, by simp only []; omega⟩, hi2⟩
 refine SW_exit (x_then (x_then (x_in (n_then ?_))))
 refine sr ?_
 refine os 3 ?_
 refine L (cl (num_Near (m := m) (by omega)) ?_)
 rintro _ _ rfl
 refine un ?_
 refine os 1 ?_
 refine oX (.bool (!((bS X).toList == (bS []).toList))) (.bool (!(decide (X = [])))) (congrArg Value.bool (by rw [strB_eq])) ?_
 refine os 2 ?_
 refine kp [3, 2, 14, 0, 11, 12, 4, 5, 6, 13] ?_
 refine nt ?_
 refine SW_ret ?_
 refine body_end (.tuple #[.int .u64 (nearN m x b : Int), .bool (!(decide (X = [])))]) (fun _ => rfl) ?_
 have hin_ : i = X.length := by omega
 rw [hin_, List.drop_length] at hi2
 exact ⟨(), ow, by rw [hexP_some hi2.symm]; simp⟩

end Go.Proofs.YtnhmmjogfkjceaaGreatDoor
namespace Go.Proofs.YtnhmmjogfkjceaaGreatDoor
open Go.Sl

theorem num_Literal {W0 : World} {X : Bytes} (hX : X.length ≤ 1152921504606846976) : SC Tryz.prog W0 15 #[.string (bS X)] [] (Ret (fun _ : Unit => []) (fun v _ => v = .tuple #[.int .u64 ((litP X).1 : Int), .bool (litP X).2])) := by
 refine SC_body (fn := Tryz.f15) (n := 50) Tryz.func15 rfl (by kernel_rfl) (ρ := [(0, .string (bS X))]) rfl ?_
 refine sr ?_
 refine os 2 ?_
 refine nq ?_
 refine sr ?_
 refine os 1 ?_
 refine L (cl (str_HasPrefix X [48, 120]) ?_)
 rintro _ _ rfl
 refine un ?_
 refine nt ?_
 refine cd (fun hc1 : (Lib.hasPrefix X [48, 120]) = true => ?_) (fun hc1 => ?_)
 ·refine SW_seq ?_
  have hpl_ : 2 ≤ X.length := pre_len hc1
  refine SW_region ?_
  refine os 1 ?_
  refine L (O_val (.string (bS (X.drop 2))) rfl (fun δ w _ => run_strFrom (l := X) 2 .i64 Tryz.underlying9 rfl rfl (by omega) (by omega)) ?_)
  refine L (cl (num_hex (X := (X.drop 2)) (by first | omega | (simp; omega))) ?_)
  rintro _ _ rfl
  refine un ?_
  refine os 4 ?_
  refine kp [3, 2, 8, 0] ?_
  refine nt ?_
  refine SW_ret (r_then ?_)
  refine body_end (.tuple #[.int .u64 ((hexP (X.drop 2)).1 : Int), .bool ((hexP (X.drop 2)).2)]) (fun _ => rfl) ?_
  exact ⟨(), ow, by rw [litP_hex hc1]⟩
 refine SW_skip (n_then ?_)
 refine sr ?_
 refine os 1 ?_
 refine L (cl (num_decimal (X := X) (by omega)) ?_)
 rintro v3 _ hv3
 obtain rfl : v3 = .tuple #[.agg #[.string (bS (decP X).1.ahead), .string (bS (decP X).1.behind), .int .i64 ((decP X).1.power)], .bool ((decP X).2)] := hv3.trans (rfl)
 refine un ?_
 refine os 3 ?_
 refine L (nw 62 3 [.string (bS []), .string (bS []), .int .i64 0] ?_)
 intro b2
 refine L (st [.string (bS (decP X).1.ahead), .string (bS (decP X).1.behind), .int .i64 ((decP X).1.power)] ?_)
 refine os 1 ?_
 refine kp [5, 4, 8, 3, 2, 0] ?_
 refine nsr ?_
 refine os 1 ?_
 refine L (cl (str_Contains1 X 46) ?_)
 rintro v4 _ hv4
 obtain rfl : v4 = .bool (decide (46 ∈ X)) := hv4.trans (by rw [has_dot])
 refine un ?_
 refine os 1 ?_
 refine nq ?_
 refine SW_seq ?_
 refine SW_cut3 (fun ρ_ σ_ => Fits ρ_ σ_ [(4, pt b2 0)] ((b2, .cells 62 3 [.string (bS (decP X).1.ahead), .string (bS (decP X).1.behind), .int .i64 ((decP X).1.power)]) :: ([])) ∧ (¬ litBad X)) ?_ ?_
 ·refine SW_region ?_
  refine os 3 ?_
  refine tb 23 (fun hg3 => ?_) (fun hg3 => ?_)
  ·replace hg3 : (!((decP X).2)) = true := hg3
   replace hg3 := bnot_t hg3
   refine os 24 ?_
   refine kp [47, 6, 5, 4, 8, 3, 2, 0] ?_
   refine nt ?_
   refine ct ?_
   refine sr ?_
   refine os 2 ?_
   refine nt ?_
   refine SW_ret (r_then ?_)
   refine body_end (.tuple #[.int .u64 0, .bool false]) (fun _ => rfl) ?_
   exact ⟨(), ow, by rw [litP_bad (by simpa using hc1) (by unfold litBad; first | exact .inl (by assumption) | exact .inr (.inl (by assumption)) | exact .inr (.inr (.inl ⟨by assumption, by assumption⟩)) | exact .inr (.inr (.inr ⟨by omega, head_c (by assumption) (by omega)⟩)))]; rfl⟩
  replace hg3 : (!((decP X).2)) = false := hg3
  replace hg3 := bnot_f hg3
  refine os 1 ?_
  refine L (ld ?_)
  refine oX (.bool ((bS (decP X).1.ahead).toList == (bS []).toList)) (.bool (decide ((decP X).1.ahead = []))) (congrArg Value.bool (by rw [strB_eq])) ?_
  refine os 2 ?_
  refine kp [28, 6, 5, 4, 8, 3, 2, 0] ?_
  refine tbp 28 (fun hg4 => ?_) (fun hg4 => ?_)
  ·replace hg4 : (decP X).1.ahead = [] := hg4
   refine os 19 ?_
   refine kp [47, 6, 5, 4, 8, 3, 2, 0] ?_
   refine nt ?_
   refine ct ?_
   refine sr ?_
   refine os 2 ?_
   refine nt ?_
   refine SW_ret (r_then ?_)
   refine body_end (.tuple #[.int .u64 0, .bool false]) (fun _ => rfl) ?_
   exact ⟨(), ow, by rw [litP_bad (by simpa using hc1) (by unfold litBad; first | exact .inl (by assumption) | exact .inr (.inl (by assumption)) | exact .inr (.inr (.inl ⟨by assumption, by assumption⟩)) | exact .inr (.inr (.inr ⟨by omega, head_c (by assumption) (by omega)⟩)))]; rfl⟩
  replace hg4 : ¬ ((decP X).1.ahead = []) := hg4
  refine os 2 ?_
  refine tbp 30 (fun hg5 => ?_) (fun hg5 => ?_)
  ·replace hg5 : 46 ∈ X := hg5
   refine os 1 ?_
   refine L (ld ?_)
   refine oX (.bool ((bS (decP X).1.behind).toList == (bS []).toList)) (.bool (decide ((decP X).1.behind = []))) (congrArg Value.bool (by rw [strB_eq])) ?_
   refine os 3 ?_
   refine kp [36, 6, 5, 4, 8, 3, 2, 0] ?_
   refine tbp 36 (fun hg6 => ?_) (fun hg6 => ?_)
   ·replace hg6 : (decP X).1.behind = [] := hg6
    refine os 11 ?_
    refine kp [47, 6, 5, 4, 8, 3, 2, 0] ?_
    refine nt ?_
    refine ct ?_
    refine sr ?_
    refine os 2 ?_
    refine nt ?_
    refine SW_ret (r_then ?_)
    refine body_end (.tuple #[.int .u64 0, .bool false]) (fun _ => rfl) ?_
    exact ⟨(), ow, by rw [litP_bad (by simpa using hc1) (by unfold litBad; first | exact .inl (by assumption) | exact .inr (.inl (by assumption)) | exact .inr (.inr (.inl ⟨by assumption, by assumption⟩)) | exact .inr (.inr (.inr ⟨by omega, head_c (by assumption) (by omega)⟩)))]; rfl⟩
   replace hg6 : ¬ ((decP X).1.behind = []) := hg6
   refine os 1 ?_
   refine L (ld ?_)
   refine oX (.int .i64 ((bS (decP X).1.ahead).size : Int)) (.int .i64 (((decP X).1.ahead).length : Int)) (congrArg (fun n_ : Nat => Value.int .i64 (n_ : Int)) (bS_size _)) ?_
   refine os 2 ?_
   refine tbp 41 (fun hg7 => ?_) (fun hg7 => ?_)
   ·replace hg7 : (((decP X).1.ahead).length : Int) > 1 := hg7
    refine os 1 ?_
    refine L (ld ?_)
    obtain ⟨e1, he1⟩ : ∃ y_, ((decP X).1.ahead)[0]? = some y_ := ⟨_, List.getElem?_eq_getElem (by omega)⟩
    refine ixb 0 ((decP X).1.ahead) .i64 e1 Tryz.underlying9 he1 ?_
    refine os 3 ?_
    refine kp [47, 6, 5, 4, 8, 3, 2, 0] ?_
    refine nt ?_
    refine cd (fun hc8 : ((e1.toNat : Int) == 48) = true => ?_) (fun hc8 => ?_)
    ·simp only [beq_iff_eq, bne_iff_ne, ne_eq, beq_eq_false_iff_ne, bne_eq_false_iff_eq, Classical.not_not] at hc8
     refine sr ?_
     refine os 2 ?_
     refine nt ?_
     refine SW_ret (r_then ?_)
     refine body_end (.tuple #[.int .u64 0, .bool false]) (fun _ => rfl) ?_
     exact ⟨(), ow, by rw [litP_bad (by simpa using hc1) (by unfold litBad; first | exact .inl (by assumption) | exact .inr (.inl (by assumption)) | exact .inr (.inr (.inl ⟨by assumption, by assumption⟩)) | exact .inr (.inr (.inr ⟨by omega, head_c (by assumption) (by omega)⟩)))]; rfl⟩
    simp only [beq_iff_eq, bne_iff_ne, ne_eq, beq_eq_false_iff_ne, bne_eq_false_iff_eq, Classical.not_not] at hc8
    refine SW_skip (n_then ?_)
    exact ⟨⟨fun _ => rfl, ow⟩, by unfold litBad; rintro (q | q | ⟨q1, q2⟩ | ⟨q1, q2⟩) <;> first | (have hq_ := head_n (by assumption) q2; omega) | omega | simp_all⟩
   replace hg7 : ¬ ((((decP X).1.ahead).length : Int) > 1) := hg7
   refine os 6 ?_
   refine kp [47, 6, 5, 4, 8, 3, 2, 0] ?_
   refine nt ?_
   refine cf ?_
   refine SW_skip (n_then ?_)
   exact ⟨⟨fun _ => rfl, ow⟩, by unfold litBad; rintro (q | q | ⟨q1, q2⟩ | ⟨q1, q2⟩) <;> first | (have hq_ := head_n (by assumption) q2; omega) | omega | simp_all⟩
  replace hg5 : ¬ (46 ∈ X) := hg5
  refine os 7 ?_
  refine kp [37, 36, 6, 5, 4, 8, 3, 2, 0] ?_
  refine L (ld ?_)
  refine oX (.int .i64 ((bS (decP X).1.ahead).size : Int)) (.int .i64 (((decP X).1.ahead).length : Int)) (congrArg (fun n_ : Nat => Value.int .i64 (n_ : Int)) (bS_size _)) ?_
  refine os 2 ?_
  refine tbp 41 (fun hg9 => ?_) (fun hg9 => ?_)
  ·replace hg9 : (((decP X).1.ahead).length : Int) > 1 := hg9
   refine os 1 ?_
   refine L (ld ?_)
   obtain ⟨e2, he2⟩ : ∃ y_, ((decP X).1.ahead)[0]? = some y_ := ⟨_, List.getElem?_eq_getElem (by omega)⟩
   refine ixb 0 ((decP X).1.ahead) .i64 e2 Tryz.underlying9 he2 ?_
   refine os 3 ?_
   refine kp [47, 6, 5, 4, 8, 3, 2, 0] ?_
   refine nt ?_
   refine cd (fun hc10 : ((e2.toNat : Int) == 48) = true => ?_) (fun hc10 => ?_)
   ·simp only [beq_iff_eq, bne_iff_ne, ne_eq, beq_eq_false_iff_ne, bne_eq_false_iff_eq, Classical.not_not] at hc10
    refine sr ?_
    refine os 2 ?_
    refine nt ?_
    refine SW_ret (r_then ?_)
    refine body_end (.tuple #[.int .u64 0, .bool false]) (fun _ => rfl) ?_
    exact ⟨(), ow, by rw [litP_bad (by simpa using hc1) (by unfold litBad; first | exact .inl (by assumption) | exact .inr (.inl (by assumption)) | exact .inr (.inr (.inl ⟨by assumption, by assumption⟩)) | exact .inr (.inr (.inr ⟨by omega, head_c (by assumption) (by omega)⟩)))]; rfl⟩
   simp only [beq_iff_eq, bne_iff_ne, ne_eq, beq_eq_false_iff_ne, bne_eq_false_iff_eq, Classical.not_not] at hc10
   refine SW_skip (n_then ?_)
   exact ⟨⟨fun _ => rfl, ow⟩, by unfold litBad; rintro (q | q | ⟨q1, q2⟩ | ⟨q1, q2⟩) <;> first | (have hq_ := head_n (by assumption) q2; omega) | omega | simp_all⟩
  replace hg9 : ¬ ((((decP X).1.ahead).length : Int) > 1) := hg9
  refine os 6 ?_
  refine kp [47, 6, 5, 4, 8, 3, 2, 0] ?_
  refine nt ?_
  refine cf ?_
  refine SW_skip (n_then ?_)
  exact ⟨⟨fun _ => rfl, ow⟩, by unfold litBad; rintro (q | q | ⟨q1, q2⟩ | ⟨q1, q2⟩) <;> first | (have hq_ := head_n (by assumption) q2; omega) | omega | simp_all⟩
 ·rintro ρ_ σ_ ⟨hfit, hlg_⟩
  refine SW_fits hfit ?_
  clear hfit
  refine sr ?_
  refine L (lds 3 ?_)
  obtain ⟨hnd_, hnl_, hnq_⟩ := decP_facts X
  refine L (cl (num_nearest (A := (decP X).1.ahead) (B := (decP X).1.behind) (p := (decP X).1.power) (by omega) hnd_ hnq_) ?_)
  rintro v5 _ hv5
  obtain rfl : v5 = .int .u64 (nearestP (decP X).1 : Int) := hv5.trans (rfl)
  refine un ?_
  refine os 2 ?_
  refine nt ?_
  refine SW_ret ?_
  refine body_end (.tuple #[.int .u64 (nearestP (decP X).1 : Int), .bool true]) (fun _ => rfl) ?_
  exact ⟨(), ow, by rw [litP_good (by simpa using hc1) hlg_]⟩

end Go.Proofs.YtnhmmjogfkjceaaGreatDoor
namespace Go.Proofs.YtnhmmjogfkjceaaGreatDoor
open Go.Sl

theorem lex_digit {W0 : World} {c : UInt8} : SC Tryz.prog W0 55 #[.int .u8 (c.toNat : Int)] [] (Ret (fun _ : Unit => []) (fun v _ => v = .bool (isDig c))) := by
 refine SC_body (fn := Tryz.f55) (n := 9) Tryz.func55 rfl (by kernel_rfl) (ρ := [(0, .int .u8 (c.toNat : Int))]) rfl ?_
 refine sr ?_
 refine os 1 ?_
 refine nsr ?_
 refine os 3 ?_
 refine tbp 5 (fun hg1 => ?_) (fun hg1 => ?_)
 ·replace hg1 : (c.toNat : Int) ≥ 48 := hg1
  refine os 4 ?_
  refine kp [2, 0] ?_
  refine nt ?_
  refine SW_ret ?_
  refine body_end (.bool (decide ((c.toNat : Int) ≤ 57))) (fun _ => rfl) ?_
  exact ⟨(), ow, congrArg Value.bool (by unfold isDig; (try split at ho_); all_goals first | exact (decide_eq_true (by omega)).symm | exact (decide_eq_false (by omega)).symm | exact decide_eq_decide.2 (by omega) | (rw [Bool.eq_iff_iff]; simp; omega))⟩
 replace hg1 : ¬ ((c.toNat : Int) ≥ 48) := hg1
 refine os 4 ?_
 refine kp [2, 0] ?_
 refine nt ?_
 refine SW_ret ?_
 refine body_end (.bool false) (fun _ => rfl) ?_
 exact ⟨(), ow, congrArg Value.bool (by unfold isDig; (try split at ho_); all_goals first | exact (decide_eq_true (by omega)).symm | exact (decide_eq_false (by omega)).symm | exact decide_eq_decide.2 (by omega) | (rw [Bool.eq_iff_iff]; simp; omega))⟩

theorem lex_small {W0 : World} {c : UInt8} : SC Tryz.prog W0 57 #[.int .u8 (c.toNat : Int)] [] (Ret (fun _ : Unit => []) (fun v _ => v = .bool (isSm c))) := by
 refine SC_body (fn := Tryz.f57) (n := 29) Tryz.func57 rfl (by kernel_rfl) (ρ := [(0, .int .u8 (c.toNat : Int))]) rfl ?_
 refine sr ?_
 refine os 1 ?_
 refine nsr ?_
 refine os 3 ?_
 refine tbp 5 (fun hg1 => ?_) (fun hg1 => ?_)
 ·replace hg1 : (c.toNat : Int) ≥ 97 := hg1
  refine os 4 ?_
  refine kp [9, 2, 0] ?_
  refine tbp 9 (fun hg2 => ?_) (fun hg2 => ?_)
  ·replace hg2 : (c.toNat : Int) ≤ 122 := hg2
   refine os 20 ?_
   refine kp [2, 0] ?_
   refine nt ?_
   refine SW_ret ?_
   refine body_end (.bool true) (fun _ => rfl) ?_
   exact ⟨(), ow, congrArg Value.bool (by unfold isSm; (try split at ho_); all_goals first | exact (decide_eq_true (by omega)).symm | exact (decide_eq_false (by omega)).symm | exact decide_eq_decide.2 (by omega) | (rw [Bool.eq_iff_iff]; simp; omega))⟩
  replace hg2 : ¬ ((c.toNat : Int) ≤ 122) := hg2
  refine os 3 ?_
  refine tbp 12 (fun hg3 => ?_) (fun hg3 => ?_)
  ·replace hg3 : (c.toNat : Int) ≥ 65 := hg3
   refine os 5 ?_
   refine kp [17, 2, 0] ?_
   refine tbp 17 (fun hg4 => ?_) (fun hg4 => ?_)
   ·replace hg4 : (c.toNat : Int) ≤ 90 := hg4
    refine os 12 ?_
    refine kp [2, 0] ?_
    refine nt ?_
    refine SW_ret ?_
    refine body_end (.bool true) (fun _ => rfl) ?_
    exact ⟨(), ow, congrArg Value.bool (by unfold isSm; (try split at ho_); all_goals first | exact (decide_eq_true (by omega)).symm | exact (decide_eq_false (by omega)).symm | exact decide_eq_decide.2 (by omega) | (rw [Bool.eq_iff_iff]; simp; omega))⟩
   replace hg4 : ¬ ((c.toNat : Int) ≤ 90) := hg4
   refine os 4 ?_
   refine tb 21 (fun hg5 => ?_) (fun hg5 => ?_)
   ·replace hg5 : ((c.toNat : Int) == 95) = true := hg5
    simp only [beq_iff_eq, bne_iff_ne, ne_eq, beq_eq_false_iff_ne, bne_eq_false_iff_eq, Classical.not_not] at hg5
    refine os 8 ?_
    refine kp [2, 0] ?_
    refine nt ?_
    refine SW_ret ?_
    refine body_end (.bool true) (fun _ => rfl) ?_
    exact ⟨(), ow, congrArg Value.bool (by unfold isSm; (try split at ho_); all_goals first | exact (decide_eq_true (by omega)).symm | exact (decide_eq_false (by omega)).symm | exact decide_eq_decide.2 (by omega) | (rw [Bool.eq_iff_iff]; simp; omega))⟩
   replace hg5 : ((c.toNat : Int) == 95) = false := hg5
   simp only [beq_iff_eq, bne_iff_ne, ne_eq, beq_eq_false_iff_ne, bne_eq_false_iff_eq, Classical.not_not] at hg5
   refine os 4 ?_
   refine kp [25, 2, 0] ?_
   refine tb 25 (fun hg6 => ?_) (fun hg6 => ?_)
   ·replace hg6 : ((c.toNat : Int) == 36) = true := hg6
    simp only [beq_iff_eq, bne_iff_ne, ne_eq, beq_eq_false_iff_ne, bne_eq_false_iff_eq, Classical.not_not] at hg6
    refine os 4 ?_
    refine kp [2, 0] ?_
    refine nt ?_
    refine SW_ret ?_
    refine body_end (.bool true) (fun _ => rfl) ?_
    exact ⟨(), ow, congrArg Value.bool (by unfold isSm; (try split at ho_); all_goals first | exact (decide_eq_true (by omega)).symm | exact (decide_eq_false (by omega)).symm | exact decide_eq_decide.2 (by omega) | (rw [Bool.eq_iff_iff]; simp; omega))⟩
   replace hg6 : ((c.toNat : Int) == 36) = false := hg6
   simp only [beq_iff_eq, bne_iff_ne, ne_eq, beq_eq_false_iff_ne, bne_eq_false_iff_eq, Classical.not_not] at hg6
   refine os 1 ?_
   refine L (cl (lex_digit (c := c)) ?_)
   rintro v1 _ hv1
   obtain rfl : v1 = .bool (decide (48 ≤ (c.toNat : Int) ∧ (c.toNat : Int) ≤ 57)) := hv1.trans (by rw [dig_at])
   refine un ?_
   refine os 2 ?_
   refine kp [2, 0] ?_
   refine nt ?_
   refine SW_ret ?_
   refine body_end (.bool (decide (48 ≤ (c.toNat : Int) ∧ (c.toNat : Int) ≤ 57))) (fun _ => rfl) ?_
   exact ⟨(), ow, congrArg Value.bool (by unfold isSm; (try split at ho_); all_goals first | exact (decide_eq_true (by omega)).symm | exact (decide_eq_false (by omega)).symm | exact decide_eq_decide.2 (by omega) | (rw [Bool.eq_iff_iff]; simp; omega))⟩
  replace hg3 : ¬ ((c.toNat : Int) ≥ 65) := hg3
  refine os 9 ?_
  refine kp [21, 2, 0] ?_
  refine tb 21 (fun hg7 => ?_) (fun hg7 => ?_)
  ·replace hg7 : ((c.toNat : Int) == 95) = true := hg7
   simp only [beq_iff_eq, bne_iff_ne, ne_eq, beq_eq_false_iff_ne, bne_eq_false_iff_eq, Classical.not_not] at hg7
   refine os 8 ?_
   refine kp [2, 0] ?_
   refine nt ?_
   refine SW_ret ?_
   refine body_end (.bool true) (fun _ => rfl) ?_
   exact ⟨(), ow, congrArg Value.bool (by unfold isSm; (try split at ho_); all_goals first | exact (decide_eq_true (by omega)).symm | exact (decide_eq_false (by omega)).symm | exact decide_eq_decide.2 (by omega) | (rw [Bool.eq_iff_iff]; simp; omega))⟩
  replace hg7 : ((c.toNat : Int) == 95) = false := hg7
  simp only [beq_iff_eq, bne_iff_ne, ne_eq, beq_eq_false_iff_ne, bne_eq_false_iff_eq, Classical.not_not] at hg7
  refine os 4 ?_
  refine tb 25 (fun hg8 => ?_) (fun hg8 => ?_)
  ·replace hg8 : ((c.toNat : Int) == 36) = true := hg8
   simp only [beq_iff_eq, bne_iff_ne, ne_eq, beq_eq_false_iff_ne, bne_eq_false_iff_eq, Classical.not_not] at hg8
   refine os 4 ?_
   refine kp [2, 0] ?_
   refine nt ?_
   refine SW_ret ?_
   refine body_end (.bool true) (fun _ => rfl) ?_
   exact ⟨(), ow, congrArg Value.bool (by unfold isSm; (try split at ho_); all_goals first | exact (decide_eq_true (by omega)).symm | exact (decide_eq_false (by omega)).symm | exact decide_eq_decide.2 (by omega) | (rw [Bool.eq_iff_iff]; simp; omega))⟩
  replace hg8 : ((c.toNat : Int) == 36) = false := hg8
  simp only [beq_iff_eq, bne_iff_ne, ne_eq, beq_eq_false_iff_ne, bne_eq_false_iff_eq, Classical.not_not] at hg8
  refine os 1 ?_
  refine L (cl (lex_digit (c := c)) ?_)
  rintro v2 _ hv2
  obtain rfl : v2 = .bool (decide (48 ≤ (c.toNat : Int) ∧ (c.toNat : Int) ≤ 57)) := hv2.trans (by rw [dig_at])
  refine un ?_
  refine os 2 ?_
  refine kp [2, 0] ?_
  refine nt ?_
  refine SW_ret ?_
  refine body_end (.bool (decide (48 ≤ (c.toNat : Int) ∧ (c.toNat : Int) ≤ 57))) (fun _ => rfl) ?_
  exact ⟨(), ow, congrArg Value.bool (by unfold isSm; (try split at ho_); all_goals first | exact (decide_eq_true (by omega)).symm | exact (decide_eq_false (by omega)).symm | exact decide_eq_decide.2 (by omega) | (rw [Bool.eq_iff_iff]; simp; omega))⟩
 replace hg1 : ¬ ((c.toNat : Int) ≥ 97) := hg1
 refine os 7 ?_
 refine kp [12, 9, 2, 0] ?_
 refine tbp 12 (fun hg9 => ?_) (fun hg9 => ?_)
 ·replace hg9 : (c.toNat : Int) ≥ 65 := hg9
  refine os 5 ?_
  refine kp [17, 2, 0] ?_
  refine tbp 17 (fun hg10 => ?_) (fun hg10 => ?_)
  ·replace hg10 : (c.toNat : Int) ≤ 90 := hg10
   refine os 12 ?_
   refine kp [2, 0] ?_
   refine nt ?_
   refine SW_ret ?_
   refine body_end (.bool true) (fun _ => rfl) ?_
   exact ⟨(), ow, congrArg Value.bool (by unfold isSm; (try split at ho_); all_goals first | exact (decide_eq_true (by omega)).symm | exact (decide_eq_false (by omega)).symm | exact decide_eq_decide.2 (by omega) | (rw [Bool.eq_iff_iff]; simp; omega))⟩
  replace hg10 : ¬ ((c.toNat : Int) ≤ 90) := hg10
  refine os 4 ?_
  refine tb 21 (fun hg11 => ?_) (fun hg11 => ?_)
  ·replace hg11 : ((c.toNat : Int) == 95) = true := hg11
   simp only [beq_iff_eq, bne_iff_ne, ne_eq, beq_eq_false_iff_ne, bne_eq_false_iff_eq, Classical.not_not] at hg11
   refine os 8 ?_
   refine kp [2, 0] ?_
   refine nt ?_
   refine SW_ret ?_
   refine body_end (.bool true) (fun _ => rfl) ?_
   exact ⟨(), ow, congrArg Value.bool (by unfold isSm; (try split at ho_); all_goals first | exact (decide_eq_true (by omega)).symm | exact (decide_eq_false (by omega)).symm | exact decide_eq_decide.2 (by omega) | (rw [Bool.eq_iff_iff]; simp; omega))⟩
  replace hg11 : ((c.toNat : Int) == 95) = false := hg11
  simp only [beq_iff_eq, bne_iff_ne, ne_eq, beq_eq_false_iff_ne, bne_eq_false_iff_eq, Classical.not_not] at hg11
  refine os 4 ?_
  refine kp [25, 2, 0] ?_
  refine tb 25 (fun hg12 => ?_) (fun hg12 => ?_)
  ·replace hg12 : ((c.toNat : Int) == 36) = true := hg12
   simp only [beq_iff_eq, bne_iff_ne, ne_eq, beq_eq_false_iff_ne, bne_eq_false_iff_eq, Classical.not_not] at hg12
   refine os 4 ?_
   refine kp [2, 0] ?_
   refine nt ?_
   refine SW_ret ?_
   refine body_end (.bool true) (fun _ => rfl) ?_
   exact ⟨(), ow, congrArg Value.bool (by unfold isSm; (try split at ho_); all_goals first | exact (decide_eq_true (by omega)).symm | exact (decide_eq_false (by omega)).symm | exact decide_eq_decide.2 (by omega) | (rw [Bool.eq_iff_iff]; simp; omega))⟩
  replace hg12 : ((c.toNat : Int) == 36) = false := hg12
  simp only [beq_iff_eq, bne_iff_ne, ne_eq, beq_eq_false_iff_ne, bne_eq_false_iff_eq, Classical.not_not] at hg12
  refine os 1 ?_
  refine L (cl (lex_digit (c := c)) ?_)
  rintro v3 _ hv3
  obtain rfl : v3 = .bool (decide (48 ≤ (c.toNat : Int) ∧ (c.toNat : Int) ≤ 57)) := hv3.trans (by rw [dig_at])
  refine un ?_
  refine os 2 ?_
  refine kp [2, 0] ?_
  refine nt ?_
  refine SW_ret ?_
  refine body_end (.bool (decide (48 ≤ (c.toNat : Int) ∧ (c.toNat : Int) ≤ 57))) (fun _ => rfl) ?_
  exact ⟨(), ow, congrArg Value.bool (by unfold isSm; (try split at ho_); all_goals first | exact (decide_eq_true (by omega)).symm | exact (decide_eq_false (by omega)).symm | exact decide_eq_decide.2 (by omega) | (rw [Bool.eq_iff_iff]; simp; omega))⟩
 replace hg9 : ¬ ((c.toNat : Int) ≥ 65) := hg9
 refine os 9 ?_
 refine kp [21, 2, 0] ?_
 refine tb 21 (fun hg13 => ?_) (fun hg13 => ?_)
 ·replace hg13 : ((c.toNat : Int) == 95) = true := hg13
  simp only [beq_iff_eq, bne_iff_ne, ne_eq, beq_eq_false_iff_ne, bne_eq_false_iff_eq, Classical.not_not] at hg13
  refine os 8 ?_
  refine kp [2, 0] ?_
  refine nt ?_
  refine SW_ret ?_
  refine body_end (.bool true) (fun _ => rfl) ?_
  exact ⟨(), ow, congrArg Value.bool (by unfold isSm; (try split at ho_); all_goals first | exact (decide_eq_true (by omega)).symm | exact (decide_eq_false (by omega)).symm | exact decide_eq_decide.2 (by omega) | (rw [Bool.eq_iff_iff]; simp; omega))⟩
 replace hg13 : ((c.toNat : Int) == 95) = false := hg13
 simp only [beq_iff_eq, bne_iff_ne, ne_eq, beq_eq_false_iff_ne, bne_eq_false_iff_eq, Classical.not_not] at hg13
 refine os 4 ?_
 refine tb 25 (fun hg14 => ?_) (fun hg14 => ?_)
 ·replace hg14 : ((c.toNat : Int) == 36) = true := hg14
  simp only [beq_iff_eq, bne_iff_ne, ne_eq, beq_eq_false_iff_ne, bne_eq_false_iff_eq, Classical.not_not] at hg14
  refine os 4 ?_
  refine kp [2, 0] ?_
  refine nt ?_
  refine SW_ret ?_
  refine body_end (.bool true) (fun _ => rfl) ?_
  exact ⟨(), ow, congrArg Value.bool (by unfold isSm; (try split at ho_); all_goals first | exact (decide_eq_true (by omega)).symm | exact (decide_eq_false (by omega)).symm | exact decide_eq_decide.2 (by omega) | (rw [Bool.eq_iff_iff]; simp; omega))⟩
 replace hg14 : ((c.toNat : Int) == 36) = false := hg14
 simp only [beq_iff_eq, bne_iff_ne, ne_eq, beq_eq_false_iff_ne, bne_eq_false_iff_eq, Classical.not_not] at hg14
 refine os 1 ?_
 refine L (cl (lex_digit (c := c)) ?_)
 rintro v4 _ hv4
 obtain rfl : v4 = .bool (decide (48 ≤ (c.toNat : Int) ∧ (c.toNat : Int) ≤ 57)) := hv4.trans (by rw [dig_at])
 refine un ?_
 refine os 2 ?_
 refine kp [2, 0] ?_
 refine nt ?_
 refine SW_ret ?_
 refine body_end (.bool (decide (48 ≤ (c.toNat : Int) ∧ (c.toNat : Int) ≤ 57))) (fun _ => rfl) ?_
 exact ⟨(), ow, congrArg Value.bool (by unfold isSm; (try split at ho_); all_goals first | exact (decide_eq_true (by omega)).symm | exact (decide_eq_false (by omega)).symm | exact decide_eq_decide.2 (by omega) | (rw [Bool.eq_iff_iff]; simp; omega))⟩

theorem lex_base {W0 : World} {c : UInt8} : SC Tryz.prog W0 112 #[.int .u8 (c.toNat : Int)] [] (Ret (fun _ : Unit => []) (fun v _ => v = .bool (isHx c))) := by
 refine SC_body (fn := Tryz.f112) (n := 19) Tryz.func112 rfl (by kernel_rfl) (ρ := [(0, .int .u8 (c.toNat : Int))]) rfl ?_
 have ho_ := or32 c
 refine sr ?_
 refine os 1 ?_
 refine nsr ?_
 refine os 1 ?_
 refine L (cl (lex_digit (c := c)) ?_)
 rintro v1 _ hv1
 obtain rfl : v1 = .bool (decide (48 ≤ (c.toNat : Int) ∧ (c.toNat : Int) ≤ 57)) := hv1.trans (by rw [dig_at])
 refine un ?_
 refine os 1 ?_
 refine tbp 5 (fun hg1 => ?_) (fun hg1 => ?_)
 ·replace hg1 : 48 ≤ (c.toNat : Int) ∧ (c.toNat : Int) ≤ 57 := hg1
  refine os 14 ?_
  refine kp [2, 0] ?_
  refine nt ?_
  refine SW_ret ?_
  refine body_end (.bool true) (fun _ => rfl) ?_
  exact ⟨(), ow, congrArg Value.bool (by unfold isHx; (try split at ho_); all_goals first | exact (decide_eq_true (by omega)).symm | exact (decide_eq_false (by omega)).symm | exact decide_eq_decide.2 (by omega) | (rw [Bool.eq_iff_iff]; simp; omega))⟩
 replace hg1 : ¬ (48 ≤ (c.toNat : Int) ∧ (c.toNat : Int) ≤ 57) := hg1
 refine os 1 ?_
 refine oV (.int .u8 ((c ||| 32).toNat : Int)) ?_ (hs := or8R (m := (c.toNat : Int)) (c := 32) _ (or8 c))
 refine os 2 ?_
 refine tbp 9 (fun hg2 => ?_) (fun hg2 => ?_)
 ·replace hg2 : ((c ||| 32).toNat : Int) ≥ 97 := hg2
  refine os 1 ?_
  refine oV (.int .u8 ((c ||| 32).toNat : Int)) ?_ (hs := or8R (m := (c.toNat : Int)) (c := 32) _ (or8 c))
  refine os 3 ?_
  refine kp [14, 5, 2, 0] ?_
  refine tbp 14 (fun hg3 => ?_) (fun hg3 => ?_)
  ·replace hg3 : ((c ||| 32).toNat : Int) ≤ 102 := hg3
   refine os 5 ?_
   refine kp [2, 0] ?_
   refine nt ?_
   refine SW_ret ?_
   refine body_end (.bool (decide ((c.toNat : Int) ≥ 65))) (fun _ => rfl) ?_
   exact ⟨(), ow, congrArg Value.bool (by unfold isHx; (try split at ho_); all_goals first | exact (decide_eq_true (by omega)).symm | exact (decide_eq_false (by omega)).symm | exact decide_eq_decide.2 (by omega) | (rw [Bool.eq_iff_iff]; simp; omega))⟩
  replace hg3 : ¬ (((c ||| 32).toNat : Int) ≤ 102) := hg3
  refine os 5 ?_
  refine kp [2, 0] ?_
  refine nt ?_
  refine SW_ret ?_
  refine body_end (.bool false) (fun _ => rfl) ?_
  exact ⟨(), ow, congrArg Value.bool (by unfold isHx; (try split at ho_); all_goals first | exact (decide_eq_true (by omega)).symm | exact (decide_eq_false (by omega)).symm | exact decide_eq_decide.2 (by omega) | (rw [Bool.eq_iff_iff]; simp; omega))⟩
 replace hg2 : ¬ (((c ||| 32).toNat : Int) ≥ 97) := hg2
 refine os 10 ?_
 refine kp [2, 0] ?_
 refine nt ?_
 refine SW_ret ?_
 refine body_end (.bool false) (fun _ => rfl) ?_
 exact ⟨(), ow, congrArg Value.bool (by unfold isHx; (try split at ho_); all_goals first | exact (decide_eq_true (by omega)).symm | exact (decide_eq_false (by omega)).symm | exact decide_eq_decide.2 (by omega) | (rw [Bool.eq_iff_iff]; simp; omega))⟩

theorem lex_notNl {W0 : World} {c : UInt8} : SC Tryz.prog W0 53 #[.int .u8 (c.toNat : Int)] [] (Ret (fun _ : Unit => []) (fun v _ => v = .bool (notNl c))) := by
 refine SC_body (fn := Tryz.f53) (n := 5) Tryz.func53 rfl (by kernel_rfl) (ρ := [(0, .int .u8 (c.toNat : Int))]) rfl ?_
 refine sr ?_
 refine os 1 ?_
 refine nsr ?_
 refine os 3 ?_
 refine nt ?_
 refine SW_ret ?_
 refine body_end (.bool ((c.toNat : Int) != 10)) (fun _ => rfl) ?_
 exact ⟨(), ow, congrArg Value.bool (by unfold notNl; (try split at ho_); all_goals first | exact (decide_eq_true (by omega)).symm | exact (decide_eq_false (by omega)).symm | exact decide_eq_decide.2 (by omega) | (rw [Bool.eq_iff_iff]; simp; omega))⟩

theorem lex_allowed {W0 : World} {z : Int} : SC Tryz.prog W0 25 #[.int .i32 z] [] (Ret (fun _ : Unit => []) (fun v _ => v = .bool (okR z))) := by
 refine SC_body (fn := Tryz.f25) (n := 17) Tryz.func25 rfl (by kernel_rfl) (ρ := [(0, .int .i32 z)]) rfl ?_
 refine sr ?_
 refine os 1 ?_
 refine nsr ?_
 refine os 3 ?_
 refine tb 5 (fun hg1 => ?_) (fun hg1 => ?_)
 ·replace hg1 : (z == 9) = true := hg1
  simp only [beq_iff_eq, bne_iff_ne, ne_eq, beq_eq_false_iff_ne, bne_eq_false_iff_eq, Classical.not_not] at hg1
  refine os 12 ?_
  refine kp [2, 0] ?_
  refine nt ?_
  refine SW_ret ?_
  refine body_end (.bool true) (fun _ => rfl) ?_
  exact ⟨(), ow, congrArg Value.bool (by unfold okR; (try split at ho_); all_goals first | exact (decide_eq_true (by omega)).symm | exact (decide_eq_false (by omega)).symm | exact decide_eq_decide.2 (by omega) | (rw [Bool.eq_iff_iff]; simp; omega))⟩
 replace hg1 : (z == 9) = false := hg1
 simp only [beq_iff_eq, bne_iff_ne, ne_eq, beq_eq_false_iff_ne, bne_eq_false_iff_eq, Classical.not_not] at hg1
 refine os 4 ?_
 refine kp [9, 2, 0] ?_
 refine tb 9 (fun hg2 => ?_) (fun hg2 => ?_)
 ·replace hg2 : (z == 10) = true := hg2
  simp only [beq_iff_eq, bne_iff_ne, ne_eq, beq_eq_false_iff_ne, bne_eq_false_iff_eq, Classical.not_not] at hg2
  refine os 8 ?_
  refine kp [2, 0] ?_
  refine nt ?_
  refine SW_ret ?_
  refine body_end (.bool true) (fun _ => rfl) ?_
  exact ⟨(), ow, congrArg Value.bool (by unfold okR; (try split at ho_); all_goals first | exact (decide_eq_true (by omega)).symm | exact (decide_eq_false (by omega)).symm | exact decide_eq_decide.2 (by omega) | (rw [Bool.eq_iff_iff]; simp; omega))⟩
 replace hg2 : (z == 10) = false := hg2
 simp only [beq_iff_eq, bne_iff_ne, ne_eq, beq_eq_false_iff_ne, bne_eq_false_iff_eq, Classical.not_not] at hg2
 refine os 3 ?_
 refine tbp 12 (fun hg3 => ?_) (fun hg3 => ?_)
 ·replace hg3 : z ≥ 32 := hg3
  refine os 5 ?_
  refine kp [2, 0] ?_
  refine nt ?_
  refine SW_ret ?_
  refine body_end (.bool (decide (z ≤ 126))) (fun _ => rfl) ?_
  exact ⟨(), ow, congrArg Value.bool (by unfold okR; (try split at ho_); all_goals first | exact (decide_eq_true (by omega)).symm | exact (decide_eq_false (by omega)).symm | exact decide_eq_decide.2 (by omega) | (rw [Bool.eq_iff_iff]; simp; omega))⟩
 replace hg3 : ¬ (z ≥ 32) := hg3
 refine os 5 ?_
 refine kp [2, 0] ?_
 refine nt ?_
 refine SW_ret ?_
 refine body_end (.bool false) (fun _ => rfl) ?_
 exact ⟨(), ow, congrArg Value.bool (by unfold okR; (try split at ho_); all_goals first | exact (decide_eq_true (by omega)).symm | exact (decide_eq_false (by omega)).symm | exact decide_eq_decide.2 (by omega) | (rw [Bool.eq_iff_iff]; simp; omega))⟩

theorem lex_nibble {W0 : World} {c : UInt8} (hc : isHx c = true) : SC Tryz.prog W0 156 #[.int .u8 (c.toNat : Int)] [] (Ret (fun _ : Unit => []) (fun v _ => v = .int .u8 (nibV c : Int))) := by
 refine SC_body (fn := Tryz.f156) (n := 11) Tryz.func156 rfl (by kernel_rfl) (ρ := [(0, .int .u8 (c.toNat : Int))]) rfl ?_
 have ho_ := or32 c
 have hc_ : (48 ≤ c.toNat ∧ c.toNat ≤ 57) ∨ (97 ≤ c.toNat ∧ c.toNat ≤ 102) ∨ (65 ≤ c.toNat ∧ c.toNat ≤ 70) := by simpa [isHx] using hc
 have ho2_ : c.toNat ≤ 57 ∨ (97 ≤ (c ||| 32).toNat ∧ (c ||| 32).toNat ≤ 102) := by split at ho_ <;> omega
 refine sr ?_
 refine os 1 ?_
 refine nq ?_
 refine sr ?_
 refine os 1 ?_
 refine L (cl (lex_digit (c := c)) ?_)
 rintro v1 _ hv1
 obtain rfl : v1 = .bool (decide (48 ≤ (c.toNat : Int) ∧ (c.toNat : Int) ≤ 57)) := hv1.trans (by rw [dig_at])
 refine un ?_
 refine nt ?_
 refine cdp (fun hc1 : 48 ≤ (c.toNat : Int) ∧ (c.toNat : Int) ≤ 57 => ?_) (fun hc1 => ?_)
 ·refine sr ?_
  refine os 3 ?_
  refine kp [2, 4, 0] ?_
  refine nt ?_
  refine SW_ret (r_then ?_)
  refine body_end (.int .u8 ((c.toNat : Int) - 48)) (fun _ => rfl) ?_
  exact ⟨(), ow, congrArg (Value.int .u8) (by unfold nibV; split <;> omega)⟩
 refine SW_skip (n_then ?_)
 refine sr ?_
 refine os 1 ?_
 refine oV (.int .u8 ((c ||| 32).toNat : Int)) ?_ (hs := or8R (m := (c.toNat : Int)) (c := 32) _ (or8 c))
 refine os 3 ?_
 refine kp [2, 4, 0] ?_
 refine nt ?_
 refine SW_ret ?_
 refine body_end (.int .u8 ((((c ||| 32).toNat : Int) - 97) + 10)) (fun _ => rfl) ?_
 exact ⟨(), ow, congrArg (Value.int .u8) (by unfold nibV; split <;> omega)⟩

theorem lex_peek {W0 : World} {X : Bytes} {a k b : Nat} {g : Gs} {l : List Tok} (hk : Gs.ok 4 l.length g (l.flatMap Tok.cells)) (hX : X.length ≤ 1048576) (ha : a ≤ X.length) (hq : k ≤ 2) : SC Tryz.prog W0 51 #[pt b 0, .int .i64 (k : Int)] ((b, .cells 50 3 [.string (bS X), .int .i64 (a : Int), Gs.val g l.length]) :: (Gs.ent 46 4 g (l.flatMap Tok.cells))) (Ret (fun _ : Unit => (b, .cells 50 3 [.string (bS X), .int .i64 (a : Int), Gs.val g l.length]) :: (Gs.ent 46 4 g (l.flatMap Tok.cells))) (fun v _ => v = .int .u8 ((atB X (a + k)).toNat : Int))) := by
 refine SC_body (fn := Tryz.f51) (n := 28) Tryz.func51 rfl (by kernel_rfl) (ρ := [(0, pt b 0), (1, .int .i64 (k : Int))]) rfl ?_
 refine SW_sig ((b, .cells 50 3 [.string (bS X), .int .i64 (a : Int), Gs.val g l.length]) :: ((Gs.ent 46 4 g (l.flatMap Tok.cells)) ++ ([]))) (by simp only [List.append_nil, List.append_assoc]) ?_
 refine sr ?_
 refine os 1 ?_
 refine nq ?_
 refine SW_seq ?_
 refine SW_draw [(b, 1, .int .i64 (a : Int)), (b, 0, .string (bS X))] [0, 1, 2, 3, 4, 5, 6, 7, 8, 9, 10] (by kernel_rfl) (rd_cons (Cell.own mem_z rfl) (rd_cons (Cell.own mem_z rfl) rd_nil)) ?_
 refine aS 0 ?_
 refine aS 1 ?_
 refine aF 2 ?_
 refine aL 3 ?_
 refine aS 4 ?_
 refine tk 5 (.int .i64 (IntKind.wrap .i64 ((a : Int) + (k : Int)))) ?_
 rw [show IntKind.wrap .i64 ((a : Int) + (k : Int)) = (a : Int) + (k : Int) from IntWalk.i64_in _ (by omega)]
 refine aS 6 ?_
 refine aS 7 ?_
 refine aF 8 ?_
 refine aL 9 ?_
 refine kpA [14, 10, 4, 0, 1] ?_
 refine tk 10 (.int .i64 ((bS X).size : Int)) ?_
 rw [bS_size]
 refine aS 11 ?_
 refine SA_done (by kernel_rfl) (n_then ?_)
 refine cdp (fun hc1 : ((a : Int) + (k : Int)) ≥ (X.length : Int) => ?_) (fun hc1 => ?_)
 ·refine sr ?_
  refine os 1 ?_
  refine kp [4, 16, 0, 1] ?_
  refine nt ?_
  refine SW_ret (r_then ?_)
  refine body_end (.int .u8 0) (fun _ => rfl) ?_
  exact ⟨(), ow, by rw [atB_none (by omega)]; rfl⟩
 refine SW_skip (n_then ?_)
 refine SW_seq ?_
 obtain ⟨e1, he1⟩ : ∃ y_, X[(a + k)]? = some y_ := ⟨_, List.getElem?_eq_getElem (by omega)⟩
 refine SW_draw [(b, 0, .string (bS X)), (b, 1, .int .i64 (a : Int))] [0, 1, 2, 3, 4, 5, 6, 7, 8, 9] (by kernel_rfl) (rd_cons (Cell.own mem_z rfl) (rd_cons (Cell.own mem_z rfl) rd_nil)) ?_
 refine aS 0 ?_
 refine aS 1 ?_
 refine aF 2 ?_
 refine aL 3 ?_
 refine aS 4 ?_
 refine aS 5 ?_
 refine aF 6 ?_
 refine kpA [23, 20, 16, 4, 0, 1] ?_
 refine aL 7 ?_
 refine aS 8 ?_
 refine tk 9 (.int .i64 (IntKind.wrap .i64 ((a : Int) + (k : Int)))) ?_
 rw [show IntKind.wrap .i64 ((a : Int) + (k : Int)) = (a : Int) + (k : Int) from IntWalk.i64_in _ (by omega)]
 refine tk 10 (.int .u8 (e1.toNat : Int)) ?_ (hy := fun δ w => run_indexB ((a : Int) + (k : Int)) X .i64 e1 Tryz.underlying9 rfl rfl (by omega) (by rw [show ((a : Int) + (k : Int)).toNat = (a + k) from by omega]; exact he1))
 refine aS 11 ?_
 refine SA_done (by kernel_rfl) (n_then ?_)
 refine SW_ret ?_
 refine body_end (.int .u8 (e1.toNat : Int)) (fun _ => rfl) ?_
 exact ⟨(), ow, by rw [atB_some he1]⟩

end Go.Proofs.YtnhmmjogfkjceaaGreatDoor
