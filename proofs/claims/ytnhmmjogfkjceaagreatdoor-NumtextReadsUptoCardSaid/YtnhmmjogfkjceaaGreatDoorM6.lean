/-
  What the functions of numbers as texts do, step by step: each theorem is one function's contract. Conditions: those that each theorem names.
-/
import Derived.Test.YtnhmmjogfkjceaaGreatDoorProg
import Derived.Test.YtnhmmjogfkjceaaGreatDoorM5
import Derived.Test.YtnhmmjogfkjceaaGreatDoorM2
import Derived.Test.YtnhmmjogfkjceaaGreatDoorM3
set_option linter.unusedVariables false
set_option linter.unusedSimpArgs false
set_option maxRecDepth 100000
set_option maxHeartbeats 4000000
set_option linter.unusedSectionVars false
namespace Go.Proofs.YtnhmmjogfkjceaaGreatDoor
open Go.Sl

theorem pt_eq {m m' e e' : Int} {b b' nb : Bool} (h1 : m = m') (h2 : e = e') (h3 : b = b') : Value.agg #[.int .u64 m, .int .i64 e, .bool b, .bool nb] = Value.agg #[.int .u64 m', .int .i64 e', .bool b', .bool nb] := by rw [h1, h2, h3]
theorem max0 (e : Int) : (if 0 > e then 0 else e) = (e.toNat : Int) := by split <;> omega

theorem r2_parts {W0 : World} {a : Nat} (ha : a < 18446744073709551616) : SC Tryz.prog W0 147 #[.int .u64 (a : Int)] [] (Ret (fun _ : Bool => []) (fun v nb => v = .agg #[.int .u64 (manP a : Int), .int .i64 ((expP a : Int) - 1075), .bool (decide (a % 2 = 0)), .bool nb])) := by
 refine SC_body (fn := Tryz.f147) (n := 31) Tryz.func147 rfl (by kernel_rfl) (ρ := [(0, .int .u64 (a : Int))]) rfl ?_
 refine sr ?_
 refine L (nw 155 4 [.int .u64 0, .int .i64 0, .bool false, .bool false] ?_)
 intro b1
 refine nsr ?_
 refine os 1 ?_
 refine oX (.int .u64 (Int.tmod (a : Int) 4503599627370496)) (.int .u64 ((a : Int) % 4503599627370496)) (congrArg (Value.int .u64) (rem_nn (by first | omega | exact Int.natCast_nonneg _))) ?_
 refine os 1 ?_
 refine nsr ?_
 refine os 1 ?_
 refine oX (.int .u64 (IntKind.wrap .u64 (Int.tdiv (a : Int) 4503599627370496))) (.int .u64 ((a : Int) / 4503599627370496)) (congrArg (Value.int .u64) (quo_u64 (by omega) (by omega) (by decide))) ?_
 refine os 2 ?_
 refine kp [4, 3, 2, 0] ?_
 refine nq ?_
 refine sr ?_
 refine os 2 ?_
 refine nt ?_
 refine cd (fun hc2 : (((a : Int) / 4503599627370496) == 0) = true => ?_) (fun hc2 => ?_)
 ·simp only [beq_iff_eq, bne_iff_ne, ne_eq, beq_eq_false_iff_ne, bne_eq_false_iff_eq, Classical.not_not] at hc2
  refine sr ?_
  refine os 2 ?_
  refine oX (.int .u64 (Int.tmod ((a : Int) % 4503599627370496) 2)) (.int .u64 (((a : Int) % 4503599627370496) % 2)) (congrArg (Value.int .u64) (rem_nn (by first | omega | exact Int.natCast_nonneg _))) ?_
  refine os 1 ?_
  refine oV (.agg #[.int .u64 ((a : Int) % 4503599627370496), .int .i64 (-1074), .bool ((((a : Int) % 4503599627370496) % 2) == 0), .bool false]) ?_
  refine L (st [.int .u64 ((a : Int) % 4503599627370496), .int .i64 (-1074), .bool ((((a : Int) % 4503599627370496) % 2) == 0), .bool false] ?_)
  refine nt ?_
  refine SW_ret (r_then ?_)
  refine body_endC [.agg #[.int .u64 ((a : Int) % 4503599627370496), .int .i64 (-1074), .bool ((((a : Int) % 4503599627370496) % 2) == 0), .bool false]] (fun _ => (.cons ⟨b1, 0, rfl, .inl ⟨[.int .u64 ((a : Int) % 4503599627370496), .int .i64 (-1074), .bool ((((a : Int) % 4503599627370496) % 2) == 0), .bool false], by kernel_rfl, (cells_cons (Cell.own mem_z rfl) (cells_cons (Cell.own mem_z rfl) (cells_cons (Cell.own mem_z rfl) (cells_cons (Cell.own mem_z rfl) cells_nil)))), rfl⟩⟩ .nil)) ?_
  exact ⟨_, ow, pt_eq (by unfold manP; rw [if_pos (by omega)]; omega) (by unfold expP; rw [if_pos (by omega)]; omega) (by first | (rw [Bool.eq_iff_iff]; simp; omega) | (simp; omega))⟩
 simp only [beq_iff_eq, bne_iff_ne, ne_eq, beq_eq_false_iff_ne, bne_eq_false_iff_eq, Classical.not_not] at hc2
 refine SW_skip (n_then ?_)
 refine sr ?_
 refine os 5 ?_
 refine oX (.int .u64 (Int.tmod ((a : Int) % 4503599627370496) 2)) (.int .u64 (((a : Int) % 4503599627370496) % 2)) (congrArg (Value.int .u64) (rem_nn (by first | omega | exact Int.natCast_nonneg _))) ?_
 refine os 4 ?_
 refine kp [26, 23, 20, 18, 11, 4, 3, 2, 0] ?_
 refine tb 26 (fun hg3 => ?_) (fun hg3 => ?_)
 ·replace hg3 : (((a : Int) % 4503599627370496) == 0) = true := hg3
  simp only [beq_iff_eq, bne_iff_ne, ne_eq, beq_eq_false_iff_ne, bne_eq_false_iff_eq, Classical.not_not] at hg3
  refine os 3 ?_
  refine oV (.agg #[.int .u64 (((a : Int) % 4503599627370496) + 4503599627370496), .int .i64 (((a : Int) / 4503599627370496) - 1075), .bool ((((a : Int) % 4503599627370496) % 2) == 0), .bool (decide (((a : Int) / 4503599627370496) > 1))]) ?_
  refine kp [30, 11, 4, 3, 2, 0] ?_
  refine L (st [.int .u64 (((a : Int) % 4503599627370496) + 4503599627370496), .int .i64 (((a : Int) / 4503599627370496) - 1075), .bool ((((a : Int) % 4503599627370496) % 2) == 0), .bool (decide (((a : Int) / 4503599627370496) > 1))] ?_)
  refine nt ?_
  refine SW_ret ?_
  refine body_endC [.agg #[.int .u64 (((a : Int) % 4503599627370496) + 4503599627370496), .int .i64 (((a : Int) / 4503599627370496) - 1075), .bool ((((a : Int) % 4503599627370496) % 2) == 0), .bool (decide (((a : Int) / 4503599627370496) > 1))]] (fun _ => (.cons ⟨b1, 0, rfl, .inl ⟨[.int .u64 (((a : Int) % 4503599627370496) + 4503599627370496), .int .i64 (((a : Int) / 4503599627370496) - 1075), .bool ((((a : Int) % 4503599627370496) % 2) == 0), .bool (decide (((a : Int) / 4503599627370496) > 1))], by kernel_rfl, (cells_cons (Cell.own mem_z rfl) (cells_cons (Cell.own mem_z rfl) (cells_cons (Cell.own mem_z rfl) (cells_cons (Cell.own mem_z rfl) cells_nil)))), rfl⟩⟩ .nil)) ?_
  exact ⟨_, ow, pt_eq (by unfold manP; rw [if_neg (by omega)]; omega) (by unfold expP; rw [if_neg (by omega)]; omega) (by first | (rw [Bool.eq_iff_iff]; simp; omega) | (simp; omega))⟩
 replace hg3 : (((a : Int) % 4503599627370496) == 0) = false := hg3
 simp only [beq_iff_eq, bne_iff_ne, ne_eq, beq_eq_false_iff_ne, bne_eq_false_iff_eq, Classical.not_not] at hg3
 refine os 3 ?_
 refine oV (.agg #[.int .u64 (((a : Int) % 4503599627370496) + 4503599627370496), .int .i64 (((a : Int) / 4503599627370496) - 1075), .bool ((((a : Int) % 4503599627370496) % 2) == 0), .bool false]) ?_
 refine kp [30, 11, 4, 3, 2, 0] ?_
 refine L (st [.int .u64 (((a : Int) % 4503599627370496) + 4503599627370496), .int .i64 (((a : Int) / 4503599627370496) - 1075), .bool ((((a : Int) % 4503599627370496) % 2) == 0), .bool false] ?_)
 refine nt ?_
 refine SW_ret ?_
 refine body_endC [.agg #[.int .u64 (((a : Int) % 4503599627370496) + 4503599627370496), .int .i64 (((a : Int) / 4503599627370496) - 1075), .bool ((((a : Int) % 4503599627370496) % 2) == 0), .bool false]] (fun _ => (.cons ⟨b1, 0, rfl, .inl ⟨[.int .u64 (((a : Int) % 4503599627370496) + 4503599627370496), .int .i64 (((a : Int) / 4503599627370496) - 1075), .bool ((((a : Int) % 4503599627370496) % 2) == 0), .bool false], by kernel_rfl, (cells_cons (Cell.own mem_z rfl) (cells_cons (Cell.own mem_z rfl) (cells_cons (Cell.own mem_z rfl) (cells_cons (Cell.own mem_z rfl) cells_nil)))), rfl⟩⟩ .nil)) ?_
 exact ⟨_, ow, pt_eq (by unfold manP; rw [if_neg (by omega)]; omega) (by unfold expP; rw [if_neg (by omega)]; omega) (by first | (rw [Bool.eq_iff_iff]; simp; omega) | (simp; omega))⟩

theorem r2_against {W0 : World} {a b : Gs} {p0 q0 m : Nat} {e : Int} (hka : Gs.ok 1 (lim p0).length a ((lim p0).map encP)) (hkb : Gs.ok 1 (lim q0).length b ((lim q0).map encP)) (hb1 : (lim (p0 * 2 ^ (-e).toNat)).length ≤ 1048576) (hb2 : (lim (q0 * 2 ^ e.toNat)).length ≤ 1048576) (hm : m < 18446744073709551616) (he : -1048576 ≤ e ∧ e ≤ 1048576) : SC Tryz.prog W0 146 #[a.val (lim p0).length, b.val (lim q0).length, .int .u64 (m : Int), .int .i64 e] (Gs.ent 87 1 a ((lim p0).map encP) ++ Gs.ent 87 1 b ((lim q0).map encP)) (Ret (fun _ : Unit => Gs.ent 87 1 a ((lim p0).map encP) ++ Gs.ent 87 1 b ((lim q0).map encP)) (fun v _ => v = .int .i64 (againstP p0 q0 m e))) := by
 refine SC_body (fn := Tryz.f146) (n := 21) Tryz.func146 rfl (by kernel_rfl) (ρ := [(0, Gs.val a ((lim p0).length)), (1, Gs.val b ((lim q0).length)), (2, .int .u64 (m : Int)), (3, .int .i64 e)]) rfl ?_
 refine SW_sig ((Gs.ent 87 1 a ((lim p0).map encP)) ++ ((Gs.ent 87 1 b ((lim q0).map encP)) ++ ([]))) (by simp only [List.append_nil, List.append_assoc]) ?_
 refine sr ?_
 refine os 1 ?_
 refine nsr ?_
 refine os 2 ?_
 refine oX (.int .i64 (IntKind.wrap .i64 (0 - e))) (.int .i64 (-e)) (congrArg (Value.int .i64) ((IntWalk.i64_in _ (by omega)).trans (Int.zero_sub _))) ?_
 refine oV (.int .i64 (if 0 > -e then 0 else -e)) ?_
 have hq_ := r2_up (W0 := W0) (a0 := p0) (n := (-e).toNat) hka hb1 (by omega)
 rw [← max0] at hq_
 refine L (cl (hq_) ?_)
 rintro _ u1 ⟨rfl, hku1⟩
 refine un ?_
 refine os 2 ?_
 refine oV (.int .i64 (if 0 > e then 0 else e)) ?_
 have hq_ := r2_up (W0 := W0) (a0 := q0) (n := e.toNat) hkb hb2 (by omega)
 rw [← max0] at hq_
 refine L (cl (hq_) ?_)
 rintro _ u2 ⟨rfl, hku2⟩
 refine un ?_
 refine os 1 ?_
 refine kp [18, 17, 13, 8, 0, 1, 2, 3] ?_
 have hq_ := r2_by (W0 := W0) (a0 := q0 * 2 ^ e.toNat) (n := m) hku2 hb2 hm
 refine L (cl (hq_) ?_)
 rintro _ u3 ⟨rfl, hku3⟩
 refine un ?_
 refine L (cl (r2_order (a0 := p0 * 2 ^ (-e).toNat) (b0 := q0 * 2 ^ e.toNat * m) hku1 hku3 hb1) ?_)
 rintro _ _ rfl
 refine un ?_
 refine os 1 ?_
 refine kp [8, 0, 1, 2, 3] ?_
 refine nt ?_
 refine SW_ret ?_
 refine body_end (.int .i64 (cmpN (p0 * 2 ^ (-e).toNat) (q0 * 2 ^ e.toNat * m))) (fun _ => rfl) ?_
 exact ⟨(), ow, rfl⟩

end Go.Proofs.YtnhmmjogfkjceaaGreatDoor
namespace Go.Proofs.YtnhmmjogfkjceaaGreatDoor
open Go.Sl

theorem dw_dw : ∀ X : Bytes, (X.dropWhile (· == 48)).dropWhile (· == 48) = X.dropWhile (· == 48)
 | [] => rfl
 | c :: r => by
   rw [List.dropWhile_cons]
   split
   · exact dw_dw r
   · next h => rw [List.dropWhile_cons, if_neg h]
theorem bne48 (c : UInt8) : ((c.toNat : Int) != 48) = (c != 48) := by
 rw [Bool.eq_iff_iff]
 simp only [bne_iff_ne, ne_eq]
 constructor
 · intro h g; subst g; exact h rfl
 · intro h g; exact h (UInt8.toNat_inj.1 (by show c.toNat = 48; omega))
theorem r2_partsZ {W0 : World} {a : Nat} {z : Int} (hz : z = (a : Int)) (ha : a < 18446744073709551616) : SC Tryz.prog W0 147 #[.int .u64 z] [] (Ret (fun _ : Bool => []) (fun v nb => v = .agg #[.int .u64 (manP a : Int), .int .i64 ((expP a : Int) - 1075), .bool (decide (a % 2 = 0)), .bool nb])) := by
 subst hz; exact r2_parts ha
theorem r2_againstZ {W0 : World} {a b : Gs} {p0 q0 m : Nat} {e z : Int} (hz : z = (m : Int)) (hka : Gs.ok 1 (lim p0).length a ((lim p0).map encP)) (hkb : Gs.ok 1 (lim q0).length b ((lim q0).map encP)) (hp : bitsN p0 ≤ 4900) (hq : bitsN q0 ≤ 4900) (hm : m < 18446744073709551616) (he : -1100 ≤ e ∧ e ≤ 1100) : SC Tryz.prog W0 146 #[a.val (lim p0).length, b.val (lim q0).length, .int .u64 z, .int .i64 e] (Gs.ent 87 1 a ((lim p0).map encP) ++ Gs.ent 87 1 b ((lim q0).map encP)) (Ret (fun _ : Unit => Gs.ent 87 1 a ((lim p0).map encP) ++ Gs.ent 87 1 b ((lim q0).map encP)) (fun v _ => v = .int .i64 (againstP p0 q0 m e))) := by
 subst hz
 exact r2_against hka hkb (len_bits (Nat.le_trans (bitsN_mul_pow _ _) (by omega))) (len_bits (Nat.le_trans (bitsN_mul_pow _ _) (by omega))) hm (by omega)

theorem r2_near10 {W0 : World} {X : Bytes} {p : Int} (hX : X.length ≤ 1048576) (hd : ∀ c ∈ X, 48 ≤ c.toNat ∧ c.toNat ≤ 57) (hp : -1099511627776 ≤ p ∧ p ≤ 1099511627776) : SC Tryz.prog W0 108 #[.string (bS X), .int .i64 p] [] (Ret (fun _ : Unit => []) (fun v _ => v = .int .u64 (nearD (cutD (X.dropWhile (· == 48)) p).1 (cutD (X.dropWhile (· == 48)) p).2 : Int))) := by
 refine SC_body (fn := Tryz.f108) (n := 143) Tryz.func108 rfl (by kernel_rfl) (ρ := [(0, .string (bS X)), (1, .int .i64 p)]) rfl ?_
 refine sr ?_
 refine os 1 ?_
 refine nq ?_
 refine SW_cut (fun ρ_ σ_ => Fits ρ_ σ_ [(0, .string (bS (X.dropWhile (· == 48)))), (1, .int .i64 p)] ([])) ?_ ?_
 ·refine SW_block ?_
  refine SW_loop (α := Bytes) (fun z_ ρ_ σ_ => Fits ρ_ σ_ [(0, .string (bS z_)), (1, .int .i64 p)] ([]) ∧ (z_.dropWhile (· == 48)) = X.dropWhile (· == 48) ∧ (∀ c ∈ z_, 48 ≤ c.toNat ∧ c.toNat ≤ 57) ∧ z_.length ≤ X.length) (fun z_ => z_.length) X ⟨⟨fun _ => rfl, ow⟩, rfl, hd, Nat.le_refl _⟩ ?_
  rintro Y ρ_ σ_ ⟨hfit, hi0, hi1, hi2⟩
  refine SW_fits hfit ?_
  clear hfit
  refine SW_seq ?_
  refine sr ?_
  refine os 1 ?_
  refine oX (.int .i64 ((bS Y).size : Int)) (.int .i64 (Y.length : Int)) (congrArg (fun n_ : Nat => Value.int .i64 (n_ : Int)) (bS_size _)) ?_
  refine os 2 ?_
  refine tbp 18 (fun hg1 => ?_) (fun hg1 => ?_)
  ·replace hg1 : (Y.length : Int) > 0 := hg1
   refine os 1 ?_
   obtain ⟨e1, he1⟩ : ∃ y_, Y[0]? = some y_ := ⟨_, List.getElem?_eq_getElem (by omega)⟩
   refine ixb 0 Y .i64 e1 Tryz.underlying9 he1 ?_
   refine os 2 ?_
   refine kp [22, 0, 1] ?_
   refine nt ?_
   refine cd (fun hc2 : ((e1.toNat : Int) == 48) = true => ?_) (fun hc2 => ?_)
   ·simp only [beq_iff_eq, bne_iff_ne, ne_eq, beq_eq_false_iff_ne, bne_eq_false_iff_eq, Classical.not_not] at hc2
    refine SW_skip (n_then ?_)
    refine SW_block ?_
    refine SW_region ?_
    refine os 1 ?_
    refine L (O_val (.string (bS (Y.drop 1))) rfl (fun δ w _ => run_strFrom (l := Y) 1 .i64 Tryz.underlying9 rfl rfl (by omega) (by omega)) ?_)
    refine os 1 ?_
    refine SL_nil (n_in (n_then ?_))
    exact ⟨Y.drop 1, by rw [List.length_drop]; omega, ⟨fun _ => rfl, ow⟩, (strip_head he1 ((u8_eq (n := 48) (by decide)).1 (by omega))).trans hi0, fun c hc => hi1 c (List.mem_of_mem_drop hc), by rw [List.length_drop]; omega⟩
   simp only [beq_iff_eq, bne_iff_ne, ne_eq, beq_eq_false_iff_ne, bne_eq_false_iff_eq, Classical.not_not] at hc2
   refine SW_exit (x_then (x_then (x_in (n_then ?_))))
   have hY_ : X.dropWhile (· == 48) = Y := by rw [← hi0]; exact strip_stop he1 (fun q_ => absurd ((u8_eq (n := 48) (by decide)).2 q_) (by omega))
   rw [hY_]
   exact ⟨fun _ => rfl, ow⟩
  replace hg1 : ¬ ((Y.length : Int) > 0) := hg1
  refine os 4 ?_
  refine kp [22, 0, 1] ?_
  refine nt ?_
  refine cf ?_
  refine SW_exit (x_then (x_then (x_in (n_then ?_))))
  have hY_ : X.dropWhile (· == 48) = Y := by rw [← hi0]; rw [show Y = [] from List.length_eq_zero_iff.1 (by omega)]; rfl
  rw [hY_]
  exact ⟨fun _ => rfl, ow⟩
 ·rintro ρ_ σ_ hfit
  refine SW_fits hfit ?_
  clear hfit
  refine SW_seq ?_
  refine SW_seq ?_
  have hLl_ : (X.dropWhile (· == 48)).length ≤ X.length := dropWhile_len _ _
  have hLd_ : ∀ c ∈ X.dropWhile (· == 48), 48 ≤ c.toNat ∧ c.toNat ≤ 57 := fun c hc => hd c ((List.dropWhile_sublist _).subset hc)
  have hLs_ := dw_dw X
  generalize X.dropWhile (· == 48) = Zl at hLl_ hLd_ hLs_ ⊢
  refine SW_cut3 (fun ρ_ σ_ => Fits ρ_ σ_ [(0, .string (bS (cutD Zl p).1)), (1, .int .i64 ((cutD Zl p).2))] ([])) ?_ ?_
  ·refine SW_region ?_
   refine os 1 ?_
   refine oX (.int .i64 ((bS Zl).size : Int)) (.int .i64 (Zl.length : Int)) (congrArg (fun n_ : Nat => Value.int .i64 (n_ : Int)) (bS_size _)) ?_
   refine os 1 ?_
   refine nt ?_
   refine cdp (fun hc3 : (Zl.length : Int) > 800 => ?_) (fun hc3 => ?_)
   ·refine sr ?_
    refine os 1 ?_
    refine nq ?_
    refine sr ?_
    refine os 1 ?_
    refine nt ?_
    refine SW_block ?_
    refine SW_loop (α := Nat × Bool) (fun z_ ρ_ σ_ => Fits ρ_ σ_ [(0, .string (bS Zl)), (1, .int .i64 p), (5, .bool z_.2), (6, .int .i64 (z_.1 : Int))] ([]) ∧ (z_.1 ≤ Zl.length ∧ 800 ≤ z_.1) ∧ z_.2 = ((Zl.take z_.1).drop 800).any (· != 48)) (fun z_ => Zl.length - z_.1) (800, false) ⟨⟨fun _ => rfl, ow⟩, ⟨by omega, Nat.le_refl _⟩, by rw [List.drop_of_length_le (by rw [List.length_take]; omega)]; rfl⟩ ?_
    rintro ⟨i, b⟩ ρ_ σ_ ⟨hfit, hi0, hi1⟩
    refine SW_fits hfit ?_
    clear hfit
    simp only [] at hi0 hi1 ⊢
    refine SW_seq ?_
    refine sr ?_
    refine os 2 ?_
    refine oX (.int .i64 ((bS Zl).size : Int)) (.int .i64 (Zl.length : Int)) (congrArg (fun n_ : Nat => Value.int .i64 (n_ : Int)) (bS_size _)) ?_
    refine os 1 ?_
    refine kp [31, 0, 1, 5, 6] ?_
    refine nt ?_
    refine cdp (fun hc4 : (i : Int) < (Zl.length : Int) => ?_) (fun hc4 => ?_)
    ·refine SW_skip (n_then ?_)
     refine SW_seq ?_
     refine SW_block ?_
     refine SW_region ?_
     refine os 2 ?_
     refine tb 35 (fun hg5 => ?_) (fun hg5 => ?_)
     ·replace hg5 : b = true := hg5
      refine os 6 ?_
      refine kp [5, 31, 0, 1, 6] ?_
      refine SL_nil (n_in (n_then ?_))
      refine SW_region ?_
      refine os 3 ?_
      refine nt ?_
      obtain ⟨y_, hy_⟩ : ∃ y_, Zl[i]? = some y_ := ⟨_, List.getElem?_eq_getElem (by omega)⟩
      exact ⟨(i + 1, true), by simp only []; omega, ⟨fun _ => rfl, ow⟩, by simp only []; omega, by simp only []; rw [any_take hy_ (by omega), ← hi1]; rw [hg5]; rfl⟩
     replace hg5 : b = false := hg5
     refine os 2 ?_
     obtain ⟨e2, he2⟩ : ∃ y_, Zl[i]? = some y_ := ⟨_, List.getElem?_eq_getElem (by omega)⟩
     refine ixb (i : Int) Zl .i64 e2 Tryz.underlying9 he2 ?_
     refine os 3 ?_
     refine kp [5, 31, 0, 1, 6] ?_
     refine SL_nil (n_in (n_then ?_))
     refine SW_region ?_
     refine os 3 ?_
     refine nt ?_
     exact ⟨(i + 1, (e2.toNat : Int) != 48), by simp only []; omega, ⟨fun _ => rfl, ow⟩, by simp only []; omega, by simp only []; rw [any_take he2 (by omega), ← hi1]; rw [hg5, bne48]; rfl⟩
    refine SW_exit (x_then (x_then (x_in (n_then ?_))))
    refine sr ?_
    refine os 2 ?_
    refine oX (.int .i64 ((bS Zl).size : Int)) (.int .i64 (Zl.length : Int)) (congrArg (fun n_ : Nat => Value.int .i64 (n_ : Int)) (bS_size _)) ?_
    refine os 3 ?_
    refine kp [1, 31, 0, 5, 6] ?_
    refine nsr ?_
    refine os 1 ?_
    refine L (O_val (.string (bS (Zl.take 800))) rfl (fun δ w _ => run_strTo (l := Zl) 800 .i64 Tryz.underlying9 rfl rfl (by omega) (by omega)) ?_)
    refine os 1 ?_
    refine nsr ?_
    refine os 1 ?_
    refine nt ?_
    refine cd (fun hc6 : (b) = true => ?_) (fun hc6 => ?_)
    ·have hla_ : (Zl.drop 800).any (· != 48) = true := by rw [show i = Zl.length from by omega, List.take_length] at hi1; rw [← hi1]; exact hc6
     refine sr ?_
     refine os 1 ?_
     refine oV (.string (bS ((Zl.take 800) ++ [49]))) ?_ (hs := (fun δ w_ => run_catB (Zl.take 800) [49] (by first | omega | (simp; omega)) rfl rfl))
     refine os 1 ?_
     refine kp [0, 48, 1, 31, 5, 6] ?_
     refine nr ?_
     refine os 3 ?_
     refine nt ?_
     rw [cutD_lost (Y := Zl) (by omega) hla_]
     exact ⟨fun _ => rfl, ow⟩
    have hla_ : (Zl.drop 800).any (· != 48) = false := by rw [show i = Zl.length from by omega, List.take_length] at hi1; rw [← hi1]; exact hc6
    refine SW_skip (n_then ?_)
    rw [cutD_kept (Y := Zl) (by omega) hla_]
    exact ⟨fun _ => rfl, ow⟩
   refine SW_skip (n_then ?_)
   rw [cutD_no (L := Zl) (by omega)]
   exact ⟨fun _ => rfl, ow⟩
  ·rintro ρ_ σ_ hfit
   refine SW_fits hfit ?_
   clear hfit
   refine SW_seq ?_
   refine SW_seq ?_
   have hcf_ := cutD_facts (P := p) hLd_
   have hpos_ := cut_pos (P := p) hLd_ hLs_
   generalize (cutD Zl p).1 = M at hcf_ hpos_ ⊢
   generalize (cutD Zl p).2 = q at hcf_ ⊢
   obtain ⟨hMl_, hMd_, hq1_, hq2_⟩ := hcf_
   refine SW_region ?_
   refine os 1 ?_
   refine oX (.bool ((bS M).toList == (bS []).toList)) (.bool (decide (M = []))) (congrArg Value.bool (by rw [strB_eq])) ?_
   refine os 1 ?_
   refine tbp 55 (fun hg7 => ?_) (fun hg7 => ?_)
   ·replace hg7 : M = [] := hg7
    refine os 6 ?_
    refine kp [61, 0, 1] ?_
    refine nt ?_
    refine ct ?_
    refine sr ?_
    refine os 1 ?_
    refine nt ?_
    refine SW_ret (r_then ?_)
    refine body_end (.int .u64 0) (fun _ => rfl) ?_
    exact ⟨(), ow, congrArg (Value.int .u64) (by rw [nearD_none (by first | exact .inl (by assumption) | exact .inr (by omega))]; rfl)⟩
   replace hg7 : ¬ (M = []) := hg7
   have hne_ : ¬ M = [] := hg7
   refine os 1 ?_
   refine oX (.int .i64 ((bS M).size : Int)) (.int .i64 (M.length : Int)) (congrArg (fun n_ : Nat => Value.int .i64 (n_ : Int)) (bS_size _)) ?_
   refine os 4 ?_
   refine kp [61, 0, 1] ?_
   refine nt ?_
   refine cdp (fun hc8 : ((M.length : Int) + q) < (-330) => ?_) (fun hc8 => ?_)
   ·refine sr ?_
    refine os 1 ?_
    refine nt ?_
    refine SW_ret (r_then ?_)
    refine body_end (.int .u64 0) (fun _ => rfl) ?_
    exact ⟨(), ow, congrArg (Value.int .u64) (by rw [nearD_none (by first | exact .inl (by assumption) | exact .inr (by omega))]; rfl)⟩
   have hlo_ : ¬ (M.length : Int) + q < -330 := by omega
   refine SW_skip (n_then ?_)
   refine SW_seq ?_
   refine sr ?_
   refine os 1 ?_
   refine oX (.int .i64 ((bS M).size : Int)) (.int .i64 (M.length : Int)) (congrArg (fun n_ : Nat => Value.int .i64 (n_ : Int)) (bS_size _)) ?_
   refine os 3 ?_
   refine kp [66, 61, 0, 1] ?_
   refine nt ?_
   refine cdp (fun hc9 : ((M.length : Int) + q) > 310 => ?_) (fun hc9 => ?_)
   ·refine sr ?_
    refine os 1 ?_
    refine nt ?_
    refine SW_ret (r_then ?_)
    refine body_end (.int .u64 9218868437227405312) (fun _ => rfl) ?_
    exact ⟨(), ow, congrArg (Value.int .u64) (by rw [nearD_inf hne_ hlo_ (by omega)]; rfl)⟩
   have hhi_ : ¬ (M.length : Int) + q > 310 := by omega
   refine SW_skip (n_then ?_)
   refine sr ?_
   refine L (nws 87 0 0 [] ?_)
   intro b10
   refine os 1 ?_
   refine nq ?_
   refine sr ?_
   refine os 1 ?_
   refine nt ?_
   refine SW_block ?_
   refine SW_sig ((Gs.ent 87 1 (Gs.at b10 0) (([] : List Int).map encP)) ++ ([])) rfl ?_
   have hMs_ : (lim (ofD M)).length ≤ 1048576 := len_bits (Nat.le_trans (bitsN_ten (k := M.length) (by have := ofD_tensK (K := M.length) (n := 0) hMd_ (Nat.le_refl _); simpa using this)) (by omega))
   refine SW_loop (α := Nat × Gs × List Int) (fun z_ ρ_ σ_ => Fits ρ_ σ_ [(0, .string (bS M)), (1, .int .i64 q), (7, Gs.val z_.2.1 z_.2.2.length), (8, .int .i64 (z_.1 : Int))] ((Gs.ent 87 1 z_.2.1 (z_.2.2.map encP)) ++ ([])) ∧ z_.1 ≤ M.length ∧ Gs.ok 1 z_.2.2.length z_.2.1 (z_.2.2.map encP) ∧ z_.2.2 = lim (ofD (M.take z_.1))) (fun z_ => M.length - z_.1) (0, (Gs.at b10 0), []) ⟨⟨fun _ => rfl, ow⟩, Nat.zero_le _, ⟨Nat.le_refl _, by unfold maxLen; omega, rfl⟩, by simp [ofD, lim_zero]⟩ ?_
   rintro ⟨i, g, l⟩ ρ_ σ_ ⟨hfit, hi0, hi1, hi2⟩
   refine SW_fits hfit ?_
   clear hfit
   simp only [] at hi0 hi1 hi2 ⊢
   subst hi2
   refine SW_seq ?_
   refine sr ?_
   refine os 2 ?_
   refine oX (.int .i64 ((bS M).size : Int)) (.int .i64 (M.length : Int)) (congrArg (fun n_ : Nat => Value.int .i64 (n_ : Int)) (bS_size _)) ?_
   refine os 1 ?_
   refine kp [71, 0, 1, 7, 8] ?_
   refine nt ?_
   refine cdp (fun hc11 : (i : Int) < (M.length : Int) => ?_) (fun hc11 => ?_)
   ·refine SW_skip (n_then ?_)
    refine SW_seq ?_
    refine SW_block ?_
    obtain ⟨e3, he3⟩ : ∃ y_, M[i]? = some y_ := ⟨_, List.getElem?_eq_getElem (by omega)⟩
    have hdi_ := hMd_ _ (List.mem_of_getElem? he3)
    refine SW_region ?_
    refine os 3 ?_
    refine ixb (i : Int) M .i64 e3 Tryz.underlying9 he3 ?_
    refine os 2 ?_
    have hq_ := r2_times (W0 := W0) (n := 10) (more := e3.toNat - 48) (hi1 : Gs.ok 1 (lim (ofD (M.take i))).length g ((lim (ofD (M.take i))).map encP)) (Nat.le_trans (lim_len_mono (ofD_take_le _ _)) hMs_) (by decide) (by omega)
    rw [← ofD_step he3, show ((e3.toNat - 48 : Nat) : Int) = (e3.toNat : Int) - 48 from by omega] at hq_
    refine L (cl (hq_) ?_)
    rintro _ u1 ⟨rfl, hku1⟩
    refine un ?_
    refine os 1 ?_
    refine kp [7, 71, 0, 1, 8] ?_
    refine SL_nil (n_in (n_then ?_))
    refine SW_region ?_
    refine os 3 ?_
    refine nt ?_
    exact ⟨(i + 1, u1, _), by simp only []; omega, ⟨fun _ => rfl, ow⟩, by simp only []; omega, hku1, rfl⟩
   refine SW_exit (x_then (x_then (x_in (n_then ?_))))
   refine SW_seq ?_
   have hin_ : i = M.length := by omega
   rw [hin_, List.take_length] at hi1 ⊢
   refine SW_region ?_
   refine os 2 ?_
   refine oV (.int .i64 (if 0 > q then 0 else q)) ?_
   have hq_ := r2_tens (W0 := W0) (a0 := ofD M) (n := q.toNat) hi1 (len_bits (Nat.le_trans (bitsN_ten (ofD_tens hMd_ hMl_)) (by omega))) (by omega)
   rw [← max0] at hq_
   refine L (cl (hq_) ?_)
   rintro _ u2 ⟨rfl, hku2⟩
   refine os 1 ?_
   refine kp [9, 71, 0, 1, 7, 8] ?_
   refine nsr ?_
   refine L (cl (r2_nat (n := 1) (by decide)) ?_)
   rintro _ u3 ⟨rfl, hku3⟩
   refine os 1 ?_
   refine oX (.int .i64 (IntKind.wrap .i64 (0 - q))) (.int .i64 (-q)) (congrArg (Value.int .i64) ((IntWalk.i64_in _ (by omega)).trans (Int.zero_sub _))) ?_
   refine oV (.int .i64 (if 0 > -q then 0 else -q)) ?_
   have hq_ := r2_tens (W0 := W0) (a0 := 1) (n := (-q).toNat) hku3 (len_bits (Nat.le_trans (bitsN_ten (one_tens _)) (by omega))) (by omega)
   rw [← max0] at hq_
   refine L (cl (hq_) ?_)
   rintro _ u4 ⟨rfl, hku4⟩
   refine os 1 ?_
   refine kp [10, 9, 71, 0, 1, 7, 8] ?_
   refine nsr ?_
   refine os 1 ?_
   refine nsr ?_
   refine os 1 ?_
   refine nq ?_
   refine SW_block ?_
   obtain ⟨S, hS⟩ : ∃ S : Nat, S = 1074 := ⟨_, rfl⟩
   have hPb_ : bitsN (ofD M * 10 ^ q.toNat) ≤ 4900 := Nat.le_trans (bitsN_ten (ofD_tensK (K := M.length) hMd_ (Nat.le_refl _))) (by omega)
   have hQb_ : bitsN (1 * 10 ^ (-q).toNat) ≤ 4900 := Nat.le_trans (bitsN_ten (one_tens _)) (by omega)
   have hP0_ : 0 < ofD M * 10 ^ q.toNat := Nat.mul_pos (hpos_ hne_) (Nat.pow_pos (by decide))
   have hQ0_ : 0 < 1 * 10 ^ (-q).toNat := by rw [Nat.one_mul]; exact Nat.pow_pos (by decide)
   have hnd_ := nearD_some hne_ hlo_ hhi_
   generalize ofD M * 10 ^ q.toNat = P0 at *
   generalize 1 * 10 ^ (-q).toNat = Q0 at *
   refine SW_loop (α := Nat × Nat × Nat) (fun z_ ρ_ σ_ => Fits ρ_ σ_ [(9, Gs.val u2 ((lim P0).length)), (10, Gs.val u4 ((lim Q0).length)), (11, .int .u64 (z_.1 : Int)), (12, .int .u64 (z_.2.1 : Int))] ((Gs.ent 87 1 u4 ((lim Q0).map encP)) ++ ((Gs.ent 87 1 u2 ((lim P0).map encP)) ++ ([]))) ∧ (z_.2.2 ≤ 63 ∧ z_.2.1 = 2 ^ z_.2.2 / 2) ∧ (z_.1 < 9218868437227405312 ∧ z_.1 + 2 ^ z_.2.2 ≤ 9223372036854775808) ∧ Q0 * valF z_.1 ≤ P0 * 2 ^ S ∧ (9218868437227405312 ≤ z_.1 + 2 ^ z_.2.2 ∨ P0 * 2 ^ S < Q0 * valF (z_.1 + 2 ^ z_.2.2))) (fun z_ => z_.2.2) (0, 4611686018427387904, 63) ⟨⟨fun _ => rfl, ow⟩, ⟨Nat.le_refl _, by decide⟩, ⟨by decide, by decide⟩, by rw [valF_zero]; omega, .inl (by decide)⟩ ?_
   rintro ⟨a, b, j⟩ ρ_ σ_ ⟨hfit, hi0, hi1, hi2, hi3⟩
   refine SW_fits hfit ?_
   clear hfit
   simp only [] at hi0 hi1 hi2 hi3 ⊢
   refine SW_seq ?_
   refine sr ?_
   refine os 2 ?_
   refine nt ?_
   refine cdp (fun hc12 : (b : Int) > 0 => ?_) (fun hc12 => ?_)
   ·refine SW_skip (n_then ?_)
    refine SW_block ?_
    refine SW_seq ?_
    refine SW_seq ?_
    obtain ⟨k, rfl⟩ : ∃ k, j = k + 1 := ⟨j - 1, by rcases Nat.eq_zero_or_pos j with z | z; (subst z; have := hi0.2; omega); omega⟩
    have hbk_ : b = 2 ^ k := by rw [hi0.2, Nat.pow_succ, Nat.mul_div_cancel _ (by decide)]
    have hj2_ : a + 2 ^ (k + 1) = a + b + 2 ^ k := by rw [hbk_, Nat.pow_succ]; omega
    have hp2_ := Nat.two_pow_pos k
    refine SW_region ?_
    refine os 5 ?_
    refine tbp 96 (fun hg13 => ?_) (fun hg13 => ?_)
    ·replace hg13 : ((a : Int) + (b : Int)) < 9218868437227405312 := hg13
     refine os 5 ?_
     refine kp [101, 98, 97, 96, 91, 9, 10, 11, 12] ?_
     obtain ⟨-, hmn_, -⟩ := a_parts (a + b)
     have hex_ := expP_in (a := (a + b)) (by omega)
     refine L (cl (r2_partsZ (a := a + b) (z := (a : Int) + (b : Int)) (by omega) (by omega)) ?_)
     rintro _ nb14 rfl
     refine un ?_
     refine oV (.int .u64 (manP (a + b) : Int)) ?_
     refine os 3 ?_
     refine L (cl (r2_partsZ (a := a + b) (z := (a : Int) + (b : Int)) (by omega) (by omega)) ?_)
     rintro _ nb15 rfl
     refine un ?_
     refine oV (.int .i64 ((expP (a + b) : Int) - 1075)) ?_
     refine kp [108, 103, 98, 97, 96, 91, 9, 10, 11, 12] ?_
     refine L (cl (r2_againstZ (p0 := P0) (q0 := Q0) (m := manP (a + b)) (z := (manP (a + b) : Int)) (e := ((expP (a + b) : Int) - 1075)) (by omega) hku2 hku4 hPb_ hQb_ (by omega) (by omega)) ?_)
     rintro _ _ rfl
     refine un ?_
     refine os 2 ?_
     refine kp [111, 91, 9, 10, 11, 12] ?_
     refine nt ?_
     refine cdp (fun hc16 : (againstP P0 Q0 (manP (a + b)) ((expP (a + b) : Int) - 1075)) ≥ 0 => ?_) (fun hc16 => ?_)
     ·refine SW_region ?_
      refine os 4 ?_
      refine kp [11, 111, 91, 9, 10, 12] ?_
      refine nr ?_
      refine os 1 ?_
      refine oX (.int .u64 (IntKind.wrap .u64 (Int.tdiv (b : Int) 2))) (.int .u64 ((b : Int) / 2)) (congrArg (Value.int .u64) (quo_u64 (by omega) (by omega) (by decide))) ?_
      refine os 1 ?_
      refine SL_nil (n_in (n_then ?_))
      rw [show (b : Int) / 2 = ((b / 2 : Nat) : Int) from by omega, show (a : Int) + (b : Int) = ((a + b : Nat) : Int) from by omega]
      exact ⟨(a + b, b / 2, k), by simp only []; omega, ⟨fun _ => rfl, ow⟩, by simp only []; rw [hbk_]; exact ⟨by omega, rfl⟩, by simp only []; omega, (against_val hS).1 hc16, by simp only []; rw [← hj2_]; exact hi3⟩
     refine SW_skip (n_then ?_)
     refine SW_region ?_
     refine os 1 ?_
     refine oX (.int .u64 (IntKind.wrap .u64 (Int.tdiv (b : Int) 2))) (.int .u64 ((b : Int) / 2)) (congrArg (Value.int .u64) (quo_u64 (by omega) (by omega) (by decide))) ?_
     refine os 1 ?_
     refine SL_nil (n_in (n_then ?_))
     rw [show (b : Int) / 2 = ((b / 2 : Nat) : Int) from by omega]
     exact ⟨(a, b / 2, k), by simp only []; omega, ⟨fun _ => rfl, ow⟩, by simp only []; rw [hbk_]; exact ⟨by omega, rfl⟩, by simp only []; omega, hi2, by simp only []; rw [← hbk_]; exact .inr (Nat.lt_of_not_le fun z_ => hc16 ((against_val (p := P0) (q := Q0) (a := a + b) hS).2 z_))⟩
    replace hg13 : ¬ (((a : Int) + (b : Int)) < 9218868437227405312) := hg13
    refine os 15 ?_
    refine kp [111, 91, 9, 10, 11, 12] ?_
    refine nt ?_
    refine cf ?_
    refine SW_skip (n_then ?_)
    refine SW_region ?_
    refine os 1 ?_
    refine oX (.int .u64 (IntKind.wrap .u64 (Int.tdiv (b : Int) 2))) (.int .u64 ((b : Int) / 2)) (congrArg (Value.int .u64) (quo_u64 (by omega) (by omega) (by decide))) ?_
    refine os 1 ?_
    refine SL_nil (n_in (n_then ?_))
    rw [show (b : Int) / 2 = ((b / 2 : Nat) : Int) from by omega]
    exact ⟨(a, b / 2, k), by simp only []; omega, ⟨fun _ => rfl, ow⟩, by simp only []; rw [hbk_]; exact ⟨by omega, rfl⟩, by simp only []; omega, hi2, by simp only []; rw [← hbk_]; exact .inl (by omega)⟩
   refine SW_exit (x_then (x_then (x_in (n_then ?_))))
   refine SW_seq ?_
   have hj0_ : j = 0 := by rcases Nat.eq_zero_or_pos j with z | z; exact z; exfalso; have := hi0.2; have h2_ : 2 ^ 1 ≤ 2 ^ j := Nat.pow_le_pow_right (by decide) z; omega
   subst hj0_
   rw [Nat.pow_zero] at hi3
   refine SW_region ?_
   refine os 1 ?_
   obtain ⟨-, hmn_, -⟩ := a_parts a
   have hex_ := expP_in (a := a) (by omega)
   refine L (cl (r2_partsZ (a := a) (z := (a : Int)) (by omega) (by omega)) ?_)
   rintro _ nb17 rfl
   refine un ?_
   refine L (nw 155 4 [.int .u64 0, .int .i64 0, .bool false, .bool false] ?_)
   intro b18
   refine L (st [.int .u64 (manP a : Int), .int .i64 ((expP a : Int) - 1075), .bool (decide (a % 2 = 0)), .bool nb17] ?_)
   refine nsr ?_
   refine os 3 ?_
   refine L (ld ?_)
   refine os 3 ?_
   refine kp [125, 124, 120, 119, 13, 91, 9, 10, 11, 12] ?_
   refine L (ld ?_)
   refine os 1 ?_
   refine L (cl (r2_againstZ (p0 := P0) (q0 := Q0) (m := 2 * manP a + 1) (z := (2 * (manP a : Int)) + 1) (e := ((expP a : Int) - 1075) - 1) (by omega) hku2 hku4 hPb_ hQb_ (by omega) (by omega)) ?_)
   rintro _ _ rfl
   refine un ?_
   refine os 1 ?_
   refine kp [14, 13, 91, 9, 10, 11, 12] ?_
   refine nq ?_
   refine sr ?_
   refine os 3 ?_
   refine tbp 131 (fun hg19 => ?_) (fun hg19 => ?_)
   ·replace hg19 : (againstP P0 Q0 (2 * manP a + 1) (((expP a : Int) - 1075) - 1)) > 0 := hg19
    refine os 8 ?_
    refine kp [139, 14, 13, 91, 9, 10, 11, 12] ?_
    refine nt ?_
    refine ct ?_
    refine SW_region ?_
    refine os 3 ?_
    refine nsr ?_
    refine os 2 ?_
    refine kp [4, 11, 139, 14, 13, 91, 9, 10, 12] ?_
    refine nt ?_
    refine SW_ret ?_
    refine body_end (.int .u64 ((a : Int) + 1)) (fun _ => rfl) ?_
    have hre_ := near10_end (up := True) hP0_ hQ0_ hS hPb_ hQb_ hi1.1 hi2 hi3 (iff_of_true trivial (by first | exact .inl (by assumption) | exact .inr ⟨by assumption, by omega⟩))
    rw [if_pos trivial] at hre_
    exact ⟨(), ow, congrArg (Value.int .u64) (by rw [hnd_, hre_]; omega)⟩
   replace hg19 : ¬ ((againstP P0 Q0 (2 * manP a + 1) (((expP a : Int) - 1075) - 1)) > 0) := hg19
   refine os 3 ?_
   refine tb 134 (fun hg20 => ?_) (fun hg20 => ?_)
   ·replace hg20 : ((againstP P0 Q0 (2 * manP a + 1) (((expP a : Int) - 1075) - 1)) == 0) = true := hg20
    simp only [beq_iff_eq, bne_iff_ne, ne_eq, beq_eq_false_iff_ne, bne_eq_false_iff_eq, Classical.not_not] at hg20
    refine os 1 ?_
    refine L (ld ?_)
    refine os 3 ?_
    refine kp [139, 14, 13, 91, 9, 10, 11, 12] ?_
    refine nt ?_
    refine cd (fun hc21 : (!(decide (a % 2 = 0))) = true => ?_) (fun hc21 => ?_)
    ·replace hc21 := bnot_t hc21
     replace hc21 := of_decide_eq_false hc21
     refine SW_region ?_
     refine os 3 ?_
     refine nsr ?_
     refine os 2 ?_
     refine kp [4, 11, 139, 14, 13, 91, 9, 10, 12] ?_
     refine nt ?_
     refine SW_ret ?_
     refine body_end (.int .u64 ((a : Int) + 1)) (fun _ => rfl) ?_
     have hre_ := near10_end (up := True) hP0_ hQ0_ hS hPb_ hQb_ hi1.1 hi2 hi3 (iff_of_true trivial (by first | exact .inl (by assumption) | exact .inr ⟨by assumption, by omega⟩))
     rw [if_pos trivial] at hre_
     exact ⟨(), ow, congrArg (Value.int .u64) (by rw [hnd_, hre_]; omega)⟩
    replace hc21 := bnot_f hc21
    replace hc21 := of_decide_eq_true hc21
    refine SW_skip (n_then ?_)
    refine sr ?_
    refine os 2 ?_
    refine nt ?_
    refine SW_ret ?_
    refine body_end (.int .u64 (a : Int)) (fun _ => rfl) ?_
    have hre_ := near10_end (up := False) hP0_ hQ0_ hS hPb_ hQb_ hi1.1 hi2 hi3 (iff_of_false id (by rintro (q_ | ⟨q_, q2_⟩) <;> omega))
    rw [if_neg id] at hre_
    exact ⟨(), ow, congrArg (Value.int .u64) (by rw [hnd_, hre_])⟩
   replace hg20 : ((againstP P0 Q0 (2 * manP a + 1) (((expP a : Int) - 1075) - 1)) == 0) = false := hg20
   simp only [beq_iff_eq, bne_iff_ne, ne_eq, beq_eq_false_iff_ne, bne_eq_false_iff_eq, Classical.not_not] at hg20
   refine os 5 ?_
   refine kp [139, 14, 13, 91, 9, 10, 11, 12] ?_
   refine nt ?_
   refine cf ?_
   refine SW_skip (n_then ?_)
   refine sr ?_
   refine os 2 ?_
   refine nt ?_
   refine SW_ret ?_
   refine body_end (.int .u64 (a : Int)) (fun _ => rfl) ?_
   have hre_ := near10_end (up := False) hP0_ hQ0_ hS hPb_ hQb_ hi1.1 hi2 hi3 (iff_of_false id (by rintro (q_ | ⟨q_, q2_⟩) <;> omega))
   rw [if_neg id] at hre_
   exact ⟨(), ow, congrArg (Value.int .u64) (by rw [hnd_, hre_])⟩

end Go.Proofs.YtnhmmjogfkjceaaGreatDoor
namespace Go.Proofs.YtnhmmjogfkjceaaGreatDoor
open Go.Sl

theorem r2_Digits {W0 : World} {X : Bytes} (hX : X.length ≤ 1152921504606846976) : SC Tryz.prog W0 107 #[.string (bS X)] [] (Ret (fun _ : Unit => []) (fun v _ => v = .int .i64 ((X.takeWhile isDig).length : Int))) := by
 refine SC_body (fn := Tryz.f107) (n := 23) Tryz.func107 rfl (by kernel_rfl) (ρ := [(0, .string (bS X))]) rfl ?_
 refine sr ?_
 refine os 1 ?_
 refine nsr ?_
 refine os 1 ?_
 refine nq ?_
 refine SW_block ?_
 refine SW_loop (α := Nat) (fun z_ ρ_ σ_ => Fits ρ_ σ_ [(0, .string (bS X)), (3, .int .i64 (z_ : Int))] ([]) ∧ z_ ≤ X.length ∧ (X.takeWhile isDig).length = z_ + ((X.drop z_).takeWhile isDig).length) (fun z_ => X.length - z_) 0 ⟨⟨fun _ => rfl, ow⟩, Nat.zero_le _, by simp⟩ ?_
 rintro i ρ_ σ_ ⟨hfit, hi0, hi1⟩
 refine SW_fits hfit ?_
 clear hfit
 refine SW_seq ?_
 refine sr ?_
 refine os 2 ?_
 refine oX (.int .i64 ((bS X).size : Int)) (.int .i64 (X.length : Int)) (congrArg (fun n_ : Nat => Value.int .i64 (n_ : Int)) (bS_size _)) ?_
 refine os 2 ?_
 refine tbp 8 (fun hg1 => ?_) (fun hg1 => ?_)
 ·replace hg1 : (i : Int) < (X.length : Int) := hg1
  refine os 2 ?_
  obtain ⟨e1, he1⟩ : ∃ y_, X[i]? = some y_ := ⟨_, List.getElem?_eq_getElem (by omega)⟩
  refine ixb (i : Int) X .i64 e1 Tryz.underlying9 he1 ?_
  refine os 3 ?_
  refine kp [14, 0, 3] ?_
  refine tbp 14 (fun hg2 => ?_) (fun hg2 => ?_)
  ·replace hg2 : (e1.toNat : Int) ≥ 48 := hg2
   refine os 2 ?_
   refine ixb (i : Int) X .i64 e1 Tryz.underlying9 he1 ?_
   refine os 2 ?_
   refine kp [19, 0, 3] ?_
   refine nt ?_
   refine cdp (fun hc3 : (e1.toNat : Int) ≤ 57 => ?_) (fun hc3 => ?_)
   ·refine SW_skip (n_then ?_)
    refine SW_block ?_
    refine SW_region ?_
    refine os 3 ?_
    refine SL_nil (n_in (n_then ?_))
    rw [show (i : Int) + 1 = ((i + 1 : Nat) : Int) from by omega]
    exact ⟨i + 1, by omega, ⟨fun _ => rfl, ow⟩, by omega, by have := tw_step he1 (dig_yes (by omega) (by omega)); omega⟩
   refine SW_exit (x_then (x_then (x_in (n_then ?_))))
   refine sr ?_
   refine os 2 ?_
   refine nt ?_
   refine SW_ret ?_
   refine body_end (.int .i64 (i : Int)) (fun _ => rfl) ?_
   have hst_ := tw_stop (X := X) (i := i) (.inr ⟨_, he1, dig_no (by omega)⟩)
   exact ⟨(), ow, congrArg (Value.int .i64) (by omega)⟩
  replace hg2 : ¬ ((e1.toNat : Int) ≥ 48) := hg2
  refine os 5 ?_
  refine kp [19, 0, 3] ?_
  refine nt ?_
  refine cf ?_
  refine SW_exit (x_then (x_then (x_in (n_then ?_))))
  refine sr ?_
  refine os 2 ?_
  refine nt ?_
  refine SW_ret ?_
  refine body_end (.int .i64 (i : Int)) (fun _ => rfl) ?_
  have hst_ := tw_stop (X := X) (i := i) (.inr ⟨_, he1, dig_no (by omega)⟩)
  exact ⟨(), ow, congrArg (Value.int .i64) (by omega)⟩
 replace hg1 : ¬ ((i : Int) < (X.length : Int)) := hg1
 refine os 11 ?_
 refine kp [19, 0, 3] ?_
 refine nt ?_
 refine cf ?_
 refine SW_exit (x_then (x_then (x_in (n_then ?_))))
 refine sr ?_
 refine os 2 ?_
 refine nt ?_
 refine SW_ret ?_
 refine body_end (.int .i64 (i : Int)) (fun _ => rfl) ?_
 have hst_ := tw_stop (X := X) (i := i) (.inl (by omega))
 exact ⟨(), ow, congrArg (Value.int .i64) (by omega)⟩

theorem r2_Decimal {W0 : World} {X : Bytes} (hX : X.length ≤ 1152921504606846976) : SC Tryz.prog W0 48 #[.string (bS X)] [] (Ret (fun _ : Int × Int × Bool => []) (fun v x => v = .tuple #[.int .i64 x.1, .int .i64 x.2.1, .bool x.2.2, .bool (decP X).2] ∧ ((decP X).2 = true → x.1 = ((decP X).1.ahead.length : Int) ∧ x.2.1 = ((decP X).1.behind.length : Int) ∧ x.2.2 = decide (46 ∈ X)))) := by
 refine SC_body (fn := Tryz.f48) (n := 79) Tryz.func48 rfl (by kernel_rfl) (ρ := [(0, .string (bS X))]) rfl ?_
 refine sr ?_
 refine os 4 ?_
 refine nsr ?_
 refine os 1 ?_
 have htw1_ := takeWhile_len isDig X
 refine L (cl (r2_Digits (X := X) (by first | omega | (simp; omega))) ?_)
 rintro _ _ rfl
 refine un ?_
 refine os 1 ?_
 refine nsr ?_
 refine os 2 ?_
 refine L (O_val (.string (bS (X.drop ((((X.takeWhile isDig).length : Nat) : Int)).toNat))) rfl (fun δ w _ => run_strFrom (l := X) (((X.takeWhile isDig).length : Nat) : Int) .i64 Tryz.underlying9 rfl rfl (by omega) (by omega)) ?_)
 rw [show ((((X.takeWhile isDig).length : Nat) : Int)).toNat = ((X.takeWhile isDig).length) from by omega]
 refine os 1 ?_
 refine kp [0, 6, 5, 4, 3, 2] ?_
 refine nq ?_
 rw [drop_tw]
 obtain ⟨A, hA⟩ : ∃ A, X.takeWhile isDig = A := ⟨_, rfl⟩
 obtain ⟨R0, hR0⟩ : ∃ R, X.dropWhile isDig = R := ⟨_, rfl⟩
 have hdl_ : R0.length ≤ X.length := by rw [← hR0]; exact dropWhile_len _ _
 rw [hA] at htw1_ ⊢
 rw [hR0]
 refine SW_region ?_
 refine os 1 ?_
 refine nq ?_
 refine SW_cut5 (fun ρ_ σ_ => Fits ρ_ σ_ [(0, .string (bS (fracP R0).2)), (6, .int .i64 (A.length : Int)), (7, .int .i64 (((fracP R0).1.length : Nat) : Int)), (8, .bool (Lib.hasPrefix R0 [46]))] ([])) ?_ ?_
 ·refine SW_region ?_
  refine os 1 ?_
  refine oX (.int .i64 ((bS R0).size : Int)) (.int .i64 (R0.length : Int)) (congrArg (fun n_ : Nat => Value.int .i64 (n_ : Int)) (bS_size _)) ?_
  refine os 2 ?_
  refine tbp 18 (fun hg1 => ?_) (fun hg1 => ?_)
  ·replace hg1 : (R0.length : Int) > 0 := hg1
   refine os 1 ?_
   obtain ⟨e1, he1⟩ : ∃ y_, R0[0]? = some y_ := ⟨_, List.getElem?_eq_getElem (by omega)⟩
   refine ixb 0 R0 .i64 e1 Tryz.underlying9 he1 ?_
   refine os 3 ?_
   refine kp [8, 7, 0, 6] ?_
   refine nsr ?_
   refine os 1 ?_
   refine nt ?_
   refine cd (fun hc2 : ((e1.toNat : Int) == 46) = true => ?_) (fun hc2 => ?_)
   ·simp only [beq_iff_eq, bne_iff_ne, ne_eq, beq_eq_false_iff_ne, bne_eq_false_iff_eq, Classical.not_not] at hc2
    refine sr ?_
    refine os 1 ?_
    refine L (O_val (.string (bS (R0.drop 1))) rfl (fun δ w _ => run_strFrom (l := R0) 1 .i64 Tryz.underlying9 rfl rfl (by omega) (by omega)) ?_)
    have htw6_ := takeWhile_len isDig (R0.drop 1)
    refine L (cl (r2_Digits (X := R0.drop 1) (by first | omega | (simp; omega))) ?_)
    rintro _ _ rfl
    refine un ?_
    refine os 1 ?_
    refine kp [7, 23, 8, 0, 6] ?_
    refine nt ?_
    have hdr_ : (R0.drop 1).length + 1 = R0.length := by rw [List.length_drop]; omega
    refine SW_region ?_
    refine os 3 ?_
    refine L (O_val (.string (bS (R0.drop (1 + ((((R0.drop 1).takeWhile isDig).length : Nat) : Int)).toNat))) rfl (fun δ w _ => run_strFrom (l := R0) (1 + ((((R0.drop 1).takeWhile isDig).length : Nat) : Int)) .i64 Tryz.underlying9 rfl rfl (by omega) (by omega)) ?_)
    rw [show (1 + ((((R0.drop 1).takeWhile isDig).length : Nat) : Int)).toNat = (1 + ((R0.drop 1).takeWhile isDig).length) from by omega]
    refine os 1 ?_
    refine kp [0, 7, 23, 8, 6] ?_
    refine nt ?_
    have hc_ := cons_of_at he1
    rw [show e1 = 46 from (u8_eq (n := 46) (by decide)).1 (by omega)] at hc_
    have hf_ : fracP R0 = ((R0.drop 1).takeWhile isDig, (R0.drop 1).dropWhile isDig) := by (conv => lhs; rw [hc_]); rfl
    rw [hf_, pre46 he1]
    rw [show R0.drop (1 + ((R0.drop 1).takeWhile isDig).length) = (R0.drop 1).dropWhile isDig from by rw [← List.drop_drop]; exact drop_tw _]
    exact ⟨fun _ => rfl, ow⟩
   simp only [beq_iff_eq, bne_iff_ne, ne_eq, beq_eq_false_iff_ne, bne_eq_false_iff_eq, Classical.not_not] at hc2
   refine SW_skip (n_then ?_)
   have hp_ : Lib.hasPrefix R0 [46] = false := by rw [pre46 he1]; exact beq_eq_false_iff_ne.2 (by omega)
   rw [fracP_no hp_, pre46 he1]
   exact ⟨fun _ => rfl, ow⟩
  replace hg1 : ¬ ((R0.length : Int) > 0) := hg1
  refine os 5 ?_
  refine kp [8, 7, 0, 6] ?_
  refine nsr ?_
  refine os 1 ?_
  refine nt ?_
  refine cf ?_
  refine SW_skip (n_then ?_)
  have hp_ : Lib.hasPrefix R0 [46] = false := by rw [show R0 = [] from List.length_eq_zero_iff.1 (by omega)]; rfl
  rw [fracP_no hp_, hp_]
  exact ⟨fun _ => rfl, ow⟩
 ·rintro ρ_ σ_ hfit
  refine SW_fits hfit ?_
  clear hfit
  refine SW_seq ?_
  refine SW_seq ?_
  have hfl_ := fracP_len R0
  obtain ⟨B, hB⟩ : ∃ B, (fracP R0).1 = B := ⟨_, rfl⟩
  obtain ⟨R, hR⟩ : ∃ R, (fracP R0).2 = R := ⟨_, rfl⟩
  obtain ⟨pt, hpt⟩ : ∃ b, Lib.hasPrefix R0 [46] = b := ⟨_, rfl⟩
  have hdot_ : (decP X).2 = true → pt = decide (46 ∈ X) := fun h_ => pre_mem h_ (by rw [hR0]; exact hpt)
  rw [hB, hR] at hfl_
  rw [hB, hR, hpt]
  rw [← hR0] at hB hR
  refine SW_region ?_
  refine os 4 ?_
  refine kp [34, 0, 6, 7, 8] ?_
  refine nt ?_
  refine cd (fun hc3 : (((A.length : Int) + ((B.length : Nat) : Int)) == 0) = true => ?_) (fun hc3 => ?_)
  ·simp only [beq_iff_eq, bne_iff_ne, ne_eq, beq_eq_false_iff_ne, bne_eq_false_iff_eq, Classical.not_not] at hc3
   refine sr ?_
   refine os 4 ?_
   refine nt ?_
   refine SW_ret (r_then ?_)
   refine body_end (.tuple #[.int .i64 0, .int .i64 0, .bool false, .bool false]) (fun _ => rfl) ?_
   have hd_ := decP_none (X := X) hA hB ⟨List.length_eq_zero_iff.1 (by omega), List.length_eq_zero_iff.1 (by omega)⟩
   exact ⟨(0, 0, false), ow, by rw [hd_], fun h_ => by rw [hd_] at h_; cases h_⟩
  simp only [beq_iff_eq, bne_iff_ne, ne_eq, beq_eq_false_iff_ne, bne_eq_false_iff_eq, Classical.not_not] at hc3
  refine SW_skip (n_then ?_)
  refine SW_seq ?_
  refine sr ?_
  refine os 1 ?_
  refine oX (.int .i64 ((bS R).size : Int)) (.int .i64 (R.length : Int)) (congrArg (fun n_ : Nat => Value.int .i64 (n_ : Int)) (bS_size _)) ?_
  refine os 1 ?_
  refine nt ?_
  refine cd (fun hc4 : ((R.length : Int) == 0) = true => ?_) (fun hc4 => ?_)
  ·simp only [beq_iff_eq, bne_iff_ne, ne_eq, beq_eq_false_iff_ne, bne_eq_false_iff_eq, Classical.not_not] at hc4
   refine sr ?_
   refine os 7 ?_
   refine kp [5, 4, 3, 2, 37, 34, 0, 6, 7, 8] ?_
   refine nt ?_
   refine SW_ret (r_then ?_)
   refine body_end (.tuple #[.int .i64 (A.length : Int), .int .i64 ((B.length : Nat) : Int), .bool pt, .bool true]) (fun _ => rfl) ?_
   have hn0_ : ¬ (A = [] ∧ B = []) := by rintro ⟨q1_, q2_⟩; subst q1_ q2_; simp at *
   have hd_ := decP_end (X := X) hA hB hR hn0_ (List.length_eq_zero_iff.1 (by omega))
   exact ⟨((A.length : Int), (B.length : Int), pt), ow, by rw [hd_], fun h_ => ⟨by rw [hd_], by rw [hd_], hdot_ h_⟩⟩
  simp only [beq_iff_eq, bne_iff_ne, ne_eq, beq_eq_false_iff_ne, bne_eq_false_iff_eq, Classical.not_not] at hc4
  refine SW_skip (n_then ?_)
  refine SW_seq ?_
  refine sr ?_
  refine os 1 ?_
  obtain ⟨e2, he2⟩ : ∃ y_, R[0]? = some y_ := ⟨_, List.getElem?_eq_getElem (by omega)⟩
  refine ixb 0 R .i64 e2 Tryz.underlying9 he2 ?_
  refine os 2 ?_
  refine tb 44 (fun hg5 => ?_) (fun hg5 => ?_)
  ·replace hg5 : ((e2.toNat : Int) != 101) = true := hg5
   simp only [beq_iff_eq, bne_iff_ne, ne_eq, beq_eq_false_iff_ne, bne_eq_false_iff_eq, Classical.not_not] at hg5
   refine os 1 ?_
   refine ixb 0 R .i64 e2 Tryz.underlying9 he2 ?_
   refine os 2 ?_
   refine kp [48, 37, 34, 0, 6, 7, 8] ?_
   refine nt ?_
   refine cd (fun hc6 : ((e2.toNat : Int) != 69) = true => ?_) (fun hc6 => ?_)
   ·simp only [beq_iff_eq, bne_iff_ne, ne_eq, beq_eq_false_iff_ne, bne_eq_false_iff_eq, Classical.not_not] at hc6
    refine sr ?_
    refine os 4 ?_
    refine nt ?_
    refine SW_ret (r_then ?_)
    refine body_end (.tuple #[.int .i64 0, .int .i64 0, .bool false, .bool false]) (fun _ => rfl) ?_
    have hn0_ : ¬ (A = [] ∧ B = []) := by rintro ⟨q1_, q2_⟩; subst q1_ q2_; simp at *
    have hRc_ := cons_of_at he2
    have hd_ := decP_other (X := X) hA hB hR hn0_ hRc_ ⟨fun q_ => absurd ((u8_eq (n := 101) (by decide)).2 q_) (by omega), fun q_ => absurd ((u8_eq (n := 69) (by decide)).2 q_) (by omega)⟩
    exact ⟨(0, 0, false), ow, by rw [hd_], fun h_ => by rw [hd_] at h_; cases h_⟩
   simp only [beq_iff_eq, bne_iff_ne, ne_eq, beq_eq_false_iff_ne, bne_eq_false_iff_eq, Classical.not_not] at hc6
   refine SW_skip (n_then ?_)
   refine sr ?_
   refine os 1 ?_
   refine L (O_val (.string (bS (R.drop 1))) rfl (fun δ w _ => run_strFrom (l := R) 1 .i64 Tryz.underlying9 rfl rfl (by omega) (by omega)) ?_)
   refine os 1 ?_
   refine nq ?_
   refine SW_seq ?_
   obtain ⟨r, hr_⟩ : ∃ r, R.drop 1 = r := ⟨_, rfl⟩
   have hrl_ : r.length ≤ R.length := by rw [← hr_, List.length_drop]; omega
   rw [hr_]
   refine SW_cut3 (fun ρ_ σ_ => Fits ρ_ σ_ [(6, .int .i64 (A.length : Int)), (7, .int .i64 ((B.length : Nat) : Int)), (8, .bool pt), (0, .string (bS (wayP r).2))] ([])) ?_ ?_
   ·refine SW_region ?_
    refine os 1 ?_
    refine oX (.int .i64 ((bS r).size : Int)) (.int .i64 (r.length : Int)) (congrArg (fun n_ : Nat => Value.int .i64 (n_ : Int)) (bS_size _)) ?_
    refine os 2 ?_
    refine tbp 54 (fun hg7 => ?_) (fun hg7 => ?_)
    ·replace hg7 : (r.length : Int) > 0 := hg7
     refine os 1 ?_
     obtain ⟨e3, he3⟩ : ∃ y_, r[0]? = some y_ := ⟨_, List.getElem?_eq_getElem (by omega)⟩
     refine ixb 0 r .i64 e3 Tryz.underlying9 he3 ?_
     refine os 2 ?_
     refine kp [58, 54, 6, 7, 8, 0] ?_
     refine tb 58 (fun hg8 => ?_) (fun hg8 => ?_)
     ·replace hg8 : ((e3.toNat : Int) == 43) = true := hg8
      simp only [beq_iff_eq, bne_iff_ne, ne_eq, beq_eq_false_iff_ne, bne_eq_false_iff_eq, Classical.not_not] at hg8
      refine os 5 ?_
      refine kp [63, 6, 7, 8, 0] ?_
      refine nt ?_
      refine ct ?_
      refine SW_region ?_
      refine os 1 ?_
      refine L (O_val (.string (bS (r.drop 1))) rfl (fun δ w _ => run_strFrom (l := r) 1 .i64 Tryz.underlying9 rfl rfl (by omega) (by omega)) ?_)
      refine os 1 ?_
      refine nt ?_
      rw [wayP_hit he3 (by first | exact .inl ((u8_eq (n := 43) (by decide)).1 (by omega)) | exact .inr ((u8_eq (n := 45) (by decide)).1 (by omega)))]
      exact ⟨fun _ => rfl, ow⟩
     replace hg8 : ((e3.toNat : Int) == 43) = false := hg8
     simp only [beq_iff_eq, bne_iff_ne, ne_eq, beq_eq_false_iff_ne, bne_eq_false_iff_eq, Classical.not_not] at hg8
     refine os 1 ?_
     refine ixb 0 r .i64 e3 Tryz.underlying9 he3 ?_
     refine os 3 ?_
     refine kp [63, 6, 7, 8, 0] ?_
     refine nt ?_
     refine cd (fun hc9 : ((e3.toNat : Int) == 45) = true => ?_) (fun hc9 => ?_)
     ·simp only [beq_iff_eq, bne_iff_ne, ne_eq, beq_eq_false_iff_ne, bne_eq_false_iff_eq, Classical.not_not] at hc9
      refine SW_region ?_
      refine os 1 ?_
      refine L (O_val (.string (bS (r.drop 1))) rfl (fun δ w _ => run_strFrom (l := r) 1 .i64 Tryz.underlying9 rfl rfl (by omega) (by omega)) ?_)
      refine os 1 ?_
      refine nt ?_
      rw [wayP_hit he3 (by first | exact .inl ((u8_eq (n := 43) (by decide)).1 (by omega)) | exact .inr ((u8_eq (n := 45) (by decide)).1 (by omega)))]
      exact ⟨fun _ => rfl, ow⟩
     simp only [beq_iff_eq, bne_iff_ne, ne_eq, beq_eq_false_iff_ne, bne_eq_false_iff_eq, Classical.not_not] at hc9
     refine SW_skip (n_then ?_)
     rw [wayP_miss he3 (by rintro (q_ | q_) <;> (have z_ := congrArg (fun c : UInt8 => (c.toNat : Int)) q_; simp at z_; omega))]
     exact ⟨fun _ => rfl, ow⟩
    replace hg7 : ¬ ((r.length : Int) > 0) := hg7
    refine os 9 ?_
    refine kp [63, 6, 7, 8, 0] ?_
    refine nt ?_
    refine cf ?_
    refine SW_skip (n_then ?_)
    rw [show wayP r = (1, r) from by rw [show r = [] from List.length_eq_zero_iff.1 (by omega)]; rfl]
    exact ⟨fun _ => rfl, ow⟩
   ·rintro ρ_ σ_ hfit
    refine SW_fits hfit ?_
    clear hfit
    refine SW_seq ?_
    have hwl_ := wayP_len r
    obtain ⟨W, hW⟩ : ∃ W, (wayP r).2 = W := ⟨_, rfl⟩
    rw [hW] at hwl_ ⊢
    refine SW_region ?_
    refine os 1 ?_
    have htw17_ := takeWhile_len isDig W
    refine L (cl (r2_Digits (X := W) (by first | omega | (simp; omega))) ?_)
    rintro _ _ rfl
    refine un ?_
    refine os 1 ?_
    refine nsr ?_
    refine os 6 ?_
    refine tbp 73 (fun hg10 => ?_) (fun hg10 => ?_)
    ·replace hg10 : (((W.takeWhile isDig).length : Nat) : Int) > 0 := hg10
     refine os 2 ?_
     refine oX (.int .i64 ((bS W).size : Int)) (.int .i64 (W.length : Int)) (congrArg (fun n_ : Nat => Value.int .i64 (n_ : Int)) (bS_size _)) ?_
     refine os 6 ?_
     refine kp [5, 4, 3, 2, 9, 6, 7, 8, 0] ?_
     refine nt ?_
     refine SW_ret ?_
     refine body_end (.tuple #[.int .i64 (A.length : Int), .int .i64 ((B.length : Nat) : Int), .bool pt, .bool ((((W.takeWhile isDig).length : Nat) : Int) == (W.length : Int))]) (fun _ => rfl) ?_
     have hn0_ : ¬ (A = [] ∧ B = []) := by rintro ⟨q1_, q2_⟩; subst q1_ q2_; simp at *
     have hRc_ := cons_of_at he2
     have hd_ := decP_pow (X := X) hA hB hR hn0_ hRc_ (by first | exact .inl ((u8_eq (n := 101) (by decide)).1 (by omega)) | exact .inr ((u8_eq (n := 69) (by decide)).1 (by omega)))
     rw [hr_, hW] at hd_
     exact ⟨((A.length : Int), (B.length : Int), pt), ow, by rw [hd_, ← pow_ok (by assumption)], fun h_ => ⟨by rw [hd_], by rw [hd_], hdot_ h_⟩⟩
    replace hg10 : ¬ ((((W.takeWhile isDig).length : Nat) : Int) > 0) := hg10
    refine os 9 ?_
    refine kp [5, 4, 3, 2, 9, 6, 7, 8, 0] ?_
    refine nt ?_
    refine SW_ret ?_
    refine body_end (.tuple #[.int .i64 (A.length : Int), .int .i64 ((B.length : Nat) : Int), .bool pt, .bool false]) (fun _ => rfl) ?_
    have hn0_ : ¬ (A = [] ∧ B = []) := by rintro ⟨q1_, q2_⟩; subst q1_ q2_; simp at *
    have hRc_ := cons_of_at he2
    have hd_ := decP_pow (X := X) hA hB hR hn0_ hRc_ (by first | exact .inl ((u8_eq (n := 101) (by decide)).1 (by omega)) | exact .inr ((u8_eq (n := 69) (by decide)).1 (by omega)))
    rw [hr_, hW] at hd_
    exact ⟨((A.length : Int), (B.length : Int), pt), ow, by rw [hd_, ← pow_no (by assumption)], fun h_ => ⟨by rw [hd_], by rw [hd_], hdot_ h_⟩⟩
  replace hg5 : ((e2.toNat : Int) != 101) = false := hg5
  simp only [beq_iff_eq, bne_iff_ne, ne_eq, beq_eq_false_iff_ne, bne_eq_false_iff_eq, Classical.not_not] at hg5
  refine os 4 ?_
  refine kp [48, 37, 34, 0, 6, 7, 8] ?_
  refine nt ?_
  refine cf ?_
  refine SW_skip (n_then ?_)
  refine sr ?_
  refine os 1 ?_
  refine L (O_val (.string (bS (R.drop 1))) rfl (fun δ w _ => run_strFrom (l := R) 1 .i64 Tryz.underlying9 rfl rfl (by omega) (by omega)) ?_)
  refine os 1 ?_
  refine nq ?_
  refine SW_seq ?_
  obtain ⟨r, hr_⟩ : ∃ r, R.drop 1 = r := ⟨_, rfl⟩
  have hrl_ : r.length ≤ R.length := by rw [← hr_, List.length_drop]; omega
  rw [hr_]
  refine SW_cut3 (fun ρ_ σ_ => Fits ρ_ σ_ [(6, .int .i64 (A.length : Int)), (7, .int .i64 ((B.length : Nat) : Int)), (8, .bool pt), (0, .string (bS (wayP r).2))] ([])) ?_ ?_
  ·refine SW_region ?_
   refine os 1 ?_
   refine oX (.int .i64 ((bS r).size : Int)) (.int .i64 (r.length : Int)) (congrArg (fun n_ : Nat => Value.int .i64 (n_ : Int)) (bS_size _)) ?_
   refine os 2 ?_
   refine tbp 54 (fun hg11 => ?_) (fun hg11 => ?_)
   ·replace hg11 : (r.length : Int) > 0 := hg11
    refine os 1 ?_
    obtain ⟨e4, he4⟩ : ∃ y_, r[0]? = some y_ := ⟨_, List.getElem?_eq_getElem (by omega)⟩
    refine ixb 0 r .i64 e4 Tryz.underlying9 he4 ?_
    refine os 2 ?_
    refine kp [58, 54, 6, 7, 8, 0] ?_
    refine tb 58 (fun hg12 => ?_) (fun hg12 => ?_)
    ·replace hg12 : ((e4.toNat : Int) == 43) = true := hg12
     simp only [beq_iff_eq, bne_iff_ne, ne_eq, beq_eq_false_iff_ne, bne_eq_false_iff_eq, Classical.not_not] at hg12
     refine os 5 ?_
     refine kp [63, 6, 7, 8, 0] ?_
     refine nt ?_
     refine ct ?_
     refine SW_region ?_
     refine os 1 ?_
     refine L (O_val (.string (bS (r.drop 1))) rfl (fun δ w _ => run_strFrom (l := r) 1 .i64 Tryz.underlying9 rfl rfl (by omega) (by omega)) ?_)
     refine os 1 ?_
     refine nt ?_
     rw [wayP_hit he4 (by first | exact .inl ((u8_eq (n := 43) (by decide)).1 (by omega)) | exact .inr ((u8_eq (n := 45) (by decide)).1 (by omega)))]
     exact ⟨fun _ => rfl, ow⟩
    replace hg12 : ((e4.toNat : Int) == 43) = false := hg12
    simp only [beq_iff_eq, bne_iff_ne, ne_eq, beq_eq_false_iff_ne, bne_eq_false_iff_eq, Classical.not_not] at hg12
    refine os 1 ?_
    refine ixb 0 r .i64 e4 Tryz.underlying9 he4 ?_
    refine os 3 ?_
    refine kp [63, 6, 7, 8, 0] ?_
    refine nt ?_
    refine cd (fun hc13 : ((e4.toNat : Int) == 45) = true => ?_) (fun hc13 => ?_)
    ·simp only [beq_iff_eq, bne_iff_ne, ne_eq, beq_eq_false_iff_ne, bne_eq_false_iff_eq, Classical.not_not] at hc13
     refine SW_region ?_
     refine os 1 ?_
     refine L (O_val (.string (bS (r.drop 1))) rfl (fun δ w _ => run_strFrom (l := r) 1 .i64 Tryz.underlying9 rfl rfl (by omega) (by omega)) ?_)
     refine os 1 ?_
     refine nt ?_
     rw [wayP_hit he4 (by first | exact .inl ((u8_eq (n := 43) (by decide)).1 (by omega)) | exact .inr ((u8_eq (n := 45) (by decide)).1 (by omega)))]
     exact ⟨fun _ => rfl, ow⟩
    simp only [beq_iff_eq, bne_iff_ne, ne_eq, beq_eq_false_iff_ne, bne_eq_false_iff_eq, Classical.not_not] at hc13
    refine SW_skip (n_then ?_)
    rw [wayP_miss he4 (by rintro (q_ | q_) <;> (have z_ := congrArg (fun c : UInt8 => (c.toNat : Int)) q_; simp at z_; omega))]
    exact ⟨fun _ => rfl, ow⟩
   replace hg11 : ¬ ((r.length : Int) > 0) := hg11
   refine os 9 ?_
   refine kp [63, 6, 7, 8, 0] ?_
   refine nt ?_
   refine cf ?_
   refine SW_skip (n_then ?_)
   rw [show wayP r = (1, r) from by rw [show r = [] from List.length_eq_zero_iff.1 (by omega)]; rfl]
   exact ⟨fun _ => rfl, ow⟩
  ·rintro ρ_ σ_ hfit
   refine SW_fits hfit ?_
   clear hfit
   refine SW_seq ?_
   have hwl_ := wayP_len r
   obtain ⟨W, hW⟩ : ∃ W, (wayP r).2 = W := ⟨_, rfl⟩
   rw [hW] at hwl_ ⊢
   refine SW_region ?_
   refine os 1 ?_
   have htw17_ := takeWhile_len isDig W
   refine L (cl (r2_Digits (X := W) (by first | omega | (simp; omega))) ?_)
   rintro _ _ rfl
   refine un ?_
   refine os 1 ?_
   refine nsr ?_
   refine os 6 ?_
   refine tbp 73 (fun hg14 => ?_) (fun hg14 => ?_)
   ·replace hg14 : (((W.takeWhile isDig).length : Nat) : Int) > 0 := hg14
    refine os 2 ?_
    refine oX (.int .i64 ((bS W).size : Int)) (.int .i64 (W.length : Int)) (congrArg (fun n_ : Nat => Value.int .i64 (n_ : Int)) (bS_size _)) ?_
    refine os 6 ?_
    refine kp [5, 4, 3, 2, 9, 6, 7, 8, 0] ?_
    refine nt ?_
    refine SW_ret ?_
    refine body_end (.tuple #[.int .i64 (A.length : Int), .int .i64 ((B.length : Nat) : Int), .bool pt, .bool ((((W.takeWhile isDig).length : Nat) : Int) == (W.length : Int))]) (fun _ => rfl) ?_
    have hn0_ : ¬ (A = [] ∧ B = []) := by rintro ⟨q1_, q2_⟩; subst q1_ q2_; simp at *
    have hRc_ := cons_of_at he2
    have hd_ := decP_pow (X := X) hA hB hR hn0_ hRc_ (by first | exact .inl ((u8_eq (n := 101) (by decide)).1 (by omega)) | exact .inr ((u8_eq (n := 69) (by decide)).1 (by omega)))
    rw [hr_, hW] at hd_
    exact ⟨((A.length : Int), (B.length : Int), pt), ow, by rw [hd_, ← pow_ok (by assumption)], fun h_ => ⟨by rw [hd_], by rw [hd_], hdot_ h_⟩⟩
   replace hg14 : ¬ ((((W.takeWhile isDig).length : Nat) : Int) > 0) := hg14
   refine os 9 ?_
   refine kp [5, 4, 3, 2, 9, 6, 7, 8, 0] ?_
   refine nt ?_
   refine SW_ret ?_
   refine body_end (.tuple #[.int .i64 (A.length : Int), .int .i64 ((B.length : Nat) : Int), .bool pt, .bool false]) (fun _ => rfl) ?_
   have hn0_ : ¬ (A = [] ∧ B = []) := by rintro ⟨q1_, q2_⟩; subst q1_ q2_; simp at *
   have hRc_ := cons_of_at he2
   have hd_ := decP_pow (X := X) hA hB hR hn0_ hRc_ (by first | exact .inl ((u8_eq (n := 101) (by decide)).1 (by omega)) | exact .inr ((u8_eq (n := 69) (by decide)).1 (by omega)))
   rw [hr_, hW] at hd_
   exact ⟨((A.length : Int), (B.length : Int), pt), ow, by rw [hd_, ← pow_no (by assumption)], fun h_ => ⟨by rw [hd_], by rw [hd_], hdot_ h_⟩⟩

end Go.Proofs.YtnhmmjogfkjceaaGreatDoor
namespace Go.Proofs.YtnhmmjogfkjceaaGreatDoor
open Go.Sl

theorem r2_parsed {W0 : World} {X : Bytes} (hX : X.length ≤ 1048576) (hok : (decP X).2 = true) : SC Tryz.prog W0 49 #[.string (bS X)] [] (Ret (fun _ : Unit => []) (fun v _ => v = .int .u64 (nearestP (decP X).1 : Int))) := by
 refine SC_body (fn := Tryz.f49) (n := 73) Tryz.func49 rfl (by kernel_rfl) (ρ := [(0, .string (bS X))]) rfl ?_
 obtain ⟨A, F, B, T, V, w, hX_, hdp_, hA_, hB_, hF_, hw_, hTd_, hTf_, hTn_⟩ := dec_cut hok
 obtain ⟨hfr_, t_, hfo_⟩ := dec_front hA_ hB_ hF_ hTn_
 rw [← hX_] at hfr_
 have hAB_ : ∀ c ∈ A ++ B, 48 ≤ c.toNat ∧ c.toNat ≤ 57 := fun c hc => isDig_in ((List.mem_append.1 hc).elim (hA_ c) (hB_ c))
 have hBF_ : B.length ≤ F.length := by rcases hF_ with ⟨z_, y_⟩ | z_; (rw [z_, y_]; exact Nat.le_refl _); (rw [z_]; simp)
 have hXl0_ : X.length = A.length + (F.length + T.length) := by rw [hX_, List.length_append, List.length_append]
 have hst0_ := near_sat (L := (A ++ B).dropWhile (· == 48)) (V := V) (b := B.length) (w := w) (fun c hc => hAB_ c ((List.dropWhile_sublist _).subset hc)) (Nat.le_trans (dropWhile_len _ _) (by rw [List.length_append]; omega)) (by omega) hw_
 refine sr ?_
 refine os 1 ?_
 refine nsr ?_
 refine os 1 ?_
 refine nsr ?_
 refine os 1 ?_
 refine nsr ?_
 refine os 1 ?_
 refine nsr ?_
 refine os 1 ?_
 refine nq ?_
 refine SW_cut (fun ρ_ σ_ => Fits ρ_ σ_ [(0, .string (bS X)), (3, .string (bS (A ++ B))), (4, .int .i64 ((B.length : Nat) : Int)), (6, .int .i64 (((A ++ F).length : Nat) : Int))] ([])) ?_ ?_
 ·refine SW_block ?_
  refine SW_loop (α := Nat × Bytes × Nat × Bool) (fun z_ ρ_ σ_ => Fits ρ_ σ_ [(0, .string (bS X)), (3, .string (bS z_.2.1)), (4, .int .i64 (z_.2.2.1 : Int)), (5, .bool z_.2.2.2), (6, .int .i64 (z_.1 : Int))] ([]) ∧ (z_.1 ≤ X.length ∧ z_.2.2.1 ≤ z_.1 ∧ z_.2.1.length ≤ z_.1) ∧ (∀ c ∈ X.take z_.1, notE c = true) ∧ (X.take z_.1).foldl pstep ([], 0, false) = (z_.2.1, z_.2.2.1, z_.2.2.2)) (fun z_ => X.length - z_.1) (0, ([] : Bytes), 0, false) ⟨⟨fun _ => rfl, ow⟩, ⟨Nat.zero_le _, Nat.le_refl _, Nat.le_refl _⟩, (fun c hc => by cases hc), rfl⟩ ?_
  rintro ⟨i, d, b, pt⟩ ρ_ σ_ ⟨hfit, hi0, hi1, hi2⟩
  refine SW_fits hfit ?_
  clear hfit
  simp only [] at hi0 hi1 hi2 ⊢
  refine SW_seq ?_
  refine sr ?_
  refine os 2 ?_
  refine oX (.int .i64 ((bS X).size : Int)) (.int .i64 (X.length : Int)) (congrArg (fun n_ : Nat => Value.int .i64 (n_ : Int)) (bS_size _)) ?_
  refine os 2 ?_
  refine tbp 13 (fun hg1 => ?_) (fun hg1 => ?_)
  ·replace hg1 : (i : Int) < (X.length : Int) := hg1
   refine os 2 ?_
   obtain ⟨e1, he1⟩ : ∃ y_, X[i]? = some y_ := ⟨_, List.getElem?_eq_getElem (by omega)⟩
   refine ixb (i : Int) X .i64 e1 Tryz.underlying9 he1 ?_
   refine os 3 ?_
   refine kp [19, 0, 3, 4, 5, 6] ?_
   refine tb 19 (fun hg2 => ?_) (fun hg2 => ?_)
   ·replace hg2 : ((e1.toNat : Int) != 101) = true := hg2
    simp only [beq_iff_eq, bne_iff_ne, ne_eq, beq_eq_false_iff_ne, bne_eq_false_iff_eq, Classical.not_not] at hg2
    refine os 2 ?_
    refine ixb (i : Int) X .i64 e1 Tryz.underlying9 he1 ?_
    refine os 2 ?_
    refine kp [24, 0, 3, 4, 5, 6] ?_
    refine nt ?_
    refine cd (fun hc3 : ((e1.toNat : Int) != 69) = true => ?_) (fun hc3 => ?_)
    ·simp only [beq_iff_eq, bne_iff_ne, ne_eq, beq_eq_false_iff_ne, bne_eq_false_iff_eq, Classical.not_not] at hc3
     refine SW_skip (n_then ?_)
     refine SW_block ?_
     refine SW_seq ?_
     refine sr ?_
     refine os 2 ?_
     refine ixb (i : Int) X .i64 e1 Tryz.underlying9 he1 ?_
     refine os 1 ?_
     refine kp [28, 24, 0, 3, 4, 5, 6] ?_
     refine nt ?_
     refine cd (fun hc4 : ((e1.toNat : Int) == 46) = true => ?_) (fun hc4 => ?_)
     ·simp only [beq_iff_eq, bne_iff_ne, ne_eq, beq_eq_false_iff_ne, bne_eq_false_iff_eq, Classical.not_not] at hc4
      refine SW_region ?_
      refine os 1 ?_
      refine nr ?_
      refine os 3 ?_
      refine SL_nil (n_in (n_then ?_))
      have hne_ : notE e1 = true := by unfold notE; exact decide_eq_true ⟨no101 (by omega), no69 (by omega)⟩
      have hal_ : ∀ c ∈ X.take (i + 1), notE c = true := by rw [List.take_add_one, he1]; intro c hc; rcases List.mem_append.1 hc with q_ | q_; exact hi1 c q_; rw [List.mem_singleton.1 q_]; exact hne_
      have hst_ := fold_step (f := pstep) (a := ([], 0, false)) he1
      rw [hi2] at hst_
      rw [show pstep (d, b, pt) e1 = (d, b, true) from by unfold pstep; rw [if_pos (is46 (by omega))]] at hst_
      exact ⟨(i + 1, d, b, true), by simp only []; omega, ⟨fun _ => rfl, ow⟩, by simp only []; omega, hal_, hst_⟩
     simp only [beq_iff_eq, bne_iff_ne, ne_eq, beq_eq_false_iff_ne, bne_eq_false_iff_eq, Classical.not_not] at hc4
     refine sr ?_
     refine os 5 ?_
     refine L (O_val (.string (bS ((X.take ((i : Int) + 1).toNat).drop ((i : Int)).toNat))) rfl (fun δ w _ => run_strMid (l := X) (i : Int) ((i : Int) + 1) .i64 .i64 Tryz.underlying9 rfl rfl rfl (by omega) (by omega) (by omega)) ?_)
     rw [show ((i : Int) + 1).toNat = (i + 1) from by omega, show ((i : Int)).toNat = i from by omega]
     refine oV (.string (bS (d ++ ((X.take (i + 1)).drop i)))) ?_ (hs := (fun δ w_ => run_catB d ((X.take (i + 1)).drop i) (by first | omega | (simp; omega)) rfl rfl))
     refine os 1 ?_
     refine kp [3, 28, 24, 0, 4, 5, 6] ?_
     refine nsr ?_
     refine os 1 ?_
     refine nt ?_
     refine cd (fun hc5 : (pt) = true => ?_) (fun hc5 => ?_)
     ·refine SW_region ?_
      refine os 3 ?_
      refine nr ?_
      refine os 3 ?_
      refine kp [6, 4, 36, 3, 28, 24, 0, 5] ?_
      refine SL_nil (n_in (n_then ?_))
      have hne_ : notE e1 = true := by unfold notE; exact decide_eq_true ⟨no101 (by omega), no69 (by omega)⟩
      have hal_ : ∀ c ∈ X.take (i + 1), notE c = true := by rw [List.take_add_one, he1]; intro c hc; rcases List.mem_append.1 hc with q_ | q_; exact hi1 c q_; rw [List.mem_singleton.1 q_]; exact hne_
      have hst_ := fold_step (f := pstep) (a := ([], 0, false)) he1
      rw [hi2] at hst_
      rw [show pstep (d, b, pt) e1 = (d ++ [e1], b + 1, pt) from by unfold pstep; rw [if_neg (no46 (by omega)), if_pos hc5]] at hst_
      rw [show (X.take (i + 1)).drop i = [e1] from by rw [List.take_add_one, he1, List.drop_append_of_le_length (by rw [List.length_take]; omega), List.drop_of_length_le (by rw [List.length_take]; omega)]; rfl]
      exact ⟨(i + 1, d ++ [e1], b + 1, pt), by simp only []; omega, ⟨fun _ => rfl, ow⟩, by simp only [List.length_append, List.length_cons, List.length_nil]; omega, hal_, hst_⟩
     refine SW_skip (n_then ?_)
     refine SW_region ?_
     refine os 3 ?_
     refine SL_nil (n_in (n_then ?_))
     have hne_ : notE e1 = true := by unfold notE; exact decide_eq_true ⟨no101 (by omega), no69 (by omega)⟩
     have hal_ : ∀ c ∈ X.take (i + 1), notE c = true := by rw [List.take_add_one, he1]; intro c hc; rcases List.mem_append.1 hc with q_ | q_; exact hi1 c q_; rw [List.mem_singleton.1 q_]; exact hne_
     have hst_ := fold_step (f := pstep) (a := ([], 0, false)) he1
     rw [hi2] at hst_
     rw [show pstep (d, b, pt) e1 = (d ++ [e1], b, pt) from by unfold pstep; rw [if_neg (no46 (by omega)), if_neg (by rw [hc5]; exact Bool.false_ne_true)]] at hst_
     rw [show (X.take (i + 1)).drop i = [e1] from by rw [List.take_add_one, he1, List.drop_append_of_le_length (by rw [List.length_take]; omega), List.drop_of_length_le (by rw [List.length_take]; omega)]; rfl]
     exact ⟨(i + 1, d ++ [e1], b, pt), by simp only []; omega, ⟨fun _ => rfl, ow⟩, by simp only [List.length_append, List.length_cons, List.length_nil]; omega, hal_, hst_⟩
    simp only [beq_iff_eq, bne_iff_ne, ne_eq, beq_eq_false_iff_ne, bne_eq_false_iff_eq, Classical.not_not] at hc3
    refine SW_exit (x_then (x_then (x_in (n_then ?_))))
    have hpt_ : X.takeWhile notE = X.take i := by conv => lhs; rw [← List.take_append_drop i X, tw_app _ hi1]; rw [drop_at he1, tw_notE (by first | exact .inl (is101 (by omega)) | exact .inr (is69 (by omega))), List.append_nil]
    rw [hfr_] at hpt_
    rw [← hpt_, hfo_] at hi2
    injection hi2 with q1_ q2_
    injection q2_ with q2_ q3_
    have hil_ : (A ++ F).length = i := by rw [hpt_, List.length_take]; omega
    rw [q1_, q2_, hil_]
    exact ⟨fun _ => rfl, ow⟩
   replace hg2 : ((e1.toNat : Int) != 101) = false := hg2
   simp only [beq_iff_eq, bne_iff_ne, ne_eq, beq_eq_false_iff_ne, bne_eq_false_iff_eq, Classical.not_not] at hg2
   refine os 5 ?_
   refine kp [24, 0, 3, 4, 5, 6] ?_
   refine nt ?_
   refine cf ?_
   refine SW_exit (x_then (x_then (x_in (n_then ?_))))
   have hpt_ : X.takeWhile notE = X.take i := by conv => lhs; rw [← List.take_append_drop i X, tw_app _ hi1]; rw [drop_at he1, tw_notE (by first | exact .inl (is101 (by omega)) | exact .inr (is69 (by omega))), List.append_nil]
   rw [hfr_] at hpt_
   rw [← hpt_, hfo_] at hi2
   injection hi2 with q1_ q2_
   injection q2_ with q2_ q3_
   have hil_ : (A ++ F).length = i := by rw [hpt_, List.length_take]; omega
   rw [q1_, q2_, hil_]
   exact ⟨fun _ => rfl, ow⟩
  replace hg1 : ¬ ((i : Int) < (X.length : Int)) := hg1
  refine os 11 ?_
  refine kp [24, 0, 3, 4, 5, 6] ?_
  refine nt ?_
  refine cf ?_
  refine SW_exit (x_then (x_then (x_in (n_then ?_))))
  have hpt_ : X.takeWhile notE = X.take i := by conv => lhs; rw [← List.take_append_drop i X, tw_app _ hi1]; rw [List.drop_of_length_le (by omega)]; simp
  rw [hfr_] at hpt_
  rw [← hpt_, hfo_] at hi2
  injection hi2 with q1_ q2_
  injection q2_ with q2_ q3_
  have hil_ : (A ++ F).length = i := by rw [hpt_, List.length_take]; omega
  rw [q1_, q2_, hil_]
  exact ⟨fun _ => rfl, ow⟩
 ·rintro ρ_ σ_ hfit
  refine SW_fits hfit ?_
  clear hfit
  refine SW_seq ?_
  have hXl_ : X.length = (A ++ F).length + T.length := by rw [hX_, ← List.append_assoc, List.length_append]
  have hTa_ : ∀ k c, (T.drop 1)[k]? = some c → X[(A ++ F).length + 1 + k]? = some c := fun k c h_ => by rw [hX_, ← List.append_assoc, List.getElem?_append_right (by omega), show (A ++ F).length + 1 + k - (A ++ F).length = 1 + k by omega, ← List.getElem?_drop]; exact h_
  generalize hN_ : (A ++ F).length = N at *
  have hTl_ : (T.drop 1).length = T.length - 1 := List.length_drop
  generalize hU_ : T.drop 1 = U at *
  refine SW_region ?_
  refine os 1 ?_
  refine nsr ?_
  refine os 1 ?_
  refine nq ?_
  refine sr ?_
  refine os 3 ?_
  refine nt ?_
  refine SW_block ?_
  rw [show ((N : Nat) : Int) + 1 = ((N + 1 + 0 : Nat) : Int) from by omega]
  refine SW_loop (α := Nat × Int × Int) (fun z_ ρ_ σ_ => Fits ρ_ σ_ [(0, .string (bS X)), (3, .string (bS (A ++ B))), (4, .int .i64 ((B.length : Nat) : Int)), (6, .int .i64 ((N + 1 + z_.1 : Nat) : Int)), (7, .int .i64 z_.2.1), (8, .int .i64 z_.2.2)] ([]) ∧ z_.1 ≤ U.length ∧ ((0 ≤ z_.2.1 ∧ z_.2.1 ≤ 1000000000) ∧ (z_.2.2 = 1 ∨ z_.2.2 = -1)) ∧ (U.take z_.1).foldl qstep (0, 1) = (z_.2.1, z_.2.2)) (fun z_ => U.length - z_.1) (0, 0, 1) ⟨⟨fun _ => rfl, ow⟩, Nat.zero_le _, ⟨by decide, .inl rfl⟩, rfl⟩ ?_
  rintro ⟨k, p, y⟩ ρ_ σ_ ⟨hfit, hi0, hi1, hi2⟩
  refine SW_fits hfit ?_
  clear hfit
  simp only [] at hi0 hi1 hi2 ⊢
  refine SW_seq ?_
  refine sr ?_
  refine os 2 ?_
  refine oX (.int .i64 ((bS X).size : Int)) (.int .i64 (X.length : Int)) (congrArg (fun n_ : Nat => Value.int .i64 (n_ : Int)) (bS_size _)) ?_
  refine os 1 ?_
  refine kp [46, 0, 3, 4, 6, 7, 8] ?_
  refine nt ?_
  refine cdp (fun hc6 : ((N + 1 + k : Nat) : Int) < (X.length : Int) => ?_) (fun hc6 => ?_)
  ·refine SW_skip (n_then ?_)
   refine SW_seq ?_
   refine SW_block ?_
   refine SW_seq ?_
   obtain ⟨u_, hu_⟩ : ∃ u_, U[k]? = some u_ := ⟨_, List.getElem?_eq_getElem (by omega)⟩
   have hxu_ := hTa_ _ _ hu_
   have hdg_ := hTd_ _ (List.mem_of_getElem? hu_)
   refine SW_region ?_
   refine os 2 ?_
   refine ixb ((N + 1 + k : Nat) : Int) X .i64 u_ Tryz.underlying9 (by rw [show (((N + 1 + k : Nat) : Int)).toNat = (N + 1 + k) from by omega]; exact hxu_) ?_
   refine os 1 ?_
   refine kp [52, 46, 0, 3, 4, 6, 7, 8] ?_
   refine nt ?_
   refine cd (fun hc7 : ((u_.toNat : Int) == 45) = true => ?_) (fun hc7 => ?_)
   ·simp only [beq_iff_eq, bne_iff_ne, ne_eq, beq_eq_false_iff_ne, bne_eq_false_iff_eq, Classical.not_not] at hc7
    refine SW_region ?_
    refine os 1 ?_
    refine SL_nil (n_in (n_then ?_))
    refine SW_region ?_
    refine os 3 ?_
    refine nt ?_
    have hst_ := fold_step (f := qstep) (a := (0, 1)) hu_
    rw [hi2] at hst_
    rw [show ((N + 1 + k : Nat) : Int) + 1 = ((N + 1 + (k + 1) : Nat) : Int) from by omega]
    rw [show qstep (p, y) u_ = (p, -1) from by unfold qstep; rw [if_pos (is45 (by omega))]] at hst_
    exact ⟨(k + 1, p, -1), by simp only []; omega, ⟨fun _ => rfl, ow⟩, by simp only []; omega, ⟨hi1.1, .inr rfl⟩, hst_⟩
   simp only [beq_iff_eq, bne_iff_ne, ne_eq, beq_eq_false_iff_ne, bne_eq_false_iff_eq, Classical.not_not] at hc7
   refine sr ?_
   refine os 2 ?_
   refine ixb ((N + 1 + k : Nat) : Int) X .i64 u_ Tryz.underlying9 (by rw [show (((N + 1 + k : Nat) : Int)).toNat = (N + 1 + k) from by omega]; exact hxu_) ?_
   refine os 1 ?_
   refine kp [56, 52, 46, 0, 3, 4, 6, 7, 8] ?_
   refine nt ?_
   refine cd (fun hc8 : ((u_.toNat : Int) != 43) = true => ?_) (fun hc8 => ?_)
   ·simp only [beq_iff_eq, bne_iff_ne, ne_eq, beq_eq_false_iff_ne, bne_eq_false_iff_eq, Classical.not_not] at hc8
    have hdu_ : 48 ≤ u_.toNat ∧ u_.toNat ≤ 57 := by rcases hdg_ with q_ | q_ | q_; (exact absurd ((u8_eq (n := 43) (by decide)).2 q_) (by omega)); (exact absurd ((u8_eq (n := 45) (by decide)).2 q_) (by omega)); exact isDig_in q_
    refine SW_region ?_
    refine os 4 ?_
    refine ixb ((N + 1 + k : Nat) : Int) X .i64 u_ Tryz.underlying9 (by rw [show (((N + 1 + k : Nat) : Int)).toNat = (N + 1 + k) from by omega]; exact hxu_) ?_
    refine os 3 ?_
    refine oV (.int .i64 (if 1000000000 < (10 * p) + ((u_.toNat : Int) - 48) then 1000000000 else (10 * p) + ((u_.toNat : Int) - 48))) ?_
    refine os 1 ?_
    refine kp [7, 56, 52, 46, 0, 3, 4, 6, 8] ?_
    refine SL_nil (n_in (n_then ?_))
    refine SW_region ?_
    refine os 3 ?_
    refine nt ?_
    have hst_ := fold_step (f := qstep) (a := (0, 1)) hu_
    rw [hi2] at hst_
    rw [show ((N + 1 + k : Nat) : Int) + 1 = ((N + 1 + (k + 1) : Nat) : Int) from by omega]
    rw [show qstep (p, y) u_ = (min (10 * p + ((u_.toNat : Int) - 48)) 1000000000, y) from by unfold qstep; rw [if_neg (no45 (by omega)), if_neg (no43 (by omega))], ← min_if] at hst_
    exact ⟨(k + 1, if 1000000000 < (10 * p) + ((u_.toNat : Int) - 48) then 1000000000 else (10 * p) + ((u_.toNat : Int) - 48), y), by simp only []; omega, ⟨fun _ => rfl, ow⟩, by simp only []; omega, ⟨by simp only []; (first | omega | (split <;> omega)), hi1.2⟩, hst_⟩
   simp only [beq_iff_eq, bne_iff_ne, ne_eq, beq_eq_false_iff_ne, bne_eq_false_iff_eq, Classical.not_not] at hc8
   refine SW_skip (n_in (n_then ?_))
   refine SW_region ?_
   refine os 3 ?_
   refine nt ?_
   have hst_ := fold_step (f := qstep) (a := (0, 1)) hu_
   rw [hi2] at hst_
   rw [show ((N + 1 + k : Nat) : Int) + 1 = ((N + 1 + (k + 1) : Nat) : Int) from by omega]
   rw [show qstep (p, y) u_ = (p, y) from by unfold qstep; rw [if_neg (no45 (by omega)), if_pos (is43 (by omega))]] at hst_
   exact ⟨(k + 1, p, y), by simp only []; omega, ⟨fun _ => rfl, ow⟩, by simp only []; omega, ⟨hi1.1, hi1.2⟩, hst_⟩
  refine SW_exit (x_then (x_then (x_in (n_then ?_))))
  refine SW_seq ?_
  have hkl_ : k = U.length := by omega
  rw [hkl_, List.take_length, hTf_] at hi2
  injection hi2 with q1_ q2_
  subst q1_ q2_
  have hmw_ : -1000000000 ≤ w * min (V : Int) 1000000000 ∧ w * min (V : Int) 1000000000 ≤ 1000000000 := by rcases hw_ with z | z <;> rw [z] <;> omega
  refine SW_region ?_
  refine os 6 ?_
  refine L (cl (r2_near10 (X := A ++ B) (p := (w * (min (V : Int) 1000000000)) - ((B.length : Nat) : Int)) (by rw [List.length_append]; omega) hAB_ (by omega)) ?_)
  rintro _ _ rfl
  refine un ?_
  refine os 1 ?_
  refine kp [2, 46, 0, 3, 4, 6, 7, 8] ?_
  refine nt ?_
  refine SW_ret ?_
  refine body_end (.int .u64 (nearD (cutD ((A ++ B).dropWhile (· == 48)) ((w * (min (V : Int) 1000000000)) - ((B.length : Nat) : Int))).1 (cutD ((A ++ B).dropWhile (· == 48)) ((w * (min (V : Int) 1000000000)) - ((B.length : Nat) : Int))).2 : Int)) (fun _ => rfl) ?_
  exact ⟨(), ow, congrArg (fun n_ : Nat => Value.int .u64 (n_ : Int)) (by rw [hst0_, hdp_]; rfl)⟩

end Go.Proofs.YtnhmmjogfkjceaaGreatDoor
namespace Go.Proofs.YtnhmmjogfkjceaaGreatDoor
open Go.Sl
def hexV (n : Nat) : Option Nat := if 48 ≤ n ∧ n ≤ 57 then some (n - 48) else if 97 ≤ n ∧ n ≤ 102 then some (n - 87) else if 65 ≤ n ∧ n ≤ 70 then some (n - 55) else none
theorem hexD_eq (c : UInt8) : hexD c = hexV c.toNat := by
 have h : ∀ n : Fin 256, hexD (UInt8.ofNat n) = hexV (UInt8.ofNat n).toNat := by decide +kernel
 have := h ⟨c.toNat, c.toNat_lt⟩
 simpa using this
theorem hexGo_bad : ∀ {X : Bytes} {c : UInt8}, c ∈ X → hexD c = none → ∀ m x b, hexGo m x b X = none
 | d :: r, c, h, hc, m, x, b => by
   rcases List.mem_cons.1 h with q | q
   · rw [← q, hexGo_none hc]
   · cases hd : hexD d with
     | none => exact hexGo_none hd
     | some v =>
       by_cases h2 : m / 1152921504606846976 = 0
       · rw [hexGo_in hd h2]; exact hexGo_bad q hc _ _ _
       · rw [hexGo_out hd h2]; exact hexGo_bad q hc _ _ _
theorem hexP_bad {X : Bytes} {c : UInt8} (h : c ∈ X) (hc : hexD c = none) : hexP X = (0, false) := hexP_none (hexGo_bad h hc _ _ _)
theorem hexP_nil : hexP [] = (0, false) := by kernel_rfl
theorem hex_no {c : UInt8} (h : ((c.toNat : Int) < 48 ∨ (c.toNat : Int) > 57) ∧ ((c.toNat : Int) < 97 ∨ (c.toNat : Int) > 102) ∧ ((c.toNat : Int) < 65 ∨ (c.toNat : Int) > 70)) : hexD c = none := by
 rw [hexD_eq]; unfold hexV; rw [if_neg (by omega), if_neg (by omega), if_neg (by omega)]
theorem hex_yes {c : UInt8} (h : ((c.toNat : Int) ≥ 48 ∧ (c.toNat : Int) ≤ 57) ∨ ((c.toNat : Int) ≥ 97 ∧ (c.toNat : Int) ≤ 102) ∨ ((c.toNat : Int) ≥ 65 ∧ (c.toNat : Int) ≤ 70)) : ∃ d, hexD c = some d ∧ d < 16 ∧ ((48 ≤ c.toNat ∧ c.toNat ≤ 57 ∧ d = c.toNat - 48) ∨ (97 ≤ c.toNat ∧ c.toNat ≤ 102 ∧ d = c.toNat - 87) ∨ (65 ≤ c.toNat ∧ c.toNat ≤ 70 ∧ d = c.toNat - 55)) := by
 rw [hexD_eq]; unfold hexV
 rcases h with h | h | h
 · rw [if_pos (by omega)]; exact ⟨_, rfl, by omega, by omega⟩
 · rw [if_neg (by omega), if_pos (by omega)]; exact ⟨_, rfl, by omega, by omega⟩
 · rw [if_neg (by omega), if_neg (by omega), if_pos (by omega)]; exact ⟨_, rfl, by omega, by omega⟩
def isHexC (c : UInt8) : Prop := ((c.toNat : Int) ≥ 48 ∧ (c.toNat : Int) ≤ 57) ∨ ((c.toNat : Int) ≥ 97 ∧ (c.toNat : Int) ≤ 102) ∨ ((c.toNat : Int) ≥ 65 ∧ (c.toNat : Int) ≤ 70)
theorem pre2_take {X : Bytes} {a b : UInt8} : Lib.hasPrefix X [a, b] = true ↔ X.take 2 = [a, b] := by
 rw [show Lib.hasPrefix X [a, b] = ([a, b] : Bytes).isPrefixOf X from rfl, List.isPrefixOf_iff_prefix, List.prefix_iff_eq_take]
 exact eq_comm
theorem pre2_at {X : Bytes} {a b c d : UInt8} (h0 : X[0]? = some c) (h1 : X[1]? = some d) : Lib.hasPrefix X [a, b] = true ↔ c = a ∧ d = b := by
 rw [pre2_take]
 cases X with
 | nil => cases h0
 | cons x r =>
   cases r with
   | nil => cases h1
   | cons y t =>
     cases h0; cases h1
     show [c, d] = [a, b] ↔ _
     simp
theorem pre2_at0 {X : Bytes} {a b c : UInt8} (h0 : X[0]? = some c) (hn : c ≠ a) : Lib.hasPrefix X [a, b] = false := by
 rw [Bool.eq_false_iff, Ne, pre2_take]
 cases X with
 | nil => cases h0
 | cons x r =>
   cases h0
   intro q
   cases r with
   | nil => cases q
   | cons y t => exact hn (List.cons.inj q).1
theorem pre2_short {X p : Bytes} (h : ¬ (X.length : Int) ≥ (p.length : Int)) : Lib.hasPrefix X p = false := by
 rw [Bool.eq_false_iff]
 intro q
 have := pre_len q
 omega
theorem dec_ahead (X : Bytes) : (decP X).1.ahead = X.takeWhile isDig := by
 unfold decP
 simp only []
 split
 · rfl
 · split
   · rfl
   · split <;> rfl
theorem tw_head {p : UInt8 → Bool} {X : Bytes} (h : X.takeWhile p ≠ []) : (X.takeWhile p).head? = X.head? := by
 cases X with
 | nil => rfl
 | cons c r =>
   rw [List.takeWhile_cons] at h ⊢
   split
   · rfl
   · next q => rw [if_neg q] at h; exact absurd rfl h
theorem lit_test {X : Bytes} {da db : Int} {dp : Bool} (hok : (decP X).2 = true) (h1 : da = ((decP X).1.ahead.length : Int)) (h2 : db = ((decP X).1.behind.length : Int)) (h3 : dp = decide (46 ∈ X)) :
   litBad X ↔ (da = 0 ∨ (dp = true ∧ db = 0) ∨ (da > 1 ∧ ∃ c, X[0]? = some c ∧ (c.toNat : Int) = 48)) := by
 unfold litBad
 have e1 : (decP X).1.ahead = [] ↔ da = 0 := by rw [← List.length_eq_zero_iff]; omega
 have e2 : (decP X).1.behind = [] ↔ db = 0 := by rw [← List.length_eq_zero_iff]; omega
 have e3 : 46 ∈ X ↔ dp = true := by rw [h3, decide_eq_true_iff]
 rw [e1, e2, e3, hok]
 have e4 : ((decP X).1.ahead.length > 1 ∧ (decP X).1.ahead.head? = some 48) ↔ (da > 1 ∧ ∃ c, X[0]? = some c ∧ (c.toNat : Int) = 48) := by
   constructor
   · rintro ⟨q1, q2⟩
     refine ⟨by omega, ?_⟩
     rw [dec_ahead] at q1 q2
     rw [tw_head (fun z => by rw [z] at q1; simp at q1)] at q2
     cases X with
     | nil => cases q2
     | cons c r => refine ⟨c, rfl, ?_⟩; injection q2 with q2; subst q2; rfl
   · rintro ⟨q1, c, q2, q3⟩
     refine ⟨by omega, ?_⟩
     rw [dec_ahead] at h1 ⊢
     rw [tw_head (fun z => by rw [z] at h1; simp at h1; omega)]
     rw [cons_of_at q2, is48 q3]; rfl
 rw [e4]
 simp
end Go.Proofs.YtnhmmjogfkjceaaGreatDoor
namespace Go.Proofs.YtnhmmjogfkjceaaGreatDoor
open Go.Sl

theorem r2_hex {W0 : World} {c : UInt8} {d : Nat} (hx : (48 ≤ c.toNat ∧ c.toNat ≤ 57 ∧ d = c.toNat - 48) ∨ (97 ≤ c.toNat ∧ c.toNat ≤ 102 ∧ d = c.toNat - 87) ∨ (65 ≤ c.toNat ∧ c.toNat ≤ 70 ∧ d = c.toNat - 55)) : SC Tryz.prog W0 105 #[.int .u8 (c.toNat : Int)] [] (Ret (fun _ : Unit => []) (fun v _ => v = .int .u64 (d : Int))) := by
 refine SC_body (fn := Tryz.f105) (n := 18) Tryz.func105 rfl (by kernel_rfl) (ρ := [(0, .int .u8 (c.toNat : Int))]) rfl ?_
 refine sr ?_
 refine os 1 ?_
 refine nq ?_
 refine sr ?_
 refine os 2 ?_
 refine nt ?_
 refine cdp (fun hc1 : (c.toNat : Int) ≤ 57 => ?_) (fun hc1 => ?_)
 ·refine sr ?_
  refine os 4 ?_
  refine kp [2, 4, 0] ?_
  refine nt ?_
  refine SW_ret (r_then ?_)
  refine body_end (.int .u64 ((c.toNat : Int) - 48)) (fun _ => rfl) ?_
  exact ⟨(), ow, congrArg (Value.int .u64) (by omega)⟩
 refine SW_skip (n_then ?_)
 refine SW_seq ?_
 refine sr ?_
 refine os 2 ?_
 refine nt ?_
 refine cdp (fun hc2 : (c.toNat : Int) ≥ 97 => ?_) (fun hc2 => ?_)
 ·refine sr ?_
  refine os 5 ?_
  refine kp [2, 9, 4, 0] ?_
  refine nt ?_
  refine SW_ret (r_then ?_)
  refine body_end (.int .u64 (((c.toNat : Int) - 97) + 10)) (fun _ => rfl) ?_
  exact ⟨(), ow, congrArg (Value.int .u64) (by omega)⟩
 refine SW_skip (n_then ?_)
 refine sr ?_
 refine os 5 ?_
 refine kp [2, 9, 4, 0] ?_
 refine nt ?_
 refine SW_ret ?_
 refine body_end (.int .u64 (((c.toNat : Int) - 65) + 10)) (fun _ => rfl) ?_
 exact ⟨(), ow, congrArg (Value.int .u64) (by omega)⟩

theorem r2_Hexadecimal {W0 : World} {X : Bytes} (hX : X.length ≤ 1048576) : SC Tryz.prog W0 47 #[.string (bS X)] [] (Ret (fun _ : Unit => []) (fun v _ => v = .tuple #[.int .u64 ((hexP X).1 : Int), .bool (hexP X).2])) := by
 refine SC_body (fn := Tryz.f47) (n := 71) Tryz.func47 rfl (by kernel_rfl) (ρ := [(0, .string (bS X))]) rfl ?_
 refine sr ?_
 refine os 2 ?_
 refine nq ?_
 refine sr ?_
 refine os 1 ?_
 refine nt ?_
 refine SW_block ?_
 refine SW_loop (α := Nat) (fun z_ ρ_ σ_ => Fits ρ_ σ_ [(0, .string (bS X)), (4, .int .i64 (z_ : Int))] ([]) ∧ z_ ≤ X.length ∧ (∀ c ∈ X.take z_, isHexC c)) (fun z_ => X.length - z_) 0 ⟨⟨fun _ => rfl, ow⟩, Nat.zero_le _, (fun c hc => by cases hc)⟩ ?_
 rintro i ρ_ σ_ ⟨hfit, hi0, hi1⟩
 refine SW_fits hfit ?_
 clear hfit
 refine SW_seq ?_
 refine sr ?_
 refine os 2 ?_
 refine oX (.int .i64 ((bS X).size : Int)) (.int .i64 (X.length : Int)) (congrArg (fun n_ : Nat => Value.int .i64 (n_ : Int)) (bS_size _)) ?_
 refine os 1 ?_
 refine kp [14, 0, 4] ?_
 refine nt ?_
 refine cdp (fun hc1 : (i : Int) < (X.length : Int) => ?_) (fun hc1 => ?_)
 ·refine SW_skip (n_then ?_)
  refine SW_seq ?_
  refine SW_block ?_
  refine sr ?_
  refine os 2 ?_
  obtain ⟨e1, he1⟩ : ∃ y_, X[i]? = some y_ := ⟨_, List.getElem?_eq_getElem (by omega)⟩
  refine ixb (i : Int) X .i64 e1 Tryz.underlying9 he1 ?_
  refine os 1 ?_
  refine kp [5, 14, 0, 4] ?_
  refine nsr ?_
  refine os 3 ?_
  refine tbp 22 (fun hg2 => ?_) (fun hg2 => ?_)
  ·replace hg2 : (e1.toNat : Int) < 48 := hg2
   refine os 7 ?_
   refine kp [29, 26, 5, 14, 0, 4] ?_
   refine tbp 29 (fun hg3 => ?_) (fun hg3 => ?_)
   ·replace hg3 : (e1.toNat : Int) < 97 := hg3
    refine os 8 ?_
    refine kp [37, 34, 5, 14, 0, 4] ?_
    refine tbp 37 (fun hg4 => ?_) (fun hg4 => ?_)
    ·replace hg4 : (e1.toNat : Int) < 65 := hg4
     refine os 4 ?_
     refine kp [41, 5, 14, 0, 4] ?_
     refine nt ?_
     refine ct ?_
     refine sr ?_
     refine os 2 ?_
     refine nt ?_
     refine SW_ret (r_in (r_then (r_then (r_in (r_then ?_)))))
     refine body_end (.tuple #[.int .u64 0, .bool false]) (fun _ => rfl) ?_
     exact ⟨(), ow, by rw [hexP_bad (List.mem_of_getElem? he1) (hex_no (by omega))]; rfl⟩
    replace hg4 : ¬ ((e1.toNat : Int) < 65) := hg4
    refine os 4 ?_
    refine kp [41, 5, 14, 0, 4] ?_
    refine nt ?_
    refine cdp (fun hc5 : (e1.toNat : Int) > 70 => ?_) (fun hc5 => ?_)
    ·refine sr ?_
     refine os 2 ?_
     refine nt ?_
     refine SW_ret (r_in (r_then (r_then (r_in (r_then ?_)))))
     refine body_end (.tuple #[.int .u64 0, .bool false]) (fun _ => rfl) ?_
     exact ⟨(), ow, by rw [hexP_bad (List.mem_of_getElem? he1) (hex_no (by omega))]; rfl⟩
    refine SW_skip (n_in (n_then ?_))
    refine SW_region ?_
    refine os 3 ?_
    refine nt ?_
    rw [show (i : Int) + 1 = ((i + 1 : Nat) : Int) from by omega]
    exact ⟨i + 1, by omega, ⟨fun _ => rfl, ow⟩, by omega, by rw [List.take_add_one, he1]; intro c hc; rcases List.mem_append.1 hc with q_ | q_; exact hi1 c q_; rw [List.mem_singleton.1 q_]; unfold isHexC; omega⟩
   replace hg3 : ¬ ((e1.toNat : Int) < 97) := hg3
   refine os 5 ?_
   refine kp [34, 5, 14, 0, 4] ?_
   refine tbp 34 (fun hg6 => ?_) (fun hg6 => ?_)
   ·replace hg6 : (e1.toNat : Int) > 102 := hg6
    refine os 3 ?_
    refine tbp 37 (fun hg7 => ?_) (fun hg7 => ?_)
    ·replace hg7 : (e1.toNat : Int) < 65 := hg7
     refine os 4 ?_
     refine kp [41, 5, 14, 0, 4] ?_
     refine nt ?_
     refine ct ?_
     refine sr ?_
     refine os 2 ?_
     refine nt ?_
     refine SW_ret (r_in (r_then (r_then (r_in (r_then ?_)))))
     refine body_end (.tuple #[.int .u64 0, .bool false]) (fun _ => rfl) ?_
     exact ⟨(), ow, by rw [hexP_bad (List.mem_of_getElem? he1) (hex_no (by omega))]; rfl⟩
    replace hg7 : ¬ ((e1.toNat : Int) < 65) := hg7
    refine os 4 ?_
    refine kp [41, 5, 14, 0, 4] ?_
    refine nt ?_
    refine cdp (fun hc8 : (e1.toNat : Int) > 70 => ?_) (fun hc8 => ?_)
    ·refine sr ?_
     refine os 2 ?_
     refine nt ?_
     refine SW_ret (r_in (r_then (r_then (r_in (r_then ?_)))))
     refine body_end (.tuple #[.int .u64 0, .bool false]) (fun _ => rfl) ?_
     exact ⟨(), ow, by rw [hexP_bad (List.mem_of_getElem? he1) (hex_no (by omega))]; rfl⟩
    refine SW_skip (n_in (n_then ?_))
    refine SW_region ?_
    refine os 3 ?_
    refine nt ?_
    rw [show (i : Int) + 1 = ((i + 1 : Nat) : Int) from by omega]
    exact ⟨i + 1, by omega, ⟨fun _ => rfl, ow⟩, by omega, by rw [List.take_add_one, he1]; intro c hc; rcases List.mem_append.1 hc with q_ | q_; exact hi1 c q_; rw [List.mem_singleton.1 q_]; unfold isHexC; omega⟩
   replace hg6 : ¬ ((e1.toNat : Int) > 102) := hg6
   refine os 7 ?_
   refine kp [41, 5, 14, 0, 4] ?_
   refine nt ?_
   refine cf ?_
   refine SW_skip (n_in (n_then ?_))
   refine SW_region ?_
   refine os 3 ?_
   refine nt ?_
   rw [show (i : Int) + 1 = ((i + 1 : Nat) : Int) from by omega]
   exact ⟨i + 1, by omega, ⟨fun _ => rfl, ow⟩, by omega, by rw [List.take_add_one, he1]; intro c hc; rcases List.mem_append.1 hc with q_ | q_; exact hi1 c q_; rw [List.mem_singleton.1 q_]; unfold isHexC; omega⟩
  replace hg2 : ¬ ((e1.toNat : Int) < 48) := hg2
  refine os 4 ?_
  refine kp [26, 5, 14, 0, 4] ?_
  refine tbp 26 (fun hg9 => ?_) (fun hg9 => ?_)
  ·replace hg9 : (e1.toNat : Int) > 57 := hg9
   refine os 3 ?_
   refine tbp 29 (fun hg10 => ?_) (fun hg10 => ?_)
   ·replace hg10 : (e1.toNat : Int) < 97 := hg10
    refine os 8 ?_
    refine kp [37, 34, 5, 14, 0, 4] ?_
    refine tbp 37 (fun hg11 => ?_) (fun hg11 => ?_)
    ·replace hg11 : (e1.toNat : Int) < 65 := hg11
     refine os 4 ?_
     refine kp [41, 5, 14, 0, 4] ?_
     refine nt ?_
     refine ct ?_
     refine sr ?_
     refine os 2 ?_
     refine nt ?_
     refine SW_ret (r_in (r_then (r_then (r_in (r_then ?_)))))
     refine body_end (.tuple #[.int .u64 0, .bool false]) (fun _ => rfl) ?_
     exact ⟨(), ow, by rw [hexP_bad (List.mem_of_getElem? he1) (hex_no (by omega))]; rfl⟩
    replace hg11 : ¬ ((e1.toNat : Int) < 65) := hg11
    refine os 4 ?_
    refine kp [41, 5, 14, 0, 4] ?_
    refine nt ?_
    refine cdp (fun hc12 : (e1.toNat : Int) > 70 => ?_) (fun hc12 => ?_)
    ·refine sr ?_
     refine os 2 ?_
     refine nt ?_
     refine SW_ret (r_in (r_then (r_then (r_in (r_then ?_)))))
     refine body_end (.tuple #[.int .u64 0, .bool false]) (fun _ => rfl) ?_
     exact ⟨(), ow, by rw [hexP_bad (List.mem_of_getElem? he1) (hex_no (by omega))]; rfl⟩
    refine SW_skip (n_in (n_then ?_))
    refine SW_region ?_
    refine os 3 ?_
    refine nt ?_
    rw [show (i : Int) + 1 = ((i + 1 : Nat) : Int) from by omega]
    exact ⟨i + 1, by omega, ⟨fun _ => rfl, ow⟩, by omega, by rw [List.take_add_one, he1]; intro c hc; rcases List.mem_append.1 hc with q_ | q_; exact hi1 c q_; rw [List.mem_singleton.1 q_]; unfold isHexC; omega⟩
   replace hg10 : ¬ ((e1.toNat : Int) < 97) := hg10
   refine os 5 ?_
   refine kp [34, 5, 14, 0, 4] ?_
   refine tbp 34 (fun hg13 => ?_) (fun hg13 => ?_)
   ·replace hg13 : (e1.toNat : Int) > 102 := hg13
    refine os 3 ?_
    refine tbp 37 (fun hg14 => ?_) (fun hg14 => ?_)
    ·replace hg14 : (e1.toNat : Int) < 65 := hg14
     refine os 4 ?_
     refine kp [41, 5, 14, 0, 4] ?_
     refine nt ?_
     refine ct ?_
     refine sr ?_
     refine os 2 ?_
     refine nt ?_
     refine SW_ret (r_in (r_then (r_then (r_in (r_then ?_)))))
     refine body_end (.tuple #[.int .u64 0, .bool false]) (fun _ => rfl) ?_
     exact ⟨(), ow, by rw [hexP_bad (List.mem_of_getElem? he1) (hex_no (by omega))]; rfl⟩
    replace hg14 : ¬ ((e1.toNat : Int) < 65) := hg14
    refine os 4 ?_
    refine kp [41, 5, 14, 0, 4] ?_
    refine nt ?_
    refine cdp (fun hc15 : (e1.toNat : Int) > 70 => ?_) (fun hc15 => ?_)
    ·refine sr ?_
     refine os 2 ?_
     refine nt ?_
     refine SW_ret (r_in (r_then (r_then (r_in (r_then ?_)))))
     refine body_end (.tuple #[.int .u64 0, .bool false]) (fun _ => rfl) ?_
     exact ⟨(), ow, by rw [hexP_bad (List.mem_of_getElem? he1) (hex_no (by omega))]; rfl⟩
    refine SW_skip (n_in (n_then ?_))
    refine SW_region ?_
    refine os 3 ?_
    refine nt ?_
    rw [show (i : Int) + 1 = ((i + 1 : Nat) : Int) from by omega]
    exact ⟨i + 1, by omega, ⟨fun _ => rfl, ow⟩, by omega, by rw [List.take_add_one, he1]; intro c hc; rcases List.mem_append.1 hc with q_ | q_; exact hi1 c q_; rw [List.mem_singleton.1 q_]; unfold isHexC; omega⟩
   replace hg13 : ¬ ((e1.toNat : Int) > 102) := hg13
   refine os 7 ?_
   refine kp [41, 5, 14, 0, 4] ?_
   refine nt ?_
   refine cf ?_
   refine SW_skip (n_in (n_then ?_))
   refine SW_region ?_
   refine os 3 ?_
   refine nt ?_
   rw [show (i : Int) + 1 = ((i + 1 : Nat) : Int) from by omega]
   exact ⟨i + 1, by omega, ⟨fun _ => rfl, ow⟩, by omega, by rw [List.take_add_one, he1]; intro c hc; rcases List.mem_append.1 hc with q_ | q_; exact hi1 c q_; rw [List.mem_singleton.1 q_]; unfold isHexC; omega⟩
  replace hg9 : ¬ ((e1.toNat : Int) > 57) := hg9
  refine os 15 ?_
  refine kp [41, 5, 14, 0, 4] ?_
  refine nt ?_
  refine cf ?_
  refine SW_skip (n_in (n_then ?_))
  refine SW_region ?_
  refine os 3 ?_
  refine nt ?_
  rw [show (i : Int) + 1 = ((i + 1 : Nat) : Int) from by omega]
  exact ⟨i + 1, by omega, ⟨fun _ => rfl, ow⟩, by omega, by rw [List.take_add_one, he1]; intro c hc; rcases List.mem_append.1 hc with q_ | q_; exact hi1 c q_; rw [List.mem_singleton.1 q_]; unfold isHexC; omega⟩
 refine SW_exit (x_then (x_then (x_in (n_then ?_))))
 refine SW_seq ?_
 refine SW_seq ?_
 have hin_ : i = X.length := by omega
 rw [hin_, List.take_length] at hi1
 clear hin_
 refine SW_region ?_
 refine os 1 ?_
 refine oX (.bool ((bS X).toList == (bS []).toList)) (.bool (decide (X = []))) (congrArg Value.bool (by rw [strB_eq])) ?_
 refine nt ?_
 refine cdp (fun hc16 : X = [] => ?_) (fun hc16 => ?_)
 ·refine sr ?_
  refine os 2 ?_
  refine nt ?_
  refine SW_ret (r_then ?_)
  refine body_end (.tuple #[.int .u64 0, .bool false]) (fun _ => rfl) ?_
  exact ⟨(), ow, by rw [show X = [] from by assumption, hexP_nil]; rfl⟩
 refine SW_skip (n_then ?_)
 refine sr ?_
 refine os 1 ?_
 refine nsr ?_
 refine os 1 ?_
 refine nsr ?_
 refine os 1 ?_
 refine nq ?_
 refine sr ?_
 refine os 1 ?_
 refine nt ?_
 refine SW_block ?_
 have hall_ := hi1
 refine SW_loop (α := Nat × Nat × Int × Bool) (fun z_ ρ_ σ_ => Fits ρ_ σ_ [(0, .string (bS X)), (6, .int .u64 (z_.2.1 : Int)), (7, .int .i64 z_.2.2.1), (8, .bool z_.2.2.2), (9, .int .i64 (z_.1 : Int))] ([]) ∧ z_.1 ≤ X.length ∧ (z_.2.1 < 18446744073709551616 ∧ 0 ≤ z_.2.2.1 ∧ z_.2.2.1 ≤ 4 * (z_.1 : Int)) ∧ hexGo z_.2.1 z_.2.2.1 z_.2.2.2 (X.drop z_.1) = hexGo 0 0 false X) (fun z_ => X.length - z_.1) (0, 0, 0, false) ⟨⟨fun _ => rfl, ow⟩, Nat.zero_le _, ⟨(show 0 < 18446744073709551616 by decide), Int.le_refl _, (show (0 : Int) ≤ 4 * ((0 : Nat) : Int) by decide)⟩, by simp⟩ ?_
 rintro ⟨i, m, x, b⟩ ρ_ σ_ ⟨hfit, hi0, hi1, hi2⟩
 refine SW_fits hfit ?_
 clear hfit
 simp only [] at hi0 hi1 hi2 ⊢
 obtain ⟨hm_, hx0_, hx1_⟩ := hi1
 refine SW_seq ?_
 refine sr ?_
 refine os 2 ?_
 refine oX (.int .i64 ((bS X).size : Int)) (.int .i64 (X.length : Int)) (congrArg (fun n_ : Nat => Value.int .i64 (n_ : Int)) (bS_size _)) ?_
 refine os 1 ?_
 refine kp [47, 0, 6, 7, 8, 9] ?_
 refine nt ?_
 refine cdp (fun hc17 : (i : Int) < (X.length : Int) => ?_) (fun hc17 => ?_)
 ·refine SW_skip (n_then ?_)
  refine SW_seq ?_
  refine SW_block ?_
  refine SW_seq ?_
  obtain ⟨y_, hy_⟩ : ∃ y_, X[i]? = some y_ := ⟨_, List.getElem?_eq_getElem (by omega)⟩
  obtain ⟨d, hxd_, hd16_, hdc_⟩ := hex_yes (hall_ _ (List.mem_of_getElem? hy_))
  rw [drop_at hy_] at hi2
  refine SW_region ?_
  refine os 2 ?_
  refine ixb (i : Int) X .i64 y_ Tryz.underlying9 hy_ ?_
  refine L (cl (r2_hex hdc_) ?_)
  rintro _ _ rfl
  refine un ?_
  refine os 1 ?_
  refine kp [10, 47, 0, 6, 7, 8, 9] ?_
  refine nsr ?_
  refine os 2 ?_
  refine nt ?_
  refine cdp (fun hc18 : (m : Int) < 1152921504606846976 => ?_) (fun hc18 => ?_)
  ·refine SW_region ?_
   refine os 5 ?_
   refine kp [6, 55, 10, 47, 0, 7, 8, 9] ?_
   refine SL_nil (n_in (n_then ?_))
   refine SW_region ?_
   refine os 3 ?_
   refine nt ?_
   rw [hexGo_in hxd_ (by omega)] at hi2
   rw [show (16 * (m : Int)) + (d : Int) = ((m * 16 + d : Nat) : Int) from by omega]
   rw [show (i : Int) + 1 = ((i + 1 : Nat) : Int) from by omega]
   exact ⟨(i + 1, m * 16 + d, x, b), by simp only []; omega, ⟨fun _ => rfl, ow⟩, by simp only []; omega, ⟨by simp only []; omega, by simp only []; omega, by simp only []; omega⟩, hi2⟩
  refine sr ?_
  refine os 3 ?_
  refine kp [7, 55, 10, 47, 0, 6, 8, 9] ?_
  refine nr ?_
  refine os 2 ?_
  refine tb 63 (fun hg19 => ?_) (fun hg19 => ?_)
  ·replace hg19 : b = true := hg19
   refine os 4 ?_
   refine kp [8, 7, 55, 10, 47, 0, 6, 9] ?_
   refine SL_nil (n_in (n_then ?_))
   refine SW_region ?_
   refine os 3 ?_
   refine nt ?_
   rw [hexGo_out hxd_ (by omega)] at hi2
   rw [show (b || decide (0 < d)) = true from by rw [hg19]; rfl] at hi2
   rw [show (i : Int) + 1 = ((i + 1 : Nat) : Int) from by omega]
   exact ⟨(i + 1, m, x + 4, true), by simp only []; omega, ⟨fun _ => rfl, ow⟩, by simp only []; omega, ⟨by simp only []; omega, by simp only []; omega, by simp only []; omega⟩, hi2⟩
  replace hg19 : b = false := hg19
  refine os 4 ?_
  refine kp [8, 7, 55, 10, 47, 0, 6, 9] ?_
  refine SL_nil (n_in (n_then ?_))
  refine SW_region ?_
  refine os 3 ?_
  refine nt ?_
  rw [hexGo_out hxd_ (by omega)] at hi2
  rw [show (b || decide (0 < d)) = decide ((d : Int) > 0) from by rw [hg19, Bool.false_or]; exact decide_eq_decide.2 (by omega)] at hi2
  rw [show (i : Int) + 1 = ((i + 1 : Nat) : Int) from by omega]
  exact ⟨(i + 1, m, x + 4, decide ((d : Int) > 0)), by simp only []; omega, ⟨fun _ => rfl, ow⟩, by simp only []; omega, ⟨by simp only []; omega, by simp only []; omega, by simp only []; omega⟩, hi2⟩
 refine SW_exit (x_then (x_then (x_in (n_then ?_))))
 refine sr ?_
 refine os 3 ?_
 refine L (cl (r1_Near (man := m) (e := x) (half := b) hm_ (by omega)) ?_)
 rintro _ _ rfl
 refine un ?_
 refine os 2 ?_
 refine kp [3, 2, 47, 0, 6, 7, 8, 9] ?_
 refine nt ?_
 refine SW_ret ?_
 refine body_end (.tuple #[.int .u64 (nearN m x b : Int), .bool true]) (fun _ => rfl) ?_
 rw [List.drop_of_length_le (by omega)] at hi2
 exact ⟨(), ow, by rw [hexP_some hi2.symm, decide_eq_true (by assumption)]⟩

end Go.Proofs.YtnhmmjogfkjceaaGreatDoor
