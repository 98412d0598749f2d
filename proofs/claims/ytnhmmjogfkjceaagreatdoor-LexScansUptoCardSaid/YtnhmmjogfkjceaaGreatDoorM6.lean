/-
  The document's rounding by the language's own numbers comes to the program's, in plain Lean. Conditions: those that each theorem names.
-/
import Derived.Test.YtnhmmjogfkjceaaGreatDoorM5
import Derived.Laws.Cover2
import Derived.Test.YtnhmmjogfkjceaaGreatDoorProg
import Derived.Shelf.Lays
import Derived.Shelf.LaysM
import Derived.Shelf.Strconv.Itoa4
import Derived.Shelf.Strings.Repeat
import Derived.Test.YtnhmmjogfkjceaaGreatDoorM1
import Derived.Lib.AppendIntMem
import Derived.Test.YtnhmmjogfkjceaaGreatDoorM3
set_option linter.unusedVariables false
set_option linter.unusedSimpArgs false
set_option linter.unusedSectionVars false
set_option maxRecDepth 100000
set_option maxHeartbeats 4000000
namespace Go.Proofs.YtnhmmjogfkjceaaGreatDoor
open Go.Sl
theorem isRN_exact {q a : Nat} (hq : 0 < q) (ha : a ≤ 9218868437227405312) : isRN (q * valF a) q a := by
 rcases Nat.lt_or_ge a 9218868437227405312 with h | h
 · have h1 : q * valF a < q * valF (a + 1) := Nat.mul_lt_mul_of_pos_left (valF_lt a) hq
   have := isRN_between hq h (Nat.le_refl _) h1
   rw [if_neg (by rw [Nat.mul_add]; omega)] at this
   exact this
 · rw [show a = 9218868437227405312 by omega]
   exact isRN_inf hq (Nat.le_refl _)
theorem nearest_eq {m m' k j k' j' : Nat} {pl pl' : Int} (hm : 0 < m) (hm' : 0 < m') (hp : pl = (k : Int) - j - 1074) (hp' : pl' = (k' : Int) - j' - 1074) (h : m * 2 ^ (k + j') = m' * 2 ^ (k' + j)) : Ieee.double.nearest false m pl = Ieee.double.nearest false m' pl' := by
 obtain ⟨a, e1, r1⟩ := nearest_isRN false hm hp
 obtain ⟨b, e2, r2⟩ := nearest_isRN false hm' hp'
 rw [e1, e2]
 show a = b
 refine isRN_uniq (Nat.two_pow_pos j) r1 (isRN_scale (Nat.two_pow_pos j') (Nat.two_pow_pos j) ?_ r2)
 rw [Nat.mul_assoc, ← Nat.pow_add, Nat.mul_assoc, ← Nat.pow_add]
 exact h.symm
def ldP (m : Nat) (e : Int) : Nat := Ieee.double.nearest false m e
theorem ldP_zero (e : Int) : ldP 0 e = 0 := by unfold ldP Ieee.Format.nearest; rw [if_pos rfl]; rfl
theorem ldP_isRN {m k j : Nat} {pl : Int} (hm : 0 < m) (hp : pl = (k : Int) - j - 1074) : isRN (m * 2 ^ k) (2 ^ j) (ldP m pl) := by
 obtain ⟨a, e1, r1⟩ := nearest_isRN false hm hp
 unfold ldP
 rw [e1]; exact r1
theorem ldP_exact {g u : Nat} {pl : Int} (hg : g ≤ 9007199254740992) (hgg : u = 0 ∨ 4503599627370496 ≤ g) (hp : pl = (u : Int) - 1074) : ldP g pl = min (u * 4503599627370496 + g) 9218868437227405312 := by
 rcases Nat.eq_zero_or_pos g with h0 | h0
 · subst h0
   rw [ldP_zero, show u = 0 by omega]; rfl
 have h1 := ldP_isRN (m := g) (k := u) (j := 0) (pl := pl) h0 (by omega)
 have v := valF_mk hg hgg
 rcases Nat.le_total (u * 4503599627370496 + g) 9218868437227405312 with h | h
 · rw [Nat.min_eq_left h]
   have := isRN_exact (q := 1) (by decide) h
   rw [v, Nat.one_mul] at this
   exact isRN_uniq (by decide) h1 this
 · rw [Nat.min_eq_right h]
   refine isRN_uniq (by decide) h1 (isRN_inf (by decide) ?_)
   rw [← v]
   have := valF_mono h
   omega
theorem ldP_lt {m : Nat} {e : Int} (h : e ≤ 100000 ∧ -100000 ≤ e) : ldP m e ≤ 9218868437227405312 := by
 rcases Nat.eq_zero_or_pos m with h0 | h0
 · rw [h0, ldP_zero]; decide
 · exact (ldP_isRN (m := m) (k := (e + 101074).toNat) (j := 100000) h0 (by omega)).1
def hN (h : Bool) : Nat := if h = true then 1 else 0
theorem stands_exact {m M s a : Nat} {E E0 : Int} (h : m * 2 ^ a = M * 2 ^ s) (hE : E0 = E + a - s) : Stands (M * 2 ^ E.toNat) (2 ^ (-E).toNat) m E0 false := by
 intro f
 have e1 : M * 2 ^ E.toNat * 2 ^ (-E0).toNat = M * 2 ^ (E.toNat + (-E0).toNat) := by rw [Nat.mul_assoc, ← Nat.pow_add]
 have e2 : 2 * f * 2 ^ (-E).toNat * 2 ^ E0.toNat = 2 * f * 2 ^ ((-E).toNat + E0.toNat) := by rw [Nat.mul_assoc, ← Nat.pow_add]
 rw [e1, e2, pow_cmp (x' := s) (y' := a) (by omega), pow_cmp_eq (x' := s) (y' := a) (by omega), ← h]
 have p := Nat.two_pow_pos a
 refine ⟨Nat.mul_lt_mul_right p, ?_⟩
 simp only [and_true]
 exact ⟨fun q => Nat.eq_of_mul_eq_mul_right p q, fun q => by rw [q]⟩
theorem nearN_spec {man : Nat} {e E : Int} {half : Bool} (hm : man < 18446744073709551616) (hpos : 0 < 2 * man + hN half) (hE : E = clampE e - 1 + 1074) : isRN ((2 * man + hN half) * 2 ^ E.toNat) (2 ^ (-E).toNat) (nearN man e half) := by
 have hq := Nat.two_pow_pos (-E).toNat
 unfold nearN
 simp only []
 rw [show min (max e (-5000)) 5000 = clampE e from rfl]
 generalize clampE e = c at *
 by_cases h0 : man = 0
 · subst h0
   have hh : half = true := by cases half; simp [hN] at hpos; rfl
   subst hh
   rw [if_pos ⟨rfl, rfl⟩]
   exact form_spec hq (by decide) (by decide) (stands_exact (s := 63) (a := 0) (by simp [hN]) (by omega))
 rw [if_neg fun q => h0 q.1, if_neg h0]
 have b0 : 0 < bitsN man := by rw [bitsN_pos h0]; omega
 have b1 := bitsN_ge man h0
 have b2 := bitsN_lt man
 have b64 : bitsN man ≤ 64 := by
   rcases Nat.lt_or_ge 64 (bitsN man) with q | q
   · have : 2 ^ 64 ≤ 2 ^ (bitsN man - 1) := Nat.pow_le_pow_right (by decide) (by omega)
     omega
   · exact q
 obtain ⟨s, hs⟩ : ∃ s, s = 64 - bitsN man := ⟨_, rfl⟩
 rw [← hs]
 have hlo : 9223372036854775808 ≤ man * 2 ^ s := by
   have := Nat.mul_le_mul_right (2 ^ s) b1
   rw [← Nat.pow_add, show bitsN man - 1 + s = 63 by omega] at this
   exact this
 have hhi : man * 2 ^ s + 2 ^ s ≤ 18446744073709551616 := by
   have := Nat.mul_le_mul_right (2 ^ s) b2
   rw [← Nat.pow_add, show bitsN man + s = 64 by omega, Nat.succ_mul] at this
   exact this
 have ps := Nat.two_pow_pos s
 cases half
 · rw [if_neg (by simp)]
   refine form_spec hq hlo (by omega) (stands_exact (s := s) (a := 1) ?_ (by omega))
   simp only [hN]
   rw [Nat.pow_one, if_neg (by decide), Nat.add_zero, Nat.mul_comm 2 man, Nat.mul_right_comm]
 · by_cases hs0 : s > 0
   · rw [if_pos ⟨rfl, hs0⟩]
     have e2 : 2 ^ s = 2 * 2 ^ (s - 1) := by rw [show s = s - 1 + 1 by omega, Nat.pow_succ, Nat.mul_comm]; rfl
     refine form_spec hq (by omega) (by omega) (stands_exact (s := s - 1) (a := 0) ?_ (by omega))
     rw [hN, if_pos rfl, Nat.pow_zero, Nat.mul_one, Nat.add_mul, Nat.one_mul, e2, ← Nat.mul_assoc, Nat.mul_comm man 2]
   · rw [if_neg fun q => hs0 q.2]
     have hs00 : s = 0 := by omega
     rw [hs00, Nat.pow_zero, Nat.mul_one] at hlo ⊢
     refine form_spec hq hlo hm ?_
     intro f
     have hc : c - ((0 : Nat) : Int) + 1074 = E + 1 := by omega
     rw [hc]
     have e1 : (2 * man + hN true) * 2 ^ E.toNat * 2 ^ (-(E + 1)).toNat = (2 * man + 1) * 2 ^ (E.toNat + (-(E + 1)).toNat) := by rw [Nat.mul_assoc, ← Nat.pow_add]; rfl
     have e2 : 2 * f * 2 ^ (-E).toNat * 2 ^ (E + 1).toNat = 2 * f * 2 ^ ((-E).toNat + (E + 1).toNat) := by rw [Nat.mul_assoc, ← Nat.pow_add]
     have l1 := pow_cmp (A := 2 * man + 1) (B := 2 * f) (x := E.toNat + (-(E + 1)).toNat) (y := (-E).toNat + (E + 1).toNat) (x' := 0) (y' := 1) (by omega)
     have l2 := pow_cmp_eq (A := 2 * man + 1) (B := 2 * f) (x := E.toNat + (-(E + 1)).toNat) (y := (-E).toNat + (E + 1).toNat) (x' := 0) (y' := 1) (by omega)
     rw [e1, e2, l1, l2, Nat.pow_zero, Nat.pow_one, Nat.mul_one]
     simp only [Bool.true_eq_false, and_false, iff_false]
     omega
theorem nearN_zero {e : Int} : nearN 0 e false = 0 := by unfold nearN; simp
theorem near1_zero {M : Nat} {E : Int} (hM : M < 36893488147419103232) (hE : E ≤ -66) : isRN (M * 2 ^ E.toNat) (2 ^ (-E).toNat) 0 := by
 apply isRN_none
 rw [show E.toNat = 0 by omega, Nat.pow_zero, Nat.mul_one]
 have : 2 ^ 66 ≤ 2 ^ (-E).toNat := Nat.pow_le_pow_right (by decide) (by omega)
 omega
theorem near1_whole {man : Nat} {e E : Int} (hm : 0 < man) (he : -1074 ≤ e) (hE : E = e - 1 + 1074) : isRN ((2 * man + hN false) * 2 ^ E.toNat) (2 ^ (-E).toNat) (ldP man e) := by
 have h1 := ldP_isRN (m := man) (k := (e + 1074).toNat) (j := 0) (pl := e) hm (by omega)
 refine isRN_scale (by decide) (Nat.two_pow_pos _) ?_ h1
 rw [hN, if_neg (by decide), Nat.add_zero, Nat.pow_zero, Nat.mul_one, Nat.mul_assoc man, ← Nat.pow_add, Nat.mul_comm 2 man, Nat.mul_assoc, show 2 * 2 ^ E.toNat = 2 ^ (1 + E.toNat) by rw [Nat.pow_add], show (e + 1074).toNat + (-E).toNat = 1 + E.toNat by omega]
theorem near1_cut {man c g r u : Nat} {half : Bool} {E last : Int} {up : Prop} [Decidable up] (hc : 0 < c) (hg : g = man / 2 ^ c) (hr : r = man % 2 ^ c) (hu : last = (u : Int) - 1074) (hE : (u : Int) = E + 1 + c) (hg53 : g < 9007199254740992) (hgg : u = 0 ∨ 4503599627370496 ≤ g)
   (hup : up ↔ (r > 2 ^ (c - 1) ∨ (r = 2 ^ (c - 1) ∧ (half = true ∨ g % 2 = 1)))) : isRN ((2 * man + hN half) * 2 ^ E.toNat) (2 ^ (-E).toNat) (ldP (if up then g + 1 else g) last) := by
 have hq := Nat.two_pow_pos (-E).toNat
 rw [ldP_exact (u := u) (by split <;> omega) (by split <;> omega) hu]
 have hdm : 2 ^ c * g + r = man := by rw [hg, hr]; exact Nat.div_add_mod _ _
 have hrl : r < 2 ^ c := by rw [hr]; exact Nat.mod_lt _ (Nat.two_pow_pos c)
 have hh : hN half ≤ 1 := by unfold hN; split <;> omega
 have e2 : 2 ^ c = 2 * 2 ^ (c - 1) := by rw [show c = c - 1 + 1 by omega, Nat.pow_succ, Nat.mul_comm]; rfl
 have conv : ∀ a b : Nat, 2 ^ (-E).toNat * (a * 2 ^ u) < b * 2 ^ E.toNat ↔ a * 2 ^ (c + 1) < b := by
   intro a b
   rw [show 2 ^ (-E).toNat * (a * 2 ^ u) = a * 2 ^ ((-E).toNat + u) by rw [Nat.mul_left_comm, ← Nat.pow_add], pow_cmp (x' := c + 1) (y' := 0) (by omega), Nat.pow_zero, Nat.mul_one]
 have conv2 : ∀ a b : Nat, b * 2 ^ E.toNat < 2 ^ (-E).toNat * (a * 2 ^ u) ↔ b < a * 2 ^ (c + 1) := by
   intro a b
   rw [show 2 ^ (-E).toNat * (a * 2 ^ u) = a * 2 ^ ((-E).toNat + u) by rw [Nat.mul_left_comm, ← Nat.pow_add], pow_cmp (x' := 0) (y' := c + 1) (by omega), Nat.pow_zero, Nat.mul_one]
 have p1 : 2 ^ (c + 1) = 2 * 2 ^ c := by rw [Nat.pow_succ, Nat.mul_comm]
 have gm : g * 2 ^ (c + 1) = 2 * (2 ^ c * g) := by rw [p1, Nat.mul_comm g, Nat.mul_assoc]
 refine isRN_cut hq ?_ ?_ hg53 hgg ?_
 · refine Nat.le_of_not_lt fun z => ?_
   rw [conv2, gm] at z
   omega
 · rw [conv2, Nat.add_mul, Nat.one_mul, gm]
   omega
 · have d : 2 * ((2 * man + hN half) * 2 ^ E.toNat) = (2 * (2 * man + hN half)) * 2 ^ E.toNat := (Nat.mul_assoc ..).symm
   have c1 := conv (2 * g + 1) (2 * (2 * man + hN half))
   have c2 := conv2 (2 * g + 1) (2 * (2 * man + hN half))
   have gm2 : (2 * g + 1) * 2 ^ (c + 1) = 4 * (2 ^ c * g) + 2 * 2 ^ c := by rw [Nat.add_mul, Nat.one_mul, Nat.mul_assoc, gm, p1]; omega
   rw [gm2] at c1 c2
   rw [hup, d, c1]
   have c3 : 2 ^ (-E).toNat * ((2 * g + 1) * 2 ^ u) = 2 * (2 * man + hN half) * 2 ^ E.toNat ↔ 4 * (2 ^ c * g) + 2 * 2 ^ c = 2 * (2 * man + hN half) := by
     have c4 := conv (2 * g + 1) (2 * (2 * man + hN half))
     rw [gm2] at c4
     omega
   rw [c3]
   cases half
   · simp only [hN, Bool.false_eq_true, false_or, if_false]
     omega
   · simp only [hN, true_or, and_true, if_true]
     omega
theorem near1_norm {man : Nat} {e E : Int} {N : Nat} (hE : E = e - 1 + 1074) (h : isRN ((2 * man + hN true) * 2 ^ E.toNat) (2 ^ (-E).toNat) N) : isRN ((2 * (2 * man + 1) + hN false) * 2 ^ (E - 1).toNat) (2 ^ (-(E - 1)).toNat) N := by
 refine isRN_scale (Nat.two_pow_pos _) (Nat.two_pow_pos _) ?_ h
 have e0 : 2 * (2 * man + 1) + hN false = (2 * man + 1) * 2 := by rw [show hN false = 0 from rfl]; omega
 have e1 : 2 * 2 ^ ((E - 1).toNat + (-E).toNat) = 2 ^ (1 + ((E - 1).toNat + (-E).toNat)) := by rw [Nat.pow_add 2 1]
 rw [e0, show hN true = 1 from rfl, Nat.mul_assoc (2 * man + 1), ← Nat.pow_add, Nat.mul_assoc, Nat.mul_assoc, ← Nat.pow_add, e1, show E.toNat + (-(E - 1)).toNat = 1 + ((E - 1).toNat + (-E).toNat) by omega]
theorem bits_cut {man b c : Nat} (hb : b = bitsN man) (hm : 0 < man) (h : b ≤ 53 + c) : man / 2 ^ c < 9007199254740992 ∧ (b = 53 + c → 4503599627370496 ≤ man / 2 ^ c) := by
 have b1 := bitsN_ge man (by omega)
 have b2 := bitsN_lt man
 have b0 : 0 < bitsN man := by rw [bitsN_pos (by omega)]; omega
 rw [← hb] at b1 b2 b0
 constructor
 · rw [Nat.div_lt_iff_lt_mul (Nat.two_pow_pos c), show 9007199254740992 = 2 ^ 53 from rfl, ← Nat.pow_add]
   exact Nat.lt_of_lt_of_le b2 (Nat.pow_le_pow_right (by decide) (by omega))
 · intro h2
   rw [Nat.le_div_iff_mul_le (Nat.two_pow_pos c), show 4503599627370496 = 2 ^ 52 from rfl, ← Nat.pow_add]
   exact Nat.le_trans (Nat.pow_le_pow_right (by decide) (by omega)) b1
theorem bitsN_64 {m : Nat} (h : m < 18446744073709551616) : bitsN m ≤ 64 := by
 rcases Nat.lt_or_ge 64 (bitsN m) with q | q
 · have h0 : m ≠ 0 := fun z => by rw [z, bitsN_zero] at q; omega
   have b1 := bitsN_ge m h0
   have : 2 ^ 64 ≤ 2 ^ (bitsN m - 1) := Nat.pow_le_pow_right (by decide) (by omega)
   omega
 · exact q
theorem near1_state {man : Nat} {e : Int} {half : Bool} (hm : man < 18446744073709551616) : ∃ (m1 : Nat) (e1 : Int) (h1 : Bool), (m1 = (if half = true ∧ man < 9223372036854775808 then 2 * man + 1 else man) ∧ m1 < 18446744073709551616) ∧
   (e1 = (if half = true ∧ man < 9223372036854775808 then clampE e - 1 else clampE e) ∧ -5001 ≤ e1 ∧ e1 ≤ 5000) ∧ (h1 = (if half = true ∧ man < 9223372036854775808 then false else half) ∧ (h1 = true → 9223372036854775808 ≤ m1)) ∧
   (m1 = 0 → nearN man e half = 0) ∧ (0 < m1 → isRN ((2 * m1 + hN h1) * 2 ^ (e1 - 1 + 1074).toNat) (2 ^ (-(e1 - 1 + 1074)).toNat) (nearN man e half)) := by
 have hc := clampE_in e
 by_cases c : half = true ∧ man < 9223372036854775808
 · obtain ⟨c1, c2⟩ := c
   subst c1
   refine ⟨2 * man + 1, clampE e - 1, false, ⟨(if_pos ⟨rfl, c2⟩).symm, by omega⟩, ⟨(if_pos ⟨rfl, c2⟩).symm, by omega⟩, ⟨(if_pos ⟨rfl, c2⟩).symm, fun h => by cases h⟩, fun h => by omega, fun _ => ?_⟩
   have := near1_norm (E := clampE e - 1 + 1074) rfl (nearN_spec (man := man) (e := e) (half := true) hm (by simp [hN]) rfl)
   rw [show clampE e - 1 + 1074 - 1 = clampE e - 1 - 1 + 1074 by omega] at this
   exact this
 · refine ⟨man, clampE e, half, ⟨(if_neg c).symm, hm⟩, ⟨(if_neg c).symm, by omega⟩, ⟨(if_neg c).symm, fun h => Nat.le_of_not_lt fun z => c ⟨h, z⟩⟩, fun h => ?_, fun h => nearN_spec hm (by omega) rfl⟩
   subst h
   cases half
   · exact nearN_zero
   · exact absurd ⟨rfl, by decide⟩ c
structure Whole53 (m a L g : Nat) : Prop where
  pos : 0 < m
  bits : a = (L + 1022) * 4503599627370496 + g
  lo : 4503599627370496 ≤ g
  hi : g < 9007199254740992
  l53 : L ≤ 53
  eq : m * 4503599627370496 = g * 2 ^ L
theorem whole53 {m : Nat} (h0 : 0 < m) (h1 : m ≤ 9007199254740992) : ∃ L g, Whole53 m (ldP m 0) L g := by
 obtain ⟨L, hL⟩ : ∃ L, L = m.log2 := ⟨_, rfl⟩
 have l1 : 2 ^ L ≤ m := by rw [hL]; exact Nat.log2_self_le (by omega)
 have l2 : m < 2 ^ (L + 1) := by rw [hL]; exact Nat.lt_log2_self
 have l53 : L ≤ 53 := by
   rcases Nat.lt_or_ge 53 L with q | q
   · have : 2 ^ 54 ≤ 2 ^ L := Nat.pow_le_pow_right (by decide) q
     omega
   · exact q
 obtain ⟨g, hg⟩ : ∃ g, m * 4503599627370496 = g * 2 ^ L := by
   rcases Nat.lt_or_ge 52 L with q | q
   · have h2 : L = 53 := by omega
     subst h2
     have : m = 9007199254740992 := by omega
     exact ⟨4503599627370496, by rw [this]⟩
   · refine ⟨m * 2 ^ (52 - L), ?_⟩
     rw [Nat.mul_assoc, ← Nat.pow_add, show 52 - L + L = 52 by omega]
 have glo : 4503599627370496 ≤ g := by
   refine Nat.le_of_mul_le_mul_right (c := 2 ^ L) ?_ (Nat.two_pow_pos L)
   rw [← hg, Nat.mul_comm]
   exact Nat.mul_le_mul_right _ l1
 have ghi : g < 9007199254740992 := by
   refine Nat.lt_of_mul_lt_mul_right (a := 2 ^ L) ?_
   rw [← hg, show 9007199254740992 = 2 * 4503599627370496 from rfl, Nat.mul_right_comm, show 2 * 2 ^ L = 2 ^ (L + 1) by rw [Nat.pow_succ, Nat.mul_comm]]
   exact Nat.mul_lt_mul_of_pos_right l2 (by decide)
 refine ⟨L, g, h0, ?_, glo, ghi, l53, hg⟩
 have e1 : ldP m 0 = ldP g ((L + 1022 : Nat) - 1074 : Int) := by
   obtain ⟨T, hT⟩ : ∃ T : Nat, T = 1022 := ⟨_, rfl⟩
   refine nearest_eq (k := 52 + T) (j := 0) (k' := L + T) (j' := 0) h0 (by omega) (by omega) (by omega) ?_
   have : m * 2 ^ (52 + T + 0) = m * 4503599627370496 * 2 ^ T := by
     rw [Nat.mul_assoc, show 4503599627370496 = 2 ^ 52 from rfl, ← Nat.pow_add]; rfl
   rw [this, hg, Nat.mul_assoc, ← Nat.pow_add]; rfl
 rw [e1, ldP_exact (u := L + 1022) (by omega) (.inr glo) rfl]
 exact Nat.min_eq_left (by omega)
theorem mul_made {c x : Nat} {s : Nat} (hc : c = 4503599627370496 * s) (hs : 1 ≤ s ∧ s ≤ 2046) {g p : Nat} (hx : x = p * 4503599627370496 + g) (hg : 4503599627370496 ≤ g) (hg2 : g < 9007199254740992) (hp : p ≤ 2045) :
   Ieee.double.mul c x = some (ldP (4503599627370496 * g) (((s + p : Nat) : Int) - 1 - 1074 - 1074)) := by
 have r1 : Ieee.double.read c = .number false 4503599627370496 (-1074 + (s - 1 : Nat)) := by
   rw [read64 c (by omega), if_neg (by unfold mag; omega), if_pos (by unfold mag; omega), decide_eq_false (by omega), show mag c % 4503599627370496 = 0 by unfold mag; omega, show mag c / 4503599627370496 = s by unfold mag; omega]
 have r2 : Ieee.double.read x = .number false g (-1074 + (p : Nat)) := by
   rw [read64 x (by omega), if_neg (by unfold mag; omega), if_pos (by unfold mag; omega), decide_eq_false (by omega), show 4503599627370496 + mag x % 4503599627370496 = g by unfold mag; omega, show mag x / 4503599627370496 - 1 = p by unfold mag; omega]
 unfold Ieee.Format.mul
 rw [r1, r2]
 show some (Ieee.double.nearest (false ^^ false) (4503599627370496 * g) (-1074 + ((s - 1 : Nat) : Int) + (-1074 + (p : Int)))) = _
 rw [show (-1074 + ((s - 1 : Nat) : Int) + (-1074 + (p : Int))) = ((s + p : Nat) : Int) - 1 - 1074 - 1074 by omega]
 rfl
theorem ldexp_val {m L g s p : Nat} {e : Int} {a : Nat} (h : Whole53 m a L g) (h1 : (s : Int) + p = e + L + 2045) : ldP (4503599627370496 * g) (((s + p : Nat) : Int) - 1 - 1074 - 1074) = ldP m e := by
 obtain ⟨k, hk⟩ : ∃ k : Nat, (k : Int) = e + 100000 := ⟨(e + 100000).toNat, by have := h.l53; omega⟩
 have l53 := h.l53
 have glo := h.lo
 refine nearest_eq (k := s + p) (j := 1 + 1074) (k' := k) (j' := 98926) (by omega) h.pos (by omega) (by omega) ?_
 have e3 : 4503599627370496 * g * 2 ^ (s + p + 98926) * 2 ^ L = m * 2 ^ (k + (1 + 1074)) * 2 ^ L := by
   have e4 : ∀ A B C : Nat, C * g * A * B = g * B * (C * A) := fun A B C => by ac_rfl
   rw [e4, ← h.eq, show (4503599627370496 : Nat) = 2 ^ 52 from rfl]
   rw [Nat.mul_assoc, Nat.mul_assoc, ← Nat.pow_add, ← Nat.pow_add, ← Nat.pow_add]
   congr 2
   omega
 exact Nat.eq_of_mul_eq_mul_right (Nat.two_pow_pos L) e3
theorem ldexp_inf {m L g a : Nat} {e : Int} (h : Whole53 m a L g) (h1 : e + L > 1023) : ldP m e = 9218868437227405312 := by
 have glo := h.lo
 have l53 := h.l53
 obtain ⟨k, hk⟩ : ∃ k : Nat, (k : Int) = e + 1074 := ⟨(e + 1074).toNat, by omega⟩
 refine isRN_uniq (by decide) (ldP_isRN (k := k) (j := 0) h.pos (by omega)) (isRN_inf (by decide) ?_)
 obtain ⟨t, ht, hv⟩ := valF_inf
 rw [hv, Nat.pow_zero, Nat.one_mul]
 have : 2 ^ t * 2 ^ (52 + L) ≤ m * 2 ^ k * 2 ^ (52 + L) := by
   rw [show m * 2 ^ k * 2 ^ (52 + L) = m * 4503599627370496 * 2 ^ (k + L) by rw [Nat.pow_add 2 52, Nat.pow_add 2 k, show (4503599627370496 : Nat) = 2 ^ 52 from rfl]; ac_rfl, h.eq, Nat.mul_assoc, ← Nat.pow_add, ← Nat.pow_add]
   have h4 : 2 ^ (t + (52 + L)) ≤ 2 ^ (52 + (L + (k + L))) := Nat.pow_le_pow_right (by decide) (by omega)
   rw [Nat.pow_add 2 52] at h4
   exact Nat.le_trans h4 (Nat.mul_le_mul_right _ glo)
 exact Nat.le_of_mul_le_mul_right this (Nat.two_pow_pos _)
end Go.Proofs.YtnhmmjogfkjceaaGreatDoor
namespace Go.Proofs.YtnhmmjogfkjceaaGreatDoor
open Go Go.Sl
section
variable {P : Program} {ρ : Fr} {δ : Nat → Value} {w : World} {dst : Option Tmp} {t t2 ty : TypeId} {x y : Operand} {pos : String} {after : Array Edge} {gd : Option (Nat × Bool)} {a b : Nat} {r : Bool}
theorem run_feq (h : (Ieee.double.order a b == some .eq) = r) (hx : ev δ ρ x = .float .f64 a) (hy : ev δ ρ y = .float .f64 b) : (execOp (ev δ ρ) ⟨dst, .binOp .eql t x y t2, ty, pos, after, gd⟩).run P w = .ok (.value (.bool r)) w := by
 simp only [execOp, hx, hy, Sem.run_bind]
 rw [← h]
 rfl
theorem run_fne (h : (Ieee.double.order a b != some .eq) = r) (hx : ev δ ρ x = .float .f64 a) (hy : ev δ ρ y = .float .f64 b) : (execOp (ev δ ρ) ⟨dst, .binOp .neq t x y t2, ty, pos, after, gd⟩).run P w = .ok (.value (.bool r)) w := by
 simp only [execOp, hx, hy, Sem.run_bind]
 rw [← h]
 rfl
theorem run_fgt (h : (Ieee.double.order a b == some .gt) = r) (hx : ev δ ρ x = .float .f64 a) (hy : ev δ ρ y = .float .f64 b) : (execOp (ev δ ρ) ⟨dst, .binOp .gtr t x y t2, ty, pos, after, gd⟩).run P w = .ok (.value (.bool r)) w := by
 simp only [execOp, hx, hy, Sem.run_bind]
 rw [← h]
 rfl
theorem run_flt (h : (Ieee.double.order a b == some .lt) = r) (hx : ev δ ρ x = .float .f64 a) (hy : ev δ ρ y = .float .f64 b) : (execOp (ev δ ρ) ⟨dst, .binOp .lss t x y t2, ty, pos, after, gd⟩).run P w = .ok (.value (.bool r)) w := by
 simp only [execOp, hx, hy, Sem.run_bind]
 rw [← h]
 rfl
end
end Go.Proofs.YtnhmmjogfkjceaaGreatDoor
namespace Go.Proofs.YtnhmmjogfkjceaaGreatDoor
open Go Go.Sl
section
variable {P : Program} {ρ : Fr} {δ : Nat → Value} {w : World} {dst : Option Tmp} {t t2 ty s d : TypeId} {x y : Operand} {pos : String} {after : Array Edge} {gd : Option (Nat × Bool)} {a b r : Nat}
theorem run_fmul (h : Ieee.double.mul a b = some r) (hx : ev δ ρ x = .float .f64 a) (hy : ev δ ρ y = .float .f64 b) : (execOp (ev δ ρ) ⟨dst, .binOp .mul t x y t2, ty, pos, after, gd⟩).run P w = .ok (.value (.float .f64 r)) w := by
 simp only [execOp, hx, hy, Sem.run_bind]
 have e : (Op.floatArith .mul .f64 a b).run P w = .ok (.float .f64 r) w := by
   unfold Op.floatArith
   simp only [show FloatKind.f64.format = Ieee.double from rfl, h, Sem.run_bind, Sem.run_pure, Result.andThen_ok, pure_bind]
 show ((Op.floatArith .mul .f64 a b).run P w).andThen _ = _
 rw [e]
 rfl
theorem run_i2f {n : Nat} (hs : P.underlying s = some (.int .u64)) (hd : P.underlying d = some (.float .f64)) (hx : ev δ ρ x = .int .u64 (n : Int)) : (execOp (ev δ ρ) ⟨dst, .convert s d x, ty, pos, after, gd⟩).run P w = .ok (.value (.float .f64 (ldP n 0))) w := by
 have hc : (convert s d (.int .u64 (n : Int))).run P w = .ok (.float .f64 (ldP n 0)) w := by
   have e : FloatKind.f64.nearest (n : Int) = ldP n 0 := by
     unfold FloatKind.nearest FloatKind.encode ldP
     rw [show decide ((n : Int) < 0) = false from decide_eq_false (by omega)]
     rfl
   simp only [convert, run_underlying hs, run_underlying hd, Sem.run_bind, Result.andThen_ok]
   unfold Conv.intToFloat
   rw [e]; rfl
 simp only [execOp, hx, Sem.run_bind, hc, Result.andThen_ok, Sem.run_pure]
theorem andR64i {m c : Int} (v : Int) (hv : IntKind.wrap .i64 ((BitVec.ofInt 64 m &&& BitVec.ofInt 64 c).toNat) = v) (hx : ∀ δ, ev δ ρ x = .int .i64 m := by exact fun _ => rfl) (hy : ∀ δ, ev δ ρ y = .int .i64 c := by exact fun _ => rfl) :
   ∀ δ w, (execOp (ev δ ρ) ⟨dst, .binOp .and t x y t2, ty, pos, after, gd⟩).run P w = .ok (.value (.int .i64 v)) w := by
 intro δ w
 simp only [execOp, hx, hy, Sem.run_bind]
 rw [← hv]
 rfl
end
theorem o_pos {a b : Nat} (ha : a < 9218868437227405312) (hb : b < 9218868437227405312) : (Ieee.double.order a b == some .lt) = decide (a < b) ∧ (Ieee.double.order a b == some .gt) = decide (b < a) := by
 have va : valZ a = (valF a : Int) := by unfold valZ; rw [if_neg (by omega), show mag a = a by unfold mag; omega]
 have vb : valZ b = (valF b : Int) := by unfold valZ; rw [if_neg (by omega), show mag b = b by unfold mag; omega]
 rw [order_fin (by omega) (by omega) (by unfold mag; omega) (by unfold mag; omega), (cmp_eq_iff _ _).2.1, (cmp_eq_iff _ _).2.2, va, vb]
 have key : ∀ x y, valF x < valF y ↔ x < y := fun x y => ⟨fun h => by
   rcases Nat.lt_or_ge x y with q | q
   · exact q
   · have := valF_mono q; omega, valF_mono_lt⟩
 have k1 := key a b
 have k2 := key b a
 exact ⟨decide_eq_decide.2 (by omega), decide_eq_decide.2 (by omega)⟩
theorem and2047 (n : Nat) (h : n < 9223372036854775808) : IntKind.wrap .i64 ((BitVec.ofInt 64 (n : Int) &&& BitVec.ofInt 64 2047).toNat) = ((n % 2048 : Nat) : Int) := by
 rw [BitVec.toNat_and, show (BitVec.ofInt 64 2047).toNat = 2 ^ 11 - 1 by decide, Nat.and_two_pow_sub_one_eq_mod, BitVec.toNat_ofInt]
 have : (((n : Int) % ((2 ^ 64 : Nat) : Int)).toNat) = n := by omega
 rw [this]
 simp [IntKind.wrap, IntKind.bits, IntKind.signed]
 omega
theorem clear_exp (n : Nat) (h : n < 9223372036854775808) : IntKind.wrap .u64 ((BitVec.ofInt 64 (n : Int) &&& ~~~ BitVec.ofInt 64 9218868437227405312).toNat) = ((n % 4503599627370496 : Nat) : Int) := by
 have e : (BitVec.ofInt 64 (n : Int) &&& ~~~ BitVec.ofInt 64 9218868437227405312).toNat = n % 4503599627370496 := by
   rw [BitVec.toNat_and, show (~~~ BitVec.ofInt 64 9218868437227405312).toNat = 2 ^ 63 ||| (2 ^ 52 - 1) by decide, BitVec.toNat_ofInt]
   have : (((n : Int) % ((2 ^ 64 : Nat) : Int)).toNat) = n := by omega
   have z : n &&& 2 ^ 63 = 0 := by
     apply Nat.eq_of_testBit_eq
     intro i
     rw [Nat.testBit_and, Nat.zero_testBit, Nat.testBit_two_pow]
     by_cases hi : 63 = i
     · subst hi; rw [Nat.testBit_lt_two_pow (by omega)]; rfl
     · simp [hi]
   rw [this, Nat.and_or_distrib_left, Nat.and_two_pow_sub_one_eq_mod, z, Nat.zero_or]
 rw [e, wrap64]
 omega
theorem shl52 (q : Nat) (h : q < 4096) : IntKind.wrap .u64 ((q : Int) * 2 ^ min (52 : Int).toNat IntKind.u64.bits) = ((q * 2 ^ 52 : Nat) : Int) := by
 rw [wrap64, show min (52 : Int).toNat IntKind.u64.bits = 52 from rfl]
 omega
end Go.Proofs.YtnhmmjogfkjceaaGreatDoor
namespace Go.Proofs.YtnhmmjogfkjceaaGreatDoor
open Go.Sl

theorem f_Abs {W0 : World} {a : Nat} (ha : a < 9223372036854775808) : SC Tryz.prog W0 192 #[.float .f64 a] [] (Ret (fun _ : Unit => []) (fun v _ => v = .float .f64 a)) := by
 refine SC_body (fn := Tryz.f192) (n := 7) Tryz.func192 rfl (by kernel_rfl) (ρ := [(0, .float .f64 a)]) rfl ?_
 refine sr ?_
 refine os 1 ?_
 refine nsr ?_
 refine os 1 ?_
 refine oV (.int .u64 (a : Int)) ?_
 refine oV (.int .u64 ((a % 9223372036854775808 : Nat) : Int)) ?_ (hs := andNotR (m := (a : Int)) (c := 9223372036854775808) _ (sized64 a (by omega)))
 refine oV (.float .f64 (a % 9223372036854775808)) ?_
 refine os 1 ?_
 refine kp [2, 0] ?_
 refine nt ?_
 refine SW_ret ?_
 refine body_end (.float .f64 (a % 9223372036854775808)) (fun _ => rfl) ?_
 rw [show a % 9223372036854775808 = a from by omega]
 exact ⟨(), ow, rfl⟩

theorem f_IsInf {W0 : World} {a : Nat} (ha : a < 9218868437227405312) : SC Tryz.prog W0 183 #[.float .f64 a, .int .i64 0] [] (Ret (fun _ : Unit => []) (fun v _ => v = .bool false)) := by
 refine SC_body (fn := Tryz.f183) (n := 15) Tryz.func183 rfl (by kernel_rfl) (ρ := [(0, .float .f64 a), (1, .int .i64 0)]) rfl ?_
 refine sr ?_
 refine os 1 ?_
 refine nq ?_
 refine sr ?_
 refine os 1 ?_
 refine oV (.bool true) ?_
 refine nt ?_
 refine ct ?_
 refine SW_region ?_
 refine os 1 ?_
 refine L (cl (f_Abs (a := a) (by omega)) ?_)
 rintro _ _ rfl
 refine un ?_
 refine os 1 ?_
 refine kp [0, 6, 4, 1] ?_
 refine nsr ?_
 refine os 1 ?_
 refine oV (.bool false) ?_ (hs := (fun δ w_ => run_fgt ((o_pos (a := a) (b := 9218868437227405311) (by omega) (by decide)).2.trans (decide_eq_false (by omega))) rfl rfl))
 refine os 1 ?_
 refine nt ?_
 refine SW_ret ?_
 refine body_end (.bool false) (fun _ => rfl) ?_
 exact ⟨(), ow, rfl⟩

theorem f_IsNaN {W0 : World} {a : Nat} (ha : a < 9218868437227405312) : SC Tryz.prog W0 184 #[.float .f64 a] [] (Ret (fun _ : Unit => []) (fun v _ => v = .bool false)) := by
 refine SC_body (fn := Tryz.f184) (n := 6) Tryz.func184 rfl (by kernel_rfl) (ρ := [(0, .float .f64 a)]) rfl ?_
 refine sr ?_
 refine os 1 ?_
 refine nsr ?_
 refine os 2 ?_
 refine oV (.bool false) ?_ (hs := (fun δ w_ => run_fne ((f_nan (a := a) (by omega)).trans (decide_eq_false (by unfold mag; omega))) rfl rfl))
 refine os 1 ?_
 refine kp [2, 0] ?_
 refine nt ?_
 refine SW_ret ?_
 refine body_end (.bool false) (fun _ => rfl) ?_
 exact ⟨(), ow, rfl⟩

theorem f_normalize {W0 : World} {a : Nat} (h0 : 4503599627370496 ≤ a) (ha : a < 9218868437227405312) : SC Tryz.prog W0 185 #[.float .f64 a] [] (Ret (fun _ : Unit => []) (fun v _ => v = .tuple #[.float .f64 a, .int .i64 0])) := by
 refine SC_body (fn := Tryz.f185) (n := 10) Tryz.func185 rfl (by kernel_rfl) (ρ := [(0, .float .f64 a)]) rfl ?_
 refine sr ?_
 refine os 2 ?_
 refine nq ?_
 refine sr ?_
 refine os 1 ?_
 refine L (cl (f_Abs (a := a) (by omega)) ?_)
 rintro _ _ rfl
 refine un ?_
 refine oV (.bool false) ?_ (hs := (fun δ w_ => run_flt ((o_pos (a := a) (b := 4503599627370496) (by omega) (by decide)).1.trans (decide_eq_false (by omega))) rfl rfl))
 refine nt ?_
 refine cf ?_
 refine SW_skip (n_then ?_)
 refine sr ?_
 refine os 3 ?_
 refine kp [3, 2, 6, 0] ?_
 refine nt ?_
 refine SW_ret ?_
 refine body_end (.tuple #[.float .f64 a, .int .i64 0]) (fun _ => rfl) ?_
 exact ⟨(), ow, rfl⟩

theorem f_Inf {W0 : World}  : SC Tryz.prog W0 187 #[.int .i64 1] [] (Ret (fun _ : Unit => []) (fun v _ => v = .float .f64 9218868437227405312)) := by
 refine SC_body (fn := Tryz.f187) (n := 8) Tryz.func187 rfl (by kernel_rfl) (ρ := [(0, .int .i64 1)]) rfl ?_
 refine sr ?_
 refine os 1 ?_
 refine nsr ?_
 refine os 1 ?_
 refine nq ?_
 refine sr ?_
 refine os 1 ?_
 refine oV (.bool true) ?_
 refine nt ?_
 refine ct ?_
 refine SW_region ?_
 refine os 1 ?_
 refine nsr ?_
 refine os 1 ?_
 refine oV (.float .f64 9218868437227405312) ?_
 refine os 1 ?_
 refine kp [2, 3, 5, 0] ?_
 refine nt ?_
 refine SW_ret ?_
 refine body_end (.float .f64 9218868437227405312) (fun _ => rfl) ?_
 exact ⟨(), ow, rfl⟩

theorem f_ldexp {W0 : World} {m a lg g : Nat} {e : Int} (hw : Whole53 m a lg g) (he : -1074 ≤ e ∧ e ≤ 100000) : SC Tryz.prog W0 171 #[.float .f64 a, .int .i64 e] [] (Ret (fun _ : Unit => []) (fun v _ => v = .float .f64 (ldP m e))) := by
 refine SC_body (fn := Tryz.f171) (n := 63) Tryz.func171 rfl (by kernel_rfl) (ρ := [(0, .float .f64 a), (1, .int .i64 e)]) rfl ?_
 have hb_ := hw.bits
 have hlo_ := hw.lo
 have hhi_ := hw.hi
 have hl53_ := hw.l53
 refine sr ?_
 refine os 1 ?_
 refine nq ?_
 refine SW_block ?_
 refine sr ?_
 refine os 1 ?_
 refine oV (.bool false) ?_ (hs := (fun δ w_ => run_feq ((f_eq0 (a := a) (by omega)).trans (decide_eq_false (by unfold mag; omega))) rfl rfl))
 refine os 1 ?_
 refine nt ?_
 refine cf ?_
 refine sr ?_
 refine os 1 ?_
 refine L (cl (f_IsInf (a := a) (by omega)) ?_)
 rintro _ _ rfl
 refine un ?_
 refine os 2 ?_
 refine L (cl (f_IsNaN (a := a) (by omega)) ?_)
 rintro _ _ rfl
 refine un ?_
 refine os 2 ?_
 refine kp [12, 8, 4, 0, 1] ?_
 refine nt ?_
 refine cf ?_
 refine SW_skip (n_in (n_then ?_))
 refine sr ?_
 refine os 1 ?_
 refine L (cl (f_normalize (a := a) (by omega) (by omega)) ?_)
 rintro _ _ rfl
 refine un ?_
 refine os 5 ?_
 refine kp [5, 0, 12, 8, 4, 1] ?_
 refine nsr ?_
 refine os 4 ?_
 refine kp [1, 5, 0, 12, 8, 4] ?_
 refine nsr ?_
 refine os 1 ?_
 refine oV (.int .u64 (a : Int)) ?_
 refine os 1 ?_
 refine nsr ?_
 refine os 2 ?_
 refine oX (.int .u64 (Int.fdiv (a : Int) 4503599627370496)) (.int .u64 ((a : Int) / 4503599627370496)) (congrArg (Value.int .u64) (Int.fdiv_eq_ediv_of_nonneg _ (by omega))) ?_
 refine os 1 ?_
 refine oV (.int .i64 ((lg + 1023 : Nat) : Int)) ?_ (hs := andR64i (m := (a : Int) / 4503599627370496) (c := 2047) _ (by rw [show (a : Int) / 4503599627370496 = ((a / 4503599627370496 : Nat) : Int) from by omega]; exact (and2047 _ (by omega)).trans (by omega)))
 refine os 3 ?_
 refine kp [1, 6, 5, 0, 12, 8, 4] ?_
 refine nq ?_
 refine sr ?_
 refine os 2 ?_
 refine nt ?_
 refine SW_false (fun _ => (congrArg Value.bool (show (decide (((e + 0) + (((lg + 1023 : Nat) : Int) - 1023)) < (-1075))) = false from (decide_eq_false (by omega))))) ?_
 refine SW_skip (n_then ?_)
 refine SW_seq ?_
 refine sr ?_
 refine os 2 ?_
 refine nt ?_
 refine cdp (fun hc1 : ((e + 0) + (((lg + 1023 : Nat) : Int) - 1023)) > 1023 => ?_) (fun hc1 => ?_)
 ·refine SW_seq ?_
  refine sr ?_
  refine os 1 ?_
  refine oV (.bool false) ?_ (hs := (fun δ w_ => run_flt ((o_pos (a := a) (b := 0) (by omega) (by decide)).1.trans (decide_eq_false (by omega))) rfl rfl))
  refine kp [44, 42, 38, 1, 6, 5, 0, 12, 8, 4] ?_
  refine nt ?_
  refine cf ?_
  refine SW_skip (n_then ?_)
  refine sr ?_
  refine L (cl (f_Inf) ?_)
  rintro _ _ rfl
  refine un ?_
  refine os 1 ?_
  refine nt ?_
  refine SW_ret (r_then ?_)
  refine body_end (.float .f64 9218868437227405312) (fun _ => rfl) ?_
  exact ⟨(), ow, by rw [ldexp_inf hw (by omega)]⟩
 refine SW_skip (n_then ?_)
 refine sr ?_
 refine os 1 ?_
 refine nq ?_
 refine sr ?_
 refine os 2 ?_
 refine kp [48, 7, 42, 38, 1, 6, 5, 0, 12, 8, 4] ?_
 refine nt ?_
 refine cdp (fun hc2 : ((e + 0) + (((lg + 1023 : Nat) : Int) - 1023)) < (-1022) => ?_) (fun hc2 => ?_)
 ·refine sr ?_
  refine os 3 ?_
  refine nr ?_
  refine os 1 ?_
  refine nsr ?_
  refine os 1 ?_
  refine oV (.int .u64 ((g - 4503599627370496 : Nat) : Int)) ?_ (hs := andNotR (m := (a : Int)) (c := 9218868437227405312) _ ((clear_exp a (by omega)).trans (by omega)))
  refine os 1 ?_
  refine kp [6, 7, 1, 48, 42, 38, 5, 0, 12, 8, 4] ?_
  refine nq ?_
  obtain ⟨Q, hQ_⟩ : ∃ Q : Nat, (Q : Int) = ((e + 0) + (((lg + 1023 : Nat) : Int) - 1023)) + 53 + 1023 := ⟨(((e + 0) + (((lg + 1023 : Nat) : Int) - 1023)) + 53 + 1023).toNat, by omega⟩
  rw [show ((e + 0) + (((lg + 1023 : Nat) : Int) - 1023)) + 53 = (Q : Int) - 1023 from by omega]
  refine SW_region ?_
  refine os 4 ?_
  refine oV (.int .u64 ((Q * 2 ^ 52 : Nat) : Int)) ?_ (hs := shlR (m := ((Q : Int) - 1023) + 1023) (c := 52) _ (by decide) (by rw [show ((Q : Int) - 1023) + 1023 = (Q : Int) from by omega]; exact shl52 Q (by omega)))
  refine oV (.int .u64 ((Q * 2 ^ 52 + (g - 4503599627370496) : Nat) : Int)) ?_ (hs := orR (m := ((g - 4503599627370496 : Nat) : Int)) (c := ((Q * 2 ^ 52 : Nat) : Int)) _ (or_apart64 (a := Q) (b := g - 4503599627370496) (s := 52) (by omega) (by omega)))
  refine os 1 ?_
  refine kp [6, 7, 1, 48, 42, 38, 5, 0, 12, 8, 4] ?_
  refine nsr ?_
  refine os 2 ?_
  refine oV (.float .f64 (Q * 2 ^ 52 + (g - 4503599627370496))) ?_
  refine oV (.float .f64 (ldP m e)) ?_ (hs := (fun δ w_ => run_fmul ((mul_made (c := 4368491638549381120) (x := Q * 2 ^ 52 + (g - 4503599627370496)) (s := 970) (g := g) (p := Q - 1) rfl (by decide) (by omega) hw.lo hw.hi (by omega)).trans (congrArg some (ldexp_val hw (by omega)))) rfl rfl))
  refine os 1 ?_
  refine kp [4, 6, 7, 1, 48, 42, 38, 5, 0, 12, 8] ?_
  refine nt ?_
  refine SW_ret ?_
  refine body_end (.float .f64 (ldP m e)) (fun _ => rfl) ?_
  exact ⟨(), ow, rfl⟩
 refine SW_skip (n_then ?_)
 refine sr ?_
 refine os 1 ?_
 refine oV (.int .u64 ((g - 4503599627370496 : Nat) : Int)) ?_ (hs := andNotR (m := (a : Int)) (c := 9218868437227405312) _ ((clear_exp a (by omega)).trans (by omega)))
 refine os 1 ?_
 refine nq ?_
 obtain ⟨Q, hQ_⟩ : ∃ Q : Nat, (Q : Int) = (e + 0) + (((lg + 1023 : Nat) : Int) - 1023) + 1023 := ⟨((e + 0) + (((lg + 1023 : Nat) : Int) - 1023) + 1023).toNat, by omega⟩
 rw [show (e + 0) + (((lg + 1023 : Nat) : Int) - 1023) = (Q : Int) - 1023 from by omega]
 refine SW_region ?_
 refine os 4 ?_
 refine oV (.int .u64 ((Q * 2 ^ 52 : Nat) : Int)) ?_ (hs := shlR (m := ((Q : Int) - 1023) + 1023) (c := 52) _ (by decide) (by rw [show ((Q : Int) - 1023) + 1023 = (Q : Int) from by omega]; exact shl52 Q (by omega)))
 refine oV (.int .u64 ((Q * 2 ^ 52 + (g - 4503599627370496) : Nat) : Int)) ?_ (hs := orR (m := ((g - 4503599627370496 : Nat) : Int)) (c := ((Q * 2 ^ 52 : Nat) : Int)) _ (or_apart64 (a := Q) (b := g - 4503599627370496) (s := 52) (by omega) (by omega)))
 refine os 1 ?_
 refine kp [6, 48, 7, 42, 38, 1, 5, 0, 12, 8, 4] ?_
 refine nsr ?_
 refine os 2 ?_
 refine oV (.float .f64 (Q * 2 ^ 52 + (g - 4503599627370496))) ?_
 refine oV (.float .f64 (ldP m e)) ?_ (hs := (fun δ w_ => run_fmul ((mul_made (c := 4607182418800017408) (x := Q * 2 ^ 52 + (g - 4503599627370496)) (s := 1023) (g := g) (p := Q - 1) rfl (by decide) (by omega) hw.lo hw.hi (by omega)).trans (congrArg some (ldexp_val hw (by omega)))) rfl rfl))
 refine os 1 ?_
 refine kp [4, 6, 48, 7, 42, 38, 1, 5, 0, 12, 8] ?_
 refine nt ?_
 refine SW_ret ?_
 refine body_end (.float .f64 (ldP m e)) (fun _ => rfl) ?_
 exact ⟨(), ow, rfl⟩

theorem f_Ldexp {W0 : World} {m a lg g : Nat} {e : Int} (hw : Whole53 m a lg g) (he : -1074 ≤ e ∧ e ≤ 100000) : SC Tryz.prog W0 142 #[.float .f64 a, .int .i64 e] [] (Ret (fun _ : Unit => []) (fun v _ => v = .float .f64 (ldP m e))) := by
 refine SC_body (fn := Tryz.f142) (n := 11) Tryz.func142 rfl (by kernel_rfl) (ρ := [(0, .float .f64 a), (1, .int .i64 e)]) rfl ?_
 refine sr ?_
 refine os 1 ?_
 refine nq ?_
 refine cf ?_
 refine SW_skip (n_then ?_)
 refine sr ?_
 refine os 2 ?_
 refine L (cl (f_ldexp hw he) ?_)
 rintro _ _ rfl
 refine un ?_
 refine os 1 ?_
 refine kp [4, 0, 1] ?_
 refine nt ?_
 refine SW_ret ?_
 refine body_end (.float .f64 (ldP m e)) (fun _ => rfl) ?_
 exact ⟨(), ow, rfl⟩

theorem f_ldexp0 {W0 : World} {e : Int} : SC Tryz.prog W0 171 #[.float .f64 0, .int .i64 e] [] (Ret (fun _ : Unit => []) (fun v _ => v = .float .f64 0)) := by
 refine SC_body (fn := Tryz.f171) (n := 63) Tryz.func171 rfl (by kernel_rfl) (ρ := [(0, .float .f64 0), (1, .int .i64 e)]) rfl ?_
 refine sr ?_
 refine os 1 ?_
 refine nq ?_
 refine SW_block ?_
 refine sr ?_
 refine os 1 ?_
 refine oV (.bool true) ?_ (hs := (fun δ w_ => run_feq (r := true) (by decide) rfl rfl))
 refine os 1 ?_
 refine nt ?_
 refine ct ?_
 refine sr ?_
 refine os 2 ?_
 refine kp [4, 8, 0, 1] ?_
 refine nt ?_
 refine SW_ret (r_in (r_then ?_))
 refine body_end (.float .f64 0) (fun _ => rfl) ?_
 exact ⟨(), ow, rfl⟩

theorem f_Ldexp0 {W0 : World} {e : Int} : SC Tryz.prog W0 142 #[.float .f64 0, .int .i64 e] [] (Ret (fun _ : Unit => []) (fun v _ => v = .float .f64 0)) := by
 refine SC_body (fn := Tryz.f142) (n := 11) Tryz.func142 rfl (by kernel_rfl) (ρ := [(0, .float .f64 0), (1, .int .i64 e)]) rfl ?_
 refine sr ?_
 refine os 1 ?_
 refine nq ?_
 refine cf ?_
 refine SW_skip (n_then ?_)
 refine sr ?_
 refine os 2 ?_
 refine L (cl (f_ldexp0) ?_)
 rintro _ _ rfl
 refine un ?_
 refine os 1 ?_
 refine kp [4, 0, 1] ?_
 refine nt ?_
 refine SW_ret ?_
 refine body_end (.float .f64 0) (fun _ => rfl) ?_
 exact ⟨(), ow, rfl⟩

theorem f_LdexpM {W0 : World} {m : Nat} {e : Int} (h1 : m ≤ 9007199254740992) (he : -1074 ≤ e ∧ e ≤ 100000) : SC Tryz.prog W0 142 #[.float .f64 (ldP m 0), .int .i64 e] [] (Ret (fun _ : Unit => []) (fun v _ => v = .float .f64 (ldP m e))) := by
 rcases Nat.eq_zero_or_pos m with h0 | h0
 · subst h0
   rw [ldP_zero, ldP_zero]
   exact f_Ldexp0
 · obtain ⟨lg, g, hw⟩ := whole53 h0 h1
   exact f_Ldexp hw he

theorem r1_bits {W0 : World} {n : Nat} (hn : n < 18446744073709551616) (hb : bitsN n ≤ 64) : SC Tryz.prog W0 141 #[.int .u64 (n : Int)] [] (Ret (fun _ : Unit => []) (fun v _ => v = .int .i64 (bitsN n : Int))) := by
 refine SC_body (fn := Tryz.f141) (n := 11) Tryz.func141 rfl (by kernel_rfl) (ρ := [(0, .int .u64 (n : Int))]) rfl ?_
 refine sr ?_
 refine os 1 ?_
 refine nsr ?_
 refine os 1 ?_
 refine nq ?_
 refine SW_block ?_
 refine SW_loop (α := Nat × Nat) (fun z_ ρ_ σ_ => Fits ρ_ σ_ [(0, .int .u64 (z_.1 : Int)), (3, .int .i64 (z_.2 : Int))] ([]) ∧ z_.1 ≤ n ∧ (bitsN z_.1 + z_.2 = bitsN n ∧ bitsN n ≤ 64)) (fun z_ => z_.1) (n, 0) ⟨⟨fun _ => rfl, ow⟩, Nat.le_refl _, ⟨rfl, hb⟩⟩ ?_
 rintro ⟨x, k⟩ ρ_ σ_ ⟨hfit, hi0, hi1⟩
 refine SW_fits hfit ?_
 clear hfit
 simp only [] at hi0 hi1 ⊢
 refine SW_seq ?_
 refine sr ?_
 refine os 2 ?_
 refine nt ?_
 refine cdp (fun hc1 : (x : Int) > 0 => ?_) (fun hc1 => ?_)
 ·refine SW_skip (n_then ?_)
  refine SW_block ?_
  refine sr ?_
  refine os 3 ?_
  refine kp [3, 5, 0] ?_
  refine nr ?_
  refine os 1 ?_
  refine oX (.int .u64 (IntKind.wrap .u64 (Int.tdiv (x : Int) 2))) (.int .u64 ((x : Int) / 2)) (congrArg (Value.int .u64) (quo_u64 (by omega) (by omega) (by decide))) ?_
  refine os 1 ?_
  refine SL_nil (n_in (n_then ?_))
  rw [show (x : Int) / 2 = ((x / 2 : Nat) : Int) from by omega, show (k : Int) + 1 = ((k + 1 : Nat) : Int) from by omega]
  exact ⟨(x / 2, k + 1), by simp only []; omega, ⟨fun _ => rfl, ow⟩, by simp only []; omega, by simp only []; have := bitsN_pos (n := x) (by omega); omega⟩
 refine SW_exit (x_then (x_then (x_in (n_then ?_))))
 refine sr ?_
 refine os 2 ?_
 refine nt ?_
 refine SW_ret ?_
 refine body_end (.int .i64 (k : Int)) (fun _ => rfl) ?_
 rw [show x = 0 from by omega, bitsN_zero] at hi1
 exact ⟨(), ow, congrArg (Value.int .i64) (by omega)⟩

end Go.Proofs.YtnhmmjogfkjceaaGreatDoor
namespace Go.Proofs
open Go.Shelf
end Go.Proofs
namespace Go.Proofs.YtnhmmjogfkjceaaGreatDoor
open Go.Sl Go.RowKit
structure LaidN (W0 : World) : Prop where
  tab : ∀ w, Below W0.heap.size W0 w → Lib.TabIs Tryz.prog w "internal/strconv.uint64pow10" .u64 Lib.pow10Tab
variable {W0 : World} {σ : Heaplet}
end Go.Proofs.YtnhmmjogfkjceaaGreatDoor
namespace Go.Proofs.YtnhmmjogfkjceaaGreatDoor
open Go.Sl

end Go.Proofs.YtnhmmjogfkjceaaGreatDoor
namespace Go.Proofs.YtnhmmjogfkjceaaGreatDoor
open Go.Sl

end Go.Proofs.YtnhmmjogfkjceaaGreatDoor
namespace Go.Proofs.YtnhmmjogfkjceaaGreatDoor
open Go.Sl

end Go.Proofs.YtnhmmjogfkjceaaGreatDoor
namespace Go.Proofs.YtnhmmjogfkjceaaGreatDoor
open Go.Sl

end Go.Proofs.YtnhmmjogfkjceaaGreatDoor
namespace Go.Proofs.YtnhmmjogfkjceaaGreatDoor
open Go.Sl

end Go.Proofs.YtnhmmjogfkjceaaGreatDoor
namespace Go.Proofs.YtnhmmjogfkjceaaGreatDoor
open Go.Sl

def ofP (a : Nat) : Nat := if mag a > 9218868437227405312 then 9221120237041090560 else a
theorem r1_Of {W0 : World} {a : Nat} (ha : a < 18446744073709551616) : SC Tryz.prog W0 13 #[.float .f64 a] [] (Ret (fun _ : Unit => []) (fun v _ => v = .int .u64 (ofP a : Int))) := by
 refine SC_body (fn := Tryz.f13) (n := 8) Tryz.func13 rfl (by kernel_rfl) (ρ := [(0, .float .f64 a)]) rfl ?_
 refine sr ?_
 refine os 1 ?_
 refine nq ?_
 refine sr ?_
 refine os 2 ?_
 refine oV (.bool (decide (mag a > 9218868437227405312))) ?_ (hs := (fun δ w_ => run_fne (f_nan ha) rfl rfl))
 refine nt ?_
 refine cdp (fun hc1 : mag a > 9218868437227405312 => ?_) (fun hc1 => ?_)
 ·refine sr ?_
  refine os 1 ?_
  refine nt ?_
  refine SW_ret (r_then ?_)
  refine body_end (.int .u64 9221120237041090560) (fun _ => rfl) ?_
  exact ⟨(), ow, by unfold ofP; rw [if_pos hc1]; rfl⟩
 refine SW_skip (n_then ?_)
 refine sr ?_
 refine os 1 ?_
 refine oV (.int .u64 (a : Int)) ?_
 refine os 1 ?_
 refine kp [2, 5, 0] ?_
 refine nt ?_
 refine SW_ret ?_
 refine body_end (.int .u64 (a : Int)) (fun _ => rfl) ?_
 exact ⟨(), ow, by unfold ofP; rw [if_neg hc1]⟩

end Go.Proofs.YtnhmmjogfkjceaaGreatDoor
namespace Go.Proofs.YtnhmmjogfkjceaaGreatDoor
open Go.Sl

theorem clamp_eq (e : Int) : (if 5000 < (if -5000 > e then -5000 else e) then 5000 else (if -5000 > e then -5000 else e)) = clampE e := clampE_eq e
theorem shr_man {m c : Nat} {z : Int} (hz : z = (c : Int)) (hc : c < 64) : Int.fdiv (m : Int) (2 ^ min z.toNat IntKind.u64.bits) = ((m / 2 ^ c : Nat) : Int) := by
 rw [hz, Int.toNat_natCast, show IntKind.u64.bits = 64 from rfl, Nat.min_eq_left (by omega), Int.fdiv_eq_ediv_of_nonneg _ (by exact_mod_cast Nat.zero_le _)]
 simp
theorem shl_man {g c m : Nat} {z : Int} (hz : z = (c : Int)) (hc : c ≤ 64) (h : g * 2 ^ c ≤ m) (hm : m < 18446744073709551616) : IntKind.wrap .u64 ((g : Int) * 2 ^ min z.toNat IntKind.u64.bits) = ((g * 2 ^ c : Nat) : Int) := by
 rw [hz, Int.toNat_natCast, show IntKind.u64.bits = 64 from rfl, Nat.min_eq_left (by omega), wrap64]
 have h1 : (g : Int) * 2 ^ c = ((g * 2 ^ c : Nat) : Int) := by simp
 rw [h1]
 generalize g * 2 ^ c = z at *
 omega
theorem one_shlZ {c : Nat} {z : Int} (hz : z = (c : Int)) (h : c < 64) : IntKind.wrap .u64 ((1 : Int) * 2 ^ min z.toNat IntKind.u64.bits) = ((2 ^ c : Nat) : Int) := by rw [hz]; exact one_shl h

theorem r1_Near {W0 : World} {man : Nat} {e : Int} {half : Bool} (hm : man < 18446744073709551616) (he : -4611686018427387904 ≤ e ∧ e ≤ 4611686018427387904) : SC Tryz.prog W0 106 #[.int .u64 (man : Int), .int .i64 e, .bool half] [] (Ret (fun _ : Unit => []) (fun v _ => v = .int .u64 (nearN man e half : Int))) := by
 refine SC_body (fn := Tryz.f106) (n := 86) Tryz.func106 rfl (by kernel_rfl) (ρ := [(0, .int .u64 (man : Int)), (1, .int .i64 e), (2, .bool half)]) rfl ?_
 refine sr ?_
 refine os 1 ?_
 refine nsr ?_
 refine os 1 ?_
 refine oV (.int .i64 (if -5000 > e then -5000 else e)) ?_
 refine oV (.int .i64 (if 5000 < if -5000 > e then -5000 else e then 5000 else if -5000 > e then -5000 else e)) ?_
 refine os 1 ?_
 refine kp [1, 6, 0, 2] ?_
 refine nq ?_
 refine SW_seq ?_
 rw [clamp_eq]
 have hce_ := clampE_in e
 refine SW_cut3 (fun ρ_ σ_ => Fits ρ_ σ_ [(0, .int .u64 (((if half = true ∧ man < 9223372036854775808 then 2 * man + 1 else man : Nat)) : Int)), (1, .int .i64 (if half = true ∧ man < 9223372036854775808 then clampE e - 1 else clampE e)), (2, .bool (if half = true ∧ man < 9223372036854775808 then false else half))] ([])) ?_ ?_
 ·refine SW_region ?_
  refine os 2 ?_
  refine tb 16 (fun hg1 => ?_) (fun hg1 => ?_)
  ·replace hg1 : half = true := hg1
   refine os 3 ?_
   refine kp [19, 0, 1, 2] ?_
   refine nt ?_
   refine cdp (fun hc2 : (man : Int) < 9223372036854775808 => ?_) (fun hc2 => ?_)
   ·refine sr ?_
    refine os 4 ?_
    refine kp [0, 19, 1, 2] ?_
    refine nsr ?_
    refine os 3 ?_
    refine nr ?_
    refine os 1 ?_
    refine nt ?_
    have hcc_ : (half = true ∧ man < 9223372036854775808) := ⟨by assumption, by omega⟩
    rw [if_pos hcc_, if_pos hcc_, if_pos hcc_]
    rw [show ((2 * man + 1 : Nat) : Int) = 2 * (man : Int) + 1 from by omega]
    exact ⟨fun _ => rfl, ow⟩
   refine SW_skip (n_then ?_)
   have hcc_ : ¬ (half = true ∧ man < 9223372036854775808) := by rintro ⟨q1_, q2_⟩; first | omega | simp_all
   rw [if_neg hcc_, if_neg hcc_, if_neg hcc_]
   rw [show half = true from by assumption]
   exact ⟨fun _ => rfl, ow⟩
  replace hg1 : half = false := hg1
  refine os 3 ?_
  refine kp [19, 0, 1, 2] ?_
  refine nt ?_
  refine cf ?_
  refine SW_skip (n_then ?_)
  have hcc_ : ¬ (half = true ∧ man < 9223372036854775808) := by rintro ⟨q1_, q2_⟩; first | omega | simp_all
  rw [if_neg hcc_, if_neg hcc_, if_neg hcc_]
  rw [show half = false from by assumption]
  exact ⟨fun _ => rfl, ow⟩
 ·rintro ρ_ σ_ hfit
  refine SW_fits hfit ?_
  clear hfit
  refine SW_seq ?_
  obtain ⟨m1, e1, h1, hm1_, he1_, hh1_, hN0_, hN_⟩ := near1_state (half := half) (e := e) hm
  rw [← hm1_.1, ← he1_.1, ← hh1_.1]
  have hm1b_ := hm1_.2
  have he1b_ := he1_.2
  have hh1b_ := hh1_.2
  clear hm1_ he1_ hh1_
  generalize hNN_ : nearN man e half = NN at *
  have hb64_ := bitsN_64 hm1b_
  refine SW_region ?_
  refine os 2 ?_
  refine L (cl (r1_bits (n := m1) hm1b_ hb64_) ?_)
  rintro _ _ rfl
  refine un ?_
  refine os 2 ?_
  refine oV (.int .i64 (if -1074 > (e1 + (bitsN m1 : Int)) - 53 then -1074 else (e1 + (bitsN m1 : Int)) - 53)) ?_
  refine os 1 ?_
  refine kp [7, 0, 1, 2] ?_
  refine nsr ?_
  refine os 4 ?_
  refine kp [8, 7, 0, 1, 2] ?_
  refine nq ?_
  refine SW_seq ?_
  obtain ⟨last, hlast_⟩ : ∃ z, z = if -1074 > (e1 + (bitsN m1 : Int)) - 53 then -1074 else (e1 + (bitsN m1 : Int)) - 53 := ⟨_, rfl⟩
  rw [← hlast_]
  have hlr_ : (last = e1 + (bitsN m1 : Int) - 53 ∧ -1074 ≤ last) ∨ (last = -1074 ∧ e1 + (bitsN m1 : Int) - 53 ≤ last) := by rw [hlast_]; split <;> omega
  clear hlast_
  refine SW_region ?_
  refine os 3 ?_
  refine tb 36 (fun hg3 => ?_) (fun hg3 => ?_)
  ·replace hg3 : ((m1 : Int) == 0) = true := hg3
   simp only [beq_iff_eq, bne_iff_ne, ne_eq, beq_eq_false_iff_ne, bne_eq_false_iff_eq, Classical.not_not] at hg3
   refine os 3 ?_
   refine kp [39, 8, 7, 0, 1, 2] ?_
   refine nt ?_
   refine ct ?_
   refine sr ?_
   refine os 1 ?_
   refine nt ?_
   refine SW_ret (r_then ?_)
   refine body_end (.int .u64 0) (fun _ => rfl) ?_
   by_cases hm0_ : m1 = 0
   · rw [hN0_ hm0_]; exact ⟨(), ow, rfl⟩
   · have hre_ := isRN_uniq (Nat.two_pow_pos _) (hN_ (by omega)) (near1_zero (M := 2 * m1 + hN h1) (E := e1 - 1 + 1074) (by unfold hN; split <;> omega) (by omega))
     rw [hre_]; exact ⟨(), ow, rfl⟩
  replace hg3 : ((m1 : Int) == 0) = false := hg3
  simp only [beq_iff_eq, bne_iff_ne, ne_eq, beq_eq_false_iff_ne, bne_eq_false_iff_eq, Classical.not_not] at hg3
  refine os 3 ?_
  refine kp [39, 8, 7, 0, 1, 2] ?_
  refine nt ?_
  refine cdp (fun hc4 : (last - e1) > 64 => ?_) (fun hc4 => ?_)
  ·refine sr ?_
   refine os 1 ?_
   refine nt ?_
   refine SW_ret (r_then ?_)
   refine body_end (.int .u64 0) (fun _ => rfl) ?_
   by_cases hm0_ : m1 = 0
   · rw [hN0_ hm0_]; exact ⟨(), ow, rfl⟩
   · have hre_ := isRN_uniq (Nat.two_pow_pos _) (hN_ (by omega)) (near1_zero (M := 2 * m1 + hN h1) (E := e1 - 1 + 1074) (by unfold hN; split <;> omega) (by omega))
     rw [hre_]; exact ⟨(), ow, rfl⟩
  refine SW_skip (n_then ?_)
  refine SW_seq ?_
  refine sr ?_
  refine os 2 ?_
  refine nt ?_
  refine cdp (fun hc5 : (last - e1) ≤ 0 => ?_) (fun hc5 => ?_)
  ·refine SW_seq ?_
   have h1p_ : 0 < m1 := by omega
   have hbl_ : m1 ≤ 9007199254740992 := by have h2_ := bitsN_lt m1; have h3_ : 2 ^ bitsN m1 ≤ 2 ^ 53 := Nat.pow_le_pow_right (by decide) (by omega); omega
   have hz_ : h1 = false := by cases hq_ : h1; rfl; exfalso; have h2_ := hh1b_ hq_; omega
   refine SW_region ?_
   refine os 1 ?_
   refine oV (.float .f64 (ldP m1 0)) ?_ (hs := (fun δ w_ => run_i2f (n := m1) Tryz.underlying29 Tryz.underlying30 rfl))
   refine os 1 ?_
   refine L (cl (f_LdexpM (m := m1) (e := e1) hbl_ (by omega)) ?_)
   rintro _ _ rfl
   refine un ?_
   have hof_ : ldP m1 e1 ≤ 9218868437227405312 := ldP_lt (by omega)
   refine L (cl (r1_Of (a := ldP m1 e1) (by omega)) ?_)
   rintro _ _ rfl
   refine un ?_
   refine os 1 ?_
   refine kp [6, 41, 39, 8, 7, 0, 1, 2] ?_
   refine nt ?_
   refine SW_ret (r_then ?_)
   refine body_end (.int .u64 (ofP (ldP m1 e1) : Int)) (fun _ => rfl) ?_
   have hre_ := isRN_uniq (Nat.two_pow_pos _) (hN_ h1p_) (by rw [hz_]; exact near1_whole (man := m1) (e := e1) h1p_ (by omega) rfl)
   rw [hre_, show ofP (ldP m1 e1) = ldP m1 e1 from by unfold ofP mag; rw [if_neg (by omega)]]
   exact ⟨(), ow, rfl⟩
  refine SW_skip (n_then ?_)
  refine SW_seq ?_
  obtain ⟨c, hcz_⟩ : ∃ c : Nat, last - e1 = (c : Int) := ⟨(last - e1).toNat, by omega⟩
  have hc0_ : 0 < c := by omega
  have hdm_ := Nat.div_add_mod m1 (2 ^ c)
  rw [Nat.mul_comm] at hdm_
  have hrm_ := Nat.mod_lt m1 (Nat.two_pow_pos c)
  have h1p_ : 0 < m1 := by omega
  refine SW_region ?_
  refine os 1 ?_
  refine nq ?_
  refine SW_seq ?_
  refine SW_cut3 (fun ρ_ σ_ => Fits ρ_ σ_ [(0, .int .u64 (m1 : Int)), (1, .int .i64 e1), (2, .bool h1), (7, .int .i64 last), (8, .int .i64 (last - e1)), (9, .int .u64 ((m1 / 2 ^ c : Nat) : Int))] ([])) ?_ ?_
  ·refine SW_region ?_
   refine os 2 ?_
   refine nt ?_
   refine cdp (fun hc6 : (last - e1) < 64 => ?_) (fun hc6 => ?_)
   ·refine SW_region ?_
    refine os 2 ?_
    refine oV (.int .u64 ((m1 / 2 ^ c : Nat) : Int)) ?_ (hs := shrR (m := (m1 : Int)) (c := (last - e1)) _ (by omega) (shr_man hcz_ (by omega)))
    refine os 1 ?_
    refine kp [9, 48, 41, 39, 8, 7, 0, 1, 2] ?_
    refine nt ?_
    exact ⟨fun _ => rfl, ow⟩
   refine SW_skip (n_then ?_)
   rw [show m1 / 2 ^ c = 0 from Nat.div_eq_of_lt (Nat.lt_of_lt_of_le hm1b_ (Nat.pow_le_pow_right (show 0 < 2 by decide) (show 64 ≤ c by omega)))]
   exact ⟨fun _ => rfl, ow⟩
  ·rintro ρ_ σ_ hfit
   refine SW_fits hfit ?_
   clear hfit
   refine sr ?_
   refine os 3 ?_
   refine oV (.int .u64 (((m1 / 2 ^ c) * 2 ^ c : Nat) : Int)) ?_ (hs := shlR (m := ((m1 / 2 ^ c : Nat) : Int)) (c := (last - e1)) _ (by omega) (shl_man (g := m1 / 2 ^ c) (m := m1) hcz_ (by omega) (Nat.div_mul_le_self _ _) hm1b_))
   refine os 2 ?_
   refine kp [10, 0, 1, 2, 7, 8, 9] ?_
   refine nq ?_
   refine SW_seq ?_
   refine SW_cut3 (fun ρ_ σ_ => Fits ρ_ σ_ [(0, .int .u64 (m1 : Int)), (1, .int .i64 e1), (2, .bool h1), (7, .int .i64 last), (8, .int .i64 (last - e1)), (9, .int .u64 ((m1 / 2 ^ c : Nat) : Int)), (10, .int .u64 ((m1 % 2 ^ c : Nat) : Int))] ([])) ?_ ?_
   ·refine SW_region ?_
    refine os 2 ?_
    refine nt ?_
    refine cd (fun hc7 : ((last - e1) == 64) = true => ?_) (fun hc7 => ?_)
    ·simp only [beq_iff_eq, bne_iff_ne, ne_eq, beq_eq_false_iff_ne, bne_eq_false_iff_eq, Classical.not_not] at hc7
     refine SW_region ?_
     refine os 2 ?_
     refine nt ?_
     rw [show m1 % 2 ^ c = m1 from Nat.mod_eq_of_lt (Nat.lt_of_lt_of_le hm1b_ (Nat.pow_le_pow_right (show 0 < 2 by decide) (show 64 ≤ c by omega)))]
     exact ⟨fun _ => rfl, ow⟩
    simp only [beq_iff_eq, bne_iff_ne, ne_eq, beq_eq_false_iff_ne, bne_eq_false_iff_eq, Classical.not_not] at hc7
    refine SW_skip (n_then ?_)
    rw [show ((m1 % 2 ^ c : Nat) : Int) = (m1 : Int) - (((m1 / 2 ^ c) * 2 ^ c : Nat) : Int) from by omega]
    exact ⟨fun _ => rfl, ow⟩
   ·rintro ρ_ σ_ hfit
    refine SW_fits hfit ?_
    clear hfit
    refine SW_seq ?_
    obtain ⟨g, hg_⟩ : ∃ g, g = m1 / 2 ^ c := ⟨_, rfl⟩
    obtain ⟨r, hr_⟩ : ∃ r, r = m1 % 2 ^ c := ⟨_, rfl⟩
    have hbc_ := bits_cut (man := m1) (c := c) rfl h1p_ (by omega)
    rw [← hg_] at hbc_ ⊢
    rw [← hr_]
    refine SW_region ?_
    refine os 2 ?_
    refine oV (.int .u64 ((2 ^ (c - 1) : Nat) : Int)) ?_ (hs := shlR (m := 1) (c := (last - e1) - 1) _ (by omega) (one_shlZ (c := c - 1) (by omega) (by omega)))
    refine os 1 ?_
    refine kp [11, 0, 1, 2, 7, 8, 9, 10] ?_
    refine nq ?_
    refine SW_seq ?_
    obtain ⟨md, hmd_⟩ : ∃ z : Nat, z = 2 ^ (c - 1) := ⟨_, rfl⟩
    rw [← hmd_]
    refine SW_cut3 (fun ρ_ σ_ => Fits ρ_ σ_ [(1, .int .i64 e1), (7, .int .i64 last), (9, .int .u64 (((if (r > 2 ^ (c - 1) ∨ (r = 2 ^ (c - 1) ∧ (h1 = true ∨ g % 2 = 1))) then g + 1 else g : Nat)) : Int))] ([])) ?_ ?_
    ·refine SW_region ?_
     refine os 4 ?_
     refine tbp 66 (fun hg8 => ?_) (fun hg8 => ?_)
     ·replace hg8 : (r : Int) > (md : Int) := hg8
      refine os 12 ?_
      refine kp [78, 11, 0, 1, 2, 7, 8, 9, 10] ?_
      refine nt ?_
      refine ct ?_
      refine SW_region ?_
      refine os 3 ?_
      refine nt ?_
      have hup_ : (r > 2 ^ (c - 1) ∨ (r = 2 ^ (c - 1) ∧ (h1 = true ∨ g % 2 = 1))) := (by rw [← hmd_]; first | (left; omega) | (right; refine ⟨by omega, .inl (by assumption)⟩) | (right; refine ⟨by omega, .inr (by omega)⟩))
      rw [if_pos hup_]
      rw [show ((g + 1 : Nat) : Int) = (g : Int) + 1 from by omega]
      exact ⟨fun _ => rfl, ow⟩
     replace hg8 : ¬ ((r : Int) > (md : Int)) := hg8
     refine os 4 ?_
     refine kp [70, 66, 11, 0, 1, 2, 7, 8, 9, 10] ?_
     refine tb 70 (fun hg9 => ?_) (fun hg9 => ?_)
     ·replace hg9 : ((r : Int) == (md : Int)) = true := hg9
      simp only [beq_iff_eq, bne_iff_ne, ne_eq, beq_eq_false_iff_ne, bne_eq_false_iff_eq, Classical.not_not] at hg9
      refine os 2 ?_
      refine tb 72 (fun hg10 => ?_) (fun hg10 => ?_)
      ·replace hg10 : h1 = true := hg10
       refine os 6 ?_
       refine kp [78, 11, 0, 1, 2, 7, 8, 9, 10] ?_
       refine nt ?_
       refine ct ?_
       refine SW_region ?_
       refine os 3 ?_
       refine nt ?_
       have hup_ : (r > 2 ^ (c - 1) ∨ (r = 2 ^ (c - 1) ∧ (h1 = true ∨ g % 2 = 1))) := (by rw [← hmd_]; first | (left; omega) | (right; refine ⟨by omega, .inl (by assumption)⟩) | (right; refine ⟨by omega, .inr (by omega)⟩))
       rw [if_pos hup_]
       rw [show ((g + 1 : Nat) : Int) = (g : Int) + 1 from by omega]
       exact ⟨fun _ => rfl, ow⟩
      replace hg10 : h1 = false := hg10
      refine os 1 ?_
      refine oX (.int .u64 (Int.tmod (g : Int) 2)) (.int .u64 ((g : Int) % 2)) (congrArg (Value.int .u64) (rem_nn (by first | omega | exact Int.natCast_nonneg _))) ?_
      refine os 4 ?_
      refine kp [78, 11, 0, 1, 2, 7, 8, 9, 10] ?_
      refine nt ?_
      refine cd (fun hc11 : (((g : Int) % 2) == 1) = true => ?_) (fun hc11 => ?_)
      ·simp only [beq_iff_eq, bne_iff_ne, ne_eq, beq_eq_false_iff_ne, bne_eq_false_iff_eq, Classical.not_not] at hc11
       refine SW_region ?_
       refine os 3 ?_
       refine nt ?_
       have hup_ : (r > 2 ^ (c - 1) ∨ (r = 2 ^ (c - 1) ∧ (h1 = true ∨ g % 2 = 1))) := (by rw [← hmd_]; first | (left; omega) | (right; refine ⟨by omega, .inl (by assumption)⟩) | (right; refine ⟨by omega, .inr (by omega)⟩))
       rw [if_pos hup_]
       rw [show ((g + 1 : Nat) : Int) = (g : Int) + 1 from by omega]
       exact ⟨fun _ => rfl, ow⟩
      simp only [beq_iff_eq, bne_iff_ne, ne_eq, beq_eq_false_iff_ne, bne_eq_false_iff_eq, Classical.not_not] at hc11
      refine SW_skip (n_then ?_)
      have hup_ : ¬ (r > 2 ^ (c - 1) ∨ (r = 2 ^ (c - 1) ∧ (h1 = true ∨ g % 2 = 1))) := (by rw [← hmd_]; rintro (q_ | ⟨q_, q2_ | q2_⟩) <;> first | omega | simp_all)
      rw [if_neg hup_]
      exact ⟨fun _ => rfl, ow⟩
     replace hg9 : ((r : Int) == (md : Int)) = false := hg9
     simp only [beq_iff_eq, bne_iff_ne, ne_eq, beq_eq_false_iff_ne, bne_eq_false_iff_eq, Classical.not_not] at hg9
     refine os 8 ?_
     refine kp [78, 11, 0, 1, 2, 7, 8, 9, 10] ?_
     refine nt ?_
     refine cf ?_
     refine SW_skip (n_then ?_)
     have hup_ : ¬ (r > 2 ^ (c - 1) ∨ (r = 2 ^ (c - 1) ∧ (h1 = true ∨ g % 2 = 1))) := (by rw [← hmd_]; rintro (q_ | ⟨q_, q2_ | q2_⟩) <;> first | omega | simp_all)
     rw [if_neg hup_]
     exact ⟨fun _ => rfl, ow⟩
    ·rintro ρ_ σ_ hfit
     refine SW_fits hfit ?_
     clear hfit
     refine SW_seq ?_
     obtain ⟨G, hG_⟩ : ∃ G, G = (if (r > 2 ^ (c - 1) ∨ (r = 2 ^ (c - 1) ∧ (h1 = true ∨ g % 2 = 1))) then g + 1 else g) := ⟨_, rfl⟩
     have hGb_ : G ≤ 9007199254740992 := by rw [hG_]; split <;> omega
     have hcut_ := near1_cut (man := m1) (c := c) (g := g) (r := r) (u := (last + 1074).toNat) (half := h1) (E := e1 - 1 + 1074) (last := last) (up := (r > 2 ^ (c - 1) ∨ (r = 2 ^ (c - 1) ∧ (h1 = true ∨ g % 2 = 1)))) hc0_ hg_ hr_ (by omega) (by omega) hbc_.1 (by rcases hlr_ with q_ | q_; (right; exact hbc_.2 (by omega)); (left; omega)) Iff.rfl
     rw [← hG_] at hcut_ ⊢
     have hre_ := isRN_uniq (Nat.two_pow_pos _) (hN_ h1p_) hcut_
     refine SW_region ?_
     refine os 1 ?_
     refine oV (.float .f64 (ldP G 0)) ?_ (hs := (fun δ w_ => run_i2f (n := G) Tryz.underlying29 Tryz.underlying30 rfl))
     refine os 1 ?_
     refine L (cl (f_LdexpM (m := G) (e := last) hGb_ (by omega)) ?_)
     rintro _ _ rfl
     refine un ?_
     have hof_ : ldP G last ≤ 9218868437227405312 := ldP_lt (by omega)
     refine L (cl (r1_Of (a := ldP G last) (by omega)) ?_)
     rintro _ _ rfl
     refine un ?_
     refine os 1 ?_
     refine kp [6, 1, 7, 9] ?_
     refine nt ?_
     refine SW_ret ?_
     refine body_end (.int .u64 (ofP (ldP G last) : Int)) (fun _ => rfl) ?_
     rw [hre_, show ofP (ldP G last) = ldP G last from by unfold ofP mag; rw [if_neg (by omega)]]
     exact ⟨(), ow, rfl⟩

end Go.Proofs.YtnhmmjogfkjceaaGreatDoor
namespace Go.Proofs.YtnhmmjogfkjceaaGreatDoor
open Go.Sl

theorem up2_step {x m n a0 : Nat} (h : x * 2 ^ m = a0 * 2 ^ n) (hm : 31 ≤ m) : x * 2147483648 * 2 ^ (m - 31) = a0 * 2 ^ n := by
 rw [← h, show m = 31 + (m - 31) by omega, Nat.pow_add, ← Nat.mul_assoc, show 31 + (m - 31) - 31 = m - 31 by omega]
theorem ten2_step {x m n a0 c k : Nat} (h : x * 10 ^ m = a0 * 10 ^ n) (hc : c = 10 ^ k) (hm : k ≤ m) : x * c * 10 ^ (m - k) = a0 * 10 ^ n := by
 rw [← h, show m = k + (m - k) by omega, Nat.pow_add, ← Nat.mul_assoc, ← hc, show k + (m - k) - k = m - k by omega]
theorem le_mul_pow2 (x m : Nat) : x ≤ x * 2 ^ m := Nat.le_mul_of_pos_right _ (Nat.two_pow_pos m)
theorem le_mul_pow10 (x m : Nat) : x ≤ x * 10 ^ m := Nat.le_mul_of_pos_right _ (Nat.pow_pos (by decide))
theorem one_shl32 {k : Nat} (h : k < 32) : IntKind.wrap .u32 ((1 : Int) * 2 ^ min (k : Int).toNat IntKind.u32.bits) = ((2 ^ k : Nat) : Int) := by
 rw [Int.toNat_natCast, show IntKind.u32.bits = 32 from rfl, Nat.min_eq_left (by omega), wrap_u32]
 have h1 : (1 : Int) * 2 ^ k = ((2 ^ k : Nat) : Int) := by simp
 have h2 : 2 ^ k ≤ 2 ^ 31 := Nat.pow_le_pow_right (by decide) (by omega)
 rw [h1]
 generalize 2 ^ k = z at *
 omega

theorem r2_up {W0 : World} {a : Gs} {a0 n : Nat} (hk : Gs.ok 1 (lim a0).length a ((lim a0).map encP)) (hb : (lim (a0 * 2 ^ n)).length ≤ 1048576) (hn : n ≤ 1048576) : SC Tryz.prog W0 174 #[a.val (lim a0).length, .int .i64 (n : Int)] (Gs.ent 87 1 a ((lim a0).map encP)) (Ret (fun g : Gs => Gs.ent 87 1 g ((lim (a0 * 2 ^ n)).map encP) ++ (Gs.ent 87 1 a ((lim a0).map encP))) (fun v g => v = g.val (lim (a0 * 2 ^ n)).length ∧ Gs.ok 1 (lim (a0 * 2 ^ n)).length g ((lim (a0 * 2 ^ n)).map encP))) := by
 refine SC_body (fn := Tryz.f174) (n := 15) Tryz.func174 rfl (by kernel_rfl) (ρ := [(0, Gs.val a ((lim a0).length)), (1, .int .i64 (n : Int))]) rfl ?_
 refine SW_sig ((Gs.ent 87 1 a ((lim a0).map encP)) ++ ([])) (by simp only [List.append_nil, List.append_assoc]) ?_
 refine sr ?_
 refine os 1 ?_
 refine nq ?_
 refine SW_block ?_
 refine SW_sig (Gs.ent 87 1 a ((lim a0).map encP) ++ ([] ++ [])) rfl ?_
 refine SW_loop (α := Nat × Gs × Heaplet × Nat) (fun z_ ρ_ σ_ => Fits ρ_ σ_ [(0, Gs.val z_.2.1 ((lim z_.1).length)), (1, .int .i64 (z_.2.2.2 : Int))] ((Gs.ent 87 1 z_.2.1 ((lim z_.1).map encP)) ++ (z_.2.2.1 ++ ([]))) ∧ Gs.ok 1 (lim z_.1).length z_.2.1 ((lim z_.1).map encP) ∧ z_.1 * 2 ^ z_.2.2.2 = a0 * 2 ^ n ∧ ((a = z_.2.1 ∧ [] = z_.2.2.1 ∧ a0 = z_.1) ∨ z_.2.2.1 = Gs.ent 87 1 a ((lim a0).map encP)) ∧ z_.2.2.2 ≤ n) (fun z_ => z_.2.2.2) (a0, a, [], n) ⟨⟨fun _ => rfl, ⟨[], List.Perm.of_eq (List.append_nil _).symm⟩⟩, hk, rfl, .inl ⟨rfl, rfl, rfl⟩, Nat.le_refl _⟩ ?_
 rintro ⟨x, g, R, m⟩ ρ_ σ_ ⟨hfit, hi0, hi1, hi2, hi3⟩
 refine SW_fits hfit ?_
 clear hfit
 simp only [] at hi0 hi1 hi2 hi3 ⊢
 refine SW_seq ?_
 refine sr ?_
 refine os 2 ?_
 refine nt ?_
 refine cdp (fun hc1 : (m : Int) ≥ 31 => ?_) (fun hc1 => ?_)
 ·refine SW_skip (n_then ?_)
  refine SW_block ?_
  refine sr ?_
  refine os 1 ?_
  have hq_ := r2_times (W0 := W0) (a0 := x) (n := 2147483648) (more := 0) hi0 (len_mono (by rw [← hi1]; exact le_mul_pow2 _ _) hb) (by decide) (by decide)
  rw [Nat.add_zero] at hq_
  refine L (cl (hq_) ?_)
  rintro _ u2 ⟨rfl, hku2⟩
  refine un ?_
  refine os 1 ?_
  refine kp [0, 6, 1] ?_
  refine nr ?_
  refine os 3 ?_
  refine SL_nil (n_in (n_then ?_))
  rw [show (m : Int) - 31 = ((m - 31 : Nat) : Int) from by omega]
  rcases hi2 with ⟨q1_, q2_, q3_⟩ | q2_
  · subst q1_ q2_ q3_
    exact ⟨(a0 * 2147483648, u2, Gs.ent 87 1 a ((lim a0).map encP), m - 31), by simp only []; omega, ⟨fun _ => rfl, ow⟩, hku2, up2_step hi1 (by omega), .inr rfl, by simp only []; omega⟩
  · subst q2_
    exact ⟨(x * 2147483648, u2, Gs.ent 87 1 a ((lim a0).map encP), m - 31), by simp only []; omega, ⟨fun _ => rfl, ow⟩, hku2, up2_step hi1 (by omega), .inr rfl, by simp only []; omega⟩
 refine SW_exit (x_then (x_then (x_in (n_then ?_))))
 refine sr ?_
 refine os 2 ?_
 refine oV (.int .u32 ((2 ^ m : Nat) : Int)) ?_ (hs := shlR (k := .u32) (m := 1) (c := (m : Int)) _ (by omega) (one_shl32 (k := m) (by omega)))
 have hq_ := r2_times (W0 := W0) (a0 := x) (n := 2 ^ m) (more := 0) hi0 (len_mono (by rw [← hi1]; exact le_mul_pow2 _ _) hb) (Nat.pow_lt_pow_right (by decide) (show m < 32 by omega)) (by decide)
 rw [Nat.add_zero, hi1] at hq_
 refine L (cl (hq_) ?_)
 rintro _ u3 ⟨rfl, hku3⟩
 refine un ?_
 refine os 1 ?_
 refine kp [4, 6, 0, 1] ?_
 refine nt ?_
 refine SW_ret ?_
 refine body_end (Gs.val u3 ((lim (a0 * 2 ^ n)).length)) (fun _ => rfl) ?_
 rcases hi2 with ⟨q1_, q2_, q3_⟩ | q2_
 · subst q1_ q2_ q3_
   exact ⟨u3, ow, rfl, hku3⟩
 · subst q2_
   exact ⟨u3, ow, rfl, hku3⟩

theorem r2_tens {W0 : World} {a : Gs} {a0 n : Nat} (hk : Gs.ok 1 (lim a0).length a ((lim a0).map encP)) (hb : (lim (a0 * 10 ^ n)).length ≤ 1048576) (hn : n ≤ 1048576) : SC Tryz.prog W0 144 #[a.val (lim a0).length, .int .i64 (n : Int)] (Gs.ent 87 1 a ((lim a0).map encP)) (Ret (fun g : Gs => Gs.ent 87 1 g ((lim (a0 * 10 ^ n)).map encP)) (fun v g => v = g.val (lim (a0 * 10 ^ n)).length ∧ Gs.ok 1 (lim (a0 * 10 ^ n)).length g ((lim (a0 * 10 ^ n)).map encP))) := by
 refine SC_body (fn := Tryz.f144) (n := 18) Tryz.func144 rfl (by kernel_rfl) (ρ := [(0, Gs.val a ((lim a0).length)), (1, .int .i64 (n : Int))]) rfl ?_
 refine SW_sig ((Gs.ent 87 1 a ((lim a0).map encP)) ++ ([])) (by simp only [List.append_nil, List.append_assoc]) ?_
 refine sr ?_
 refine os 1 ?_
 refine nq ?_
 refine SW_block ?_
 refine SW_loop (α := Nat × Gs × Nat) (fun z_ ρ_ σ_ => Fits ρ_ σ_ [(0, Gs.val z_.2.1 ((lim z_.1).length)), (1, .int .i64 (z_.2.2 : Int))] ((Gs.ent 87 1 z_.2.1 ((lim z_.1).map encP)) ++ ([])) ∧ Gs.ok 1 (lim z_.1).length z_.2.1 ((lim z_.1).map encP) ∧ z_.1 * 10 ^ z_.2.2 = a0 * 10 ^ n ∧ z_.2.2 ≤ n) (fun z_ => z_.2.2) (a0, a, n) ⟨⟨fun _ => rfl, ow⟩, hk, rfl, Nat.le_refl _⟩ ?_
 rintro ⟨x, g, m⟩ ρ_ σ_ ⟨hfit, hi0, hi1, hi2⟩
 refine SW_fits hfit ?_
 clear hfit
 simp only [] at hi0 hi1 hi2 ⊢
 refine SW_seq ?_
 refine sr ?_
 refine os 2 ?_
 refine nt ?_
 refine cdp (fun hc1 : (m : Int) ≥ 9 => ?_) (fun hc1 => ?_)
 ·refine SW_skip (n_then ?_)
  refine SW_block ?_
  refine sr ?_
  refine os 1 ?_
  have hq_ := r2_times (W0 := W0) (a0 := x) (n := 1000000000) (more := 0) hi0 (len_mono (by rw [← hi1]; exact le_mul_pow10 _ _) hb) (by decide) (by decide)
  rw [Nat.add_zero] at hq_
  refine L (cl (hq_) ?_)
  rintro _ u2 ⟨rfl, hku2⟩
  refine un ?_
  refine os 1 ?_
  refine kp [0, 6, 1] ?_
  refine nr ?_
  refine os 3 ?_
  refine SL_nil (n_in (n_then ?_))
  rw [show (m : Int) - 9 = ((m - 9 : Nat) : Int) from by omega]
  exact ⟨(x * 1000000000, u2, m - 9), by simp only []; omega, ⟨fun _ => rfl, ow⟩, hku2, ten2_step (k := 9) hi1 rfl (by omega), by simp only []; omega⟩
 refine SW_exit (x_then (x_then (x_in (n_then ?_))))
 refine SW_seq ?_
 refine SW_block ?_
 refine SW_loop (α := Nat × Gs × Nat) (fun z_ ρ_ σ_ => Fits ρ_ σ_ [(0, Gs.val z_.2.1 ((lim z_.1).length)), (1, .int .i64 (z_.2.2 : Int))] ((Gs.ent 87 1 z_.2.1 ((lim z_.1).map encP)) ++ ([])) ∧ Gs.ok 1 (lim z_.1).length z_.2.1 ((lim z_.1).map encP) ∧ z_.1 * 10 ^ z_.2.2 = a0 * 10 ^ n ∧ z_.2.2 ≤ n) (fun z_ => z_.2.2) (x, g, m) ⟨⟨fun _ => rfl, ow⟩, hi0, hi1, hi2⟩ ?_
 rintro ⟨x, g, m⟩ ρ_ σ_ ⟨hfit, hi0, hi1, hi2⟩
 refine SW_fits hfit ?_
 clear hfit
 simp only [] at hi0 hi1 hi2 ⊢
 refine SW_seq ?_
 refine sr ?_
 refine os 2 ?_
 refine nt ?_
 refine cdp (fun hc3 : (m : Int) > 0 => ?_) (fun hc3 => ?_)
 ·refine SW_skip (n_then ?_)
  refine SW_block ?_
  refine sr ?_
  refine os 1 ?_
  have hq_ := r2_times (W0 := W0) (a0 := x) (n := 10) (more := 0) hi0 (len_mono (by rw [← hi1]; exact le_mul_pow10 _ _) hb) (by decide) (by decide)
  rw [Nat.add_zero] at hq_
  refine L (cl (hq_) ?_)
  rintro _ u4 ⟨rfl, hku4⟩
  refine un ?_
  refine os 1 ?_
  refine kp [0, 12, 1] ?_
  refine nr ?_
  refine os 3 ?_
  refine SL_nil (n_in (n_then ?_))
  rw [show (m : Int) - 1 = ((m - 1 : Nat) : Int) from by omega]
  exact ⟨(x * 10, u4, m - 1), by simp only []; omega, ⟨fun _ => rfl, ow⟩, hku4, ten2_step (k := 1) hi1 rfl (by omega), by simp only []; omega⟩
 refine SW_exit (x_then (x_then (x_in (n_then ?_))))
 refine sr ?_
 refine os 2 ?_
 refine nt ?_
 refine SW_ret ?_
 refine body_end (Gs.val g ((lim x).length)) (fun _ => rfl) ?_
 obtain rfl : m = 0 := by omega
 rw [Nat.pow_zero, Nat.mul_one] at hi1
 subst hi1
 exact ⟨g, ow, rfl, hi0⟩

theorem r2_order {W0 : World} {a b : Gs} {a0 b0 : Nat} (hka : Gs.ok 1 (lim a0).length a ((lim a0).map encP)) (hkb : Gs.ok 1 (lim b0).length b ((lim b0).map encP)) (hsa : (lim a0).length ≤ 1048576) : SC Tryz.prog W0 173 #[a.val (lim a0).length, b.val (lim b0).length] (Gs.ent 87 1 a ((lim a0).map encP) ++ Gs.ent 87 1 b ((lim b0).map encP)) (Ret (fun _ : Unit => Gs.ent 87 1 a ((lim a0).map encP) ++ Gs.ent 87 1 b ((lim b0).map encP)) (fun v _ => v = .int .i64 (cmpN a0 b0))) := by
 refine SC_body (fn := Tryz.f173) (n := 41) Tryz.func173 rfl (by kernel_rfl) (ρ := [(0, Gs.val a ((lim a0).length)), (1, Gs.val b ((lim b0).length))]) rfl ?_
 refine SW_sig ((Gs.ent 87 1 a ((lim a0).map encP)) ++ ((Gs.ent 87 1 b ((lim b0).map encP)) ++ ([]))) (by simp only [List.append_nil, List.append_assoc]) ?_
 refine sr ?_
 refine os 1 ?_
 refine nq ?_
 refine sr ?_
 refine os 5 ?_
 refine kp [10, 4, 0, 1] ?_
 refine nt ?_
 refine cdp (fun hc1 : ((((lim a0).length : Nat)) : Int) < ((((lim b0).length : Nat)) : Int) => ?_) (fun hc1 => ?_)
 ·refine sr ?_
  refine os 1 ?_
  refine nt ?_
  refine SW_ret (r_then ?_)
  refine body_end (.int .i64 (-1)) (fun _ => rfl) ?_
  exact ⟨(), ow, by rw [cmp_lt (order_len (by omega))]⟩
 refine SW_skip (n_then ?_)
 refine SW_seq ?_
 refine sr ?_
 refine os 5 ?_
 refine kp [15, 10, 4, 0, 1] ?_
 refine nt ?_
 refine cdp (fun hc2 : ((((lim a0).length : Nat)) : Int) > ((((lim b0).length : Nat)) : Int) => ?_) (fun hc2 => ?_)
 ·refine sr ?_
  refine os 1 ?_
  refine nt ?_
  refine SW_ret (r_then ?_)
  refine body_end (.int .i64 1) (fun _ => rfl) ?_
  exact ⟨(), ow, by rw [cmp_gt (order_len (by omega))]⟩
 refine SW_skip (n_then ?_)
 refine SW_seq ?_
 refine sr ?_
 refine os 4 ?_
 refine kp [5, 15, 10, 4, 0, 1] ?_
 refine nt ?_
 refine SW_block ?_
 have hle_ : (lim a0).length = (lim b0).length := by omega
 refine SW_loop (α := Nat) (fun z_ ρ_ σ_ => Fits ρ_ σ_ [(0, Gs.val a ((lim a0).length)), (1, Gs.val b ((lim b0).length)), (5, .int .i64 ((z_ : Int) - 1))] ((Gs.ent 87 1 a ((lim a0).map encP)) ++ ((Gs.ent 87 1 b ((lim b0).map encP)) ++ ([]))) ∧ z_ ≤ (lim a0).length ∧ (lim a0).drop z_ = (lim b0).drop z_) (fun z_ => z_) ((lim a0).length) ⟨⟨fun _ => rfl, ow⟩, Nat.le_refl _, by rw [List.drop_length, hle_, List.drop_length]⟩ ?_
 rintro j ρ_ σ_ ⟨hfit, hi0, hi1⟩
 refine SW_fits hfit ?_
 clear hfit
 refine SW_seq ?_
 refine sr ?_
 refine os 2 ?_
 refine nt ?_
 refine cdp (fun hc3 : ((j : Int) - 1) ≥ 0 => ?_) (fun hc3 => ?_)
 ·refine SW_skip (n_then ?_)
  refine SW_seq ?_
  refine SW_block ?_
  refine SW_seq ?_
  refine SW_seq ?_
  obtain ⟨e1, he1⟩ : ∃ y_, (lim a0)[j - 1]? = some y_ := ⟨_, List.getElem?_eq_getElem (by omega)⟩
  obtain ⟨e2, he2⟩ : ∃ y_, (lim b0)[j - 1]? = some y_ := ⟨_, List.getElem?_eq_getElem (by omega)⟩
  refine SW_draw [((Gs.blk a), j - 1, .int .u32 e1), ((Gs.blk b), j - 1, .int .u32 e2)] [0, 1, 2, 3, 4, 5, 6, 7] (by kernel_rfl) (rd_cons (Gs.cell hka (fun e he => (mem_h he)) (map_cell he1 rfl)) (rd_cons (Gs.cell hkb (fun e he => (mem_a (mem_h he))) (map_cell he2 rfl)) rd_nil)) ?_
  refine aS 0 ?_
  refine aS 1 ?_
  refine aI 2 ((j : Int) - 1) (j - 1) hka Tryz.underlying149 ?_
  refine aL 3 ?_
  refine aS 4 ?_
  refine aS 5 ?_
  refine aI 6 ((j : Int) - 1) (j - 1) hkb Tryz.underlying149 ?_
  refine aL 7 ?_
  refine aS 8 ?_
  refine kpA [31, 20, 0, 1, 5] ?_
  refine SA_done (by kernel_rfl) (n_then ?_)
  refine cdp (fun hc4 : e1 < e2 => ?_) (fun hc4 => ?_)
  ·refine sr ?_
   refine os 1 ?_
   refine nt ?_
   refine SW_ret (r_then (r_in (r_then (r_then (r_in (r_then ?_))))))
   refine body_end (.int .i64 (-1)) (fun _ => rfl) ?_
   exact ⟨(), ow, by rw [cmp_lt (order_top hle_ (by omega) hi1 he1 he2 (by omega))]⟩
  refine SW_skip (n_then ?_)
  refine SW_seq ?_
  refine SW_draw [((Gs.blk a), j - 1, .int .u32 e1), ((Gs.blk b), j - 1, .int .u32 e2)] [0, 1, 2, 3, 4, 5, 6, 7] (by kernel_rfl) (rd_cons (Gs.cell hka (fun e he => (mem_h he)) (map_cell he1 rfl)) (rd_cons (Gs.cell hkb (fun e he => (mem_a (mem_h he))) (map_cell he2 rfl)) rd_nil)) ?_
  refine aS 0 ?_
  refine aS 1 ?_
  refine aI 2 ((j : Int) - 1) (j - 1) hka Tryz.underlying149 ?_
  refine aL 3 ?_
  refine aS 4 ?_
  refine aS 5 ?_
  refine aI 6 ((j : Int) - 1) (j - 1) hkb Tryz.underlying149 ?_
  refine aL 7 ?_
  refine aS 8 ?_
  refine kpA [40, 31, 20, 0, 1, 5] ?_
  refine SA_done (by kernel_rfl) (n_then ?_)
  refine cdp (fun hc5 : e1 > e2 => ?_) (fun hc5 => ?_)
  ·refine sr ?_
   refine os 1 ?_
   refine nt ?_
   refine SW_ret (r_in (r_then (r_then (r_in (r_then ?_)))))
   refine body_end (.int .i64 1) (fun _ => rfl) ?_
   exact ⟨(), ow, by rw [cmp_gt (order_top hle_.symm (by omega) hi1.symm he2 he1 (by omega))]⟩
  refine SW_skip (n_in (n_then ?_))
  refine SW_region ?_
  refine os 3 ?_
  refine nt ?_
  rw [show (j : Int) - 1 - 1 = ((j - 1 : Nat) : Int) - 1 from by omega]
  exact ⟨j - 1, by omega, ⟨fun _ => rfl, ow⟩, by omega, order_next (by omega) he1 he2 (by omega) hi1⟩
 refine SW_exit (x_then (x_then (x_in (n_then ?_))))
 refine sr ?_
 refine os 1 ?_
 refine nt ?_
 refine SW_ret ?_
 refine body_end (.int .i64 0) (fun _ => rfl) ?_
 exact ⟨(), ow, by rw [cmp_eq (by rw [show j = 0 from by omega] at hi1; exact order_same hi1)]⟩

end Go.Proofs.YtnhmmjogfkjceaaGreatDoor
namespace Go.Proofs.YtnhmmjogfkjceaaGreatDoor
open Go.Sl

theorem r2_by {W0 : World} {a : Gs} {a0 n : Nat} (hk : Gs.ok 1 (lim a0).length a ((lim a0).map encP)) (hs : (lim a0).length ≤ 1048576) (hn : n < 18446744073709551616) : SC Tryz.prog W0 175 #[a.val (lim a0).length, .int .u64 (n : Int)] (Gs.ent 87 1 a ((lim a0).map encP)) (Ret (fun g : Gs => Gs.ent 87 1 g ((lim (a0 * n)).map encP) ++ (Gs.ent 87 1 a ((lim a0).map encP))) (fun v g => v = g.val (lim (a0 * n)).length ∧ Gs.ok 1 (lim (a0 * n)).length g ((lim (a0 * n)).map encP))) := by
 refine SC_body (fn := Tryz.f175) (n := 68) Tryz.func175 rfl (by kernel_rfl) (ρ := [(0, Gs.val a ((lim a0).length)), (1, .int .u64 (n : Int))]) rfl ?_
 refine SW_sig ((Gs.ent 87 1 a ((lim a0).map encP)) ++ ([])) (by simp only [List.append_nil, List.append_assoc]) ?_
 refine sr ?_
 refine os 1 ?_
 refine nsr ?_
 refine os 2 ?_
 refine oX (.int .u64 (Int.tmod (n : Int) 4294967296)) (.int .u64 ((n : Int) % 4294967296)) (congrArg (Value.int .u64) (rem_nn (by first | omega | exact Int.natCast_nonneg _))) ?_
 refine os 1 ?_
 have hqlo_ := r2_times (W0 := W0) (a0 := a0) (n := n % 4294967296) (more := 0) hk hs (by omega) (by decide)
 rw [Nat.add_zero, show ((n % 4294967296 : Nat) : Int) = (n : Int) % 4294967296 from by omega] at hqlo_
 have hllo_ := by_low (a0 := a0) (n := n % 4294967296) rfl (by omega)
 refine L (cl (hqlo_) ?_)
 rintro _ lo ⟨rfl, hklo⟩
 refine un ?_
 refine os 1 ?_
 refine kp [5, 4, 0, 1] ?_
 refine nsr ?_
 refine os 2 ?_
 refine oX (.int .u64 (IntKind.wrap .u64 (Int.tdiv (n : Int) 4294967296))) (.int .u64 ((n : Int) / 4294967296)) (congrArg (Value.int .u64) (quo_u64 (by omega) (by omega) (by decide))) ?_
 refine os 1 ?_
 have hqhi_ := r2_times (W0 := W0) (a0 := a0) (n := n / 4294967296) (more := 0) hk hs (by omega) (by decide)
 rw [Nat.add_zero, show ((n / 4294967296 : Nat) : Int) = (n : Int) / 4294967296 from by omega] at hqhi_
 have hlhi_ := by_low (a0 := a0) (n := n / 4294967296) rfl (by omega)
 refine L (cl (hqhi_) ?_)
 rintro _ hi ⟨rfl, hkhi⟩
 refine un ?_
 refine os 1 ?_
 refine kp [6, 5, 4, 0, 1] ?_
 refine nsr ?_
 refine os 3 ?_
 refine L (O_make1 (bytes := 4) ((lim a0).length + 3) (.int .u32 0) (fun _ => rfl) (fun _ => rfl) Tryz.underlying149 (by kernel_rfl) rfl (by omega) (by omega) rfl ?_)
 intro b1 hlb1 hnb1
 have hmkb1 : Gs.ok 1 ((lim a0).length + 3) (Gs.at b1 ((lim a0).length + 3)) ((List.replicate ((lim a0).length + 3) 0).map encP) := Gs.ok_make (by simp) (by unfold maxLen; omega)
 refine SL_sig ((Gs.ent 87 1 (Gs.at b1 ((lim a0).length + 3)) ((List.replicate ((lim a0).length + 3) 0).map encP)) ++ ((Gs.ent 87 1 hi ((lim (a0 * (n / 4294967296))).map encP)) ++ ((Gs.ent 87 1 a ((lim a0).map encP)) ++ ((Gs.ent 87 1 lo ((lim (a0 * (n % 4294967296))).map encP)) ++ ([]))))) (by rw [show ((List.replicate ((lim a0).length + 3) 0).map encP) = List.replicate ((lim a0).length + 3) (.int .u32 0) from by simp]) ?_
 refine os 1 ?_
 refine kp [7, 6, 5, 4, 0, 1] ?_
 refine nsr ?_
 refine os 1 ?_
 refine nq ?_
 refine sr ?_
 refine os 1 ?_
 refine nt ?_
 refine SW_block ?_
 have hkr0_ := hmkb1
 rw [show (List.replicate ((lim a0).length + 3) 0 : List Int) = [] ++ List.replicate ((lim a0).length + 3 - 0) 0 from rfl]
 refine SW_loop (α := Nat × List Int × Int) (fun z_ ρ_ σ_ => Fits ρ_ σ_ [(0, Gs.val a ((lim a0).length)), (5, Gs.val lo ((lim (a0 * (n % 4294967296))).length)), (6, Gs.val hi ((lim (a0 * (n / 4294967296))).length)), (7, Gs.val (Gs.at b1 ((lim a0).length + 3)) ((lim a0).length + 3)), (8, .int .u64 z_.2.2), (9, .int .i64 (z_.1 : Int))] ((Gs.ent 87 1 (Gs.at b1 ((lim a0).length + 3)) ((z_.2.1 ++ List.replicate ((lim a0).length + 3 - z_.1) 0).map encP)) ++ ((Gs.ent 87 1 hi ((lim (a0 * (n / 4294967296))).map encP)) ++ ((Gs.ent 87 1 a ((lim a0).map encP)) ++ ((Gs.ent 87 1 lo ((lim (a0 * (n % 4294967296))).map encP)) ++ ([]))))) ∧ z_.1 ≤ (lim a0).length + 3 ∧ (z_.2.1.length = z_.1 ∧ LimOk z_.2.1 ∧ (0 ≤ z_.2.2 ∧ z_.2.2 ≤ 2)) ∧ limV z_.2.1 + 4294967296 ^ z_.1 * z_.2.2.toNat = limV ((lim (a0 * (n % 4294967296))).take z_.1) + 4294967296 * limV ((lim (a0 * (n / 4294967296))).take (z_.1 - 1))) (fun z_ => (lim a0).length + 3 - z_.1) (0, [], 0) ⟨⟨fun _ => rfl, ow⟩, Nat.zero_le _, ⟨rfl, (fun x hx => by cases hx), (show 0 ≤ (0 : Int) ∧ (0 : Int) ≤ 2 from by omega)⟩, by simp [limV]⟩ ?_
 rintro ⟨i, ys, c⟩ ρ_ σ_ ⟨hfit, hi0, hi1, hi2⟩
 refine SW_fits hfit ?_
 clear hfit
 simp only [] at hi0 hi1 hi2 ⊢
 obtain ⟨hyl, hyo, hc⟩ := hi1
 have hrl_ : (ys ++ List.replicate ((lim a0).length + 3 - i) 0).length = (lim a0).length + 3 := by simp; omega
 have hkr_ : Gs.ok 1 ((lim a0).length + 3) (Gs.at b1 ((lim a0).length + 3)) ((ys ++ List.replicate ((lim a0).length + 3 - i) 0).map encP) := Gs.ok.relen hkr0_ (by simp; omega)
 refine SW_seq ?_
 refine sr ?_
 refine os 4 ?_
 refine kp [27, 0, 5, 6, 7, 8, 9] ?_
 refine nt ?_
 refine cdp (fun hc2 : (i : Int) < (((((lim a0).length + 3) : Nat)) : Int) => ?_) (fun hc2 => ?_)
 ·refine SW_skip (n_then ?_)
  refine SW_seq ?_
  refine SW_block ?_
  refine SW_seq ?_
  refine sr ?_
  refine os 4 ?_
  refine kp [33, 27, 0, 5, 6, 7, 8, 9] ?_
  refine nt ?_
  refine cdp (fun hc3 : (i : Int) < ((((lim (a0 * (n % 4294967296))).length : Nat)) : Int) => ?_) (fun hc3 => ?_)
  ·obtain ⟨e1, he1⟩ : ∃ y_, (lim (a0 * (n % 4294967296)))[i]? = some y_ := ⟨_, List.getElem?_eq_getElem (by omega)⟩
   have hxo_ := lim_ok (a0 * (n % 4294967296)) _ (List.mem_of_getElem? he1)
   refine SW_region ?_
   refine os 3 ?_
   refine L (ixg (i : Int) (i) hklo Tryz.underlying149 ?_)
   refine L (ld ?_ (hc := Gs.cell hklo (fun e he => (mem_a (mem_a (mem_a (mem_h he))))) (map_cell he1 rfl)))
   refine os 3 ?_
   refine kp [8, 33, 27, 0, 5, 6, 7, 9] ?_
   refine nq ?_
   refine sr ?_
   refine os 3 ?_
   refine tbp 43 (fun hg4 => ?_) (fun hg4 => ?_)
   ·replace hg4 : (i : Int) > 0 := hg4
    refine os 6 ?_
    refine kp [49, 8, 33, 27, 0, 5, 6, 7, 9] ?_
    refine nt ?_
    refine cdp (fun hc5 : ((i : Int) - 1) < ((((lim (a0 * (n / 4294967296))).length : Nat)) : Int) => ?_) (fun hc5 => ?_)
    ·obtain ⟨e2, he2⟩ : ∃ y_, (lim (a0 * (n / 4294967296)))[i - 1]? = some y_ := ⟨_, List.getElem?_eq_getElem (by omega)⟩
     have hyo2_ := lim_ok (a0 * (n / 4294967296)) _ (List.mem_of_getElem? he2)
     refine SW_region ?_
     refine os 4 ?_
     refine L (ixg ((i : Int) - 1) (i - 1) hkhi Tryz.underlying149 ?_)
     refine L (ld ?_ (hc := Gs.cell hkhi (fun e he => (mem_a (mem_h he))) (map_cell he2 rfl)))
     refine os 3 ?_
     refine kp [8, 49, 33, 27, 0, 5, 6, 7, 9] ?_
     refine nsr ?_
     refine os 3 ?_
     refine oX (.int .u64 (Int.tmod ((c + e1) + e2) 4294967296)) (.int .u64 (((c + e1) + e2) % 4294967296)) (congrArg (Value.int .u64) (rem_nn (by first | omega | exact Int.natCast_nonneg _))) ?_
     refine os 1 ?_
     refine L (ixg (i : Int) (i) hkr_ Tryz.underlying149 ?_)
     obtain ⟨e3, he3⟩ : ∃ y_, (ys ++ List.replicate ((lim a0).length + 3 - i) 0)[i]? = some y_ := ⟨_, List.getElem?_eq_getElem (by omega)⟩
     have hok1 := Gs.ok.relen (ys := (((ys ++ List.replicate ((lim a0).length + 3 - i) 0).set i (((c + e1) + e2) % 4294967296)).map encP)) hkr_ (by simp)
     refine L (O_storeG (ys := (((ys ++ List.replicate ((lim a0).length + 3 - i) 0).set i (((c + e1) + e2) % 4294967296)).map encP)) (Gs.at b1 ((lim a0).length + 3)) (i) (.int .u32 (((c + e1) + e2) % 4294967296)) [.int .u32 (((c + e1) + e2) % 4294967296)] (Gs.ok.ne hkr_ (by first | omega | (simp; omega))) (fun _ => rfl) (fun _ => rfl) rfl (by kernel_rfl) rfl (by simp; omega) (row_lay_map (((c + e1) + e2) % 4294967296) (by omega)) rfl ?_)
     refine nr ?_
     refine os 1 ?_
     refine oX (.int .u64 (IntKind.wrap .u64 (Int.tdiv ((c + e1) + e2) 4294967296))) (.int .u64 (((c + e1) + e2) / 4294967296)) (congrArg (Value.int .u64) (quo_u64 (by omega) (by omega) (by decide))) ?_
     refine os 1 ?_
     refine kp [8, 49, 33, 27, 0, 5, 6, 7, 9] ?_
     refine SL_nil (n_in (n_then ?_))
     refine SW_region ?_
     refine os 3 ?_
     refine nt ?_
     obtain ⟨q1_, q2_, q3_, q4_⟩ := by_body (x := e1) (y := e2) (t := (c + e1) + e2) hyl hyo (by rw [he1]; rfl) (by rw [if_pos (by omega), he2]; rfl) (hxo_) (hyo2_) hc (by omega) hi2
     have hst_ := set_rep (v := ((c + e1) + e2) % 4294967296) (m := (lim a0).length + 3 - i) (m' := (lim a0).length + 3 - (i + 1)) hyl (by omega)
     refine ⟨(i + 1, ys ++ [((c + e1) + e2) % 4294967296], ((c + e1) + e2) / 4294967296), by simp only []; omega, ?_⟩
     simp only []
     refine ⟨⟨fun _ => rfl, ?_⟩, by omega, ⟨q1_, q2_, q3_⟩, q4_⟩
     rw [← hst_]
     exact ow
    refine SW_skip (n_then ?_)
    refine sr ?_
    refine os 3 ?_
    refine oX (.int .u64 (Int.tmod (c + e1) 4294967296)) (.int .u64 ((c + e1) % 4294967296)) (congrArg (Value.int .u64) (rem_nn (by first | omega | exact Int.natCast_nonneg _))) ?_
    refine os 1 ?_
    refine L (ixg (i : Int) (i) hkr_ Tryz.underlying149 ?_)
    obtain ⟨e4, he4⟩ : ∃ y_, (ys ++ List.replicate ((lim a0).length + 3 - i) 0)[i]? = some y_ := ⟨_, List.getElem?_eq_getElem (by omega)⟩
    have hok2 := Gs.ok.relen (ys := (((ys ++ List.replicate ((lim a0).length + 3 - i) 0).set i ((c + e1) % 4294967296)).map encP)) hkr_ (by simp)
    refine L (O_storeG (ys := (((ys ++ List.replicate ((lim a0).length + 3 - i) 0).set i ((c + e1) % 4294967296)).map encP)) (Gs.at b1 ((lim a0).length + 3)) (i) (.int .u32 ((c + e1) % 4294967296)) [.int .u32 ((c + e1) % 4294967296)] (Gs.ok.ne hkr_ (by first | omega | (simp; omega))) (fun _ => rfl) (fun _ => rfl) rfl (by kernel_rfl) rfl (by simp; omega) (row_lay_map ((c + e1) % 4294967296) (by omega)) rfl ?_)
    refine nr ?_
    refine os 1 ?_
    refine oX (.int .u64 (IntKind.wrap .u64 (Int.tdiv (c + e1) 4294967296))) (.int .u64 ((c + e1) / 4294967296)) (congrArg (Value.int .u64) (quo_u64 (by omega) (by omega) (by decide))) ?_
    refine os 1 ?_
    refine kp [8, 49, 33, 27, 0, 5, 6, 7, 9] ?_
    refine SL_nil (n_in (n_then ?_))
    refine SW_region ?_
    refine os 3 ?_
    refine nt ?_
    obtain ⟨q1_, q2_, q3_, q4_⟩ := by_body (x := e1) (y := 0) (t := c + e1) hyl hyo (by rw [he1]; rfl) ((by first | rw [if_neg (by omega)] | rw [if_pos (by omega), List.getElem?_eq_none (by omega)]; rfl)) (hxo_) (by omega) hc (by omega) hi2
    have hst_ := set_rep (v := (c + e1) % 4294967296) (m := (lim a0).length + 3 - i) (m' := (lim a0).length + 3 - (i + 1)) hyl (by omega)
    refine ⟨(i + 1, ys ++ [(c + e1) % 4294967296], (c + e1) / 4294967296), by simp only []; omega, ?_⟩
    simp only []
    refine ⟨⟨fun _ => rfl, ?_⟩, by omega, ⟨q1_, q2_, q3_⟩, q4_⟩
    rw [← hst_]
    exact ow
   replace hg4 : ¬ ((i : Int) > 0) := hg4
   refine os 6 ?_
   refine kp [49, 8, 33, 27, 0, 5, 6, 7, 9] ?_
   refine nt ?_
   refine cf ?_
   refine SW_skip (n_then ?_)
   refine sr ?_
   refine os 3 ?_
   refine oX (.int .u64 (Int.tmod (c + e1) 4294967296)) (.int .u64 ((c + e1) % 4294967296)) (congrArg (Value.int .u64) (rem_nn (by first | omega | exact Int.natCast_nonneg _))) ?_
   refine os 1 ?_
   refine L (ixg (i : Int) (i) hkr_ Tryz.underlying149 ?_)
   obtain ⟨e5, he5⟩ : ∃ y_, (ys ++ List.replicate ((lim a0).length + 3 - i) 0)[i]? = some y_ := ⟨_, List.getElem?_eq_getElem (by omega)⟩
   have hok3 := Gs.ok.relen (ys := (((ys ++ List.replicate ((lim a0).length + 3 - i) 0).set i ((c + e1) % 4294967296)).map encP)) hkr_ (by simp)
   refine L (O_storeG (ys := (((ys ++ List.replicate ((lim a0).length + 3 - i) 0).set i ((c + e1) % 4294967296)).map encP)) (Gs.at b1 ((lim a0).length + 3)) (i) (.int .u32 ((c + e1) % 4294967296)) [.int .u32 ((c + e1) % 4294967296)] (Gs.ok.ne hkr_ (by first | omega | (simp; omega))) (fun _ => rfl) (fun _ => rfl) rfl (by kernel_rfl) rfl (by simp; omega) (row_lay_map ((c + e1) % 4294967296) (by omega)) rfl ?_)
   refine nr ?_
   refine os 1 ?_
   refine oX (.int .u64 (IntKind.wrap .u64 (Int.tdiv (c + e1) 4294967296))) (.int .u64 ((c + e1) / 4294967296)) (congrArg (Value.int .u64) (quo_u64 (by omega) (by omega) (by decide))) ?_
   refine os 1 ?_
   refine kp [8, 49, 33, 27, 0, 5, 6, 7, 9] ?_
   refine SL_nil (n_in (n_then ?_))
   refine SW_region ?_
   refine os 3 ?_
   refine nt ?_
   obtain ⟨q1_, q2_, q3_, q4_⟩ := by_body (x := e1) (y := 0) (t := c + e1) hyl hyo (by rw [he1]; rfl) ((by first | rw [if_neg (by omega)] | rw [if_pos (by omega), List.getElem?_eq_none (by omega)]; rfl)) (hxo_) (by omega) hc (by omega) hi2
   have hst_ := set_rep (v := (c + e1) % 4294967296) (m := (lim a0).length + 3 - i) (m' := (lim a0).length + 3 - (i + 1)) hyl (by omega)
   refine ⟨(i + 1, ys ++ [(c + e1) % 4294967296], (c + e1) / 4294967296), by simp only []; omega, ?_⟩
   simp only []
   refine ⟨⟨fun _ => rfl, ?_⟩, by omega, ⟨q1_, q2_, q3_⟩, q4_⟩
   rw [← hst_]
   exact ow
  refine SW_skip (n_then ?_)
  refine SW_seq ?_
  refine sr ?_
  refine os 3 ?_
  refine tbp 43 (fun hg6 => ?_) (fun hg6 => ?_)
  ·replace hg6 : (i : Int) > 0 := hg6
   refine os 6 ?_
   refine kp [49, 33, 27, 0, 5, 6, 7, 8, 9] ?_
   refine nt ?_
   refine cdp (fun hc7 : ((i : Int) - 1) < ((((lim (a0 * (n / 4294967296))).length : Nat)) : Int) => ?_) (fun hc7 => ?_)
   ·obtain ⟨e6, he6⟩ : ∃ y_, (lim (a0 * (n / 4294967296)))[i - 1]? = some y_ := ⟨_, List.getElem?_eq_getElem (by omega)⟩
    have hyo2_ := lim_ok (a0 * (n / 4294967296)) _ (List.mem_of_getElem? he6)
    refine SW_region ?_
    refine os 4 ?_
    refine L (ixg ((i : Int) - 1) (i - 1) hkhi Tryz.underlying149 ?_)
    refine L (ld ?_ (hc := Gs.cell hkhi (fun e he => (mem_a (mem_h he))) (map_cell he6 rfl)))
    refine os 3 ?_
    refine kp [8, 49, 33, 27, 0, 5, 6, 7, 9] ?_
    refine nsr ?_
    refine os 3 ?_
    refine oX (.int .u64 (Int.tmod (c + e6) 4294967296)) (.int .u64 ((c + e6) % 4294967296)) (congrArg (Value.int .u64) (rem_nn (by first | omega | exact Int.natCast_nonneg _))) ?_
    refine os 1 ?_
    refine L (ixg (i : Int) (i) hkr_ Tryz.underlying149 ?_)
    obtain ⟨e7, he7⟩ : ∃ y_, (ys ++ List.replicate ((lim a0).length + 3 - i) 0)[i]? = some y_ := ⟨_, List.getElem?_eq_getElem (by omega)⟩
    have hok4 := Gs.ok.relen (ys := (((ys ++ List.replicate ((lim a0).length + 3 - i) 0).set i ((c + e6) % 4294967296)).map encP)) hkr_ (by simp)
    refine L (O_storeG (ys := (((ys ++ List.replicate ((lim a0).length + 3 - i) 0).set i ((c + e6) % 4294967296)).map encP)) (Gs.at b1 ((lim a0).length + 3)) (i) (.int .u32 ((c + e6) % 4294967296)) [.int .u32 ((c + e6) % 4294967296)] (Gs.ok.ne hkr_ (by first | omega | (simp; omega))) (fun _ => rfl) (fun _ => rfl) rfl (by kernel_rfl) rfl (by simp; omega) (row_lay_map ((c + e6) % 4294967296) (by omega)) rfl ?_)
    refine nr ?_
    refine os 1 ?_
    refine oX (.int .u64 (IntKind.wrap .u64 (Int.tdiv (c + e6) 4294967296))) (.int .u64 ((c + e6) / 4294967296)) (congrArg (Value.int .u64) (quo_u64 (by omega) (by omega) (by decide))) ?_
    refine os 1 ?_
    refine kp [8, 49, 33, 27, 0, 5, 6, 7, 9] ?_
    refine SL_nil (n_in (n_then ?_))
    refine SW_region ?_
    refine os 3 ?_
    refine nt ?_
    obtain ⟨q1_, q2_, q3_, q4_⟩ := by_body (x := 0) (y := e6) (t := c + e6) hyl hyo (by rw [List.getElem?_eq_none (by omega)]; rfl) (by rw [if_pos (by omega), he6]; rfl) (by omega) (hyo2_) hc (by omega) hi2
    have hst_ := set_rep (v := (c + e6) % 4294967296) (m := (lim a0).length + 3 - i) (m' := (lim a0).length + 3 - (i + 1)) hyl (by omega)
    refine ⟨(i + 1, ys ++ [(c + e6) % 4294967296], (c + e6) / 4294967296), by simp only []; omega, ?_⟩
    simp only []
    refine ⟨⟨fun _ => rfl, ?_⟩, by omega, ⟨q1_, q2_, q3_⟩, q4_⟩
    rw [← hst_]
    exact ow
   refine SW_skip (n_then ?_)
   refine sr ?_
   refine os 3 ?_
   refine oX (.int .u64 (Int.tmod c 4294967296)) (.int .u64 (c % 4294967296)) (congrArg (Value.int .u64) (rem_nn (by first | omega | exact Int.natCast_nonneg _))) ?_
   refine os 1 ?_
   refine L (ixg (i : Int) (i) hkr_ Tryz.underlying149 ?_)
   obtain ⟨e8, he8⟩ : ∃ y_, (ys ++ List.replicate ((lim a0).length + 3 - i) 0)[i]? = some y_ := ⟨_, List.getElem?_eq_getElem (by omega)⟩
   have hok5 := Gs.ok.relen (ys := (((ys ++ List.replicate ((lim a0).length + 3 - i) 0).set i (c % 4294967296)).map encP)) hkr_ (by simp)
   refine L (O_storeG (ys := (((ys ++ List.replicate ((lim a0).length + 3 - i) 0).set i (c % 4294967296)).map encP)) (Gs.at b1 ((lim a0).length + 3)) (i) (.int .u32 (c % 4294967296)) [.int .u32 (c % 4294967296)] (Gs.ok.ne hkr_ (by first | omega | (simp; omega))) (fun _ => rfl) (fun _ => rfl) rfl (by kernel_rfl) rfl (by simp; omega) (row_lay_map (c % 4294967296) (by omega)) rfl ?_)
   refine nr ?_
   refine os 1 ?_
   refine oX (.int .u64 (IntKind.wrap .u64 (Int.tdiv c 4294967296))) (.int .u64 (c / 4294967296)) (congrArg (Value.int .u64) (quo_u64 (by omega) (by omega) (by decide))) ?_
   refine os 1 ?_
   refine kp [8, 49, 33, 27, 0, 5, 6, 7, 9] ?_
   refine SL_nil (n_in (n_then ?_))
   refine SW_region ?_
   refine os 3 ?_
   refine nt ?_
   obtain ⟨q1_, q2_, q3_, q4_⟩ := by_body (x := 0) (y := 0) (t := c) hyl hyo (by rw [List.getElem?_eq_none (by omega)]; rfl) ((by first | rw [if_neg (by omega)] | rw [if_pos (by omega), List.getElem?_eq_none (by omega)]; rfl)) (by omega) (by omega) hc (by omega) hi2
   have hst_ := set_rep (v := c % 4294967296) (m := (lim a0).length + 3 - i) (m' := (lim a0).length + 3 - (i + 1)) hyl (by omega)
   refine ⟨(i + 1, ys ++ [c % 4294967296], c / 4294967296), by simp only []; omega, ?_⟩
   simp only []
   refine ⟨⟨fun _ => rfl, ?_⟩, by omega, ⟨q1_, q2_, q3_⟩, q4_⟩
   rw [← hst_]
   exact ow
  replace hg6 : ¬ ((i : Int) > 0) := hg6
  refine os 6 ?_
  refine kp [49, 33, 27, 0, 5, 6, 7, 8, 9] ?_
  refine nt ?_
  refine cf ?_
  refine SW_skip (n_then ?_)
  refine sr ?_
  refine os 3 ?_
  refine oX (.int .u64 (Int.tmod c 4294967296)) (.int .u64 (c % 4294967296)) (congrArg (Value.int .u64) (rem_nn (by first | omega | exact Int.natCast_nonneg _))) ?_
  refine os 1 ?_
  refine L (ixg (i : Int) (i) hkr_ Tryz.underlying149 ?_)
  obtain ⟨e9, he9⟩ : ∃ y_, (ys ++ List.replicate ((lim a0).length + 3 - i) 0)[i]? = some y_ := ⟨_, List.getElem?_eq_getElem (by omega)⟩
  have hok6 := Gs.ok.relen (ys := (((ys ++ List.replicate ((lim a0).length + 3 - i) 0).set i (c % 4294967296)).map encP)) hkr_ (by simp)
  refine L (O_storeG (ys := (((ys ++ List.replicate ((lim a0).length + 3 - i) 0).set i (c % 4294967296)).map encP)) (Gs.at b1 ((lim a0).length + 3)) (i) (.int .u32 (c % 4294967296)) [.int .u32 (c % 4294967296)] (Gs.ok.ne hkr_ (by first | omega | (simp; omega))) (fun _ => rfl) (fun _ => rfl) rfl (by kernel_rfl) rfl (by simp; omega) (row_lay_map (c % 4294967296) (by omega)) rfl ?_)
  refine nr ?_
  refine os 1 ?_
  refine oX (.int .u64 (IntKind.wrap .u64 (Int.tdiv c 4294967296))) (.int .u64 (c / 4294967296)) (congrArg (Value.int .u64) (quo_u64 (by omega) (by omega) (by decide))) ?_
  refine os 1 ?_
  refine kp [8, 49, 33, 27, 0, 5, 6, 7, 9] ?_
  refine SL_nil (n_in (n_then ?_))
  refine SW_region ?_
  refine os 3 ?_
  refine nt ?_
  obtain ⟨q1_, q2_, q3_, q4_⟩ := by_body (x := 0) (y := 0) (t := c) hyl hyo (by rw [List.getElem?_eq_none (by omega)]; rfl) ((by first | rw [if_neg (by omega)] | rw [if_pos (by omega), List.getElem?_eq_none (by omega)]; rfl)) (by omega) (by omega) hc (by omega) hi2
  have hst_ := set_rep (v := c % 4294967296) (m := (lim a0).length + 3 - i) (m' := (lim a0).length + 3 - (i + 1)) hyl (by omega)
  refine ⟨(i + 1, ys ++ [c % 4294967296], c / 4294967296), by simp only []; omega, ?_⟩
  simp only []
  refine ⟨⟨fun _ => rfl, ?_⟩, by omega, ⟨q1_, q2_, q3_⟩, q4_⟩
  rw [← hst_]
  exact ow
 refine SW_exit (x_then (x_then (x_in (n_then ?_))))
 refine sr ?_
 refine os 1 ?_
 have hie_ : i = (lim a0).length + 3 := by omega
 have hv_ := by_end (a0 := a0) (n := n) rfl hn hie_ hyl hc hi2
 have hrw_ : (ys ++ List.replicate ((lim a0).length + 3 - i) 0) = ys := by rw [show (lim a0).length + 3 - i = 0 from by omega]; simp
 have hkz_ := hkr_
 rw [hrw_] at hkz_ ⊢
 have hln_ : ys.length = (lim a0).length + 3 := by omega
 have hok_ : Gs.ok 1 ys.length (Gs.at b1 ((lim a0).length + 3)) (ys.map encP) := by rw [hln_]; exact hkz_
 have hq_ := r2_trim (W0 := W0) (l := ys) hyo hok_
 rw [hv_, hln_] at hq_
 refine L (cl (hq_) ?_)
 rintro _ _ ⟨rfl, hkt_⟩
 refine os 1 ?_
 refine nt ?_
 refine SW_ret ?_
 refine body_end (Gs.val (Gs.at b1 ((lim a0).length + 3)) ((lim (a0 * n)).length)) (fun _ => rfl) ?_
 exact ⟨(Gs.at b1 ((lim a0).length + 3)), ow, rfl, hkt_⟩

end Go.Proofs.YtnhmmjogfkjceaaGreatDoor
namespace Go.Proofs.YtnhmmjogfkjceaaGreatDoor
open Go.Sl

theorem pt_eq {m m' e e' : Int} {b b' nb : Bool} (h1 : m = m') (h2 : e = e') (h3 : b = b') : Value.agg #[.int .u64 m, .int .i64 e, .bool b, .bool nb] = Value.agg #[.int .u64 m', .int .i64 e', .bool b', .bool nb] := by rw [h1, h2, h3]
theorem max0 (e : Int) : (if 0 > e then 0 else e) = (e.toNat : Int) := by split <;> omega

theorem r2_parts {W0 : World} {a : Nat} (ha : a < 18446744073709551616) : SC Tryz.prog W0 147 #[.int .u64 (a : Int)] [] (Ret (fun _ : Bool => []) (fun v nb => v = .agg #[.int .u64 (manP a : Int), .int .i64 ((expP a : Int) - 1075), .bool (decide (a % 2 = 0)), .bool nb])) := by
 refine SC_body (fn := Tryz.f147) (n := 31) Tryz.func147 rfl (by kernel_rfl) (ρ := [(0, .int .u64 (a : Int))]) rfl ?_
 refine sr ?_
 refine L (nw 155 4 [.int .u64 0, .int .i64 0, .bool false, .bool false] ?_)
 intro b1
 refine nsr ?_
 refine os 1 ?_
 refine oX (.int .u64 (Int.tmod (a : Int) 4503599627370496)) (.int .u64 ((a : Int) % 4503599627370496)) (congrArg (Value.int .u64) (rem_nn (by first | omega | exact Int.natCast_nonneg _))) ?_
 refine os 1 ?_
 refine nsr ?_
 refine os 1 ?_
 refine oX (.int .u64 (IntKind.wrap .u64 (Int.tdiv (a : Int) 4503599627370496))) (.int .u64 ((a : Int) / 4503599627370496)) (congrArg (Value.int .u64) (quo_u64 (by omega) (by omega) (by decide))) ?_
 refine os 2 ?_
 refine kp [4, 3, 2, 0] ?_
 refine nq ?_
 refine sr ?_
 refine os 2 ?_
 refine nt ?_
 refine cd (fun hc2 : (((a : Int) / 4503599627370496) == 0) = true => ?_) (fun hc2 => ?_)
 ·simp only [beq_iff_eq, bne_iff_ne, ne_eq, beq_eq_false_iff_ne, bne_eq_false_iff_eq, Classical.not_not] at hc2
  refine sr ?_
  refine os 2 ?_
  refine oX (.int .u64 (Int.tmod ((a : Int) % 4503599627370496) 2)) (.int .u64 (((a : Int) % 4503599627370496) % 2)) (congrArg (Value.int .u64) (rem_nn (by first | omega | exact Int.natCast_nonneg _))) ?_
  refine os 1 ?_
  refine oV (.agg #[.int .u64 ((a : Int) % 4503599627370496), .int .i64 (-1074), .bool ((((a : Int) % 4503599627370496) % 2) == 0), .bool false]) ?_
  refine L (st [.int .u64 ((a : Int) % 4503599627370496), .int .i64 (-1074), .bool ((((a : Int) % 4503599627370496) % 2) == 0), .bool false] ?_)
  refine nt ?_
  refine SW_ret (r_then ?_)
  refine body_endC [.agg #[.int .u64 ((a : Int) % 4503599627370496), .int .i64 (-1074), .bool ((((a : Int) % 4503599627370496) % 2) == 0), .bool false]] (fun _ => (.cons ⟨b1, 0, rfl, .inl ⟨[.int .u64 ((a : Int) % 4503599627370496), .int .i64 (-1074), .bool ((((a : Int) % 4503599627370496) % 2) == 0), .bool false], by kernel_rfl, (cells_cons (Cell.own mem_z rfl) (cells_cons (Cell.own mem_z rfl) (cells_cons (Cell.own mem_z rfl) (cells_cons (Cell.own mem_z rfl) cells_nil)))), rfl⟩⟩ .nil)) ?_
  exact ⟨_, ow, pt_eq (by unfold manP; rw [if_pos (by omega)]; omega) (by unfold expP; rw [if_pos (by omega)]; omega) (by first | (rw [Bool.eq_iff_iff]; simp; omega) | (simp; omega))⟩
 simp only [beq_iff_eq, bne_iff_ne, ne_eq, beq_eq_false_iff_ne, bne_eq_false_iff_eq, Classical.not_not] at hc2
 refine SW_skip (n_then ?_)
 refine sr ?_
 refine os 5 ?_
 refine oX (.int .u64 (Int.tmod ((a : Int) % 4503599627370496) 2)) (.int .u64 (((a : Int) % 4503599627370496) % 2)) (congrArg (Value.int .u64) (rem_nn (by first | omega | exact Int.natCast_nonneg _))) ?_
 refine os 4 ?_
 refine kp [26, 23, 20, 18, 11, 4, 3, 2, 0] ?_
 refine tb 26 (fun hg3 => ?_) (fun hg3 => ?_)
 ·replace hg3 : (((a : Int) % 4503599627370496) == 0) = true := hg3
  simp only [beq_iff_eq, bne_iff_ne, ne_eq, beq_eq_false_iff_ne, bne_eq_false_iff_eq, Classical.not_not] at hg3
  refine os 3 ?_
  refine oV (.agg #[.int .u64 (((a : Int) % 4503599627370496) + 4503599627370496), .int .i64 (((a : Int) / 4503599627370496) - 1075), .bool ((((a : Int) % 4503599627370496) % 2) == 0), .bool (decide (((a : Int) / 4503599627370496) > 1))]) ?_
  refine kp [30, 11, 4, 3, 2, 0] ?_
  refine L (st [.int .u64 (((a : Int) % 4503599627370496) + 4503599627370496), .int .i64 (((a : Int) / 4503599627370496) - 1075), .bool ((((a : Int) % 4503599627370496) % 2) == 0), .bool (decide (((a : Int) / 4503599627370496) > 1))] ?_)
  refine nt ?_
  refine SW_ret ?_
  refine body_endC [.agg #[.int .u64 (((a : Int) % 4503599627370496) + 4503599627370496), .int .i64 (((a : Int) / 4503599627370496) - 1075), .bool ((((a : Int) % 4503599627370496) % 2) == 0), .bool (decide (((a : Int) / 4503599627370496) > 1))]] (fun _ => (.cons ⟨b1, 0, rfl, .inl ⟨[.int .u64 (((a : Int) % 4503599627370496) + 4503599627370496), .int .i64 (((a : Int) / 4503599627370496) - 1075), .bool ((((a : Int) % 4503599627370496) % 2) == 0), .bool (decide (((a : Int) / 4503599627370496) > 1))], by kernel_rfl, (cells_cons (Cell.own mem_z rfl) (cells_cons (Cell.own mem_z rfl) (cells_cons (Cell.own mem_z rfl) (cells_cons (Cell.own mem_z rfl) cells_nil)))), rfl⟩⟩ .nil)) ?_
  exact ⟨_, ow, pt_eq (by unfold manP; rw [if_neg (by omega)]; omega) (by unfold expP; rw [if_neg (by omega)]; omega) (by first | (rw [Bool.eq_iff_iff]; simp; omega) | (simp; omega))⟩
 replace hg3 : (((a : Int) % 4503599627370496) == 0) = false := hg3
 simp only [beq_iff_eq, bne_iff_ne, ne_eq, beq_eq_false_iff_ne, bne_eq_false_iff_eq, Classical.not_not] at hg3
 refine os 3 ?_
 refine oV (.agg #[.int .u64 (((a : Int) % 4503599627370496) + 4503599627370496), .int .i64 (((a : Int) / 4503599627370496) - 1075), .bool ((((a : Int) % 4503599627370496) % 2) == 0), .bool false]) ?_
 refine kp [30, 11, 4, 3, 2, 0] ?_
 refine L (st [.int .u64 (((a : Int) % 4503599627370496) + 4503599627370496), .int .i64 (((a : Int) / 4503599627370496) - 1075), .bool ((((a : Int) % 4503599627370496) % 2) == 0), .bool false] ?_)
 refine nt ?_
 refine SW_ret ?_
 refine body_endC [.agg #[.int .u64 (((a : Int) % 4503599627370496) + 4503599627370496), .int .i64 (((a : Int) / 4503599627370496) - 1075), .bool ((((a : Int) % 4503599627370496) % 2) == 0), .bool false]] (fun _ => (.cons ⟨b1, 0, rfl, .inl ⟨[.int .u64 (((a : Int) % 4503599627370496) + 4503599627370496), .int .i64 (((a : Int) / 4503599627370496) - 1075), .bool ((((a : Int) % 4503599627370496) % 2) == 0), .bool false], by kernel_rfl, (cells_cons (Cell.own mem_z rfl) (cells_cons (Cell.own mem_z rfl) (cells_cons (Cell.own mem_z rfl) (cells_cons (Cell.own mem_z rfl) cells_nil)))), rfl⟩⟩ .nil)) ?_
 exact ⟨_, ow, pt_eq (by unfold manP; rw [if_neg (by omega)]; omega) (by unfold expP; rw [if_neg (by omega)]; omega) (by first | (rw [Bool.eq_iff_iff]; simp; omega) | (simp; omega))⟩

theorem r2_against {W0 : World} {a b : Gs} {p0 q0 m : Nat} {e : Int} (hka : Gs.ok 1 (lim p0).length a ((lim p0).map encP)) (hkb : Gs.ok 1 (lim q0).length b ((lim q0).map encP)) (hb1 : (lim (p0 * 2 ^ (-e).toNat)).length ≤ 1048576) (hb2 : (lim (q0 * 2 ^ e.toNat)).length ≤ 1048576) (hm : m < 18446744073709551616) (he : -1048576 ≤ e ∧ e ≤ 1048576) : SC Tryz.prog W0 146 #[a.val (lim p0).length, b.val (lim q0).length, .int .u64 (m : Int), .int .i64 e] (Gs.ent 87 1 a ((lim p0).map encP) ++ Gs.ent 87 1 b ((lim q0).map encP)) (Ret (fun _ : Unit => Gs.ent 87 1 a ((lim p0).map encP) ++ Gs.ent 87 1 b ((lim q0).map encP)) (fun v _ => v = .int .i64 (againstP p0 q0 m e))) := by
 refine SC_body (fn := Tryz.f146) (n := 21) Tryz.func146 rfl (by kernel_rfl) (ρ := [(0, Gs.val a ((lim p0).length)), (1, Gs.val b ((lim q0).length)), (2, .int .u64 (m : Int)), (3, .int .i64 e)]) rfl ?_
 refine SW_sig ((Gs.ent 87 1 a ((lim p0).map encP)) ++ ((Gs.ent 87 1 b ((lim q0).map encP)) ++ ([]))) (by simp only [List.append_nil, List.append_assoc]) ?_
 refine sr ?_
 refine os 1 ?_
 refine nsr ?_
 refine os 2 ?_
 refine oX (.int .i64 (IntKind.wrap .i64 (0 - e))) (.int .i64 (-e)) (congrArg (Value.int .i64) ((IntWalk.i64_in _ (by omega)).trans (Int.zero_sub _))) ?_
 refine oV (.int .i64 (if 0 > -e then 0 else -e)) ?_
 have hq_ := r2_up (W0 := W0) (a0 := p0) (n := (-e).toNat) hka hb1 (by omega)
 rw [← max0] at hq_
 refine L (cl (hq_) ?_)
 rintro _ u1 ⟨rfl, hku1⟩
 refine un ?_
 refine os 2 ?_
 refine oV (.int .i64 (if 0 > e then 0 else e)) ?_
 have hq_ := r2_up (W0 := W0) (a0 := q0) (n := e.toNat) hkb hb2 (by omega)
 rw [← max0] at hq_
 refine L (cl (hq_) ?_)
 rintro _ u2 ⟨rfl, hku2⟩
 refine un ?_
 refine os 1 ?_
 refine kp [18, 17, 13, 8, 0, 1, 2, 3] ?_
 have hq_ := r2_by (W0 := W0) (a0 := q0 * 2 ^ e.toNat) (n := m) hku2 hb2 hm
 refine L (cl (hq_) ?_)
 rintro _ u3 ⟨rfl, hku3⟩
 refine un ?_
 refine L (cl (r2_order (a0 := p0 * 2 ^ (-e).toNat) (b0 := q0 * 2 ^ e.toNat * m) hku1 hku3 hb1) ?_)
 rintro _ _ rfl
 refine un ?_
 refine os 1 ?_
 refine kp [8, 0, 1, 2, 3] ?_
 refine nt ?_
 refine SW_ret ?_
 refine body_end (.int .i64 (cmpN (p0 * 2 ^ (-e).toNat) (q0 * 2 ^ e.toNat * m))) (fun _ => rfl) ?_
 exact ⟨(), ow, rfl⟩

end Go.Proofs.YtnhmmjogfkjceaaGreatDoor
namespace Go.Proofs.YtnhmmjogfkjceaaGreatDoor
open Go.Sl

theorem dw_dw : ∀ X : Bytes, (X.dropWhile (· == 48)).dropWhile (· == 48) = X.dropWhile (· == 48)
 | [] => rfl
 | c :: r => by
   rw [List.dropWhile_cons]
   split
   · exact dw_dw r
   · next h => rw [List.dropWhile_cons, if_neg h]
theorem bne48 (c : UInt8) : ((c.toNat : Int) != 48) = (c != 48) := by
 rw [Bool.eq_iff_iff]
 simp only [bne_iff_ne, ne_eq]
 constructor
 · intro h g; subst g; exact h rfl
 · intro h g; exact h (UInt8.toNat_inj.1 (by show c.toNat = 48; omega))
theorem r2_partsZ {W0 : World} {a : Nat} {z : Int} (hz : z = (a : Int)) (ha : a < 18446744073709551616) : SC Tryz.prog W0 147 #[.int .u64 z] [] (Ret (fun _ : Bool => []) (fun v nb => v = .agg #[.int .u64 (manP a : Int), .int .i64 ((expP a : Int) - 1075), .bool (decide (a % 2 = 0)), .bool nb])) := by
 subst hz; exact r2_parts ha
theorem r2_againstZ {W0 : World} {a b : Gs} {p0 q0 m : Nat} {e z : Int} (hz : z = (m : Int)) (hka : Gs.ok 1 (lim p0).length a ((lim p0).map encP)) (hkb : Gs.ok 1 (lim q0).length b ((lim q0).map encP)) (hp : bitsN p0 ≤ 4900) (hq : bitsN q0 ≤ 4900) (hm : m < 18446744073709551616) (he : -1100 ≤ e ∧ e ≤ 1100) : SC Tryz.prog W0 146 #[a.val (lim p0).length, b.val (lim q0).length, .int .u64 z, .int .i64 e] (Gs.ent 87 1 a ((lim p0).map encP) ++ Gs.ent 87 1 b ((lim q0).map encP)) (Ret (fun _ : Unit => Gs.ent 87 1 a ((lim p0).map encP) ++ Gs.ent 87 1 b ((lim q0).map encP)) (fun v _ => v = .int .i64 (againstP p0 q0 m e))) := by
 subst hz
 exact r2_against hka hkb (len_bits (Nat.le_trans (bitsN_mul_pow _ _) (by omega))) (len_bits (Nat.le_trans (bitsN_mul_pow _ _) (by omega))) hm (by omega)

theorem r2_near10 {W0 : World} {X : Bytes} {p : Int} (hX : X.length ≤ 1048576) (hd : ∀ c ∈ X, 48 ≤ c.toNat ∧ c.toNat ≤ 57) (hp : -1099511627776 ≤ p ∧ p ≤ 1099511627776) : SC Tryz.prog W0 108 #[.string (bS X), .int .i64 p] [] (Ret (fun _ : Unit => []) (fun v _ => v = .int .u64 (nearD (cutD (X.dropWhile (· == 48)) p).1 (cutD (X.dropWhile (· == 48)) p).2 : Int))) := by
 refine SC_body (fn := Tryz.f108) (n := 143) Tryz.func108 rfl (by kernel_rfl) (ρ := [(0, .string (bS X)), (1, .int .i64 p)]) rfl ?_
 refine sr ?_
 refine os 1 ?_
 refine nq ?_
 refine SW_cut (fun ρ_ σ_ => Fits ρ_ σ_ [(0, .string (bS (X.dropWhile (· == 48)))), (1, .int .i64 p)] ([])) ?_ ?_
 ·refine SW_block ?_
  refine SW_loop (α := Bytes) (fun z_ ρ_ σ_ => Fits ρ_ σ_ [(0, .string (bS z_)), (1, .int .i64 p)] ([]) ∧ (z_.dropWhile (· == 48)) = X.dropWhile (· == 48) ∧ (∀ c ∈ z_, 48 ≤ c.toNat ∧ c.toNat ≤ 57) ∧ z_.length ≤ X.length) (fun z_ => z_.length) X ⟨⟨fun _ => rfl, ow⟩, rfl, hd, Nat.le_refl _⟩ ?_
  rintro Y ρ_ σ_ ⟨hfit, hi0, hi1, hi2⟩
  refine SW_fits hfit ?_
  clear hfit
  refine SW_seq ?_
  refine sr ?_
  refine os 1 ?_
  refine oX (.int .i64 ((bS Y).size : Int)) (.int .i64 (Y.length : Int)) (congrArg (fun n_ : Nat => Value.int .i64 (n_ : Int)) (bS_size _)) ?_
  refine os 2 ?_
  refine tbp 18 (fun hg1 => ?_) (fun hg1 => ?_)
  ·replace hg1 : (Y.length : Int) > 0 := hg1
   refine os 1 ?_
   obtain ⟨e1, he1⟩ : ∃ y_, Y[0]? = some y_ := ⟨_, List.getElem?_eq_getElem (by omega)⟩
   refine ixb 0 Y .i64 e1 Tryz.underlying9 he1 ?_
   refine os 2 ?_
   refine kp [22, 0, 1] ?_
   refine nt ?_
   refine cd (fun hc2 : ((e1.toNat : Int) == 48) = true => ?_) (fun hc2 => ?_)
   ·simp only [beq_iff_eq, bne_iff_ne, ne_eq, beq_eq_false_iff_ne, bne_eq_false_iff_eq, Classical.not_not] at hc2
    refine SW_skip (n_then ?_)
    refine SW_block ?_
    refine SW_region ?_
    refine os 1 ?_
    refine L (O_val (.string (bS (Y.drop 1))) rfl (fun δ w _ => run_strFrom (l := Y) 1 .i64 Tryz.underlying9 rfl rfl (by omega) (by omega)) ?_)
    refine os 1 ?_
    refine SL_nil (n_in (n_then ?_))
    exact ⟨Y.drop 1, by rw [List.length_drop]; omega, ⟨fun _ => rfl, ow⟩, (strip_head he1 ((u8_eq (n := 48) (by decide)).1 (by omega))).trans hi0, fun c hc => hi1 c (List.mem_of_mem_drop hc), by rw [List.length_drop]; omega⟩
   simp only [beq_iff_eq, bne_iff_ne, ne_eq, beq_eq_false_iff_ne, bne_eq_false_iff_eq, Classical.not_not] at hc2
   refine SW_exit (x_then (x_then (x_in (n_then ?_))))
   have hY_ : X.dropWhile (· == 48) = Y := by rw [← hi0]; exact strip_stop he1 (fun q_ => absurd ((u8_eq (n := 48) (by decide)).2 q_) (by omega))
   rw [hY_]
   exact ⟨fun _ => rfl, ow⟩
  replace hg1 : ¬ ((Y.length : Int) > 0) := hg1
  refine os 4 ?_
  refine kp [22, 0, 1] ?_
  refine nt ?_
  refine cf ?_
  refine SW_exit (x_then (x_then (x_in (n_then ?_))))
  have hY_ : X.dropWhile (· == 48) = Y := by rw [← hi0]; rw [show Y = [] from List.length_eq_zero_iff.1 (by omega)]; rfl
  rw [hY_]
  exact ⟨fun _ => rfl, ow⟩
 ·rintro ρ_ σ_ hfit
  refine SW_fits hfit ?_
  clear hfit
  refine SW_seq ?_
  refine SW_seq ?_
  have hLl_ : (X.dropWhile (· == 48)).length ≤ X.length := dropWhile_len _ _
  have hLd_ : ∀ c ∈ X.dropWhile (· == 48), 48 ≤ c.toNat ∧ c.toNat ≤ 57 := fun c hc => hd c ((List.dropWhile_sublist _).subset hc)
  have hLs_ := dw_dw X
  generalize X.dropWhile (· == 48) = Zl at hLl_ hLd_ hLs_ ⊢
  refine SW_cut3 (fun ρ_ σ_ => Fits ρ_ σ_ [(0, .string (bS (cutD Zl p).1)), (1, .int .i64 ((cutD Zl p).2))] ([])) ?_ ?_
  ·refine SW_region ?_
   refine os 1 ?_
   refine oX (.int .i64 ((bS Zl).size : Int)) (.int .i64 (Zl.length : Int)) (congrArg (fun n_ : Nat => Value.int .i64 (n_ : Int)) (bS_size _)) ?_
   refine os 1 ?_
   refine nt ?_
   refine cdp (fun hc3 : (Zl.length : Int) > 800 => ?_) (fun hc3 => ?_)
   ·refine sr ?_
    refine os 1 ?_
    refine nq ?_
    refine sr ?_
    refine os 1 ?_
    refine nt ?_
    refine SW_block ?_
    refine SW_loop (α := Nat × Bool) (fun z_ ρ_ σ_ => Fits ρ_ σ_ [(0, .string (bS Zl)), (1, .int .i64 p), (5, .bool z_.2), (6, .int .i64 (z_.1 : Int))] ([]) ∧ (z_.1 ≤ Zl.length ∧ 800 ≤ z_.1) ∧ z_.2 = ((Zl.take z_.1).drop 800).any (· != 48)) (fun z_ => Zl.length - z_.1) (800, false) ⟨⟨fun _ => rfl, ow⟩, ⟨by omega, Nat.le_refl _⟩, by rw [List.drop_of_length_le (by rw [List.length_take]; omega)]; rfl⟩ ?_
    rintro ⟨i, b⟩ ρ_ σ_ ⟨hfit, hi0, hi1⟩
    refine SW_fits hfit ?_
    clear hfit
    simp only [] at hi0 hi1 ⊢
    refine SW_seq ?_
    refine sr ?_
    refine os 2 ?_
    refine oX (.int .i64 ((bS Zl).size : Int)) (.int .i64 (Zl.length : Int)) (congrArg (fun n_ : Nat => Value.int .i64 (n_ : Int)) (bS_size _)) ?_
    refine os 1 ?_
    refine kp [31, 0, 1, 5, 6] ?_
    refine nt ?_
    refine cdp (fun hc4 : (i : Int) < (Zl.length : Int) => ?_) (fun hc4 => ?_)
    ·refine SW_skip (n_then ?_)
     refine SW_seq ?_
     refine SW_block ?_
     refine SW_region ?_
     refine os 2 ?_
     refine tb 35 (fun hg5 => ?_) (fun hg5 => ?_)
     ·replace hg5 : b = true := hg5
      refine os 6 ?_
      refine kp [5, 31, 0, 1, 6] ?_
      refine SL_nil (n_in (n_then ?_))
      refine SW_region ?_
      refine os 3 ?_
      refine nt ?_
      obtain ⟨y_, hy_⟩ : ∃ y_, Zl[i]? = some y_ := ⟨_, List.getElem?_eq_getElem (by omega)⟩
      exact ⟨(i + 1, true), by simp only []; omega, ⟨fun _ => rfl, ow⟩, by simp only []; omega, by simp only []; rw [any_take hy_ (by omega), ← hi1]; rw [hg5]; rfl⟩
     replace hg5 : b = false := hg5
     refine os 2 ?_
     obtain ⟨e2, he2⟩ : ∃ y_, Zl[i]? = some y_ := ⟨_, List.getElem?_eq_getElem (by omega)⟩
     refine ixb (i : Int) Zl .i64 e2 Tryz.underlying9 he2 ?_
     refine os 3 ?_
     refine kp [5, 31, 0, 1, 6] ?_
     refine SL_nil (n_in (n_then ?_))
     refine SW_region ?_
     refine os 3 ?_
     refine nt ?_
     exact ⟨(i + 1, (e2.toNat : Int) != 48), by simp only []; omega, ⟨fun _ => rfl, ow⟩, by simp only []; omega, by simp only []; rw [any_take he2 (by omega), ← hi1]; rw [hg5, bne48]; rfl⟩
    refine SW_exit (x_then (x_then (x_in (n_then ?_))))
    refine sr ?_
    refine os 2 ?_
    refine oX (.int .i64 ((bS Zl).size : Int)) (.int .i64 (Zl.length : Int)) (congrArg (fun n_ : Nat => Value.int .i64 (n_ : Int)) (bS_size _)) ?_
    refine os 3 ?_
    refine kp [1, 31, 0, 5, 6] ?_
    refine nsr ?_
    refine os 1 ?_
    refine L (O_val (.string (bS (Zl.take 800))) rfl (fun δ w _ => run_strTo (l := Zl) 800 .i64 Tryz.underlying9 rfl rfl (by omega) (by omega)) ?_)
    refine os 1 ?_
    refine nsr ?_
    refine os 1 ?_
    refine nt ?_
    refine cd (fun hc6 : (b) = true => ?_) (fun hc6 => ?_)
    ·have hla_ : (Zl.drop 800).any (· != 48) = true := by rw [show i = Zl.length from by omega, List.take_length] at hi1; rw [← hi1]; exact hc6
     refine sr ?_
     refine os 1 ?_
     refine oV (.string (bS ((Zl.take 800) ++ [49]))) ?_ (hs := (fun δ w_ => run_catB (Zl.take 800) [49] (by first | omega | (simp; omega)) rfl rfl))
     refine os 1 ?_
     refine kp [0, 48, 1, 31, 5, 6] ?_
     refine nr ?_
     refine os 3 ?_
     refine nt ?_
     rw [cutD_lost (Y := Zl) (by omega) hla_]
     exact ⟨fun _ => rfl, ow⟩
    have hla_ : (Zl.drop 800).any (· != 48) = false := by rw [show i = Zl.length from by omega, List.take_length] at hi1; rw [← hi1]; exact hc6
    refine SW_skip (n_then ?_)
    rw [cutD_kept (Y := Zl) (by omega) hla_]
    exact ⟨fun _ => rfl, ow⟩
   refine SW_skip (n_then ?_)
   rw [cutD_no (L := Zl) (by omega)]
   exact ⟨fun _ => rfl, ow⟩
  ·rintro ρ_ σ_ hfit
   refine SW_fits hfit ?_
   clear hfit
   refine SW_seq ?_
   refine SW_seq ?_
   have hcf_ := cutD_facts (P := p) hLd_
   have hpos_ := cut_pos (P := p) hLd_ hLs_
   generalize (cutD Zl p).1 = M at hcf_ hpos_ ⊢
   generalize (cutD Zl p).2 = q at hcf_ ⊢
   obtain ⟨hMl_, hMd_, hq1_, hq2_⟩ := hcf_
   refine SW_region ?_
   refine os 1 ?_
   refine oX (.bool ((bS M).toList == (bS []).toList)) (.bool (decide (M = []))) (congrArg Value.bool (by rw [strB_eq])) ?_
   refine os 1 ?_
   refine tbp 55 (fun hg7 => ?_) (fun hg7 => ?_)
   ·replace hg7 : M = [] := hg7
    refine os 6 ?_
    refine kp [61, 0, 1] ?_
    refine nt ?_
    refine ct ?_
    refine sr ?_
    refine os 1 ?_
    refine nt ?_
    refine SW_ret (r_then ?_)
    refine body_end (.int .u64 0) (fun _ => rfl) ?_
    exact ⟨(), ow, congrArg (Value.int .u64) (by rw [nearD_none (by first | exact .inl (by assumption) | exact .inr (by omega))]; rfl)⟩
   replace hg7 : ¬ (M = []) := hg7
   have hne_ : ¬ M = [] := hg7
   refine os 1 ?_
   refine oX (.int .i64 ((bS M).size : Int)) (.int .i64 (M.length : Int)) (congrArg (fun n_ : Nat => Value.int .i64 (n_ : Int)) (bS_size _)) ?_
   refine os 4 ?_
   refine kp [61, 0, 1] ?_
   refine nt ?_
   refine cdp (fun hc8 : ((M.length : Int) + q) < (-330) => ?_) (fun hc8 => ?_)
   ·refine sr ?_
    refine os 1 ?_
    refine nt ?_
    refine SW_ret (r_then ?_)
    refine body_end (.int .u64 0) (fun _ => rfl) ?_
    exact ⟨(), ow, congrArg (Value.int .u64) (by rw [nearD_none (by first | exact .inl (by assumption) | exact .inr (by omega))]; rfl)⟩
   have hlo_ : ¬ (M.length : Int) + q < -330 := by omega
   refine SW_skip (n_then ?_)
   refine SW_seq ?_
   refine sr ?_
   refine os 1 ?_
   refine oX (.int .i64 ((bS M).size : Int)) (.int .i64 (M.length : Int)) (congrArg (fun n_ : Nat => Value.int .i64 (n_ : Int)) (bS_size _)) ?_
   refine os 3 ?_
   refine kp [66, 61, 0, 1] ?_
   refine nt ?_
   refine cdp (fun hc9 : ((M.length : Int) + q) > 310 => ?_) (fun hc9 => ?_)
   ·refine sr ?_
    refine os 1 ?_
    refine nt ?_
    refine SW_ret (r_then ?_)
    refine body_end (.int .u64 9218868437227405312) (fun _ => rfl) ?_
    exact ⟨(), ow, congrArg (Value.int .u64) (by rw [nearD_inf hne_ hlo_ (by omega)]; rfl)⟩
   have hhi_ : ¬ (M.length : Int) + q > 310 := by omega
   refine SW_skip (n_then ?_)
   refine sr ?_
   refine L (nws 87 0 0 [] ?_)
   intro b10
   refine os 1 ?_
   refine nq ?_
   refine sr ?_
   refine os 1 ?_
   refine nt ?_
   refine SW_block ?_
   refine SW_sig ((Gs.ent 87 1 (Gs.at b10 0) (([] : List Int).map encP)) ++ ([])) rfl ?_
   have hMs_ : (lim (ofD M)).length ≤ 1048576 := len_bits (Nat.le_trans (bitsN_ten (k := M.length) (by have := ofD_tensK (K := M.length) (n := 0) hMd_ (Nat.le_refl _); simpa using this)) (by omega))
   refine SW_loop (α := Nat × Gs × List Int) (fun z_ ρ_ σ_ => Fits ρ_ σ_ [(0, .string (bS M)), (1, .int .i64 q), (7, Gs.val z_.2.1 z_.2.2.length), (8, .int .i64 (z_.1 : Int))] ((Gs.ent 87 1 z_.2.1 (z_.2.2.map encP)) ++ ([])) ∧ z_.1 ≤ M.length ∧ Gs.ok 1 z_.2.2.length z_.2.1 (z_.2.2.map encP) ∧ z_.2.2 = lim (ofD (M.take z_.1))) (fun z_ => M.length - z_.1) (0, (Gs.at b10 0), []) ⟨⟨fun _ => rfl, ow⟩, Nat.zero_le _, ⟨Nat.le_refl _, by unfold maxLen; omega, rfl⟩, by simp [ofD, lim_zero]⟩ ?_
   rintro ⟨i, g, l⟩ ρ_ σ_ ⟨hfit, hi0, hi1, hi2⟩
   refine SW_fits hfit ?_
   clear hfit
   simp only [] at hi0 hi1 hi2 ⊢
   subst hi2
   refine SW_seq ?_
   refine sr ?_
   refine os 2 ?_
   refine oX (.int .i64 ((bS M).size : Int)) (.int .i64 (M.length : Int)) (congrArg (fun n_ : Nat => Value.int .i64 (n_ : Int)) (bS_size _)) ?_
   refine os 1 ?_
   refine kp [71, 0, 1, 7, 8] ?_
   refine nt ?_
   refine cdp (fun hc11 : (i : Int) < (M.length : Int) => ?_) (fun hc11 => ?_)
   ·refine SW_skip (n_then ?_)
    refine SW_seq ?_
    refine SW_block ?_
    obtain ⟨e3, he3⟩ : ∃ y_, M[i]? = some y_ := ⟨_, List.getElem?_eq_getElem (by omega)⟩
    have hdi_ := hMd_ _ (List.mem_of_getElem? he3)
    refine SW_region ?_
    refine os 3 ?_
    refine ixb (i : Int) M .i64 e3 Tryz.underlying9 he3 ?_
    refine os 2 ?_
    have hq_ := r2_times (W0 := W0) (n := 10) (more := e3.toNat - 48) (hi1 : Gs.ok 1 (lim (ofD (M.take i))).length g ((lim (ofD (M.take i))).map encP)) (Nat.le_trans (lim_len_mono (ofD_take_le _ _)) hMs_) (by decide) (by omega)
    rw [← ofD_step he3, show ((e3.toNat - 48 : Nat) : Int) = (e3.toNat : Int) - 48 from by omega] at hq_
    refine L (cl (hq_) ?_)
    rintro _ u1 ⟨rfl, hku1⟩
    refine un ?_
    refine os 1 ?_
    refine kp [7, 71, 0, 1, 8] ?_
    refine SL_nil (n_in (n_then ?_))
    refine SW_region ?_
    refine os 3 ?_
    refine nt ?_
    exact ⟨(i + 1, u1, _), by simp only []; omega, ⟨fun _ => rfl, ow⟩, by simp only []; omega, hku1, rfl⟩
   refine SW_exit (x_then (x_then (x_in (n_then ?_))))
   refine SW_seq ?_
   have hin_ : i = M.length := by omega
   rw [hin_, List.take_length] at hi1 ⊢
   refine SW_region ?_
   refine os 2 ?_
   refine oV (.int .i64 (if 0 > q then 0 else q)) ?_
   have hq_ := r2_tens (W0 := W0) (a0 := ofD M) (n := q.toNat) hi1 (len_bits (Nat.le_trans (bitsN_ten (ofD_tens hMd_ hMl_)) (by omega))) (by omega)
   rw [← max0] at hq_
   refine L (cl (hq_) ?_)
   rintro _ u2 ⟨rfl, hku2⟩
   refine os 1 ?_
   refine kp [9, 71, 0, 1, 7, 8] ?_
   refine nsr ?_
   refine L (cl (r2_nat (n := 1) (by decide)) ?_)
   rintro _ u3 ⟨rfl, hku3⟩
   refine os 1 ?_
   refine oX (.int .i64 (IntKind.wrap .i64 (0 - q))) (.int .i64 (-q)) (congrArg (Value.int .i64) ((IntWalk.i64_in _ (by omega)).trans (Int.zero_sub _))) ?_
   refine oV (.int .i64 (if 0 > -q then 0 else -q)) ?_
   have hq_ := r2_tens (W0 := W0) (a0 := 1) (n := (-q).toNat) hku3 (len_bits (Nat.le_trans (bitsN_ten (one_tens _)) (by omega))) (by omega)
   rw [← max0] at hq_
   refine L (cl (hq_) ?_)
   rintro _ u4 ⟨rfl, hku4⟩
   refine os 1 ?_
   refine kp [10, 9, 71, 0, 1, 7, 8] ?_
   refine nsr ?_
   refine os 1 ?_
   refine nsr ?_
   refine os 1 ?_
   refine nq ?_
   refine SW_block ?_
   obtain ⟨S, hS⟩ : ∃ S : Nat, S = 1074 := ⟨_, rfl⟩
   have hPb_ : bitsN (ofD M * 10 ^ q.toNat) ≤ 4900 := Nat.le_trans (bitsN_ten (ofD_tensK (K := M.length) hMd_ (Nat.le_refl _))) (by omega)
   have hQb_ : bitsN (1 * 10 ^ (-q).toNat) ≤ 4900 := Nat.le_trans (bitsN_ten (one_tens _)) (by omega)
   have hP0_ : 0 < ofD M * 10 ^ q.toNat := Nat.mul_pos (hpos_ hne_) (Nat.pow_pos (by decide))
   have hQ0_ : 0 < 1 * 10 ^ (-q).toNat := by rw [Nat.one_mul]; exact Nat.pow_pos (by decide)
   have hnd_ := nearD_some hne_ hlo_ hhi_
   generalize ofD M * 10 ^ q.toNat = P0 at *
   generalize 1 * 10 ^ (-q).toNat = Q0 at *
   refine SW_loop (α := Nat × Nat × Nat) (fun z_ ρ_ σ_ => Fits ρ_ σ_ [(9, Gs.val u2 ((lim P0).length)), (10, Gs.val u4 ((lim Q0).length)), (11, .int .u64 (z_.1 : Int)), (12, .int .u64 (z_.2.1 : Int))] ((Gs.ent 87 1 u4 ((lim Q0).map encP)) ++ ((Gs.ent 87 1 u2 ((lim P0).map encP)) ++ ([]))) ∧ (z_.2.2 ≤ 63 ∧ z_.2.1 = 2 ^ z_.2.2 / 2) ∧ (z_.1 < 9218868437227405312 ∧ z_.1 + 2 ^ z_.2.2 ≤ 9223372036854775808) ∧ Q0 * valF z_.1 ≤ P0 * 2 ^ S ∧ (9218868437227405312 ≤ z_.1 + 2 ^ z_.2.2 ∨ P0 * 2 ^ S < Q0 * valF (z_.1 + 2 ^ z_.2.2))) (fun z_ => z_.2.2) (0, 4611686018427387904, 63) ⟨⟨fun _ => rfl, ow⟩, ⟨Nat.le_refl _, by decide⟩, ⟨by decide, by decide⟩, by rw [valF_zero]; omega, .inl (by decide)⟩ ?_
   rintro ⟨a, b, j⟩ ρ_ σ_ ⟨hfit, hi0, hi1, hi2, hi3⟩
   refine SW_fits hfit ?_
   clear hfit
   simp only [] at hi0 hi1 hi2 hi3 ⊢
   refine SW_seq ?_
   refine sr ?_
   refine os 2 ?_
   refine nt ?_
   refine cdp (fun hc12 : (b : Int) > 0 => ?_) (fun hc12 => ?_)
   ·refine SW_skip (n_then ?_)
    refine SW_block ?_
    refine SW_seq ?_
    refine SW_seq ?_
    obtain ⟨k, rfl⟩ : ∃ k, j = k + 1 := ⟨j - 1, by rcases Nat.eq_zero_or_pos j with z | z; (subst z; have := hi0.2; omega); omega⟩
    have hbk_ : b = 2 ^ k := by rw [hi0.2, Nat.pow_succ, Nat.mul_div_cancel _ (by decide)]
    have hj2_ : a + 2 ^ (k + 1) = a + b + 2 ^ k := by rw [hbk_, Nat.pow_succ]; omega
    have hp2_ := Nat.two_pow_pos k
    refine SW_region ?_
    refine os 5 ?_
    refine tbp 96 (fun hg13 => ?_) (fun hg13 => ?_)
    ·replace hg13 : ((a : Int) + (b : Int)) < 9218868437227405312 := hg13
     refine os 5 ?_
     refine kp [101, 98, 97, 96, 91, 9, 10, 11, 12] ?_
     obtain ⟨-, hmn_, -⟩ := a_parts (a + b)
     have hex_ := expP_in (a := (a + b)) (by omega)
     refine L (cl (r2_partsZ (a := a + b) (z := (a : Int) + (b : Int)) (by omega) (by omega)) ?_)
     rintro _ nb14 rfl
     refine un ?_
     refine oV (.int .u64 (manP (a + b) : Int)) ?_
     refine os 3 ?_
     refine L (cl (r2_partsZ (a := a + b) (z := (a : Int) + (b : Int)) (by omega) (by omega)) ?_)
     rintro _ nb15 rfl
     refine un ?_
     refine oV (.int .i64 ((expP (a + b) : Int) - 1075)) ?_
     refine kp [108, 103, 98, 97, 96, 91, 9, 10, 11, 12] ?_
     refine L (cl (r2_againstZ (p0 := P0) (q0 := Q0) (m := manP (a + b)) (z := (manP (a + b) : Int)) (e := ((expP (a + b) : Int) - 1075)) (by omega) hku2 hku4 hPb_ hQb_ (by omega) (by omega)) ?_)
     rintro _ _ rfl
     refine un ?_
     refine os 2 ?_
     refine kp [111, 91, 9, 10, 11, 12] ?_
     refine nt ?_
     refine cdp (fun hc16 : (againstP P0 Q0 (manP (a + b)) ((expP (a + b) : Int) - 1075)) ≥ 0 => ?_) (fun hc16 => ?_)
     ·refine SW_region ?_
      refine os 4 ?_
      refine kp [11, 111, 91, 9, 10, 12] ?_
      refine nr ?_
      refine os 1 ?_
      refine oX (.int .u64 (IntKind.wrap .u64 (Int.tdiv (b : Int) 2))) (.int .u64 ((b : Int) / 2)) (congrArg (Value.int .u64) (quo_u64 (by omega) (by omega) (by decide))) ?_
      refine os 1 ?_
      refine SL_nil (n_in (n_then ?_))
      rw [show (b : Int) / 2 = ((b / 2 : Nat) : Int) from by omega, show (a : Int) + (b : Int) = ((a + b : Nat) : Int) from by omega]
      exact ⟨(a + b, b / 2, k), by simp only []; omega, ⟨fun _ => rfl, ow⟩, by simp only []; rw [hbk_]; exact ⟨by omega, rfl⟩, by simp only []; omega, (against_val hS).1 hc16, by simp only []; rw [← hj2_]; exact hi3⟩
     refine SW_skip (n_then ?_)
     refine SW_region ?_
     refine os 1 ?_
     refine oX (.int .u64 (IntKind.wrap .u64 (Int.tdiv (b : Int) 2))) (.int .u64 ((b : Int) / 2)) (congrArg (Value.int .u64) (quo_u64 (by omega) (by omega) (by decide))) ?_
     refine os 1 ?_
     refine SL_nil (n_in (n_then ?_))
     rw [show (b : Int) / 2 = ((b / 2 : Nat) : Int) from by omega]
     exact ⟨(a, b / 2, k), by simp only []; omega, ⟨fun _ => rfl, ow⟩, by simp only []; rw [hbk_]; exact ⟨by omega, rfl⟩, by simp only []; omega, hi2, by simp only []; rw [← hbk_]; exact .inr (Nat.lt_of_not_le fun z_ => hc16 ((against_val (p := P0) (q := Q0) (a := a + b) hS).2 z_))⟩
    replace hg13 : ¬ (((a : Int) + (b : Int)) < 9218868437227405312) := hg13
    refine os 15 ?_
    refine kp [111, 91, 9, 10, 11, 12] ?_
    refine nt ?_
    refine cf ?_
    refine SW_skip (n_then ?_)
    refine SW_region ?_
    refine os 1 ?_
    refine oX (.int .u64 (IntKind.wrap .u64 (Int.tdiv (b : Int) 2))) (.int .u64 ((b : Int) / 2)) (congrArg (Value.int .u64) (quo_u64 (by omega) (by omega) (by decide))) ?_
    refine os 1 ?_
    refine SL_nil (n_in (n_then ?_))
    rw [show (b : Int) / 2 = ((b / 2 : Nat) : Int) from by omega]
    exact ⟨(a, b / 2, k), by simp only []; omega, ⟨fun _ => rfl, ow⟩, by simp only []; rw [hbk_]; exact ⟨by omega, rfl⟩, by simp only []; omega, hi2, by simp only []; rw [← hbk_]; exact .inl (by omega)⟩
   refine SW_exit (x_then (x_then (x_in (n_then ?_))))
   refine SW_seq ?_
   have hj0_ : j = 0 := by rcases Nat.eq_zero_or_pos j with z | z; exact z; exfalso; have := hi0.2; have h2_ : 2 ^ 1 ≤ 2 ^ j := Nat.pow_le_pow_right (by decide) z; omega
   subst hj0_
   rw [Nat.pow_zero] at hi3
   refine SW_region ?_
   refine os 1 ?_
   obtain ⟨-, hmn_, -⟩ := a_parts a
   have hex_ := expP_in (a := a) (by omega)
   refine L (cl (r2_partsZ (a := a) (z := (a : Int)) (by omega) (by omega)) ?_)
   rintro _ nb17 rfl
   refine un ?_
   refine L (nw 155 4 [.int .u64 0, .int .i64 0, .bool false, .bool false] ?_)
   intro b18
   refine L (st [.int .u64 (manP a : Int), .int .i64 ((expP a : Int) - 1075), .bool (decide (a % 2 = 0)), .bool nb17] ?_)
   refine nsr ?_
   refine os 3 ?_
   refine L (ld ?_)
   refine os 3 ?_
   refine kp [125, 124, 120, 119, 13, 91, 9, 10, 11, 12] ?_
   refine L (ld ?_)
   refine os 1 ?_
   refine L (cl (r2_againstZ (p0 := P0) (q0 := Q0) (m := 2 * manP a + 1) (z := (2 * (manP a : Int)) + 1) (e := ((expP a : Int) - 1075) - 1) (by omega) hku2 hku4 hPb_ hQb_ (by omega) (by omega)) ?_)
   rintro _ _ rfl
   refine un ?_
   refine os 1 ?_
   refine kp [14, 13, 91, 9, 10, 11, 12] ?_
   refine nq ?_
   refine sr ?_
   refine os 3 ?_
   refine tbp 131 (fun hg19 => ?_) (fun hg19 => ?_)
   ·replace hg19 : (againstP P0 Q0 (2 * manP a + 1) (((expP a : Int) - 1075) - 1)) > 0 := hg19
    refine os 8 ?_
    refine kp [139, 14, 13, 91, 9, 10, 11, 12] ?_
    refine nt ?_
    refine ct ?_
    refine SW_region ?_
    refine os 3 ?_
    refine nsr ?_
    refine os 2 ?_
    refine kp [4, 11, 139, 14, 13, 91, 9, 10, 12] ?_
    refine nt ?_
    refine SW_ret ?_
    refine body_end (.int .u64 ((a : Int) + 1)) (fun _ => rfl) ?_
    have hre_ := near10_end (up := True) hP0_ hQ0_ hS hPb_ hQb_ hi1.1 hi2 hi3 (iff_of_true trivial (by first | exact .inl (by assumption) | exact .inr ⟨by assumption, by omega⟩))
    rw [if_pos trivial] at hre_
    exact ⟨(), ow, congrArg (Value.int .u64) (by rw [hnd_, hre_]; omega)⟩
   replace hg19 : ¬ ((againstP P0 Q0 (2 * manP a + 1) (((expP a : Int) - 1075) - 1)) > 0) := hg19
   refine os 3 ?_
   refine tb 134 (fun hg20 => ?_) (fun hg20 => ?_)
   ·replace hg20 : ((againstP P0 Q0 (2 * manP a + 1) (((expP a : Int) - 1075) - 1)) == 0) = true := hg20
    simp only [beq_iff_eq, bne_iff_ne, ne_eq, beq_eq_false_iff_ne, bne_eq_false_iff_eq, Classical.not_not] at hg20
    refine os 1 ?_
    refine L (ld ?_)
    refine os 3 ?_
    refine kp [139, 14, 13, 91, 9, 10, 11, 12] ?_
    refine nt ?_
    refine cd (fun hc21 : (!(decide (a % 2 = 0))) = true => ?_) (fun hc21 => ?_)
    ·replace hc21 := bnot_t hc21
     replace hc21 := of_decide_eq_false hc21
     refine SW_region ?_
     refine os 3 ?_
     refine nsr ?_
     refine os 2 ?_
     refine kp [4, 11, 139, 14, 13, 91, 9, 10, 12] ?_
     refine nt ?_
     refine SW_ret ?_
     refine body_end (.int .u64 ((a : Int) + 1)) (fun _ => rfl) ?_
     have hre_ := near10_end (up := True) hP0_ hQ0_ hS hPb_ hQb_ hi1.1 hi2 hi3 (iff_of_true trivial (by first | exact .inl (by assumption) | exact .inr ⟨by assumption, by omega⟩))
     rw [if_pos trivial] at hre_
     exact ⟨(), ow, congrArg (Value.int .u64) (by rw [hnd_, hre_]; omega)⟩
    replace hc21 := bnot_f hc21
    replace hc21 := of_decide_eq_true hc21
    refine SW_skip (n_then ?_)
    refine sr ?_
    refine os 2 ?_
    refine nt ?_
    refine SW_ret ?_
    refine body_end (.int .u64 (a : Int)) (fun _ => rfl) ?_
    have hre_ := near10_end (up := False) hP0_ hQ0_ hS hPb_ hQb_ hi1.1 hi2 hi3 (iff_of_false id (by rintro (q_ | ⟨q_, q2_⟩) <;> omega))
    rw [if_neg id] at hre_
    exact ⟨(), ow, congrArg (Value.int .u64) (by rw [hnd_, hre_])⟩
   replace hg20 : ((againstP P0 Q0 (2 * manP a + 1) (((expP a : Int) - 1075) - 1)) == 0) = false := hg20
   simp only [beq_iff_eq, bne_iff_ne, ne_eq, beq_eq_false_iff_ne, bne_eq_false_iff_eq, Classical.not_not] at hg20
   refine os 5 ?_
   refine kp [139, 14, 13, 91, 9, 10, 11, 12] ?_
   refine nt ?_
   refine cf ?_
   refine SW_skip (n_then ?_)
   refine sr ?_
   refine os 2 ?_
   refine nt ?_
   refine SW_ret ?_
   refine body_end (.int .u64 (a : Int)) (fun _ => rfl) ?_
   have hre_ := near10_end (up := False) hP0_ hQ0_ hS hPb_ hQb_ hi1.1 hi2 hi3 (iff_of_false id (by rintro (q_ | ⟨q_, q2_⟩) <;> omega))
   rw [if_neg id] at hre_
   exact ⟨(), ow, congrArg (Value.int .u64) (by rw [hnd_, hre_])⟩

end Go.Proofs.YtnhmmjogfkjceaaGreatDoor
