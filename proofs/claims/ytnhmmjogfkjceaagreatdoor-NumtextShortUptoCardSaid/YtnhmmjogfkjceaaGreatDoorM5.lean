/-
  NumtextShort, within the bound on what it reads, and tied to the program's text: it returns true whatever it is given, and leaves its arguments as they were. Conditions: the arguments' bulk is at most 1048576; the listed library variables stand as their text lays them, as the statement says.
-/
import Derived.Test.YtnhmmjogfkjceaaGreatDoorM4
import Derived.KernelRfl
import Derived.Laws.Cover2
import Derived.Test.YtnhmmjogfkjceaaGreatDoorProg
import Derived.Test.YtnhmmjogfkjceaaGreatDoorM1
import Derived.Lib.AtoiAllCases
import Derived.Shelf.LaysC
import Derived.Shelf.Strconv.AtoiAll
import Derived.Lib.AppendIntMem
import Derived.Lib.AtoiErrMem
set_option linter.unusedVariables false
set_option linter.unusedSimpArgs false
set_option linter.unusedSectionVars false
set_option maxRecDepth 100000
set_option maxHeartbeats 4000000
namespace Go.Proofs.YtnhmmjogfkjceaaGreatDoor
open Go.Sl
theorem ten_310 {e : Nat} (h : e ≤ 1025) : ∃ k, k = 310 ∧ 2 ^ e ≤ 10 ^ k := by
 obtain ⟨m, hm⟩ : ∃ m : Nat, m = 5 := ⟨_, rfl⟩
 refine ⟨62 * m, by omega, ?_⟩
 refine Nat.le_trans (Nat.pow_le_pow_right (by decide) (show e ≤ 205 * m by omega)) ?_
 rw [Nat.pow_mul, Nat.pow_mul]
 exact Nat.pow_le_pow_left (by decide) m
theorem ten_330 {e : Nat} (h : e ≤ 1090) : ∃ k, k = 330 ∧ 2 ^ e ≤ 10 ^ k := by
 obtain ⟨m, hm⟩ : ∃ m : Nat, m = 10 := ⟨_, rfl⟩
 refine ⟨33 * m, by omega, ?_⟩
 refine Nat.le_trans (Nat.pow_le_pow_right (by decide) (show e ≤ 109 * m by omega)) ?_
 rw [Nat.pow_mul, Nat.pow_mul]
 exact Nat.pow_le_pow_left (by decide) m
theorem nearD_spec {L : Bytes} {P : Int} {S : Nat} (hS : S = 1074) (hd : ∀ c ∈ L, isDig c = true) (hl : L.length ≤ 801) {c : UInt8} {r : Bytes} (hL : L = c :: r) (hc : 49 ≤ c.toNat) :
   isRN (ofD L * 10 ^ P.toNat * 2 ^ S) (10 ^ (-P).toNat) (nearD L P) := by
 have hlo : 10 ^ r.length ≤ ofD L := by rw [hL]; exact ofD_lead hc
 have hhi := ofD_lt _ L rfl fun x hx => isDig_in (hd x hx)
 have hn : L.length = r.length + 1 := by rw [hL]; rfl
 have hne : L ≠ [] := by rw [hL]; simp
 have q10 : ∀ n : Nat, 0 < 10 ^ n := fun n => Nat.pow_pos (by decide)
 have q2 : ∀ n : Nat, 0 < 2 ^ n := fun n => Nat.two_pow_pos n
 by_cases h1 : (L.length : Int) + P < -330
 · rw [nearD_none (.inr h1)]
   apply isRN_none
   rw [show P.toNat = 0 by omega, Nat.pow_zero, Nat.mul_one]
   obtain ⟨k, hk, hp⟩ := ten_330 (e := S + 1) (by omega)
   have e1 : 2 * (ofD L * 2 ^ S) = ofD L * 2 ^ (S + 1) := by rw [Nat.pow_succ, Nat.mul_left_comm, Nat.mul_comm 2]
   have e2 : ofD L * 2 ^ (S + 1) < 10 ^ L.length * 2 ^ (S + 1) := Nat.mul_lt_mul_of_pos_right hhi (q2 _)
   have e3 : 10 ^ L.length * 2 ^ (S + 1) ≤ 10 ^ L.length * 10 ^ k := Nat.mul_le_mul_left _ hp
   rw [← Nat.pow_add] at e3
   have e4 : (10 : Nat) ^ (L.length + k) ≤ 10 ^ (-P).toNat := Nat.pow_le_pow_right (by decide) (by omega)
   omega
 · by_cases h2 : (L.length : Int) + P > 310
   · rw [nearD_inf hne h1 h2]
     apply isRN_inf (q10 _)
     obtain ⟨k, hk, hv⟩ := valF_inf
     obtain ⟨t, ht, hp⟩ := ten_310 (e := k - S) (by omega)
     rw [hv, show k = (k - S) + S by omega, Nat.pow_add, ← Nat.mul_assoc]
     refine Nat.mul_le_mul_right _ ?_
     refine Nat.le_trans (Nat.mul_le_mul_left _ hp) ?_
     rw [← Nat.pow_add]
     refine Nat.le_trans ?_ (Nat.mul_le_mul_right _ hlo)
     rw [← Nat.pow_add]
     exact Nat.pow_le_pow_right (by decide) (by omega)
   · rw [nearD_some hne h1 h2, Nat.one_mul]
     have hdl : ∀ x ∈ L, 48 ≤ x.toNat ∧ x.toNat ≤ 57 := fun x hx => isDig_in (hd x hx)
     have k1 := ofD_tensK (K := L.length) (n := P.toNat) hdl (Nat.le_refl _)
     have hpos : 0 < ofD L := Nat.lt_of_lt_of_le (q10 _) hlo
     exact round_spec (Nat.mul_pos hpos (q10 _)) (q10 _) hS (ten_room (k := L.length + P.toNat) (by omega) k1) (ten_room (k := (-P).toNat) (by omega) (Nat.le_refl _))
theorem nearest_spec {A B : Bytes} {z : Int} {S : Nat} (hS : S = 1074) (hd : ∀ c ∈ A ++ B, isDig c = true) (hl : (A ++ B).length ≤ 800) :
   isRN (ofD (A ++ B) * 10 ^ (z - (B.length : Int)).toNat * 2 ^ S) (10 ^ (-(z - (B.length : Int))).toNat) (nearestP ⟨A, B, z⟩) := by
 unfold nearestP
 simp only []
 have hll : ((A ++ B).dropWhile (· == 48)).length ≤ (A ++ B).length := (List.dropWhile_sublist _).length_le
 rw [cutD_no (by omega)]
 simp only []
 by_cases h : (A ++ B).dropWhile (· == 48) = []
 · have hz : ofD (A ++ B) = 0 := by rw [← ofD_zeros, h]; rfl
   rw [hz, h, nearD_none (.inl rfl)]
   apply isRN_none
   simp only [Nat.zero_mul, Nat.mul_zero]
   exact Nat.pow_pos (by decide)
 · obtain ⟨c, r, e⟩ : ∃ c r, (A ++ B).dropWhile (· == 48) = c :: r := by
     cases hq : (A ++ B).dropWhile (· == 48) with
     | nil => exact absurd hq h
     | cons c r => exact ⟨c, r, rfl⟩
   have hsub : ∀ x ∈ (A ++ B).dropWhile (· == 48), isDig x = true := fun x hx => hd x ((List.dropWhile_sublist _).subset hx)
   have hc : 49 ≤ c.toNat := by
     have h4 := List.head?_dropWhile_not (· == 48) (A ++ B)
     rw [e] at h4
     have hc := isDig_in (hsub c (by rw [e]; exact List.mem_cons_self ..))
     rcases Nat.lt_or_ge 48 c.toNat with q | q
     · exact q
     · have : c = 48 := by apply UInt8.toNat_inj.1; show c.toNat = 48; omega
       rw [this] at h4; simp at h4
   have := nearD_spec (P := z - (B.length : Int)) hS hsub (by omega) e hc
   rw [ofD_zeros] at this
   exact this
theorem back_near {a S : Nat} {D : Bytes} {p : Int} {i j k M d : Nat} {Q : Bytes} (hS : S = 1074) (h : Short a S D p i j k M d Q) {A B : Bytes} {z : Int} {t : Nat}
   (hd : ∀ c ∈ A ++ B, isDig c = true) (hl : (A ++ B).length ≤ 800) (hv : ofD (A ++ B) = ofD D * 10 ^ t) (hz : z - (B.length : Int) + t = p - ((k + 1 : Nat) : Int)) : nearestP ⟨A, B, z⟩ = a := by
 have q10 : ∀ n : Nat, 0 < 10 ^ n := fun n => Nat.pow_pos (by decide)
 refine isRN_uniq (q10 _) (nearest_spec hS hd hl) (isRN_scale (q10 _) (q10 _) ?_ h.near)
 have hp := h.pow
 rw [hv]
 rw [Nat.mul_right_comm _ (2 ^ S), Nat.mul_right_comm _ (2 ^ S)]
 congr 1
 rw [Nat.mul_assoc, Nat.mul_assoc, Nat.mul_assoc, ← Nat.pow_add, ← Nat.pow_add, ← Nat.pow_add]
 congr 2
 omega
def okC (x : UInt8) : Prop := isDig x = true ∨ x = 46 ∨ x = 101 ∨ x = 43 ∨ x = 45
theorem okC.ne {x : UInt8} (h : okC x) : x ≠ 120 ∧ x ≠ 88 ∧ x ≠ 73 := by
 rcases h with q | q | q | q | q
 · have := isDig_ne q; exact ⟨this.2.2.2.2.2.2.1, this.2.2.2.2.2.2.2, this.2.2.2.2.2.1⟩
 all_goals (subst q; decide)
def Tail (T : Bytes) (z : Int) : Prop := (T = [] ∧ z = 0) ∨ ∃ r, T = 101 :: r ∧ powN 0 ((wayP r).2.takeWhile isDig) * (wayP r).1 = z ∧ (wayP r).2.takeWhile isDig ≠ [] ∧ (wayP r).2.dropWhile isDig = [] ∧ ∀ x ∈ r, okC x ∧ x ≠ 46
theorem Tail.ok {T : Bytes} {z : Int} (h : Tail T z) : ∀ x ∈ T, okC x := by
 rcases h with ⟨h, _⟩ | ⟨r, h, _, _, _, hr⟩
 · rw [h]; intro x hx; cases hx
 · rw [h]; intro x hx
   rcases List.mem_cons.1 hx with q | q
   · exact .inr (.inr (.inl q))
   · exact (hr x q).1
section
variable {a S : Nat} {D : Bytes} {p : Int} {i j k M d : Nat} {Q : Bytes} (hS : S = 1074) (h0 : 0 < a) (ha : a < 9218868437227405312) (h : Short a S D p i j k M d Q)
include h
theorem Short.length : D.length = k + 1 := by rw [h.cut, List.length_append, h.len]; rfl
theorem Short.first : ∃ c r, D = c :: r ∧ 49 ≤ c.toNat ∧ isDig c = true := by
  have hd := h.digs
  have hc := h.cut
  cases hQ : Q with
  | nil =>
    rw [hQ] at hc
    have := digC_dig (d := d) (by have := h.last; omega)
    exact ⟨digC d, [], by rw [hc]; rfl, by rw [this.2]; have := h.last; omega, this.1⟩
  | cons c r =>
    rw [hQ, List.cons_append] at hc
    have hcd : isDig c = true := hd c (by rw [hc]; exact List.mem_cons_self ..)
    have hl := h.len
    have hw := h.worth
    rw [hQ] at hl hw
    have hk : k = r.length + 1 := hl.symm
    have hlead := h.lead (by omega)
    rw [← hw, hk, Nat.add_sub_cancel, ofD_cons] at hlead
    have hlt := ofD_lt _ r rfl fun x hx => isDig_in (hd x (by rw [hc]; exact List.mem_cons_of_mem _ (List.mem_append.2 (.inl hx))))
    refine ⟨c, _, hc, ?_, hcd⟩
    have hc2 := isDig_in hcd
    rcases Nat.lt_or_ge 48 c.toNat with q | q
    · exact q
    · rw [show c.toNat - 48 = 0 by omega, Nat.zero_mul, Nat.zero_add] at hlead
      omega
include hS h0 ha
theorem Short.range : -400 ≤ p ∧ p ≤ 400 := by
 obtain ⟨c, r, hD, hc, -⟩ := h.first
 have hlen := h.length
 have hr : r.length = k := by rw [hD] at hlen; simpa using hlen
 have hlo : 10 ^ k ≤ ofD D := by rw [hD, ← hr]; exact ofD_lead hc
 have hhi := ofD_lt _ D rfl fun x hx => isDig_in (h.digs x hx)
 rw [hlen] at hhi
 have hp := h.pow
 have q10 : ∀ n : Nat, 0 < 10 ^ n := fun n => Nat.pow_pos (by decide)
 have q2 : ∀ n : Nat, 0 < 2 ^ n := fun n => Nat.two_pow_pos n
 apply Classical.byContradiction
 intro hn
 rcases Int.lt_or_le 400 p with hb | hb
 · have : isRN (ofD D * 10 ^ i * 2 ^ S) (10 ^ (j + k + 1)) 9218868437227405312 := by
     apply isRN_inf (q10 _)
     obtain ⟨n, hn, hv⟩ := valF_inf
     obtain ⟨t, ht, hp2⟩ := ten_310 (e := n - S) (by omega)
     rw [hv, show n = (n - S) + S by omega, Nat.pow_add 2, ← Nat.mul_assoc]
     refine Nat.mul_le_mul_right _ ?_
     refine Nat.le_trans (Nat.mul_le_mul_left _ hp2) ?_
     rw [← Nat.pow_add]
     refine Nat.le_trans ?_ (Nat.mul_le_mul_right _ hlo)
     rw [← Nat.pow_add]
     exact Nat.pow_le_pow_right (by decide) (by omega)
   have := isRN_uniq (q10 _) h.near this
   omega
 · have : isRN (ofD D * 10 ^ i * 2 ^ S) (10 ^ (j + k + 1)) 0 := by
     apply isRN_none
     obtain ⟨t, ht, hp2⟩ := ten_330 (e := S + 1) (by omega)
     have e1 : 2 * (ofD D * 10 ^ i * 2 ^ S) = ofD D * 10 ^ i * 2 ^ (S + 1) := by rw [Nat.pow_succ, Nat.mul_left_comm, Nat.mul_comm 2]
     have e2 : ofD D * 10 ^ i * 2 ^ (S + 1) < 10 ^ (k + 1) * 10 ^ i * 2 ^ (S + 1) := Nat.mul_lt_mul_of_pos_right (Nat.mul_lt_mul_of_pos_right hhi (q10 _)) (q2 _)
     have e3 : 10 ^ (k + 1) * 10 ^ i * 2 ^ (S + 1) ≤ 10 ^ (k + 1) * 10 ^ i * 10 ^ t := Nat.mul_le_mul_left _ hp2
     rw [← Nat.pow_add, ← Nat.pow_add] at e3
     have e4 : (10 : Nat) ^ (k + 1 + i + t) ≤ 10 ^ (j + k + 1) := Nat.pow_le_pow_right (by decide) (by omega)
     rw [← Nat.pow_add] at e2
     omega
   have := isRN_uniq (q10 _) h.near this
   omega
end
end Go.Proofs.YtnhmmjogfkjceaaGreatDoor
namespace Go.Proofs.YtnhmmjogfkjceaaGreatDoor
open Go.Sl
theorem print_form {a : Nat} (h0 : 0 < a) (ha : a < 9218868437227405312) : printP0 a = formP (shortP a).1 (shortP a).2 := by
 unfold printP0
 rw [if_neg (by omega), if_neg (by omega), if_neg (by omega)]
def mag (a : Nat) : Nat := a % 9223372036854775808
theorem read64 (a : Nat) (ha : a < 18446744073709551616) : Ieee.double.read a =
   if mag a < 4503599627370496 then .number (decide (9223372036854775808 ≤ a)) (mag a) (-1074)
   else if mag a < 9218868437227405312 then .number (decide (9223372036854775808 ≤ a)) (4503599627370496 + mag a % 4503599627370496) (-1074 + (mag a / 4503599627370496 - 1 : Nat))
   else if mag a = 9218868437227405312 then .infinity (decide (9223372036854775808 ≤ a)) else .nan (decide (9223372036854775808 ≤ a)) (mag a - 9218868437227405312) := by
 have hs : (a / 9223372036854775808 % 2 == 1) = decide (9223372036854775808 ≤ a) := by
   rw [Bool.eq_iff_iff]; simp; omega
 unfold Ieee.Format.read
 rw [show Ieee.double.signWeight = 9223372036854775808 from rfl, show Ieee.double.binade = 4503599627370496 from rfl, show Ieee.double.infRung = 9218868437227405312 from rfl, show Ieee.double.leastPlace = -1074 from rfl]
 simp only [hs]
 rfl
theorem read_fin {a : Nat} (ha : a < 18446744073709551616) (h : mag a < 9218868437227405312) : ∃ m k : Nat, Ieee.double.read a = .number (decide (9223372036854775808 ≤ a)) m ((k : Int) - 1074) ∧ valF (mag a) = m * 2 ^ k ∧ m < 9007199254740992 ∧ k ≤ 2045 := by
 rw [read64 a ha]
 by_cases h1 : mag a < 4503599627370496
 · rw [if_pos h1]
   exact ⟨mag a, 0, rfl, by unfold valF; rw [if_pos h1]; simp, by omega, by omega⟩
 · rw [if_neg h1, if_pos h]
   refine ⟨4503599627370496 + mag a % 4503599627370496, mag a / 4503599627370496 - 1, ?_, by unfold valF; rw [if_neg h1, Nat.add_comm], by omega, by omega⟩
   congr 1 <;> omega
theorem valF_pos {a : Nat} (h : 0 < a) : 0 < valF a := by have := valF_mono_lt h; rw [valF_zero] at this; exact this
theorem valF_eq0 {a : Nat} : valF a = 0 ↔ a = 0 := ⟨fun h => by rcases Nat.eq_zero_or_pos a with z | z; exact z; have := valF_pos z; omega, fun h => by rw [h]; rfl⟩
def valZ (a : Nat) : Int := if 9223372036854775808 ≤ a then -(valF (mag a) : Int) else (valF (mag a) : Int)
theorem signed_val {s : Bool} {m k n b : Nat} (hb : b ≤ k) : Ieee.signed s m (k - b) * 2 ^ b = if s = true then -((m * 2 ^ k : Nat) : Int) else ((m * 2 ^ k : Nat) : Int) := by
 have e : ((m <<< (k - b) : Nat) : Int) * 2 ^ b = ((m * 2 ^ k : Nat) : Int) := by
   rw [Nat.shiftLeft_eq, show (2 : Int) ^ b = ((2 ^ b : Nat) : Int) by simp, ← Int.natCast_mul, Nat.mul_assoc, ← Nat.pow_add, show k - b + b = k by omega]
 unfold Ieee.signed
 split
 · rw [Int.neg_mul, e]
 · exact e
theorem order_fin {a b : Nat} (ha : a < 18446744073709551616) (hb : b < 18446744073709551616) (h1 : mag a < 9218868437227405312) (h2 : mag b < 9218868437227405312) : Ieee.double.order a b = some (compare (valZ a) (valZ b)) := by
 obtain ⟨m, k, r1, v1, -, -⟩ := read_fin ha h1
 obtain ⟨n, l, r2, v2, -, -⟩ := read_fin hb h2
 unfold Ieee.Format.order
 rw [r1, r2]
 show some (compare (Ieee.signed _ m (((k : Int) - 1074) - min ((k : Int) - 1074) ((l : Int) - 1074)).toNat) (Ieee.signed _ n (((l : Int) - 1074) - min ((k : Int) - 1074) ((l : Int) - 1074)).toNat)) = _
 obtain ⟨c, hc⟩ : ∃ c : Nat, c = min k l := ⟨_, rfl⟩
 rw [show (((k : Int) - 1074) - min ((k : Int) - 1074) ((l : Int) - 1074)).toNat = k - c by omega, show (((l : Int) - 1074) - min ((k : Int) - 1074) ((l : Int) - 1074)).toNat = l - c by omega]
 have e1 := signed_val (s := decide (9223372036854775808 ≤ a)) (m := m) (k := k) (n := n) (b := c) (by omega)
 have e2 := signed_val (s := decide (9223372036854775808 ≤ b)) (m := n) (k := l) (n := n) (b := c) (by omega)
 have z1 : valZ a = Ieee.signed (decide (9223372036854775808 ≤ a)) m (k - c) * 2 ^ c := by rw [e1]; unfold valZ; rw [v1]; simp only [decide_eq_true_eq]
 have z2 : valZ b = Ieee.signed (decide (9223372036854775808 ≤ b)) n (l - c) * 2 ^ c := by rw [e2]; unfold valZ; rw [v2]; simp only [decide_eq_true_eq]
 rw [z1, z2]
 generalize Ieee.signed (decide (9223372036854775808 ≤ a)) m (k - c) = x
 generalize Ieee.signed (decide (9223372036854775808 ≤ b)) n (l - c) = y
 have hp : (0 : Int) < 2 ^ c := by have := Int.pow_pos (n := 2) (m := c) (by decide); exact this
 congr 1
 have lt : x * 2 ^ c < y * 2 ^ c ↔ x < y := Int.mul_lt_mul_right hp
 have eq : x * 2 ^ c = y * 2 ^ c ↔ x = y := ⟨fun h => Int.eq_of_mul_eq_mul_right (by omega) h, fun h => by rw [h]⟩
 show compareOfLessAndEq x y = compareOfLessAndEq (x * 2 ^ c) (y * 2 ^ c)
 unfold compareOfLessAndEq
 simp only [lt, eq]
theorem order_nan {a b : Nat} (ha : a < 18446744073709551616) (h : mag a > 9218868437227405312) : Ieee.double.order a b = none ∧ Ieee.double.order b a = none := by
 have hr : ∃ s f, Ieee.double.read a = .nan s f := by
   rw [read64 a ha, if_neg (by omega), if_neg (by omega), if_neg (by omega)]
   exact ⟨_, _, rfl⟩
 obtain ⟨s, f, hr⟩ := hr
 unfold Ieee.Format.order
 rw [hr]
 refine ⟨rfl, ?_⟩
 cases Ieee.double.read b <;> rfl
theorem order_inf {a b : Nat} (ha : a < 18446744073709551616) (hb : b < 18446744073709551616) (h : mag a = 9218868437227405312) (h2 : mag b < 9218868437227405312) : Ieee.double.order a b = some (if 9223372036854775808 ≤ a then .lt else .gt) := by
 obtain ⟨m, k, r1, -⟩ := read_fin hb h2
 unfold Ieee.Format.order
 rw [r1, read64 a ha, if_neg (by omega), if_neg (by omega), if_pos h]
 show some (if decide (9223372036854775808 ≤ a) = true then Ordering.lt else .gt) = _
 simp only [decide_eq_true_eq]
theorem order_self {a : Nat} (ha : a < 18446744073709551616) : Ieee.double.order a a = if mag a > 9218868437227405312 then none else some .eq := by
 by_cases h : mag a > 9218868437227405312
 · rw [if_pos h]; exact (order_nan ha h).1
 · rw [if_neg h]
   by_cases h1 : mag a = 9218868437227405312
   · unfold Ieee.Format.order
     rw [read64 a ha, if_neg (by omega), if_neg (by omega), if_pos h1]
     show some (compare _ _) = some .eq
     cases decide (9223372036854775808 ≤ a) <;> rfl
   · rw [order_fin ha ha (by omega) (by omega)]
     congr 1
     show compareOfLessAndEq (valZ a) (valZ a) = .eq
     unfold compareOfLessAndEq
     rw [if_neg (by omega), if_pos rfl]
theorem cmp_eq_iff (x y : Int) : (some (compare x y) == some Ordering.eq) = decide (x = y) ∧ (some (compare x y) == some Ordering.lt) = decide (x < y) ∧ (some (compare x y) == some Ordering.gt) = decide (y < x) := by
 show (some (compareOfLessAndEq x y) == _) = _ ∧ (some (compareOfLessAndEq x y) == _) = _ ∧ (some (compareOfLessAndEq x y) == _) = _
 unfold compareOfLessAndEq
 by_cases h1 : x < y
 · rw [if_pos h1, decide_eq_false (show ¬ x = y by omega), decide_eq_true h1, decide_eq_false (show ¬ y < x by omega)]
   exact ⟨rfl, rfl, rfl⟩
 · rw [if_neg h1]
   by_cases h2 : x = y
   · rw [if_pos h2, decide_eq_true h2, decide_eq_false h1, decide_eq_false (show ¬ y < x by omega)]
     exact ⟨rfl, rfl, rfl⟩
   · rw [if_neg h2, decide_eq_false h2, decide_eq_false h1, decide_eq_true (show y < x by omega)]
     exact ⟨rfl, rfl, rfl⟩
theorem valZ_0 : valZ 0 = 0 := rfl
theorem f_nan {a : Nat} (ha : a < 18446744073709551616) : (Ieee.double.order a a != some .eq) = decide (mag a > 9218868437227405312) := by
 rw [order_self ha]
 by_cases h : mag a > 9218868437227405312
 · rw [if_pos h, decide_eq_true h]; rfl
 · rw [if_neg h, decide_eq_false h]; rfl
end Go.Proofs.YtnhmmjogfkjceaaGreatDoor
namespace Go.Proofs.YtnhmmjogfkjceaaGreatDoor
open Go Go.Sl
section
variable {P : Program} {ρ : Fr} {δ : Nat → Value} {w : World} {dst : Option Tmp} {t t2 ty : TypeId} {x y : Operand} {pos : String} {after : Array Edge} {gd : Option (Nat × Bool)} {a b : Nat} {r : Bool}
theorem run_fne (h : (Ieee.double.order a b != some .eq) = r) (hx : ev δ ρ x = .float .f64 a) (hy : ev δ ρ y = .float .f64 b) : (execOp (ev δ ρ) ⟨dst, .binOp .neq t x y t2, ty, pos, after, gd⟩).run P w = .ok (.value (.bool r)) w := by
 simp only [execOp, hx, hy, Sem.run_bind]
 rw [← h]
 rfl
theorem run_fle (h : (Ieee.double.order a b == some .lt || Ieee.double.order a b == some .eq) = r) (hx : ev δ ρ x = .float .f64 a) (hy : ev δ ρ y = .float .f64 b) : (execOp (ev δ ρ) ⟨dst, .binOp .leq t x y t2, ty, pos, after, gd⟩).run P w = .ok (.value (.bool r)) w := by
 simp only [execOp, hx, hy, Sem.run_bind]
 rw [← h]
 rfl
theorem run_fgt (h : (Ieee.double.order a b == some .gt) = r) (hx : ev δ ρ x = .float .f64 a) (hy : ev δ ρ y = .float .f64 b) : (execOp (ev δ ρ) ⟨dst, .binOp .gtr t x y t2, ty, pos, after, gd⟩).run P w = .ok (.value (.bool r)) w := by
 simp only [execOp, hx, hy, Sem.run_bind]
 rw [← h]
 rfl
end
end Go.Proofs.YtnhmmjogfkjceaaGreatDoor
namespace Go.Proofs.YtnhmmjogfkjceaaGreatDoor
open Go.Sl
end Go.Proofs.YtnhmmjogfkjceaaGreatDoor
namespace Go.Proofs.YtnhmmjogfkjceaaGreatDoor
open Go.Sl

theorem r1_Val {W0 : World} {a : Nat} : SC Tryz.prog W0 12 #[.int .u64 (a : Int)] [] (Ret (fun _ : Unit => []) (fun v _ => v = .float .f64 a)) := by
 refine SC_body (fn := Tryz.f12) (n := 5) Tryz.func12 rfl (by kernel_rfl) (ρ := [(0, .int .u64 (a : Int))]) rfl ?_
 refine sr ?_
 refine os 1 ?_
 refine nsr ?_
 refine os 1 ?_
 refine oV (.float .f64 a) ?_
 refine os 1 ?_
 refine nt ?_
 refine SW_ret ?_
 refine body_end (.float .f64 a) (fun _ => rfl) ?_
 exact ⟨(), ow, rfl⟩

def ofP (a : Nat) : Nat := if mag a > 9218868437227405312 then 9221120237041090560 else a
theorem r1_Of {W0 : World} {a : Nat} (ha : a < 18446744073709551616) : SC Tryz.prog W0 13 #[.float .f64 a] [] (Ret (fun _ : Unit => []) (fun v _ => v = .int .u64 (ofP a : Int))) := by
 refine SC_body (fn := Tryz.f13) (n := 8) Tryz.func13 rfl (by kernel_rfl) (ρ := [(0, .float .f64 a)]) rfl ?_
 refine sr ?_
 refine os 1 ?_
 refine nq ?_
 refine sr ?_
 refine os 2 ?_
 refine oV (.bool (decide (mag a > 9218868437227405312))) ?_ (hs := (fun δ w_ => run_fne (f_nan ha) rfl rfl))
 refine nt ?_
 refine cdp (fun hc1 : mag a > 9218868437227405312 => ?_) (fun hc1 => ?_)
 ·refine sr ?_
  refine os 1 ?_
  refine nt ?_
  refine SW_ret (r_then ?_)
  refine body_end (.int .u64 9221120237041090560) (fun _ => rfl) ?_
  exact ⟨(), ow, by unfold ofP; rw [if_pos hc1]; rfl⟩
 refine SW_skip (n_then ?_)
 refine sr ?_
 refine os 1 ?_
 refine oV (.int .u64 (a : Int)) ?_
 refine os 1 ?_
 refine kp [2, 5, 0] ?_
 refine nt ?_
 refine SW_ret ?_
 refine body_end (.int .u64 (a : Int)) (fun _ => rfl) ?_
 exact ⟨(), ow, by unfold ofP; rw [if_neg hc1]⟩

theorem wf_u64 {n : Int} (h : (Lit.int .u64 n).wf = true) : 0 ≤ n ∧ n < 18446744073709551616 := by
 simp [Lit.wf, IntKind.min, IntKind.max, IntKind.bits, IntKind.signed] at h
 omega
end Go.Proofs.YtnhmmjogfkjceaaGreatDoor
namespace Go.Proofs.YtnhmmjogfkjceaaGreatDoor
open Go.Sl
end Go.Proofs.YtnhmmjogfkjceaaGreatDoor
namespace Go.Proofs.YtnhmmjogfkjceaaGreatDoor
open Go.Sl
end Go.Proofs.YtnhmmjogfkjceaaGreatDoor
namespace Go.Proofs.YtnhmmjogfkjceaaGreatDoor
open Go.Sl
end Go.Proofs.YtnhmmjogfkjceaaGreatDoor
namespace Go.Proofs.YtnhmmjogfkjceaaGreatDoor
open Go.Sl
theorem is46 {c : UInt8} (h : (c.toNat : Int) = 46) : c = 46 := (u8_eq (n := 46) (by decide)).1 h
theorem no46 {c : UInt8} (h : ¬ (c.toNat : Int) = 46) : ¬ c = 46 := fun q => h ((u8_eq (n := 46) (by decide)).2 q)
theorem is48 {c : UInt8} (h : (c.toNat : Int) = 48) : c = 48 := (u8_eq (n := 48) (by decide)).1 h
theorem no48 {c : UInt8} (h : ¬ (c.toNat : Int) = 48) : ¬ c = 48 := fun q => h ((u8_eq (n := 48) (by decide)).2 q)
theorem is101 {c : UInt8} (h : (c.toNat : Int) = 101) : c = 101 := (u8_eq (n := 101) (by decide)).1 h
theorem fold_step {α : Type} {f : α → UInt8 → α} {a : α} {X : Bytes} {i : Nat} {c : UInt8} (h : X[i]? = some c) : (X.take (i + 1)).foldl f a = f ((X.take i).foldl f a) c := by
 rw [List.take_add_one, h, List.foldl_append]; rfl
theorem dig_ne46 {c : UInt8} (h : isDig c = true) : c ≠ 46 := (isDig_ne h).2.2.1
end Go.Proofs.YtnhmmjogfkjceaaGreatDoor
namespace Go.Proofs.YtnhmmjogfkjceaaGreatDoor
open Go.Sl
theorem len_snoc (d : Bytes) (e : UInt8) : (d ++ [e]).length = d.length + 1 := by rw [List.length_append]; rfl
theorem rep48 : ∀ n : Nat, Lib.repeatL [48] n = List.replicate n (48 : UInt8)
 | 0 => rfl
 | n + 1 => by rw [Lib.repeatL, rep48 n, List.replicate_succ]; rfl
theorem atoi_tab : ∀ n : Fin 841, (match Lib.atoiAll (Lib.itoa ((n.val : Int) - 420)) with | .ok m => decide (m = (n.val : Int) - 420) | _ => false) = true := by decide +kernel
theorem atoi_tab2 : ∀ n : Fin 421, (match Lib.atoiAll (43 :: Lib.itoa (n.val : Int)) with | .ok m => decide (m = (n.val : Int)) | _ => false) = true := by decide +kernel
theorem atoi_itoa {z : Int} (h1 : -420 ≤ z) (h2 : z ≤ 420) : Lib.atoiAll (Lib.itoa z) = .ok z := by
 have := atoi_tab ⟨(z + 420).toNat, by omega⟩
 simp only [show (((z + 420).toNat : Nat) : Int) - 420 = z by omega] at this
 split at this
 · next m h => rw [h, of_decide_eq_true this]
 · cases this
theorem atoi_plus {z : Int} (h1 : 0 ≤ z) (h2 : z ≤ 420) : Lib.atoiAll (43 :: Lib.itoa z) = .ok z := by
 have := atoi_tab2 ⟨z.toNat, by omega⟩
 simp only [show ((z.toNat : Nat) : Int) = z by omega] at this
 split at this
 · next m h => rw [h, of_decide_eq_true this]
 · cases this
structure Form (X D : Bytes) (p : Int) (A F B T : Bytes) (z : Int) (x y : Nat) : Prop where
  text : X = A ++ (F ++ T)
  ahead : ∀ c ∈ A, isDig c = true
  behind : ∀ c ∈ B, isDig c = true
  point : (F = [] ∧ B = []) ∨ F = 46 :: B
  tail : (T = [] ∧ z = 0) ∨ ∃ r, T = 101 :: r ∧ Lib.atoiAll r = .ok z ∧ -420 ≤ z ∧ z ≤ 420
  digits : A ++ B = List.replicate x 48 ++ (D ++ List.replicate y 48)
  place : (A.length : Int) - x + z = p
theorem form_form {D : Bytes} {p : Int} (hD : ∀ c ∈ D, isDig c = true) (hne : D ≠ []) (hp : -400 ≤ p ∧ p ≤ 400) : ∃ A F B T z x y, Form (formP D p) D p A F B T z x y := by
 have hl := List.length_pos_iff.2 hne
 have tk : ∀ n, ∀ c ∈ D.take n, isDig c = true := fun n c hc => hD c (List.mem_of_mem_take hc)
 have dr : ∀ n, ∀ c ∈ D.drop n, isDig c = true := fun n c hc => hD c (List.mem_of_mem_drop hc)
 have zz : ∀ n, ∀ c ∈ List.replicate n (48 : UInt8), isDig c = true := fun n c hc => by rw [List.eq_of_mem_replicate hc]; rfl
 by_cases h1 : p ≥ (D.length : Int) ∧ p ≤ 21
 · refine ⟨D ++ List.replicate (p - (D.length : Int)).toNat 48, [], [], [], 0, 0, (p - (D.length : Int)).toNat, ⟨?_, ?_, (fun c hc => by cases hc), .inl ⟨rfl, rfl⟩, .inl ⟨rfl, rfl⟩, by simp, ?_⟩⟩
   · rw [form_a h1.1 h1.2, rep48]; simp
   · intro c hc
     exact (List.mem_append.1 hc).elim (hD c) (zz _ c)
   · rw [List.length_append, List.length_replicate]; omega
 · by_cases h2 : p > 0 ∧ p ≤ 21
   · refine ⟨D.take p.toNat, 46 :: D.drop p.toNat, D.drop p.toNat, [], 0, 0, 0, ⟨?_, tk _, dr _, .inr rfl, .inl ⟨rfl, rfl⟩, by simp, ?_⟩⟩
     · rw [form_b h1 h2.1 h2.2]; simp
     · rw [List.length_take]; omega
   · by_cases h3 : p > -6 ∧ p ≤ 0
     · refine ⟨[48], 46 :: (List.replicate (-p).toNat 48 ++ D), List.replicate (-p).toNat 48 ++ D, [], 0, (-p).toNat + 1, 0, ⟨?_, ?_, ?_, .inr rfl, .inl ⟨rfl, rfl⟩, ?_, ?_⟩⟩
       · rw [form_c h1 h3.1 h3.2, rep48]; simp
       · intro c hc; rw [List.mem_singleton.1 hc]; rfl
       · intro c hc; exact (List.mem_append.1 hc).elim (zz _ c) (hD c)
       · rw [List.replicate_succ]; simp
       · simp only [List.length_cons, List.length_nil]; omega
     · obtain ⟨T, hT, hX⟩ : ∃ T, ((T = [] ∧ p - 1 = 0) ∨ ∃ r, T = 101 :: r ∧ Lib.atoiAll r = .ok (p - 1) ∧ -420 ≤ p - 1 ∧ p - 1 ≤ 420) ∧ formP D p = expo D ++ T := by
         by_cases h4 : p > 0
         · exact ⟨101 :: 43 :: Lib.itoa (p - 1), .inr ⟨_, rfl, atoi_plus (by omega) (by omega), by omega, by omega⟩, by rw [form_d h1 h2 h3 h4]; simp⟩
         · exact ⟨101 :: Lib.itoa (p - 1), .inr ⟨_, rfl, atoi_itoa (by omega) (by omega), by omega, by omega⟩, by rw [form_e h1 h2 h3 h4]; simp⟩
       by_cases h5 : (D.length : Int) > 1
       · refine ⟨D.take 1, 46 :: D.drop 1, D.drop 1, T, p - 1, 0, 0, ⟨?_, tk _, dr _, .inr rfl, hT, ?_, ?_⟩⟩
         · rw [hX, expo_t h5]; simp
         · rw [List.take_append_drop]; simp
         · rw [List.length_take]; omega
       · refine ⟨D, [], [], T, p - 1, 0, 0, ⟨?_, hD, (fun c hc => by cases hc), .inl ⟨rfl, rfl⟩, hT, by simp, by omega⟩⟩
         rw [hX, expo_f h5]; simp
theorem form_no101 {A F B : Bytes} (hA : ∀ c ∈ A, isDig c = true) (hB : ∀ c ∈ B, isDig c = true) (hF : (F = [] ∧ B = []) ∨ F = 46 :: B) : ∀ c ∈ A ++ F, c ≠ 101 := by
 intro c hc
 rcases List.mem_append.1 hc with q | q
 · exact (isDig_ne (hA c q)).2.2.2.1
 · rcases hF with ⟨z, -⟩ | z
   · rw [z] at q; cases q
   · rw [z] at q
     rcases List.mem_cons.1 q with y | y
     · rw [y]; decide
     · exact (isDig_ne (hB c y)).2.2.2.1
def sstep (st : Bytes × Int) (c : UInt8) : Bytes × Int := if c = 46 then (st.1, (st.1.length : Int)) else (st.1 ++ [c], st.2)
theorem s_fold : ∀ (A : Bytes) (d : Bytes) (t : Int), (∀ c ∈ A, isDig c = true) → A.foldl sstep (d, t) = (d ++ A, t)
 | [], d, t, h => by simp
 | c :: r, d, t, h => by
   rw [List.foldl_cons]
   have : sstep (d, t) c = (d ++ [c], t) := by unfold sstep; rw [if_neg (dig_ne46 (h c List.mem_cons_self))]
   rw [this, s_fold r _ _ fun x hx => h x (List.mem_cons_of_mem _ hx)]
   simp
theorem split_fold {A F B : Bytes} (hA : ∀ c ∈ A, isDig c = true) (hB : ∀ c ∈ B, isDig c = true) (hF : (F = [] ∧ B = []) ∨ F = 46 :: B) : (A ++ F).foldl sstep ([], -1) = (A ++ B, if F = [] then -1 else (A.length : Int)) := by
 rw [List.foldl_append, s_fold A [] (-1) hA, List.nil_append]
 rcases hF with ⟨z, y⟩ | z
 · rw [z, y]; simp
 · rw [z, List.foldl_cons]
   have : sstep (A, -1) 46 = (A, (A.length : Int)) := by unfold sstep; rw [if_pos rfl]
   rw [this, s_fold B _ _ hB, if_neg (by simp)]
theorem rep_head {x : Nat} {Y : Bytes} {u : Nat} {c : UInt8} (hu : u ≤ x) (hY : ∀ d, Y[0]? = some d → d ≠ 48) (h : ((List.replicate x 48 ++ Y).drop u)[0]? = some c) : c = 48 ↔ u < x := by
 rw [List.drop_append_of_le_length (by rw [List.length_replicate]; exact hu), List.drop_replicate] at h
 constructor
 · intro hc
   rcases Nat.lt_or_ge u x with q | q
   · exact q
   · rw [show x - u = 0 by omega] at h
     exact absurd hc (hY c h)
 · intro hl
   rw [show x - u = (x - u - 1) + 1 by omega, List.replicate_succ] at h
   simpa using h.symm
theorem rep_last {y : Nat} {D : Bytes} {c : UInt8} {n : Nat} (hn : n = (D ++ List.replicate y (48 : UInt8)).length - 1) (hD : ∀ d, D[D.length - 1]? = some d → d ≠ 48) (h : (D ++ List.replicate y (48 : UInt8))[n]? = some c) : c = 48 ↔ 0 < y := by
 rw [List.length_append, List.length_replicate] at hn
 constructor
 · intro hc
   rcases Nat.eq_zero_or_pos y with q | q
   · subst q
     rw [List.replicate_zero, List.append_nil] at h
     exact absurd hc (hD c (by rw [show D.length - 1 = n by omega]; exact h))
   · exact q
 · intro hy
   rw [List.getElem?_append_right (by omega), List.getElem?_replicate] at h
   split at h
   · exact (Option.some.inj h).symm
   · cases h
theorem rep_cut {y : Nat} {D : Bytes} (hy : 0 < y) {n : Nat} (hn : n = (D ++ List.replicate y (48 : UInt8)).length - 1) : (D ++ List.replicate y (48 : UInt8)).take n = D ++ List.replicate (y - 1) 48 := by
 rw [List.length_append, List.length_replicate] at hn
 rw [List.take_append, List.take_of_length_le (by omega), List.take_replicate, show min (n - D.length) y = y - 1 by omega]
section
variable {a S : Nat} {D : Bytes} {p : Int} {i j k M d : Nat} {Q : Bytes}
theorem short_last (h : Short a S D p i j k M d Q) : ∀ c, D[D.length - 1]? = some c → c ≠ 48 := by
 intro c hc
 have hd := h.last
 have hl : D.length - 1 = Q.length := by rw [h.cut, List.length_append]; rfl
 rw [hl, h.cut, List.getElem?_append_right (Nat.le_refl _), Nat.sub_self] at hc
 have : c = digC d := by simpa using hc.symm
 rw [this]
 intro q
 have := (digC_dig (show d < 10 by omega)).2
 rw [q] at this
 have h48 : (48 : UInt8).toNat = 48 := rfl
 omega
theorem short_head (h : Short a S D p i j k M d Q) : ∀ c, D[0]? = some c → c ≠ 48 := by
 intro c hc q
 obtain ⟨e, r, h1, h2, -⟩ := h.first
 rw [h1] at hc
 have : e = c := by simpa using hc
 rw [this, q] at h2
 exact absurd h2 (by decide)
theorem read_short (hS : S = 1074) (h0 : 0 < a) (ha : a < 9218868437227405312) (h : Short a S D p i j k M d Q) : readP ((D ++ [101]) ++ Lib.itoa (p - (D.length : Int))) = a := by
 have hr := Short.range hS h0 ha h
 have hl := h.length
 have hk := h.few
 rw [points_a h.digs (by intro z; rw [z] at hl; simp at hl) (by omega) (by omega)]
 exact back_near hS h (A := D) (B := []) (z := p - (D.length : Int)) (t := 0) (by rw [List.append_nil]; exact h.digs) (by rw [List.append_nil]; omega) (by rw [List.append_nil]; simp) (by simp; omega)
theorem short_rn {R : Bytes} {N : Nat} (hS : S = 1074) (h0 : 0 < a) (ha : a < 9218868437227405312) (h : Short a S D p i j k M d Q) (hk : 0 < k) (hR : ∀ c ∈ R, isDig c = true) (hne : R ≠ []) (hl : R.length ≤ 40) (hN : ofD R = N) : isRN (N * 10 ^ i * 2 ^ S) (10 ^ (j + k)) (readP ((R ++ [101]) ++ Lib.itoa (p - (k : Int)))) := by
 have hr := Short.range hS h0 ha h
 have hf := h.few
 have hp := h.pow
 rw [points_a hR hne (by omega) (by omega)]
 have q10 : ∀ n : Nat, 0 < 10 ^ n := fun n => Nat.pow_pos (by decide)
 have h1 := nearest_spec (A := R) (B := []) (z := p - (k : Int)) hS (by rw [List.append_nil]; exact hR) (by rw [List.append_nil]; omega)
 rw [List.append_nil, hN, List.length_nil] at h1
 refine isRN_scale (q10 _) (q10 _) ?_ h1
 rw [Nat.mul_right_comm _ (2 ^ S), Nat.mul_right_comm _ (2 ^ S)]
 congr 1
 rw [Nat.mul_assoc, Nat.mul_assoc, ← Nat.pow_add, ← Nat.pow_add]
 congr 2
 omega
theorem read_less {z : Int} (hS : S = 1074) (h0 : 0 < a) (ha : a < 9218868437227405312) (h : Short a S D p i j k M d Q) (hk : 0 < k) (hz : z = p - (k : Int)) : readP ((Q ++ [101]) ++ Lib.itoa z) ≠ a := by
 intro e
 have hlen := h.len
 have := short_rn hS h0 ha h hk (R := Q) (N := M) (fun c hc => h.digs c (by rw [h.cut]; exact List.mem_append_left _ hc)) (by intro z; rw [z] at hlen; simp at hlen; omega) (by have := h.few; omega) h.worth
 rw [← hz, e] at this
 exact h.less this
theorem read_more {R : Bytes} {z : Int} (hS : S = 1074) (h0 : 0 < a) (ha : a < 9218868437227405312) (h : Short a S D p i j k M d Q) (hk : 0 < k) (hR : ∀ c ∈ R, isDig c = true) (hne : R ≠ []) (hl : R.length ≤ k + 1) (hN : ofD R = ofD Q + 1) (hz : z = p - (k : Int)) : readP ((R ++ [101]) ++ Lib.itoa z) ≠ a := by
 intro e
 have := short_rn hS h0 ha h hk (R := R) (N := M + 1) hR hne (by have := h.few; omega) (by rw [hN, h.worth])
 rw [← hz, e] at this
 exact h.more this
end
theorem raise_step {X out : Bytes} {j carry : Nat} {c : UInt8} (h : X[j]? = some c) (hd : 48 ≤ c.toNat ∧ c.toNat ≤ 57) (hl : out.length + (j + 1) = X.length) (hc : carry ≤ 1) (hv : ofD out + carry * 10 ^ out.length = ofD (X.drop (j + 1)) + 1) :
   ofD (digC ((c.toNat - 48 + carry) % 10) :: out) + (c.toNat - 48 + carry) / 10 * 10 ^ (out.length + 1) = ofD (X.drop j) + 1 := by
 rw [drop_at h, ofD_cons, ofD_cons, (digC_dig (show (c.toNat - 48 + carry) % 10 < 10 by omega)).2, show (X.drop (j + 1)).length = out.length by rw [List.length_drop]; omega, Nat.pow_succ]
 have e : 48 + (c.toNat - 48 + carry) % 10 - 48 = (c.toNat - 48 + carry) % 10 := by omega
 rw [e]
 obtain ⟨P, hP⟩ : ∃ P, P = 10 ^ out.length := ⟨_, rfl⟩
 rw [← hP] at hv ⊢
 have e2 : (c.toNat - 48 + carry) % 10 * P + (c.toNat - 48 + carry) / 10 * (P * 10) = (c.toNat - 48 + carry) * P := by
   rw [Nat.mul_comm P 10, ← Nat.mul_assoc, ← Nat.add_mul]
   congr 1
   omega
 have e3 : (c.toNat - 48 + carry) * P = (c.toNat - 48) * P + carry * P := Nat.add_mul ..
 rw [e3] at e2
 generalize (c.toNat - 48 + carry) % 10 * P = U at *
 generalize (c.toNat - 48 + carry) / 10 * (P * 10) = V at *
 generalize (c.toNat - 48) * P = T at *
 generalize carry * P = R at *
 clear hl hd hc h
 omega
end Go.Proofs.YtnhmmjogfkjceaaGreatDoor
namespace Go.Proofs
open Go.Shelf
def Tryz.laysC172_ren : Go.Shelf.Ren := ⟨fun | 172 => 50 | 244 => 109 | 245 => 110 | 247 => 148 | 279 => 149 | 280 => 150 | 281 => 151 | 282 => 152 | 287 => 176 | 316 => 177 | 171 => 38 | 205 => 178 | 321 => 188 | 322 => 189 | 243 => 84 | 246 => 45 | 283 => 101 | 284 => 102 | 285 => 103 | 286 => 104 | 129 => 137 | 317 => 136 | 318 => 138 | 319 => 139 | 320 => 140 | 337 => 168 | 338 => 169 | n => n, fun | 9 => 9 | 3 => 3 | 75 => 71 | 76 => 72 | 4 => 4 | 5 => 5 | 167 => 157 | 37 => 95 | 0 => 0 | 85 => 158 | 2 => 2 | 168 => 160 | 53 => 29 | 175 => 175 | 46 => 67 | 210 => 178 | 127 => 135 | 145 => 199 | 143 => 197 | 21 => 21 | 171 => 115 | 173 => 117 | 212 => 144 | 51 => 87 | 20 => 20 | 213 => 145 | 232 => 189 | 233 => 190 | 80 => 99 | n => n, fun | 15 => 4 | 16 => 5 | 17 => 1 | 18 => 9 | 19 => 10 | n => n⟩
theorem Tryz.laysC172 : Go.Proofs.LaysC.n172 Tryz.prog Tryz.laysC172_ren := {
 mixed := by kernel_rfl
 f129 := Tryz.func137.trans (congrArg some (by kernel_rfl))
 f171 := Tryz.func38.trans (congrArg some (by kernel_rfl))
 f172 := Tryz.func50.trans (congrArg some (by kernel_rfl))
 f205 := Tryz.func178.trans (congrArg some (by kernel_rfl))
 f243 := Tryz.func84.trans (congrArg some (by kernel_rfl))
 f244 := Tryz.func109.trans (congrArg some (by kernel_rfl))
 f245 := Tryz.func110.trans (congrArg some (by kernel_rfl))
 f246 := Tryz.func45.trans (congrArg some (by kernel_rfl))
 f247 := Tryz.func148.trans (congrArg some (by kernel_rfl))
 f279 := Tryz.func149.trans (congrArg some (by kernel_rfl))
 f280 := Tryz.func150.trans (congrArg some (by kernel_rfl))
 f281 := Tryz.func151.trans (congrArg some (by kernel_rfl))
 f282 := Tryz.func152.trans (congrArg some (by kernel_rfl))
 f283 := Tryz.func101.trans (congrArg some (by kernel_rfl))
 f284 := Tryz.func102.trans (congrArg some (by kernel_rfl))
 f285 := Tryz.func103.trans (congrArg some (by kernel_rfl))
 f286 := Tryz.func104.trans (congrArg some (by kernel_rfl))
 f287 := Tryz.func176.trans (congrArg some (by kernel_rfl))
 f316 := Tryz.func177.trans (congrArg some (by kernel_rfl))
 f317 := Tryz.func136.trans (congrArg some (by kernel_rfl))
 f318 := Tryz.func138.trans (congrArg some (by kernel_rfl))
 f319 := Tryz.func139.trans (congrArg some (by kernel_rfl))
 f320 := Tryz.func140.trans (congrArg some (by kernel_rfl))
 f321 := Tryz.func188.trans (congrArg some (by kernel_rfl))
 f322 := Tryz.func189.trans (congrArg some (by kernel_rfl))
 f337 := Tryz.func168.trans (congrArg some (by kernel_rfl))
 f338 := Tryz.func169.trans (congrArg some (by kernel_rfl))
 t0 := Tryz.underlying0
 a0 := Tryz.isAgg0
 z0 := Tryz.sizeOf0
 v0 := Tryz.zeroValue0
 t2 := Tryz.underlying2
 a2 := Tryz.isAgg2
 z2 := Tryz.sizeOf2
 v2 := Tryz.zeroValue2
 t3 := Tryz.underlying3
 a3 := Tryz.isAgg3
 z3 := Tryz.sizeOf3
 v3 := Tryz.zeroValue3
 t4 := Tryz.underlying4
 a4 := Tryz.isAgg4
 z4 := Tryz.sizeOf4
 v4 := Tryz.zeroValue4
 t5 := Tryz.underlying5
 a5 := Tryz.isAgg5
 z5 := Tryz.sizeOf5
 v5 := Tryz.zeroValue5
 t9 := Tryz.underlying9
 a9 := Tryz.isAgg9
 z9 := Tryz.sizeOf9
 v9 := Tryz.zeroValue9
 t20 := Tryz.underlying20
 a20 := Tryz.isAgg20
 z20 := Tryz.sizeOf20
 v20 := Tryz.zeroValue20
 t21 := Tryz.underlying21
 a21 := Tryz.isAgg21
 z21 := Tryz.sizeOf21
 v21 := Tryz.zeroValue21
 t37 := Tryz.underlying95
 a37 := Tryz.isAgg95
 z37 := Tryz.sizeOf95
 v37 := Tryz.zeroValue95
 t46 := Tryz.underlying67
 a46 := Tryz.isAgg67
 z46 := Tryz.sizeOf67
 v46 := Tryz.zeroValue67
 t51 := Tryz.underlying87
 a51 := Tryz.isAgg87
 z51 := Tryz.sizeOf87
 v51 := Tryz.zeroValue87
 t53 := Tryz.underlying29
 a53 := Tryz.isAgg29
 z53 := Tryz.sizeOf29
 v53 := Tryz.zeroValue29
 t75 := Tryz.underlying71
 a75 := Tryz.isAgg71
 z75 := Tryz.sizeOf71
 v75 := Tryz.zeroValue71
 t76 := Tryz.underlying72
 a76 := Tryz.isAgg72
 z76 := Tryz.sizeOf72
 v76 := Tryz.zeroValue72
 t85 := Tryz.underlying158
 a85 := Tryz.isAgg158
 z85 := Tryz.sizeOf158
 v85 := Tryz.zeroValue158
 t127 := Tryz.underlying135
 a127 := Tryz.isAgg135
 z127 := Tryz.sizeOf135
 v127 := Tryz.zeroValue135
 t143 := Tryz.underlying197
 a143 := Tryz.isAgg197
 z143 := Tryz.sizeOf197
 v143 := Tryz.zeroValue197
 t145 := Tryz.underlying199
 a145 := Tryz.isAgg199
 z145 := Tryz.sizeOf199
 v145 := Tryz.zeroValue199
 t167 := Tryz.underlying157
 a167 := Tryz.isAgg157
 z167 := Tryz.sizeOf157
 v167 := Tryz.zeroValue157
 t168 := Tryz.underlying160
 a168 := Tryz.isAgg160
 z168 := Tryz.sizeOf160
 v168 := Tryz.zeroValue160
 t171 := Tryz.underlying115
 a171 := Tryz.isAgg115
 z171 := Tryz.sizeOf115
 v171 := Tryz.zeroValue115
 t173 := Tryz.underlying117
 a173 := Tryz.isAgg117
 z173 := Tryz.sizeOf117
 v173 := Tryz.zeroValue117
 t175 := Tryz.underlying175
 a175 := Tryz.isAgg175
 z175 := Tryz.sizeOf175
 v175 := Tryz.zeroValue175
 t210 := Tryz.underlying178
 a210 := Tryz.isAgg178
 z210 := Tryz.sizeOf178
 v210 := Tryz.zeroValue178
 t212 := Tryz.underlying144
 a212 := Tryz.isAgg144
 z212 := Tryz.sizeOf144
 v212 := Tryz.zeroValue144
 t213 := Tryz.underlying145
 a213 := Tryz.isAgg145
 z213 := Tryz.sizeOf145
 t232 := Tryz.underlying189
 a232 := Tryz.isAgg189
 z232 := Tryz.sizeOf189
 v232 := Tryz.zeroValue189
 t233 := Tryz.underlying190
 a233 := Tryz.isAgg190
 z233 := Tryz.sizeOf190
 v233 := Tryz.zeroValue190
 g15 := by kernel_rfl
 g16 := by kernel_rfl
 g17 := by kernel_rfl
 g18 := by kernel_rfl
 g19 := by kernel_rfl
 t80 := Tryz.underlying99
 a80 := Tryz.isAgg99
 z80 := Tryz.sizeOf99
 v80 := Tryz.zeroValue99
 i0 := by kernel_rfl
 i2 := by kernel_rfl
 i3 := by kernel_rfl
 i4 := by kernel_rfl
 i5 := by kernel_rfl
 i9 := by kernel_rfl
 i20 := by kernel_rfl
 i21 := by kernel_rfl
 i37 := by kernel_rfl
 i46 := by kernel_rfl
 i51 := by kernel_rfl
 i53 := by kernel_rfl
 i75 := by kernel_rfl
 i76 := by kernel_rfl
 i80 := by kernel_rfl
 i85 := by kernel_rfl
 i127 := by kernel_rfl
 i143 := by kernel_rfl
 i145 := by kernel_rfl
 i167 := by kernel_rfl
 i168 := by kernel_rfl
 i171 := by kernel_rfl
 i173 := by kernel_rfl
 i175 := by kernel_rfl
 i210 := by kernel_rfl
 i212 := by kernel_rfl
 i232 := by kernel_rfl
 i233 := by kernel_rfl
 m15 := by kernel_rfl
 m16 := by kernel_rfl
 m17 := by kernel_rfl
 m18 := by kernel_rfl
 m19 := by kernel_rfl
 c0 := by kernel_rfl
 c2 := by kernel_rfl
 c3 := by kernel_rfl
 c4 := by kernel_rfl
 c5 := by kernel_rfl
 c9 := by kernel_rfl
 c20 := by kernel_rfl
 c21 := by kernel_rfl
 c37 := by kernel_rfl
 c46 := by kernel_rfl
 c51 := by kernel_rfl
 c53 := by kernel_rfl
 c75 := by kernel_rfl
 c76 := by kernel_rfl
 c80 := by kernel_rfl
 c85 := by kernel_rfl
 c127 := by kernel_rfl
 c143 := by kernel_rfl
 c145 := by kernel_rfl
 c167 := by kernel_rfl
 c168 := by kernel_rfl
 c171 := by kernel_rfl
 c173 := by kernel_rfl
 c175 := by kernel_rfl
 c210 := by kernel_rfl
 c212 := by kernel_rfl
 c213 := by kernel_rfl
 c232 := by kernel_rfl
 c233 := by kernel_rfl }
end Go.Proofs
namespace Go.Proofs.YtnhmmjogfkjceaaGreatDoor
open Go.Sl Go.RowKit
theorem str_AtoiN {W0 : World} {σ : Heaplet} (s : List UInt8) {n : Int} (h : Lib.atoiAll s = .ok n) (hs : s.length ≤ 1048576) : SC Tryz.prog W0 50 #[.string (bS s)] σ (Ret (fun _ : Unit => σ) (fun v _ => v = .tuple #[.int .i64 n, .nilIface])) := by
 refine SC.of_below fun w hb => ?_
 refine (Any.strconv_Atoi_ok Tryz.laysC172 (bS s) (by rw [bS_size]; omega) n (by rw [bS_list]; exact h) w).mono ?_
 rintro e w' ⟨rfl, hw⟩
 refine ⟨_, rfl, ?_, rfl⟩
 rcases hw with rfl | ⟨t, rfl⟩
 · exact Below.refl _ _
 · exact Lib.bytesWorld_below ..
end Go.Proofs.YtnhmmjogfkjceaaGreatDoor
namespace Go.Proofs.YtnhmmjogfkjceaaGreatDoor
open Go.Sl

theorem l2_split {W0 : World} {X D A F B T : Bytes} {p z : Int} {x y : Nat} (hf : Form X D p A F B T z x y) (hX : X.length ≤ 1048576) (hdp : 0 < D.length) (hh0 : ∀ c, D[0]? = some c → c ≠ 48) (hld_ : ∀ c, D[D.length - 1]? = some c → c ≠ 48) : SC Tryz.prog W0 22 #[.string (bS X)] [] (Ret (fun _ : Unit => []) (fun v _ => v = .tuple #[.string (bS D), .int .i64 p])) := by
 refine SC_body (fn := Tryz.f22) (n := 85) Tryz.func22 rfl (by kernel_rfl) (ρ := [(0, .string (bS X))]) rfl ?_
 have hvl_ : ∀ v : Nat, (D ++ List.replicate v (48 : UInt8)).length = D.length + v := fun v => by simp
 have hfl_ : (A ++ B).length ≤ (A ++ F).length := by rcases hf.point with ⟨q1_, q2_⟩ | q1_; (rw [q1_, q2_]; exact Nat.le_refl _); (rw [q1_]; simp only [List.length_append, List.length_cons]; omega)
 have hAb_ : A.length ≤ (A ++ B).length := by rw [List.length_append]; omega
 have htl_ : X.length = (A ++ F).length + T.length := by rw [hf.text, ← List.append_assoc, List.length_append]
 have hzr_ : -420 ≤ z ∧ z ≤ 420 := by rcases hf.tail with ⟨-, q_⟩ | ⟨_, -, -, q_⟩; (rw [q_]; decide); exact q_
 have hhd_ : ∀ d, (D ++ List.replicate y (48 : UInt8))[0]? = some d → d ≠ 48 := fun d hd => hh0 d (by rw [List.getElem?_append_left hdp] at hd; exact hd)
 have hemp_ : ∀ u : Nat, ((List.replicate x 48 ++ (D ++ List.replicate y 48)).drop u).length = x + D.length + y - u := fun u => by rw [List.length_drop]; simp; omega
 have hAl_ : (A ++ B).length = x + D.length + y := by rw [hf.digits]; simp; omega
 refine sr ?_
 refine os 2 ?_
 refine nsr ?_
 refine os 1 ?_
 refine nq ?_
 refine sr ?_
 refine os 1 ?_
 refine nt ?_
 refine SW_cut (fun ρ_ σ_ => Fits ρ_ σ_ [(0, .string (bS (A ++ F))), (4, .int .i64 z)] ([])) ?_ ?_
 ·refine SW_block ?_
  refine SW_loop (α := Nat × Bytes × Int) (fun z_ ρ_ σ_ => Fits ρ_ σ_ [(0, .string (bS z_.2.1)), (4, .int .i64 z_.2.2), (5, .int .i64 (z_.1 : Int))] ([]) ∧ ((X = z_.2.1 ∧ 0 = z_.2.2 ∧ z_.1 ≤ (A ++ F).length) ∨ (A ++ F = z_.2.1 ∧ z = z_.2.2 ∧ z_.1 = (A ++ F).length + 1))) (fun z_ => X.length + 1 - z_.1) (0, X, 0) ⟨⟨fun _ => rfl, ow⟩, .inl ⟨rfl, rfl, Nat.zero_le _⟩⟩ ?_
  rintro ⟨i, Y, u⟩ ρ_ σ_ ⟨hfit, hi0⟩
  refine SW_fits hfit ?_
  clear hfit
  simp only [] at hi0 ⊢
  refine SW_seq ?_
  refine SW_seq ?_
  by_cases hs_ : i ≤ (A ++ F).length
  ·obtain ⟨hY_, hu_, hile_⟩ : X = Y ∧ 0 = u ∧ i ≤ (A ++ F).length := by rcases hi0 with ⟨q1_, q2_, q3_⟩ | ⟨q1_, q2_, q3_⟩; exact ⟨q1_, q2_, q3_⟩; exact absurd hs_ (by omega)
   subst hY_ hu_
   refine SW_region ?_
   refine os 2 ?_
   refine oX (.int .i64 ((bS X).size : Int)) (.int .i64 (X.length : Int)) (congrArg (fun n_ : Nat => Value.int .i64 (n_ : Int)) (bS_size _)) ?_
   refine os 1 ?_
   refine kp [12, 0, 4, 5] ?_
   refine nt ?_
   refine cdp (fun hc1 : (i : Int) < (X.length : Int) => ?_) (fun hc1 => ?_)
   ·refine SW_skip (n_then ?_)
    refine SW_seq ?_
    refine SW_block ?_
    refine sr ?_
    refine os 2 ?_
    obtain ⟨e1, he1⟩ : ∃ y_, X[i]? = some y_ := ⟨_, List.getElem?_eq_getElem (by omega)⟩
    refine ixb (i : Int) X .i64 e1 Tryz.underlying9 he1 ?_
    refine os 1 ?_
    refine kp [18, 12, 0, 4, 5] ?_
    refine nt ?_
    refine cd (fun hc2 : ((e1.toNat : Int) == 101) = true => ?_) (fun hc2 => ?_)
    ·simp only [beq_iff_eq, bne_iff_ne, ne_eq, beq_eq_false_iff_ne, bne_eq_false_iff_eq, Classical.not_not] at hc2
     have hil_ : i = (A ++ F).length := by rcases Nat.lt_or_ge i (A ++ F).length with q_ | q_; (exfalso; have hm_ := List.mem_of_getElem? (l := A ++ F) (i := i) (a := e1) (by rw [← he1, hf.text, ← List.append_assoc, List.getElem?_append_left q_]); exact form_no101 hf.ahead hf.behind hf.point _ hm_ (is101 (by omega))); omega
     obtain ⟨r, hr_, har_⟩ : ∃ r, T = 101 :: r ∧ Lib.atoiAll r = .ok z := by rcases hf.tail with ⟨q_, -⟩ | ⟨r, q1_, q2_, -⟩; (exfalso; rw [q_, List.length_nil] at htl_; omega); exact ⟨r, q1_, q2_⟩
     have hdr_ : X.drop (i + 1) = r := by rw [hf.text, ← List.append_assoc, hr_, hil_, List.drop_append, List.drop_of_length_le (by omega), Nat.add_sub_cancel_left]; rfl
     have htk_ : X.take i = A ++ F := by rw [hf.text, ← List.append_assoc, hil_, List.take_left]
     have hrl_ : r.length ≤ X.length := by rw [← hdr_, List.length_drop]; omega
     refine sr ?_
     refine os 3 ?_
     refine L (O_val (.string (bS (X.drop ((i : Int) + 1).toNat))) rfl (fun δ w _ => run_strFrom (l := X) ((i : Int) + 1) .i64 Tryz.underlying9 rfl rfl (by omega) (by omega)) ?_)
     rw [show ((i : Int) + 1).toNat = (i + 1) from by omega]
     rw [hdr_]
     refine L (cl (str_AtoiN r har_ (by omega)) ?_)
     rintro _ _ rfl
     refine un ?_
     refine os 4 ?_
     refine kp [4, 18, 12, 0, 5] ?_
     refine nr ?_
     refine os 2 ?_
     refine L (O_val (.string (bS (X.take ((i : Int)).toNat))) rfl (fun δ w _ => run_strTo (l := X) (i : Int) .i64 Tryz.underlying9 rfl rfl (by omega) (by omega)) ?_)
     rw [show ((i : Int)).toNat = i from by omega]
     refine os 1 ?_
     refine kp [0, 4, 18, 12, 5] ?_
     refine SL_nil (n_in (n_then ?_))
     refine SW_region ?_
     refine os 3 ?_
     refine nt ?_
     rw [show (i : Int) + 1 = ((i + 1 : Nat) : Int) from by omega]
     rw [htk_]
     exact ⟨(i + 1, A ++ F, z), by simp only []; omega, ⟨fun _ => rfl, ow⟩, .inr ⟨rfl, rfl, by simp only []; omega⟩⟩
    simp only [beq_iff_eq, bne_iff_ne, ne_eq, beq_eq_false_iff_ne, bne_eq_false_iff_eq, Classical.not_not] at hc2
    have hin_ : i < (A ++ F).length := by rcases Nat.lt_or_ge i (A ++ F).length with q_ | q_; exact q_; exfalso; have hie_ : i = (A ++ F).length := (by omega); rcases hf.tail with ⟨q2_, -⟩ | ⟨r, q1_, -⟩; (rw [q2_, List.length_nil] at htl_; omega); (have h3_ := he1; rw [hf.text, ← List.append_assoc, hie_, List.getElem?_append_right (Nat.le_refl _), Nat.sub_self, q1_] at h3_; have h4_ : e1 = 101 := (by simpa using h3_.symm); rw [h4_] at hc2; exact hc2 rfl)
    refine SW_skip (n_in (n_then ?_))
    refine SW_region ?_
    refine os 3 ?_
    refine nt ?_
    rw [show (i : Int) + 1 = ((i + 1 : Nat) : Int) from by omega]
    exact ⟨(i + 1, X, 0), by simp only []; omega, ⟨fun _ => rfl, ow⟩, .inl ⟨rfl, rfl, by simp only []; omega⟩⟩
   refine SW_exit (x_then (x_then (x_in (n_then ?_))))
   obtain ⟨hT_, hz_⟩ : T = [] ∧ z = 0 := by rcases hf.tail with q_ | ⟨r, q1_, -⟩; exact q_; exfalso; rw [q1_, List.length_cons] at htl_; omega
   have hXA_ : X = A ++ F := by rw [hf.text, hT_, List.append_nil]
   rw [← hXA_, hz_]
   exact ⟨fun _ => rfl, ow⟩
  obtain ⟨hY_, hu_, hi_⟩ : A ++ F = Y ∧ z = u ∧ i = (A ++ F).length + 1 := by rcases hi0 with ⟨q1_, q2_, q3_⟩ | ⟨q1_, q2_, q3_⟩; exact absurd q3_ hs_; exact ⟨q1_, q2_, q3_⟩
  subst hY_ hu_
  refine SW_region ?_
  refine os 2 ?_
  refine oX (.int .i64 ((bS (A ++ F)).size : Int)) (.int .i64 ((A ++ F).length : Int)) (congrArg (fun n_ : Nat => Value.int .i64 (n_ : Int)) (bS_size _)) ?_
  refine os 1 ?_
  refine kp [12, 0, 4, 5] ?_
  refine nt ?_
  refine SW_false (fun _ => (congrArg Value.bool (show (decide ((i : Int) < ((A ++ F).length : Int))) = false from (decide_eq_false (by omega))))) ?_
  refine SW_exit (x_then (x_then (x_in (n_then ?_))))
  exact ⟨fun _ => rfl, ow⟩
 ·rintro ρ_ σ_ hfit
  refine SW_fits hfit ?_
  clear hfit
  refine sr ?_
  refine os 1 ?_
  refine nsr ?_
  refine os 1 ?_
  refine nq ?_
  refine sr ?_
  refine os 1 ?_
  refine nt ?_
  refine SW_block ?_
  refine SW_loop (α := Nat × Bytes × Int) (fun z_ ρ_ σ_ => Fits ρ_ σ_ [(0, .string (bS (A ++ F))), (4, .int .i64 z), (6, .string (bS z_.2.1)), (7, .int .i64 z_.2.2), (8, .int .i64 (z_.1 : Int))] ([]) ∧ (z_.1 ≤ (A ++ F).length ∧ z_.2.1.length ≤ z_.1) ∧ ((A ++ F).take z_.1).foldl sstep ([], -1) = (z_.2.1, z_.2.2) ∧ (-1 ≤ z_.2.2 ∧ z_.2.2 ≤ (z_.1 : Int))) (fun z_ => (A ++ F).length - z_.1) (0, ([] : Bytes), (-1)) ⟨⟨fun _ => rfl, ow⟩, ⟨Nat.zero_le _, Nat.le_refl _⟩, rfl, ⟨Int.le_refl _, by decide⟩⟩ ?_
  rintro ⟨i, d, t⟩ ρ_ σ_ ⟨hfit, hi0, hi1, hi2⟩
  refine SW_fits hfit ?_
  clear hfit
  simp only [] at hi0 hi1 hi2 ⊢
  refine SW_seq ?_
  refine sr ?_
  refine os 2 ?_
  refine oX (.int .i64 ((bS (A ++ F)).size : Int)) (.int .i64 ((A ++ F).length : Int)) (congrArg (fun n_ : Nat => Value.int .i64 (n_ : Int)) (bS_size _)) ?_
  refine os 1 ?_
  refine kp [33, 0, 4, 6, 7, 8] ?_
  refine nt ?_
  refine cdp (fun hc3 : (i : Int) < ((A ++ F).length : Int) => ?_) (fun hc3 => ?_)
  ·refine SW_skip (n_then ?_)
   refine SW_seq ?_
   refine SW_block ?_
   refine sr ?_
   refine os 2 ?_
   obtain ⟨e2, he2⟩ : ∃ y_, (A ++ F)[i]? = some y_ := ⟨_, List.getElem?_eq_getElem (by omega)⟩
   refine ixb (i : Int) (A ++ F) .i64 e2 Tryz.underlying9 he2 ?_
   refine os 1 ?_
   refine kp [39, 33, 0, 4, 6, 7, 8] ?_
   refine nt ?_
   refine cd (fun hc4 : ((e2.toNat : Int) == 46) = true => ?_) (fun hc4 => ?_)
   ·simp only [beq_iff_eq, bne_iff_ne, ne_eq, beq_eq_false_iff_ne, bne_eq_false_iff_eq, Classical.not_not] at hc4
    refine SW_region ?_
    refine os 1 ?_
    refine oX (.int .i64 ((bS d).size : Int)) (.int .i64 (d.length : Int)) (congrArg (fun n_ : Nat => Value.int .i64 (n_ : Int)) (bS_size _)) ?_
    refine os 1 ?_
    refine SL_nil (n_in (n_then ?_))
    refine SW_region ?_
    refine os 3 ?_
    refine kp [8, 7, 39, 33, 0, 4, 6] ?_
    refine nt ?_
    have hst_ := fold_step (f := sstep) (a := ([], -1)) he2
    rw [hi1] at hst_
    rw [show (i : Int) + 1 = ((i + 1 : Nat) : Int) from by omega]
    rw [show sstep (d, t) e2 = (d, (d.length : Int)) from by unfold sstep; rw [if_pos (is46 (by omega))]] at hst_
    exact ⟨(i + 1, d, (d.length : Int)), by simp only []; omega, ⟨fun _ => rfl, ow⟩, by simp only []; omega, hst_, by simp only []; omega⟩
   simp only [beq_iff_eq, bne_iff_ne, ne_eq, beq_eq_false_iff_ne, bne_eq_false_iff_eq, Classical.not_not] at hc4
   refine SW_region ?_
   refine os 5 ?_
   refine L (O_val (.string (bS (((A ++ F).take ((i : Int) + 1).toNat).drop ((i : Int)).toNat))) rfl (fun δ w _ => run_strMid (l := (A ++ F)) (i : Int) ((i : Int) + 1) .i64 .i64 Tryz.underlying9 rfl rfl rfl (by omega) (by omega) (by omega)) ?_)
   rw [show ((i : Int) + 1).toNat = (i + 1) from by omega, show ((i : Int)).toNat = i from by omega]
   refine oV (.string (bS (d ++ (((A ++ F).take (i + 1)).drop i)))) ?_ (hs := (fun δ w_ => run_catB d (((A ++ F).take (i + 1)).drop i) (by first | omega | (simp only [List.length_append, List.length_cons, List.length_nil, List.length_take, List.length_drop]; omega)) rfl rfl))
   refine os 1 ?_
   refine kp [6, 39, 33, 0, 4, 7, 8] ?_
   refine SL_nil (n_in (n_then ?_))
   refine SW_region ?_
   refine os 3 ?_
   refine nt ?_
   have hst_ := fold_step (f := sstep) (a := ([], -1)) he2
   rw [hi1] at hst_
   rw [show (i : Int) + 1 = ((i + 1 : Nat) : Int) from by omega]
   rw [show sstep (d, t) e2 = (d ++ [e2], t) from by unfold sstep; rw [if_neg (no46 (by omega))]] at hst_
   rw [show ((A ++ F).take (i + 1)).drop i = [e2] from by rw [List.take_add_one, he2, List.drop_append_of_le_length (by rw [List.length_take]; omega), List.drop_of_length_le (by rw [List.length_take]; omega)]; rfl]
   exact ⟨(i + 1, d ++ [e2], t), by simp only []; omega, ⟨fun _ => rfl, ow⟩, by simp only [len_snoc]; omega, hst_, by simp only []; omega⟩
  refine SW_exit (x_then (x_then (x_in (n_then ?_))))
  refine SW_seq ?_
  refine SW_seq ?_
  have hfin_ := split_fold hf.ahead hf.behind hf.point
  rw [show i = (A ++ F).length from by omega, List.take_length, hfin_] at hi1
  injection hi1 with q1_ q2_
  subst q1_
  refine SW_cut3 (fun ρ_ σ_ => Fits ρ_ σ_ [(4, .int .i64 z), (6, .string (bS (A ++ B))), (7, .int .i64 (A.length : Int))] ([])) ?_ ?_
  ·refine SW_region ?_
   refine os 2 ?_
   refine nt ?_
   refine cdp (fun hc5 : t < 0 => ?_) (fun hc5 => ?_)
   ·refine SW_region ?_
    refine os 1 ?_
    refine oX (.int .i64 ((bS (A ++ B)).size : Int)) (.int .i64 ((A ++ B).length : Int)) (congrArg (fun n_ : Nat => Value.int .i64 (n_ : Int)) (bS_size _)) ?_
    refine os 1 ?_
    refine kp [7, 50, 0, 4, 6] ?_
    refine nt ?_
    have hFn_ : F = [] := by apply Classical.byContradiction; intro q_; rw [if_neg q_] at q2_; omega
    have hBn_ : B = [] := by rcases hf.point with ⟨-, q_⟩ | q_; exact q_; rw [hFn_] at q_; cases q_
    rw [hBn_, List.append_nil]
    exact ⟨fun _ => rfl, ow⟩
   refine SW_skip (n_then ?_)
   have htA_ : t = (A.length : Int) := by rw [← q2_]; split; (next q_ => rw [if_pos q_] at q2_; omega); rfl
   rw [← htA_]
   exact ⟨fun _ => rfl, ow⟩
  ·rintro ρ_ σ_ hfit
   refine SW_fits hfit ?_
   clear hfit
   refine SW_seq ?_
   refine SW_cut (fun ρ_ σ_ => Fits ρ_ σ_ [(4, .int .i64 z), (6, .string (bS (D ++ List.replicate y (48 : UInt8)))), (7, .int .i64 ((A.length : Int) - (x : Int)))] ([])) ?_ ?_
   ·refine SW_block ?_
    have hdg_ := hf.digits
    rw [hdg_]
    refine SW_loop (α := Nat) (fun z_ ρ_ σ_ => Fits ρ_ σ_ [(4, .int .i64 z), (6, .string (bS ((List.replicate x 48 ++ (D ++ List.replicate y 48)).drop z_))), (7, .int .i64 ((A.length : Int) - (z_ : Int)))] ([]) ∧ z_ ≤ x) (fun z_ => x - z_) 0 ⟨⟨fun _ => rfl, ow⟩, Nat.zero_le _⟩ ?_
    rintro u ρ_ σ_ ⟨hfit, hi0⟩
    refine SW_fits hfit ?_
    clear hfit
    refine SW_seq ?_
    refine sr ?_
    refine os 1 ?_
    refine oX (.int .i64 ((bS ((List.replicate x 48 ++ (D ++ List.replicate y 48)).drop u)).size : Int)) (.int .i64 (((List.replicate x 48 ++ (D ++ List.replicate y 48)).drop u).length : Int)) (congrArg (fun n_ : Nat => Value.int .i64 (n_ : Int)) (bS_size _)) ?_
    refine os 2 ?_
    refine tbp 56 (fun hg6 => ?_) (fun hg6 => ?_)
    ·replace hg6 : (((List.replicate x 48 ++ (D ++ List.replicate y 48)).drop u).length : Int) > 0 := hg6
     refine os 1 ?_
     obtain ⟨e3, he3⟩ : ∃ y_, ((List.replicate x 48 ++ (D ++ List.replicate y 48)).drop u)[0]? = some y_ := ⟨_, List.getElem?_eq_getElem (by omega)⟩
     refine ixb 0 ((List.replicate x 48 ++ (D ++ List.replicate y 48)).drop u) .i64 e3 Tryz.underlying9 he3 ?_
     refine os 2 ?_
     refine kp [60, 4, 6, 7] ?_
     refine nt ?_
     refine cd (fun hc7 : ((e3.toNat : Int) == 48) = true => ?_) (fun hc7 => ?_)
     ·simp only [beq_iff_eq, bne_iff_ne, ne_eq, beq_eq_false_iff_ne, bne_eq_false_iff_eq, Classical.not_not] at hc7
      refine SW_skip (n_then ?_)
      refine SW_block ?_
      refine sr ?_
      refine os 1 ?_
      refine L (O_val (.string (bS (((List.replicate x 48 ++ (D ++ List.replicate y 48)).drop u).drop 1))) rfl (fun δ w _ => run_strFrom (l := ((List.replicate x 48 ++ (D ++ List.replicate y 48)).drop u)) 1 .i64 Tryz.underlying9 rfl rfl (by omega) (by omega)) ?_)
      refine os 1 ?_
      refine nr ?_
      refine os 3 ?_
      refine kp [7, 6, 60, 4] ?_
      refine SL_nil (n_in (n_then ?_))
      have hlt_ := (rep_head hi0 hhd_ he3).1 (is48 (by omega))
      rw [List.drop_drop, show (A.length : Int) - (u : Int) - 1 = (A.length : Int) - ((u + 1 : Nat) : Int) from by omega]
      exact ⟨u + 1, by omega, ⟨fun _ => rfl, ow⟩, by omega⟩
     simp only [beq_iff_eq, bne_iff_ne, ne_eq, beq_eq_false_iff_ne, bne_eq_false_iff_eq, Classical.not_not] at hc7
     refine SW_exit (x_then (x_then (x_in (n_then ?_))))
     have hux_ : u = x := by rcases Nat.lt_or_ge u x with q_ | q_; (exact absurd ((rep_head hi0 hhd_ he3).2 q_) (no48 (by omega))); omega
     rw [hux_, List.drop_left' (by simp)]
     exact ⟨fun _ => rfl, ow⟩
    replace hg6 : ¬ ((((List.replicate x 48 ++ (D ++ List.replicate y 48)).drop u).length : Int) > 0) := hg6
    refine os 4 ?_
    refine kp [60, 4, 6, 7] ?_
    refine nt ?_
    refine cf ?_
    refine SW_exit (x_then (x_then (x_in (n_then ?_))))
    have hux_ : u = x := by rcases Nat.lt_or_ge u x with q_ | q_; (exfalso; have hw_ := hemp_ u; omega); omega
    rw [hux_, List.drop_left' (by simp)]
    exact ⟨fun _ => rfl, ow⟩
   ·rintro ρ_ σ_ hfit
    refine SW_fits hfit ?_
    clear hfit
    refine SW_seq ?_
    refine SW_block ?_
    refine SW_loop (α := Nat) (fun z_ ρ_ σ_ => Fits ρ_ σ_ [(4, .int .i64 z), (7, .int .i64 ((A.length : Int) - (x : Int))), (6, .string (bS (D ++ List.replicate z_ (48 : UInt8))))] ([]) ∧ z_ ≤ y) (fun z_ => z_) y ⟨⟨fun _ => rfl, ow⟩, Nat.le_refl _⟩ ?_
    rintro v ρ_ σ_ ⟨hfit, hi0⟩
    refine SW_fits hfit ?_
    clear hfit
    have hvv_ := hvl_ v
    refine SW_seq ?_
    refine sr ?_
    refine os 1 ?_
    refine oX (.int .i64 ((bS (D ++ List.replicate v (48 : UInt8))).size : Int)) (.int .i64 ((D ++ List.replicate v (48 : UInt8)).length : Int)) (congrArg (fun n_ : Nat => Value.int .i64 (n_ : Int)) (bS_size _)) ?_
    refine os 2 ?_
    refine tbp 68 (fun hg8 => ?_) (fun hg8 => ?_)
    ·replace hg8 : ((D ++ List.replicate v (48 : UInt8)).length : Int) > 0 := hg8
     refine os 2 ?_
     refine oX (.int .i64 ((bS (D ++ List.replicate v (48 : UInt8))).size : Int)) (.int .i64 ((D ++ List.replicate v (48 : UInt8)).length : Int)) (congrArg (fun n_ : Nat => Value.int .i64 (n_ : Int)) (bS_size _)) ?_
     refine os 1 ?_
     obtain ⟨e4, he4⟩ : ∃ y_, (D ++ List.replicate v (48 : UInt8))[((D ++ List.replicate v (48 : UInt8)).length - 1)]? = some y_ := ⟨_, List.getElem?_eq_getElem (by omega)⟩
     refine ixb (((D ++ List.replicate v (48 : UInt8)).length : Int) - 1) (D ++ List.replicate v (48 : UInt8)) .i64 e4 Tryz.underlying9 (by rw [show (((D ++ List.replicate v (48 : UInt8)).length : Int) - 1).toNat = ((D ++ List.replicate v (48 : UInt8)).length - 1) from by omega]; exact he4) ?_
     refine os 2 ?_
     refine kp [75, 4, 7, 6] ?_
     refine nt ?_
     refine cd (fun hc9 : ((e4.toNat : Int) == 48) = true => ?_) (fun hc9 => ?_)
     ·simp only [beq_iff_eq, bne_iff_ne, ne_eq, beq_eq_false_iff_ne, bne_eq_false_iff_eq, Classical.not_not] at hc9
      refine SW_skip (n_then ?_)
      refine SW_block ?_
      refine SW_region ?_
      refine os 2 ?_
      refine oX (.int .i64 ((bS (D ++ List.replicate v (48 : UInt8))).size : Int)) (.int .i64 ((D ++ List.replicate v (48 : UInt8)).length : Int)) (congrArg (fun n_ : Nat => Value.int .i64 (n_ : Int)) (bS_size _)) ?_
      refine os 1 ?_
      refine L (O_val (.string (bS ((D ++ List.replicate v (48 : UInt8)).take (((D ++ List.replicate v (48 : UInt8)).length : Int) - 1).toNat))) rfl (fun δ w _ => run_strTo (l := (D ++ List.replicate v (48 : UInt8))) (((D ++ List.replicate v (48 : UInt8)).length : Int) - 1) .i64 Tryz.underlying9 rfl rfl (by omega) (by omega)) ?_)
      rw [show (((D ++ List.replicate v (48 : UInt8)).length : Int) - 1).toNat = ((D ++ List.replicate v (48 : UInt8)).length - 1) from by omega]
      refine os 1 ?_
      refine kp [6, 75, 4, 7] ?_
      refine SL_nil (n_in (n_then ?_))
      have hlt_ := (rep_last rfl hld_ he4).1 (is48 (by omega))
      rw [rep_cut hlt_ rfl]
      exact ⟨v - 1, by omega, ⟨fun _ => rfl, ow⟩, by omega⟩
     simp only [beq_iff_eq, bne_iff_ne, ne_eq, beq_eq_false_iff_ne, bne_eq_false_iff_eq, Classical.not_not] at hc9
     refine SW_exit (x_then (x_then (x_in (n_then ?_))))
     refine sr ?_
     refine os 6 ?_
     refine kp [3, 2, 75, 4, 7, 6] ?_
     refine nt ?_
     refine SW_ret ?_
     refine body_end (.tuple #[.string (bS (D ++ List.replicate v (48 : UInt8))), .int .i64 (((A.length : Int) - (x : Int)) + z)]) (fun _ => rfl) ?_
     have hv0_ : v = 0 := by rcases Nat.eq_zero_or_pos v with q_ | q_; exact q_; exfalso; exact absurd ((rep_last rfl hld_ he4).2 q_) (no48 (by omega))
     subst hv0_
     have hpl_ := hf.place
     rw [List.replicate_zero, List.append_nil, show (A.length : Int) - (x : Int) + z = p from hpl_]
     exact ⟨(), ow, rfl⟩
    replace hg8 : ¬ (((D ++ List.replicate v (48 : UInt8)).length : Int) > 0) := hg8
    refine os 7 ?_
    refine kp [75, 4, 7, 6] ?_
    refine nt ?_
    refine cf ?_
    refine SW_exit (x_then (x_then (x_in (n_then ?_))))
    refine sr ?_
    refine os 6 ?_
    refine kp [3, 2, 75, 4, 7, 6] ?_
    refine nt ?_
    refine SW_ret ?_
    refine body_end (.tuple #[.string (bS (D ++ List.replicate v (48 : UInt8))), .int .i64 (((A.length : Int) - (x : Int)) + z)]) (fun _ => rfl) ?_
    have hv0_ : v = 0 := by rcases Nat.eq_zero_or_pos v with q_ | q_; exact q_; exfalso; have hw_ : (D ++ List.replicate v (48 : UInt8)).length = D.length + v := (by simp); omega
    subst hv0_
    have hpl_ := hf.place
    rw [List.replicate_zero, List.append_nil, show (A.length : Int) - (x : Int) + z = p from hpl_]
    exact ⟨(), ow, rfl⟩

end Go.Proofs.YtnhmmjogfkjceaaGreatDoor
namespace Go.Proofs.YtnhmmjogfkjceaaGreatDoor
open Go.Sl

theorem l2_raised {W0 : World} (hL : LaidN W0) {X : Bytes} (hX : X.length ≤ 1048576) (hd : ∀ c ∈ X, 48 ≤ c.toNat ∧ c.toNat ≤ 57) : SC Tryz.prog W0 24 #[.string (bS X)] [] (Ret (fun _ : Bytes => []) (fun v R => v = .string (bS R) ∧ (∀ c ∈ R, isDig c = true) ∧ ofD R = ofD X + 1 ∧ R.length ≤ X.length + 1 ∧ R ≠ [])) := by
 refine SC_body (fn := Tryz.f24) (n := 33) Tryz.func24 rfl (by kernel_rfl) (ρ := [(0, .string (bS X))]) rfl ?_
 refine sr ?_
 refine os 1 ?_
 refine nsr ?_
 refine os 1 ?_
 refine nsr ?_
 refine os 1 ?_
 refine nq ?_
 refine sr ?_
 refine os 1 ?_
 refine oX (.int .i64 ((bS X).size : Int)) (.int .i64 (X.length : Int)) (congrArg (fun n_ : Nat => Value.int .i64 (n_ : Int)) (bS_size _)) ?_
 refine os 2 ?_
 refine kp [5, 4, 3, 2, 0] ?_
 refine nt ?_
 refine SW_block ?_
 refine SW_loop (α := Nat × Bytes × Nat) (fun z_ ρ_ σ_ => Fits ρ_ σ_ [(0, .string (bS X)), (3, .string (bS z_.2.1)), (4, .int .i64 (z_.2.2 : Int)), (5, .int .i64 ((z_.1 : Int) - 1))] ([]) ∧ (z_.2.1.length + z_.1 = X.length ∧ z_.2.2 ≤ 1) ∧ (∀ c ∈ z_.2.1, isDig c = true) ∧ ofD z_.2.1 + z_.2.2 * 10 ^ z_.2.1.length = ofD (X.drop z_.1) + 1) (fun z_ => z_.1) (X.length, ([] : Bytes), 1) ⟨⟨fun _ => rfl, ow⟩, ⟨Nat.zero_add _, Nat.le_refl _⟩, (fun c hc => by cases hc), by rw [List.drop_length]; rfl⟩ ?_
 rintro ⟨j, o, c⟩ ρ_ σ_ ⟨hfit, hi0, hi1, hi2⟩
 refine SW_fits hfit ?_
 clear hfit
 simp only [] at hi0 hi1 hi2 ⊢
 refine SW_seq ?_
 refine sr ?_
 refine os 2 ?_
 refine nt ?_
 refine cdp (fun hc1 : ((j : Int) - 1) ≥ 0 => ?_) (fun hc1 => ?_)
 ·refine SW_skip (n_then ?_)
  refine SW_seq ?_
  refine SW_block ?_
  refine SW_seq ?_
  obtain ⟨e1, he1⟩ : ∃ y_, X[j - 1]? = some y_ := ⟨_, List.getElem?_eq_getElem (by omega)⟩
  have hde_ := hd _ (List.mem_of_getElem? he1)
  refine SW_region ?_
  refine os 2 ?_
  refine ixb ((j : Int) - 1) X .i64 e1 Tryz.underlying9 (by rw [show (((j : Int) - 1)).toNat = j - 1 from by omega]; exact he1) ?_
  refine os 5 ?_
  refine kp [6, 11, 0, 3, 4, 5] ?_
  refine nsr ?_
  refine os 1 ?_
  refine oX (.int .i64 (IntKind.wrap .i64 (Int.tdiv (((e1.toNat : Int) - 48) + (c : Int)) 10))) (.int .i64 ((((e1.toNat : Int) - 48) + (c : Int)) / 10)) (congrArg (Value.int .i64) (IntWalk.i64_quo _ _ (by omega))) ?_
  refine os 1 ?_
  refine nt ?_
  have hcq_ : (((e1.toNat : Int) - 48) + (c : Int)) / 10 = ((((e1.toNat - 48 + c) / 10 : Nat)) : Int) := by omega
  have hir_ : (((e1.toNat : Int) - 48) + (c : Int)) % 10 = ((((e1.toNat - 48 + c) % 10 : Nat)) : Int) := by omega
  refine SW_region ?_
  refine os 1 ?_
  refine oX (.int .i64 (Int.tmod (((e1.toNat : Int) - 48) + (c : Int)) 10)) (.int .i64 ((((e1.toNat : Int) - 48) + (c : Int)) % 10)) (congrArg (Value.int .i64) (rem_nn (by first | omega | exact Int.natCast_nonneg _))) ?_
  rw [hir_]
  have hid_ := itoa_dig (d := (e1.toNat - 48 + c) % 10) (by omega)
  have hiq_ := str_ItoaN (W0 := W0) (σ := []) hL ((((e1.toNat - 48 + c) % 10 : Nat)) : Int) (by omega)
  rw [hid_] at hiq_
  refine L (cl (hiq_) ?_)
  rintro _ _ rfl
  refine un ?_
  refine os 1 ?_
  refine oV (.string (bS ([digC ((e1.toNat - 48 + c) % 10)] ++ o))) ?_ (hs := (fun δ w_ => run_catB [digC ((e1.toNat - 48 + c) % 10)] o (by first | omega | (simp only [List.length_append, List.length_cons, List.length_nil, List.length_take, List.length_drop]; omega)) rfl rfl))
  refine os 1 ?_
  refine kp [3, 4, 6, 11, 0, 5] ?_
  refine SL_nil (n_in (n_then ?_))
  refine SW_region ?_
  refine os 3 ?_
  refine nt ?_
  have hrs_ := raise_step (out := o) (carry := c) he1 hde_ (by omega) hi0.2 (by rw [show j - 1 + 1 = j by omega]; exact hi2)
  rw [show (j : Int) - 1 - 1 = ((j - 1 : Nat) : Int) - 1 from by omega, hcq_]
  exact ⟨(j - 1, digC ((e1.toNat - 48 + c) % 10) :: o, (e1.toNat - 48 + c) / 10), by simp only []; omega, ⟨fun _ => rfl, ow⟩, by simp only [List.length_cons]; omega, fun q_ hq_ => (List.mem_cons.1 hq_).elim (fun z_ => by rw [z_]; exact (digC_dig (by omega)).1) (hi1 q_), by simp only [List.length_cons]; exact hrs_⟩
 refine SW_exit (x_then (x_then (x_in (n_then ?_))))
 refine SW_seq ?_
 refine sr ?_
 refine os 2 ?_
 refine nt ?_
 refine cdp (fun hc2 : (c : Int) > 0 => ?_) (fun hc2 => ?_)
 ·refine sr ?_
  refine os 1 ?_
  refine oV (.string (bS ([49] ++ o))) ?_ (hs := (fun δ w_ => run_catB [49] o (by first | omega | (simp only [List.length_append, List.length_cons, List.length_nil, List.length_take, List.length_drop]; omega)) rfl rfl))
  refine os 1 ?_
  refine kp [2, 29, 11, 0, 3, 4, 5] ?_
  refine nt ?_
  refine SW_ret (r_then ?_)
  refine body_end (.string (bS ([49] ++ o))) (fun _ => rfl) ?_
  have hj0_ : j = 0 := by omega
  subst hj0_
  rw [List.drop_zero] at hi2
  exact ⟨49 :: o, ow, rfl, fun q_ hq_ => (List.mem_cons.1 hq_).elim (fun z_ => by rw [z_]; rfl) (hi1 q_), by rw [ofD_cons, show (49 : UInt8).toNat - 48 = 1 from rfl]; have hc1_ : c = 1 := (by omega); rw [hc1_] at hi2; omega, by simp only [List.length_cons]; omega, by simp⟩
 refine SW_skip (n_then ?_)
 refine sr ?_
 refine os 2 ?_
 refine kp [2, 29, 11, 0, 3, 4, 5] ?_
 refine nt ?_
 refine SW_ret ?_
 refine body_end (.string (bS o)) (fun _ => rfl) ?_
 have hj0_ : j = 0 := by omega
 subst hj0_
 rw [List.drop_zero] at hi2
 have hc0_ : c = 0 := by omega
 rw [hc0_, Nat.zero_mul, Nat.add_zero] at hi2
 exact ⟨o, ow, rfl, hi1, hi2, by omega, fun z_ => by rw [z_] at hi2; exact absurd hi2 (by show ¬ 0 = _; omega)⟩

theorem l2_laid {W0 : World} (hL : LaidN W0) {X : Bytes} {p : Int} (hX : X.length ≤ 1048576) (hp : -1048576 ≤ p ∧ p ≤ 1048576) : SC Tryz.prog W0 23 #[.string (bS X), .int .i64 p] [] (Ret (fun _ : Unit => []) (fun v _ => v = .string (bS ((X ++ [101]) ++ Lib.itoa (p - (X.length : Int)))))) := by
 refine SC_body (fn := Tryz.f23) (n := 13) Tryz.func23 rfl (by kernel_rfl) (ρ := [(0, .string (bS X)), (1, .int .i64 p)]) rfl ?_
 refine sr ?_
 refine os 1 ?_
 refine nsr ?_
 refine os 1 ?_
 refine oV (.string (bS (X ++ [101]))) ?_ (hs := (fun δ w_ => run_catB X [101] (by first | omega | (simp only [List.length_append, List.length_cons, List.length_nil, List.length_take, List.length_drop]; omega)) rfl rfl))
 refine os 2 ?_
 refine oX (.int .i64 ((bS X).size : Int)) (.int .i64 (X.length : Int)) (congrArg (fun n_ : Nat => Value.int .i64 (n_ : Int)) (bS_size _)) ?_
 refine os 1 ?_
 have hil_ := Lib.itoa_length_le (p - (X.length : Int)) (by omega) (by omega)
 refine L (cl (str_ItoaN hL (p - (X.length : Int)) (by omega)) ?_)
 rintro _ _ rfl
 refine un ?_
 refine oV (.string (bS ((X ++ [101]) ++ (Lib.itoa (p - (X.length : Int)))))) ?_ (hs := (fun δ w_ => run_catB (X ++ [101]) (Lib.itoa (p - (X.length : Int))) (by first | omega | (simp only [List.length_append, List.length_cons, List.length_nil, List.length_take, List.length_drop]; omega)) rfl rfl))
 refine os 1 ?_
 refine kp [4, 0, 1] ?_
 refine nt ?_
 refine SW_ret ?_
 refine body_end (.string (bS ((X ++ [101]) ++ (Lib.itoa (p - (X.length : Int)))))) (fun _ => rfl) ?_
 exact ⟨(), ow, rfl⟩

theorem f_le0 {a : Nat} (ha : a < 18446744073709551616) (hn : ¬ mag a > 9218868437227405312) : (Ieee.double.order a 0 == some .lt || Ieee.double.order a 0 == some .eq) = decide (¬ (a < 9223372036854775808 ∧ mag a ≠ 0)) := by
 rcases Nat.lt_or_ge (mag a) 9218868437227405312 with h | h
 · rw [order_fin ha (by decide) h (by decide), (cmp_eq_iff _ _).1, (cmp_eq_iff _ _).2.1, valZ_0, ← Bool.decide_or]
   apply decide_eq_decide.2
   have := valF_eq0 (a := mag a)
   unfold valZ
   split <;> omega
 · rw [order_inf ha (by decide) (by omega) (by decide)]
   by_cases h2 : 9223372036854775808 ≤ a
   · rw [if_pos h2, decide_eq_true (by omega)]; rfl
   · rw [if_neg h2, decide_eq_false (by omega)]; rfl
theorem f_gtMax {a : Nat} (ha : a < 18446744073709551616) (hs : a < 9223372036854775808 ∧ mag a ≤ 9218868437227405312) : (Ieee.double.order a 9218868437227405311 == some .gt) = decide (mag a = 9218868437227405312) := by
 rcases Nat.lt_or_ge (mag a) 9218868437227405312 with h | h
 · rw [order_fin ha (by decide) h (by decide), (cmp_eq_iff _ _).2.2]
   apply decide_eq_decide.2
   have h1 := valF_mono (a := mag a) (b := 9218868437227405311) (by omega)
   have h2 : valZ 9218868437227405311 = (valF 9218868437227405311 : Int) := by unfold valZ; rw [if_neg (by decide)]; rfl
   rw [h2]
   unfold valZ
   rw [if_neg (by omega)]
   omega
 · rw [order_inf ha (by decide) (by omega) (by decide), if_neg (by omega), decide_eq_true (by omega)]; rfl

end Go.Proofs.YtnhmmjogfkjceaaGreatDoor
namespace Go.Proofs.YtnhmmjogfkjceaaGreatDoor
open Go.Sl

theorem law_NumtextShort {W0 : World} (hL : LaidN W0) {a : Nat} (ha : a < 18446744073709551616) : SC Tryz.prog W0 7 #[.int .u64 (a : Int)] [] (Ret (fun _ : Unit => []) (fun v _ => v = .bool true)) := by
 refine SC_body (fn := Tryz.f7) (n := 75) Tryz.func7 rfl (by kernel_rfl) (ρ := [(0, .int .u64 (a : Int))]) rfl ?_
 refine sr ?_
 refine os 1 ?_
 refine nsr ?_
 refine os 1 ?_
 refine L (cl (r1_Val (a := a)) ?_)
 rintro _ _ rfl
 refine un ?_
 refine os 1 ?_
 refine nq ?_
 refine sr ?_
 refine os 2 ?_
 refine oV (.bool (decide (mag a > 9218868437227405312))) ?_ (hs := (fun δ w_ => run_fne (f_nan ha) rfl rfl))
 refine os 1 ?_
 refine tbp 14 (fun hg1 => ?_) (fun hg1 => ?_)
 ·replace hg1 : mag a > 9218868437227405312 := hg1
  refine os 7 ?_
  refine kp [21, 3, 2, 0] ?_
  refine nt ?_
  refine ct ?_
  refine sr ?_
  refine L (cl (law_alive2 hL) ?_)
  rintro _ _ rfl
  refine un ?_
  refine os 1 ?_
  refine nt ?_
  refine SW_ret (r_then ?_)
  refine body_end (.bool true) (fun _ => rfl) ?_
  exact ⟨(), ow, rfl⟩
 replace hg1 : ¬ (mag a > 9218868437227405312) := hg1
 refine os 1 ?_
 refine oV (.bool (decide (¬ (a < 9223372036854775808 ∧ mag a ≠ 0)))) ?_ (hs := (fun δ w_ => run_fle (f_le0 ha (by omega)) rfl rfl))
 refine os 2 ?_
 refine kp [18, 3, 2, 0] ?_
 refine tbp 18 (fun hg2 => ?_) (fun hg2 => ?_)
 ·replace hg2 : ¬ (a < 9223372036854775808 ∧ mag a ≠ 0) := hg2
  refine os 3 ?_
  refine kp [21, 3, 2, 0] ?_
  refine nt ?_
  refine ct ?_
  refine sr ?_
  refine L (cl (law_alive2 hL) ?_)
  rintro _ _ rfl
  refine un ?_
  refine os 1 ?_
  refine nt ?_
  refine SW_ret (r_then ?_)
  refine body_end (.bool true) (fun _ => rfl) ?_
  exact ⟨(), ow, rfl⟩
 replace hg2 : ¬ (¬ (a < 9223372036854775808 ∧ mag a ≠ 0)) := hg2
 refine os 1 ?_
 refine oV (.bool (decide (mag a = 9218868437227405312))) ?_ (hs := (fun δ w_ => run_fgt (f_gtMax ha (by omega)) rfl rfl))
 refine os 1 ?_
 refine kp [21, 3, 2, 0] ?_
 refine nt ?_
 refine cdp (fun hc3 : mag a = 9218868437227405312 => ?_) (fun hc3 => ?_)
 ·refine sr ?_
  refine L (cl (law_alive2 hL) ?_)
  rintro _ _ rfl
  refine un ?_
  refine os 1 ?_
  refine nt ?_
  refine SW_ret (r_then ?_)
  refine body_end (.bool true) (fun _ => rfl) ?_
  exact ⟨(), ow, rfl⟩
 refine SW_skip (n_then ?_)
 refine sr ?_
 refine os 1 ?_
 have hof_ : ofP a = a := by unfold ofP; rw [if_neg (by omega)]
 have hoq_ := r1_Of (W0 := W0) (a := a) ha
 rw [hof_] at hoq_
 refine L (cl (hoq_) ?_)
 rintro _ _ rfl
 refine un ?_
 refine os 1 ?_
 refine nq ?_
 have hmg_ : mag a = a := by unfold mag at *; omega
 have h0_ : 0 < a := by omega
 have hai_ : a < 9218868437227405312 := by unfold mag at *; omega
 obtain ⟨Sc, hSc_⟩ : ∃ S : Nat, S = 1074 := ⟨_, rfl⟩
 obtain ⟨i, j, k, M, dd, Q, hsh_⟩ := short_spec h0_ hai_ hSc_
 have hpf_ : printP a = formP (shortP a).1 (shortP a).2 := by rw [printP_small (by omega)]; exact print_form h0_ hai_
 obtain ⟨D, hD_⟩ : ∃ D, D = (shortP a).1 := ⟨_, rfl⟩
 obtain ⟨p, hp_⟩ : ∃ p, p = (shortP a).2 := ⟨_, rfl⟩
 rw [← hD_, ← hp_] at hpf_ hsh_
 have hpr_ := Short.range hSc_ h0_ hai_ hsh_
 have hdl_ := hsh_.length
 have hkf_ := hsh_.few
 have hDn_ : D ≠ [] := by intro z_; rw [z_] at hdl_; simp at hdl_
 obtain ⟨A, F, B, T, z, x, y, hform_⟩ := form_form hsh_.digs hDn_ hpr_
 refine SW_region ?_
 refine os 1 ?_
 refine L (cl (num_Print (W0 := W0) hL (a := a) ha) ?_)
 rintro _ _ ⟨rfl, hpl_⟩
 refine un ?_
 rw [hpf_] at hpl_ ⊢
 refine L (cl (l2_split hform_ (by omega) (by omega) (short_head hsh_) (short_last hsh_)) ?_)
 rintro _ _ rfl
 refine un ?_
 refine os 5 ?_
 refine kp [5, 4, 0, 21, 3, 2] ?_
 refine nq ?_
 refine sr ?_
 refine os 1 ?_
 refine oX (.bool ((bS D).toList == (bS []).toList)) (.bool (decide (D = []))) (congrArg Value.bool (by rw [strB_eq])) ?_
 refine os 1 ?_
 refine pn 33 (show (decide (D = [])) = false from (decide_eq_false hDn_)) ?_
 refine os 2 ?_
 refine L (cl (l2_laid hL (X := D) (p := p) (by omega) (by omega)) ?_)
 rintro _ _ rfl
 refine un ?_
 refine L (cl (num_Read (X := (D ++ [101]) ++ Lib.itoa (p - (D.length : Int))) (by have q_ := Lib.itoa_length_le (p - (D.length : Int)) (by omega) (by omega); simp only [List.length_append, List.length_cons, List.length_nil]; omega)) ?_)
 rintro _ _ rfl
 refine un ?_
 refine os 3 ?_
 refine kp [40, 5, 4, 0, 21, 3, 2] ?_
 refine nt ?_
 refine SW_false (fun _ => (congrArg Value.bool (show ((readP ((D ++ [101]) ++ Lib.itoa (p - (D.length : Int))) : Int) != (a : Int)) = false from (bne_eq_false_iff_eq.2 (congrArg (fun n_ : Nat => (n_ : Int)) (read_short hSc_ h0_ hai_ hsh_)))))) ?_
 refine SW_skip (n_then ?_)
 refine sr ?_
 refine os 2 ?_
 refine oX (.int .i64 ((bS D).size : Int)) (.int .i64 (D.length : Int)) (congrArg (fun n_ : Nat => Value.int .i64 (n_ : Int)) (bS_size _)) ?_
 refine os 1 ?_
 refine L (O_val (.string (bS (D.take ((D.length : Int) - 1).toNat))) rfl (fun δ w _ => run_strTo (l := D) ((D.length : Int) - 1) .i64 Tryz.underlying9 rfl rfl (by omega) (by omega)) ?_)
 rw [show ((D.length : Int) - 1).toNat = (D.length - 1) from by omega]
 refine os 1 ?_
 refine kp [6, 40, 5, 4, 0, 21, 3, 2] ?_
 refine nq ?_
 have hQl_ : Q.length = k := hsh_.len
 have htk_ : D.take (D.length - 1) = Q := by rw [hsh_.cut, List.length_append, List.length_singleton, Nat.add_sub_cancel, List.take_left]
 rw [htk_]
 refine SW_region ?_
 refine os 1 ?_
 refine L (cl (l2_raised hL (X := Q) (by omega) (fun c hc => isDig_in (hsh_.digs c (by rw [hsh_.cut]; exact List.mem_append_left _ hc)))) ?_)
 rintro _ R ⟨rfl, hR1_, hR2_, hR3_, hR4_⟩
 refine un ?_
 refine os 1 ?_
 refine nsr ?_
 refine os 2 ?_
 refine oX (.int .i64 ((bS R).size : Int)) (.int .i64 (R.length : Int)) (congrArg (fun n_ : Nat => Value.int .i64 (n_ : Int)) (bS_size _)) ?_
 refine os 2 ?_
 refine oX (.int .i64 ((bS Q).size : Int)) (.int .i64 (Q.length : Int)) (congrArg (fun n_ : Nat => Value.int .i64 (n_ : Int)) (bS_size _)) ?_
 refine os 2 ?_
 refine kp [8, 7, 6, 40, 5, 4, 0, 21, 3, 2] ?_
 refine nq ?_
 refine sr ?_
 refine os 1 ?_
 refine oX (.bool ((bS Q).toList == (bS []).toList)) (.bool (decide (Q = []))) (congrArg Value.bool (by rw [strB_eq])) ?_
 refine nt ?_
 refine cdp (fun hc5 : Q = [] => ?_) (fun hc5 => ?_)
 ·refine sr ?_
  refine L (cl (law_alive2 hL) ?_)
  rintro _ _ rfl
  refine un ?_
  refine os 1 ?_
  refine nt ?_
  refine SW_ret (r_then ?_)
  refine body_end (.bool true) (fun _ => rfl) ?_
  exact ⟨(), ow, rfl⟩
 have hQp_ : 0 < Q.length := List.length_pos_iff.2 hc5
 refine SW_skip (n_then ?_)
 refine sr ?_
 refine L (cl (law_alive2 hL) ?_)
 rintro _ _ rfl
 refine un ?_
 refine os 3 ?_
 refine L (cl (l2_laid hL (X := Q) (p := p) (by omega) (by omega)) ?_)
 rintro _ _ rfl
 refine un ?_
 refine L (cl (num_Read (X := (Q ++ [101]) ++ Lib.itoa (p - (Q.length : Int))) (by have q_ := Lib.itoa_length_le (p - (Q.length : Int)) (by omega) (by omega); simp only [List.length_append, List.length_cons, List.length_nil]; omega)) ?_)
 rintro _ _ rfl
 refine un ?_
 refine os 4 ?_
 refine kp [67, 56, 8, 7, 6, 40, 5, 4, 0, 21, 3, 2] ?_
 refine pn 67 (show ((readP ((Q ++ [101]) ++ Lib.itoa (p - (Q.length : Int))) : Int) != (a : Int)) = true from (bne_iff_ne.2 (fun q_ => read_less (z := (p - (Q.length : Int))) hSc_ h0_ hai_ hsh_ (by omega) (by omega) (by exact_mod_cast q_)))) ?_
 refine os 2 ?_
 refine L (cl (l2_laid hL (X := R) (p := (p + (R.length : Int)) - (Q.length : Int)) (by omega) (by omega)) ?_)
 rintro _ _ rfl
 refine un ?_
 refine L (cl (num_Read (X := (R ++ [101]) ++ Lib.itoa ((p + (R.length : Int)) - (Q.length : Int) - (R.length : Int))) (by have q_ := Lib.itoa_length_le ((p + (R.length : Int)) - (Q.length : Int) - (R.length : Int)) (by omega) (by omega); simp only [List.length_append, List.length_cons, List.length_nil]; omega)) ?_)
 rintro _ _ rfl
 refine un ?_
 refine os 4 ?_
 refine kp [2, 56, 8, 7, 6, 40, 5, 4, 0, 21, 3] ?_
 refine nt ?_
 refine SW_ret ?_
 refine body_end (.bool ((readP ((R ++ [101]) ++ Lib.itoa ((p + (R.length : Int)) - (Q.length : Int) - (R.length : Int))) : Int) != (a : Int))) (fun _ => rfl) ?_
 exact ⟨(), ow, congrArg Value.bool (bne_iff_ne.2 (fun q_ => read_more (z := ((p + (R.length : Int)) - (Q.length : Int) - (R.length : Int))) hSc_ h0_ hai_ hsh_ (by omega) hR1_ hR4_ (by omega) hR2_ (by omega) (by exact_mod_cast q_)))⟩

theorem law_NumtextShortZ {W0 : World} (hL : LaidN W0) {n : Int} (h0 : (Lit.int .u64 n).wf = true) : SC Tryz.prog W0 7 #[.int .u64 n] [] (Ret (fun _ : Unit => []) (fun v _ => v = .bool true)) := by
 have w0 := wf_u64 h0
 obtain ⟨k, rfl⟩ := Int.eq_ofNat_of_zero_le w0.1
 exact law_NumtextShort hL (by omega)

end Go.Proofs.YtnhmmjogfkjceaaGreatDoor
namespace Go.Proofs.YtnhmmjogfkjceaaGreatDoor
open Go.Sl Go.ChangeShapes Go.WideShapes Go.ChangeAt Go.RowKit

theorem NumtextShort_contract (H : Type) (enc : TypeId × Value → H) (W : World) (base : Nat) (args : Array Value) (ds gs : List (DataW H)) (before : List MemPlace)
   (hval : ∀ (j : Nat) t v, Tryz.f7.params[j]? = some t → args[j]? = some v → Value.okWide Tryz.prog W .any base t v)
   (hW : DataW.Whole enc Tryz.prog Tryz.f7.params.toList Rows.numtextShortSpec.vars false W args.toList ds gs before) (hk : Rows.uptoSmall H (ds ++ gs) = true) (hLd : laidMetH Tryz.prog Rows.numtextShortUptoRow.laid W) (hsh : W.ShapedOpen Tryz.prog) :
   Calls Tryz.prog 7 args W fun e W' => ∃ v, e = .returned v ∧ Rows.numtextShortSpec.post enc Tryz.prog Tryz.f7 false true false false W args v W' := by
 have hL := laid_numE hLd hsh
 have hW' := hW
 obtain ⟨p, q, hA0, hV, rfl, hfz, hnd⟩ := hW
 have hA : DataW.TrodAll enc Tryz.prog W 0 (fun _ => true) true Tryz.f7.params.toList args.toList ds p := hA0
 rw [Tryz.params7] at hA hval
 obtain ⟨v0, vs0, d0, ds0, p0, q0, hargs, rfl, rfl, h0, r0⟩ := trodAll_cons hA
 obtain ⟨rfl, rfl, rfl⟩ := trodAll_nil r0
 obtain rfl : args = #[v0] := by cases args; simp_all
 obtain ⟨rfl, rfl⟩ := trodVars_none hV
 obtain ⟨a0, rfl, rfl, rfl, w0⟩ := open_int Tryz.underlying29 (hval 0 29 v0 rfl rfl) h0
 refine (calls_law (law_NumtextShortZ hL w0)).mono fun e W' ⟨he, hb⟩ => ?_
 subst he
 exact ⟨_, rfl, post_law (tb := 4) hW' (by rw [Tryz.params7]; decide) rfl rfl rfl rfl rfl Tryz.underlying4 hb⟩

theorem NumtextShort_reads (os : Os) {H : Type} (enc : TypeId × Value → H) : ∃ places, DataW.whole enc Tryz.prog ((laidWorldE os).forCall (fun _ _ => 0) ⟨#[], #[.int .u64 0], []⟩).memory Tryz.f7.params.toList Rows.numtextShortSpec.vars false #[.int .u64 0].toList 8 = some ([.lit (.int .u64 0)], [], places) :=
 ⟨[], by kernel_rfl⟩
theorem NumtextShort_lifted (os : Os) (started : os.Started) (H : Type) (enc : TypeId × Value → H) (F : Stop.Interp) :
   ReturnsInHanded {} Tryz.checked os 7 .any ((Rows.OpenSpec.upto Rows.numtextShortSpec).preRow enc Tryz.prog Tryz.f7 Rows.numtextShortUptoRow.domain false Rows.numtextShortUptoRow.laid) (((Rows.OpenSpec.upto Rows.numtextShortSpec).at F).post enc Tryz.prog Tryz.f7 false true false false) := by
 obtain ⟨places, hx⟩ := NumtextShort_reads os enc
 refine returnsInHanded_of_row (C := Tryz.checked) (s := Rows.OpenSpec.upto Rows.numtextShortSpec) rown started (by kernel_rfl) Tryz.func7
   (witness_row_atRef (enc := enc) (C := Tryz.checked) false (laidWorldE os) #[.int .u64 0] rfl (by kernel_rfl) (by kernel_rfl) (by kernel_rfl)
     (OpenSpec.preRow_of_cond 8 hx (by kernel_rfl) (fun k hk => by cases hk; kernel_rfl) (by kernel_rfl) (laid_metE os _))) ?_
 intro W base args ds gs before hval hW _ hcond _ hL hsh _
 exact NumtextShort_contract H enc W base args ds gs before hval hW (hcond _ rfl) hL hsh

theorem NumtextShort_row : Rows.NumtextShortUptoSaid :=
 OpenClaim.holds_of_cond 7 Tryz.f7 rfl rfl rfl rfl rfl rfl rfl ⟨rfl, rfl, rfl, rfl, rfl⟩ rfl rfl rfl rfl rfl (by kernel_rfl) Tryz.func7 (by kernel_rfl)
   (of_decide_eq_true (by kernel_rfl)) (by unfold Func.isWrapper; first | (rw [if_pos (by decide +kernel)]; kernel_rfl) | (rw [if_neg (by decide +kernel)]; exact ⟨rfl, rfl⟩))
   (fun os started H enc _ F => by rw [OpenClaim.pre_eq_preRow]; exact NumtextShort_lifted os started H enc F)
theorem NumtextShort_plain (f : FuncId) (fn : Func) (hf : Tryz.pinned.checked.prog.funcNamed "brazier/brazierlaw02.NumtextShort" = some f) (hfn : Tryz.pinned.checked.prog.funcs[f]? = some fn) :
   true = Tryz.pinned.checked.prog.looks [] ∧ ∀ (j : Nat) t, fn.params[j]? = some t → Tryz.pinned.checked.prog.wantsStandIn t = false := by
 obtain rfl : f = 7 := Option.some.inj ((show Tryz.prog.funcNamed "brazier/brazierlaw02.NumtextShort" = some 7 by kernel_rfl).symm.trans hf) |>.symm
 obtain rfl : fn = Tryz.f7 := (Option.some.inj (Tryz.func7.symm.trans hfn)).symm
 refine ⟨by kernel_rfl, fun j t ht => ?_⟩
 rw [Tryz.params7] at ht
 have hm : t = 29 := by simpa using Array.mem_of_getElem? ht
 rcases hm with rfl
 · exact (show Tryz.prog.wantsStandIn 29 = false by kernel_rfl)
theorem NumtextShort_proved : Rows.NumtextShortUptoCardSaid :=
 Claim7.holds_tied_plain_at .later [] _ _ _ _ NumtextShort_row (fun _ h => by cases h) (by kernel_rfl) (fun _ h => by cases h) numtextShortUpto_row_tie rfl ⟨rfl, rfl⟩ (by kernel_rfl) rfl NumtextShort_plain (by kernel_rfl)
end Go.Proofs.YtnhmmjogfkjceaaGreatDoor
