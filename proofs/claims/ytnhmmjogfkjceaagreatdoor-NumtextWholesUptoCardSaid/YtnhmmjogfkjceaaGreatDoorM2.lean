/-
  How the program writes a number, in plain Lean: the span, its digits, the text. Conditions: those that each theorem names.
-/
import Derived.Test.YtnhmmjogfkjceaaGreatDoorM1
import Derived.Lib.ItoaNum
import Derived.Lib.ItoaLen
import Derived.Lib.Repeat
import Derived.Lib.IndexLaws
import Derived.KernelRfl
import Derived.Lib.AtoiAllCases
import Derived.Lib.ItoaMem
import Derived.Shelf.Lays7
import Derived.Shelf.Spec.TrailingZeros
import Derived.Test.YtnhmmjogfkjceaaGreatDoorProg
set_option linter.unusedVariables false
set_option linter.unusedSimpArgs false
set_option maxRecDepth 100000
set_option linter.unusedSectionVars false
set_option maxHeartbeats 4000000
namespace Go.Proofs.YtnhmmjogfkjceaaGreatDoor
open Go.Sl
structure SpanP where
  r : Nat
  u : Nat
  a : Nat
  b : Nat
  ends : Bool
def highB (s : SpanP) : Bool := decide (cmpN (s.r + s.a) s.u > 0) || (decide (cmpN (s.r + s.a) s.u = 0) && s.ends)
def lowB (s : SpanP) : Bool := decide (cmpN s.r s.b < 0) || (decide (cmpN s.r s.b = 0) && s.ends)
def tenS (s : SpanP) : SpanP := ⟨s.r * 10, s.u, s.a * 10, s.b * 10, s.ends⟩
def manP (a : Nat) : Nat := if a / 4503599627370496 = 0 then a % 4503599627370496 else a % 4503599627370496 + 4503599627370496
def expP (a : Nat) : Nat := if a / 4503599627370496 = 0 then 1 else a / 4503599627370496
def nearP (a : Nat) : Nat := if manP a = 4503599627370496 ∧ expP a > 1 then 2 else 1
def openS (a : Nat) : SpanP := ⟨manP a * 2 ^ (expP a - 1075 + nearP a), 1 * 2 ^ (1075 - expP a + nearP a), 1 * 2 ^ (expP a - 1075 + nearP a - 1), 1 * 2 ^ (expP a - 1075), ((manP a % 2 : Nat) : Int) == 0⟩
def upF : Nat → SpanP → Int → SpanP × Int
 | 0, s, p => (s, p)
 | f + 1, s, p => if highB s = true then upF f ⟨s.r, s.u * 10, s.a, s.b, s.ends⟩ (p + 1) else (s, p)
def dnF : Nat → SpanP → Int → SpanP × Int
 | 0, s, p => (s, p)
 | f + 1, s, p => if highB (tenS s) = true then (s, p) else dnF f (tenS s) (p - 1)
def restS (s : SpanP) : SpanP := ⟨s.r * 10 % s.u, s.u, s.a * 10, s.b * 10, s.ends⟩
def digS (s : SpanP) : Nat := s.r * 10 / s.u
def upD (s : SpanP) (d : Nat) : Bool := highB s && (!lowB s || (decide (cmpN (s.r + s.r) s.u > 0) || (decide (cmpN (s.r + s.r) s.u = 0) && decide (d % 2 = 1))))
def genF : Nat → SpanP → Bytes → Bytes
 | 0, _, m => m
 | f + 1, s, m =>
   if lowB (restS s) = false ∧ highB (restS s) = false then genF f (restS s) (m ++ Lib.itoa (digS s : Int))
   else m ++ Lib.itoa (if upD (restS s) (digS s) = true then (digS s : Int) + 1 else (digS s : Int))
def upS (a : Nat) : SpanP × Int := upF ((openS a).r + (openS a).a + 1 - (openS a).u + 1) (openS a) 0
def dnS (a : Nat) : SpanP × Int := dnF ((upS a).1.u + 1 - (upS a).1.r) (upS a).1 (upS a).2
def shortP (a : Nat) : Bytes × Int := (genF 20 (dnS a).1 [], (dnS a).2)
def formP (D : Bytes) (p : Int) : Bytes :=
 if p ≥ (D.length : Int) ∧ p ≤ 21 then D ++ Lib.repeatL [48] (p - (D.length : Int)).toNat
 else if p > 0 ∧ p ≤ 21 then (D.take p.toNat ++ [46]) ++ D.drop p.toNat
 else if p > -6 ∧ p ≤ 0 then ([48, 46] ++ Lib.repeatL [48] (-p).toNat) ++ D
 else
   let E := if (D.length : Int) > 1 then (D.take 1 ++ [46]) ++ D.drop 1 else D
   if p > 0 then (E ++ [101, 43]) ++ Lib.itoa (p - 1) else (E ++ [101]) ++ Lib.itoa (p - 1)
def printP0 (a : Nat) : Bytes :=
 if a > 9218868437227405312 then [78, 97, 78]
 else if a = 0 then [48]
 else if a = 9218868437227405312 then [73, 110, 102, 105, 110, 105, 116, 121]
 else formP (shortP a).1 (shortP a).2
def printP (a : Nat) : Bytes :=
 if a % 9223372036854775808 > 9218868437227405312 then [78, 97, 78]
 else if a % 9223372036854775808 = 0 then [48]
 else if a ≥ 9223372036854775808 then [45] ++ printP0 (a - 9223372036854775808)
 else printP0 a
def kindP (a : Nat) : Int := if a % 9223372036854775808 = 0 then 0 else if a % 9223372036854775808 < 9218868437227405312 then 1 else if a % 9223372036854775808 = 9218868437227405312 then 2 else 3
theorem kind_nought {a : Nat} (h : a = 0) : kindP a = 0 := by subst h; rfl
theorem kind_all (a : Nat) : (kindP a = 0 ∧ a % 9223372036854775808 = 0) ∨ (kindP a = 1 ∧ 0 < a % 9223372036854775808 ∧ a % 9223372036854775808 < 9218868437227405312) ∨ (kindP a = 2 ∧ a % 9223372036854775808 = 9218868437227405312) ∨ (kindP a = 3 ∧ a % 9223372036854775808 > 9218868437227405312) := by
 unfold kindP
 split
 · exact .inl ⟨rfl, by omega⟩
 · split
   · exact .inr (.inl ⟨rfl, by omega, by omega⟩)
   · split
     · exact .inr (.inr (.inl ⟨rfl, by omega⟩))
     · exact .inr (.inr (.inr ⟨rfl, by omega⟩))
theorem printP_small {a : Nat} (h : a < 9223372036854775808) : printP a = printP0 a := by
 unfold printP printP0
 rw [Nat.mod_eq_of_lt h, if_neg (by omega : ¬ a ≥ 9223372036854775808)]
 split
 · rfl
 · split <;> rfl
section
variable {D : Bytes} {p : Int}
def expo (D : Bytes) : Bytes := if (D.length : Int) > 1 then (D.take 1 ++ [46]) ++ D.drop 1 else D
theorem form_a (h1 : p ≥ (D.length : Int)) (h2 : p ≤ 21) : formP D p = D ++ Lib.repeatL [48] (p - (D.length : Int)).toNat := by unfold formP; rw [if_pos ⟨h1, h2⟩]
theorem form_b (h : ¬ (p ≥ (D.length : Int) ∧ p ≤ 21)) (h1 : p > 0) (h2 : p ≤ 21) : formP D p = (D.take p.toNat ++ [46]) ++ D.drop p.toNat := by unfold formP; rw [if_neg h, if_pos ⟨h1, h2⟩]
theorem form_c (h : ¬ (p ≥ (D.length : Int) ∧ p ≤ 21)) (h1 : p > -6) (h2 : p ≤ 0) : formP D p = ([48, 46] ++ Lib.repeatL [48] (-p).toNat) ++ D := by unfold formP; rw [if_neg h, if_neg (by omega), if_pos ⟨h1, h2⟩]
theorem form_d (h : ¬ (p ≥ (D.length : Int) ∧ p ≤ 21)) (h1 : ¬ (p > 0 ∧ p ≤ 21)) (h2 : ¬ (p > -6 ∧ p ≤ 0)) (h3 : p > 0) : formP D p = (expo D ++ [101, 43]) ++ Lib.itoa (p - 1) := by unfold formP; rw [if_neg h, if_neg h1, if_neg h2]; simp only []; rw [if_pos h3]; rfl
theorem form_e (h : ¬ (p ≥ (D.length : Int) ∧ p ≤ 21)) (h1 : ¬ (p > 0 ∧ p ≤ 21)) (h2 : ¬ (p > -6 ∧ p ≤ 0)) (h3 : ¬ p > 0) : formP D p = (expo D ++ [101]) ++ Lib.itoa (p - 1) := by unfold formP; rw [if_neg h, if_neg h1, if_neg h2]; simp only []; rw [if_neg h3]; rfl
theorem expo_t (h : (D.length : Int) > 1) : expo D = (D.take 1 ++ [46]) ++ D.drop 1 := by unfold expo; rw [if_pos h]
theorem expo_f (h : ¬ (D.length : Int) > 1) : expo D = D := by unfold expo; rw [if_neg h]
end
def capE : Nat := 1024
def capB : Nat := 4294967296 ^ capE
theorem cap_len {x : Nat} (h : x < capB) : (lim x).length ≤ 1048576 := Nat.le_trans (lim_len_lt (k := capE) h) (by decide)
theorem cap_small {x : Nat} (h : x < 18446744073709551616) : (lim x).length ≤ 1048576 := Nat.le_trans (lim_len_lt (k := 2) (by omega)) (by decide)
theorem pow_le {k K : Nat} (h : k ≤ K) : 2 ^ k ≤ 2 ^ K := Nat.pow_le_pow_right (by decide) h
theorem cap_room : ∃ K C : Nat, K = 1100 ∧ C = 2 ^ K ∧ C * 1000000000000000000000000000000 < capB := by
 obtain ⟨K, hK⟩ : ∃ K : Nat, K = 1100 := ⟨_, rfl⟩
 refine ⟨K, 2 ^ K, hK, rfl, ?_⟩
 have h1 : (1000000000000000000000000000000 : Nat) ≤ 2 ^ 100 := by decide
 have h2 : 2 ^ K * 1000000000000000000000000000000 ≤ 2 ^ K * 2 ^ 100 := Nat.mul_le_mul_left _ h1
 rw [← Nat.pow_add] at h2
 have h3 : capB = 2 ^ (32 * capE) := by unfold capB; rw [show 4294967296 = 2 ^ 32 from rfl, ← Nat.pow_mul]
 rw [h3]
 exact Nat.lt_of_le_of_lt h2 (Nat.pow_lt_pow_right (by decide) (by rw [show capE = 1024 from rfl]; omega))
theorem manP_lt (a : Nat) : manP a < 9007199254740992 := by unfold manP; split <;> omega
theorem manP_pos {a : Nat} (h : 0 < a) : 0 < manP a := by unfold manP; split <;> omega
theorem expP_in {a : Nat} (h : a < 9218868437227405312) : 1 ≤ expP a ∧ expP a ≤ 2046 := by unfold expP; split <;> omega
theorem nearP_in (a : Nat) : nearP a = 1 ∨ nearP a = 2 := by unfold nearP; split; exact .inr rfl; exact .inl rfl
theorem openS_in {a K C : Nat} (h0 : 0 < a) (h : a < 9218868437227405312) (hK : K = 1100) (hC : C = 2 ^ K) : (openS a).r ≤ C ∧ (openS a).u ≤ C ∧ (openS a).a ≤ C ∧ (openS a).b ≤ (openS a).a ∧ 0 < (openS a).u ∧ 0 < (openS a).r := by
 obtain ⟨e1, e2⟩ := expP_in h
 have hm := manP_lt a
 have hm0 := manP_pos h0
 have hn := nearP_in a
 replace hC := Nat.le_of_eq hC.symm
 have hp : manP a * 2 ^ (expP a - 1075 + nearP a) ≤ 2 ^ 53 * 2 ^ (expP a - 1075 + nearP a) := Nat.mul_le_mul_right _ (by omega)
 rw [← Nat.pow_add] at hp
 refine ⟨Nat.le_trans hp (Nat.le_trans (pow_le (by omega)) hC), ?_, ?_, ?_, ?_, ?_⟩
 · show 1 * 2 ^ _ ≤ C; rw [Nat.one_mul]; exact Nat.le_trans (pow_le (by omega)) hC
 · show 1 * 2 ^ _ ≤ C; rw [Nat.one_mul]; exact Nat.le_trans (pow_le (by omega)) hC
 · show 1 * 2 ^ _ ≤ 1 * 2 ^ _; rw [Nat.one_mul, Nat.one_mul]; exact pow_le (by omega)
 · show 0 < 1 * 2 ^ _; rw [Nat.one_mul]; exact Nat.two_pow_pos _
 · show 0 < manP a * 2 ^ _; exact Nat.mul_pos hm0 (Nat.two_pow_pos _)
theorem and52 (m : Nat) (h : m < 18446744073709551616) : IntKind.wrap .u64 ((BitVec.ofInt 64 (m : Int) &&& BitVec.ofInt 64 4503599627370495).toNat) = ((m % 4503599627370496 : Nat) : Int) := by
 have e : (BitVec.ofInt 64 (m : Int) &&& BitVec.ofInt 64 4503599627370495).toNat = m % 4503599627370496 := by
   rw [BitVec.toNat_and, show (BitVec.ofInt 64 4503599627370495).toNat = 2 ^ 52 - 1 from rfl, Nat.and_two_pow_sub_one_eq_mod]
   simp [BitVec.toNat_ofInt]
 rw [e, wrap64]
 omega
theorem or52 {m : Nat} (h : m < 4503599627370496) : IntKind.wrap .u64 ((BitVec.ofInt 64 (m : Int) ||| BitVec.ofInt 64 4503599627370496).toNat) = ((m + 4503599627370496 : Nat) : Int) := by
 have := or_apart64 (a := 1) (b := m) (s := 52) (by omega) (by omega)
 rw [show ((1 * 2 ^ 52 : Nat) : Int) = 4503599627370496 from rfl, show 1 * 2 ^ 52 + m = m + 4503599627370496 by omega] at this
 exact this
theorem sized64 (m : Nat) (h : m < 18446744073709551616) : IntKind.wrap .u64 ((BitVec.ofInt 64 (m : Int) &&& ~~~ BitVec.ofInt 64 9223372036854775808).toNat) = ((m % 9223372036854775808 : Nat) : Int) := by
 have e : (BitVec.ofInt 64 (m : Int) &&& ~~~ BitVec.ofInt 64 9223372036854775808).toNat = m % 9223372036854775808 := by
   rw [BitVec.toNat_and, show (~~~ BitVec.ofInt 64 9223372036854775808).toNat = 2 ^ 63 - 1 from rfl, Nat.and_two_pow_sub_one_eq_mod]
   simp [BitVec.toNat_ofInt]
 rw [e, wrap64]
 omega
section
variable {f : Nat} {s : SpanP} {p : Int} {m : Bytes}
theorem upF_go (h : highB s = true) : upF (f + 1) s p = upF f ⟨s.r, s.u * 10, s.a, s.b, s.ends⟩ (p + 1) := by conv => lhs; unfold upF; rw [if_pos h]
theorem upF_no (h : highB s = false) : upF (f + 1) s p = (s, p) := by unfold upF; rw [if_neg (by rw [h]; decide)]
theorem dnF_go (h : highB (tenS s) = false) : dnF (f + 1) s p = dnF f (tenS s) (p - 1) := by conv => lhs; unfold dnF; rw [if_neg (by rw [h]; decide)]
theorem dnF_no (h : highB (tenS s) = true) : dnF (f + 1) s p = (s, p) := by unfold dnF; rw [if_pos h]
theorem genF_go (h1 : lowB (restS s) = false) (h2 : highB (restS s) = false) : genF (f + 1) s m = genF f (restS s) (m ++ Lib.itoa (digS s : Int)) := by conv => lhs; unfold genF; rw [if_pos ⟨h1, h2⟩]
theorem genF_up (h : ¬ (lowB (restS s) = false ∧ highB (restS s) = false)) (h1 : upD (restS s) (digS s) = true) : genF (f + 1) s m = m ++ Lib.itoa ((digS s : Int) + 1) := by unfold genF; rw [if_neg h, if_pos h1]
theorem genF_dn (h : ¬ (lowB (restS s) = false ∧ highB (restS s) = false)) (h1 : upD (restS s) (digS s) = false) : genF (f + 1) s m = m ++ Lib.itoa (digS s : Int) := by unfold genF; rw [if_neg h, if_neg (by rw [h1]; decide)]
theorem high_ge (h : highB s = true) : s.u ≤ s.r + s.a := by
 unfold highB cmpN at h
 simp at h
 split at h
 · omega
 · omega
theorem high_lt (h : highB s = false) : s.r + s.a ≤ s.u := by
 unfold highB cmpN at h
 simp at h
 split at h
 · omega
 · split at h
   · simp at h
   · omega
theorem dig_end {T u d r : Nat} (h : r + d * u = T) (hr : r < u) : r = T % u ∧ d = T / u := by
 have hu : 0 < u := by omega
 subst h
 exact ⟨by rw [Nat.add_mul_mod_self_right, Nat.mod_eq_of_lt hr], by rw [Nat.add_mul_div_right _ _ hu, Nat.div_eq_of_lt hr]; omega⟩
theorem pow2_le {n K C x : Nat} (hK : K = 1100) (hC : C = 2 ^ K) (h : 2 ^ n ≤ x) (hx : x ≤ 20 * C) : n ≤ 1104 := by
 apply Classical.byContradiction
 intro hn
 have h1 : 2 ^ (K + 5) ≤ 2 ^ n := pow_le (by omega)
 rw [Nat.pow_add, ← hC] at h1
 have h2 : 0 < C := by rw [hC]; exact Nat.two_pow_pos _
 omega
theorem pow2_up {n x : Nat} (h : 2 ^ n ≤ x) : 2 ^ (n + 1) ≤ x * 10 := by rw [Nat.pow_succ]; omega
theorem dig_in {x d u T : Nat} (hu : 0 < u) (h : x + d * u = T) (hT : T ≤ 10 * u) : d ≤ 10 := Nat.le_of_mul_le_mul_right (Nat.le_trans (by omega : d * u ≤ T) hT) hu
theorem dig_rng {n : Nat} (h : n ≤ 10) : ((-9223372036854775808 : Int) ≤ (n : Int) ∧ (n : Int) ≤ 9223372036854775807) ∧ ((-9223372036854775808 : Int) ≤ (n : Int) + 1 ∧ (n : Int) + 1 ≤ 9223372036854775807) := by omega
theorem par1 {n : Nat} (h : (n : Int) % 2 = 1) : n % 2 = 1 := by omega
theorem par0 {n : Nat} (h : ¬ (n : Int) % 2 = 1) : ¬ n % 2 = 1 := by omega
theorem dig_more {x d u T : Nat} (h : x + d * u = T) (hx : u ≤ x) : (x - u) + (d + 1) * u = T := by rw [Nat.succ_mul]; omega
theorem grow_in {C i x : Nat} (h : x ≤ 20 * C * 10 ^ i) (hi : i < 20) : x * 10 ≤ 20 * C * 10 ^ (i + 1) ∧ x * 10 ≤ C * 2000000000000000000000 := by
 have h1 : x * 10 ≤ 20 * C * 10 ^ (i + 1) := by rw [Nat.pow_succ, ← Nat.mul_assoc]; exact Nat.mul_le_mul_right 10 h
 have h2 : (10 : Nat) ^ (i + 1) ≤ 10 ^ 20 := Nat.pow_le_pow_right (by decide) (by omega)
 have h3 : 20 * C * 10 ^ (i + 1) ≤ 20 * C * 10 ^ 20 := Nat.mul_le_mul_left _ h2
 refine ⟨h1, Nat.le_trans h1 (Nat.le_trans h3 ?_)⟩
 rw [show (10 : Nat) ^ 20 = 100000000000000000000 from rfl]
 omega
end
end Go.Proofs.YtnhmmjogfkjceaaGreatDoor
namespace Go.Proofs.YtnhmmjogfkjceaaGreatDoor
open Go.Sl
abbrev isBl (c : UInt8) : Bool := [9, 10, 32].contains c
theorem alive_print : printP 4599075939470750516 = [48, 46, 51, 48, 48, 48, 48, 48, 48, 48, 48, 48, 48, 48, 48, 48, 48, 48, 52] := by kernel_rfl
theorem alive_lit : litP [48, 120, 49, 48] = (4625196817309499392, true) := by kernel_rfl
theorem alive_read : readP [32, 49, 46, 53, 10] = 4609434218613702656 := by kernel_rfl
theorem dropWhile_app {p : UInt8 → Bool} : ∀ {P : Bytes} (X : Bytes), (∀ c ∈ P, p c = true) → (P ++ X).dropWhile p = X.dropWhile p
 | [], _, _ => rfl
 | c :: r, X, h => by rw [List.cons_append, List.dropWhile_cons, if_pos (h c (List.mem_cons_self ..))]; exact dropWhile_app X fun d hd => h d (List.mem_cons_of_mem _ hd)
theorem dropWhile_app2 {p : UInt8 → Bool} : ∀ {X : Bytes} (Q : Bytes), X.dropWhile p ≠ [] → (X ++ Q).dropWhile p = X.dropWhile p ++ Q
 | [], _, h => absurd rfl h
 | c :: r, Q, h => by
   by_cases hc : p c = true
   · rw [List.cons_append, List.dropWhile_cons, if_pos hc, List.dropWhile_cons, if_pos hc]
     rw [List.dropWhile_cons, if_pos hc] at h
     exact dropWhile_app2 Q h
   · rw [List.cons_append, List.dropWhile_cons, if_neg hc, List.dropWhile_cons, if_neg hc]; rfl
theorem trimR_app {X Q : Bytes} (h : ∀ c ∈ Q, isBl c = true) : Lib.trimRightS (X ++ Q) [9, 10, 32] = Lib.trimRightS X [9, 10, 32] := by
 unfold Lib.trimRightS
 rw [List.reverse_append, dropWhile_app _ fun c hc => h c (List.mem_reverse.1 hc)]
theorem trimR_ne {X Y : Bytes} (h : Lib.trimRightS X [9, 10, 32] ≠ []) : Lib.trimRightS (Y ++ X) [9, 10, 32] = Y ++ Lib.trimRightS X [9, 10, 32] := by
 unfold Lib.trimRightS at h ⊢
 rw [List.reverse_append, dropWhile_app2 _ (by intro q; exact h (by rw [q]; rfl)), List.reverse_append, List.reverse_reverse]
theorem all_of_dropWhile {p : UInt8 → Bool} {X : Bytes} (h : X.dropWhile p = []) : ∀ c ∈ X, p c = true := by rw [dropWhile_nil_iff, List.all_eq_true] at h; exact h
theorem trimR_nil {X : Bytes} (h : Lib.trimRightS X [9, 10, 32] = []) : ∀ c ∈ X, isBl c = true := by
 unfold Lib.trimRightS at h
 have h1 : X.reverse.dropWhile ([9, 10, 32].contains ·) = [] := by simpa using h
 intro c hc
 exact all_of_dropWhile h1 c (List.mem_reverse.2 hc)
theorem trim_pre {P X : Bytes} (h : ∀ c ∈ P, isBl c = true) : Lib.trimS (P ++ X) [9, 10, 32] = Lib.trimS X [9, 10, 32] := by
 unfold Lib.trimS
 by_cases hn : Lib.trimRightS X [9, 10, 32] = []
 · have h1 : ∀ c ∈ P ++ X, isBl c = true := fun c hc => (List.mem_append.1 hc).elim (h c) (trimR_nil hn c)
   have h2 : Lib.trimRightS (P ++ X) [9, 10, 32] = [] := by
     have := trimR_app (X := []) h1
     rw [List.nil_append] at this
     exact this
   rw [hn, h2]
 · rw [trimR_ne hn]
   unfold Lib.trimLeftS
   exact dropWhile_app _ h
theorem no_inf {c : UInt8} {T : Bytes} (h : c ≠ 73) : ¬ c :: T = [73, 110, 102, 105, 110, 105, 116, 121] := by intro q; exact h (by have := congrArg List.head? q; simpa using this)
theorem wayR_45 (T : Bytes) : wayR (45 :: T) = (9223372036854775808, T) := rfl
theorem wayR_else {c : UInt8} {T : Bytes} (h1 : c ≠ 43) (h2 : c ≠ 45) : wayR (c :: T) = (0, c :: T) := wayR_no (c := c) rfl h1 h2
section
variable {c : UInt8} {X : Bytes}
end
section
open Go
variable {P : Program} {ρ : Fr} {dst : Option Tmp} {t t2 ty : TypeId} {x y : Operand} {pos : String} {after : Array Edge} {gd : Option (Nat × Bool)} {m c : Int}
end
end Go.Proofs.YtnhmmjogfkjceaaGreatDoor
namespace Go.Proofs.YtnhmmjogfkjceaaGreatDoor
open Go.Sl
theorem dig_of {u : Nat} (h : u < 10) : isDig (UInt8.ofNat (48 + u)) = true ∧ (UInt8.ofNat (48 + u)).toNat = 48 + u := by
 have e : (UInt8.ofNat (48 + u)).toNat = 48 + u := by rw [UInt8.toNat_ofNat']; omega
 exact ⟨by unfold isDig; rw [e]; exact decide_eq_true (by omega), e⟩
theorem decDigits_dig (u : Nat) : ∀ c ∈ Lib.decDigits u, isDig c = true := by
 induction u using Nat.strongRecOn with
 | _ u ih =>
   rw [Lib.decDigits]
   split
   · next h => intro c hc; rw [List.mem_singleton.1 hc]; exact (dig_of h).1
   · next h =>
     intro c hc
     rcases List.mem_append.1 hc with q | q
     · exact ih (u / 10) (by omega) c q
     · rw [List.mem_singleton.1 q]; exact (dig_of (by omega)).1
theorem decDigits_ne (u : Nat) : Lib.decDigits u ≠ [] := by
 intro q
 have := congrArg List.length q
 rw [Lib.decDigits_length] at this
 have h := Lib.nDigits_pos u
 simp at this
 omega
theorem ofD_decDigits (u : Nat) : ofD (Lib.decDigits u) = u := by
 induction u using Nat.strongRecOn with
 | _ u ih =>
   rw [Lib.decDigits]
   split
   · next h => show (0 * 10 + ((UInt8.ofNat (48 + u)).toNat - 48)) = u; rw [(dig_of h).2]; omega
   · next h => rw [ofD_app, ih (u / 10) (by omega), (dig_of (by omega)).2]; omega
theorem takeWhile_full {p : UInt8 → Bool} : ∀ {X : Bytes}, (∀ c ∈ X, p c = true) → X.takeWhile p = X ∧ X.dropWhile p = []
 | [], _ => ⟨rfl, rfl⟩
 | c :: r, h => by
   have hc := h c (List.mem_cons_self ..)
   have ih := takeWhile_full (p := p) (X := r) fun d hd => h d (List.mem_cons_of_mem _ hd)
   rw [List.takeWhile_cons, if_pos hc, List.dropWhile_cons, if_pos hc, ih.1, ih.2]
   exact ⟨rfl, rfl⟩
theorem takeWhile_stop {p : UInt8 → Bool} : ∀ {X : Bytes} {c : UInt8} {Y : Bytes}, (∀ c ∈ X, p c = true) → p c = false → (X ++ c :: Y).takeWhile p = X ∧ (X ++ c :: Y).dropWhile p = c :: Y
 | [], c, Y, _, hc => by
   rw [List.nil_append, List.takeWhile_cons, if_neg (by rw [hc]; decide), List.dropWhile_cons, if_neg (by rw [hc]; decide)]
   exact ⟨rfl, rfl⟩
 | d :: r, c, Y, h, hc => by
   have hd := h d (List.mem_cons_self ..)
   have ih := takeWhile_stop (p := p) (X := r) (Y := Y) (fun d hd => h d (List.mem_cons_of_mem _ hd)) hc
   rw [List.cons_append, List.takeWhile_cons, if_pos hd, List.dropWhile_cons, if_pos hd, ih.1, ih.2]
   exact ⟨rfl, rfl⟩
theorem isDig_in {c : UInt8} (h : isDig c = true) : 48 ≤ c.toNat ∧ c.toNat ≤ 57 := by unfold isDig at h; exact of_decide_eq_true h
theorem isDig_ne {c : UInt8} (h : isDig c = true) : c ≠ 43 ∧ c ≠ 45 ∧ c ≠ 46 ∧ c ≠ 101 ∧ c ≠ 69 ∧ c ≠ 73 ∧ c ≠ 120 ∧ c ≠ 88 := by
 have := isDig_in h
 refine ⟨?_, ?_, ?_, ?_, ?_, ?_, ?_, ?_⟩ <;> (rintro rfl; exact absurd this (by decide))
theorem isDig_bl {c : UInt8} (h : isDig c = true) : isBl c = false := by
 have h1 := isDig_in h
 rcases hb : isBl c with _ | _
 · rfl
 · have : c = 9 ∨ c = 10 ∨ c = 32 := by simpa [isBl] using hb
   rcases this with q | q | q <;> (subst q; exact absurd h1.1 (by decide))
theorem ten_room {x k : Nat} (hk : k ≤ 1200) (h : x ≤ 10 ^ k) : bitsN x ≤ 4900 := Nat.le_trans (bitsN_ten h) (by omega)
section
variable {D : Bytes} (hD : ∀ c ∈ D, isDig c = true) (hn : D ≠ []) {z : Int} (h1 : -1099511627776 ≤ z) (h2 : z ≤ 1099511627776)
include hD hn h1 h2
end
end Go.Proofs.YtnhmmjogfkjceaaGreatDoor
namespace Go.Proofs.YtnhmmjogfkjceaaGreatDoor
open Go.Sl
theorem high_iff (s : SpanP) : highB s = true ↔ s.u < s.r + s.a ∨ (s.r + s.a = s.u ∧ s.ends = true) := by
 unfold highB cmpN
 simp only [Bool.or_eq_true, Bool.and_eq_true, decide_eq_true_eq]
 split
 · constructor
   · rintro (h | ⟨h, _⟩) <;> omega
   · omega
 · split
   · constructor
     · intro _; omega
     · intro _; exact .inl (by decide)
   · constructor
     · rintro (h | ⟨_, h⟩)
       · omega
       · exact .inr ⟨by omega, h⟩
     · rintro (h | ⟨_, h⟩)
       · omega
       · exact .inr ⟨rfl, h⟩
theorem low_iff (s : SpanP) : lowB s = true ↔ s.r < s.b ∨ (s.r = s.b ∧ s.ends = true) := by
 unfold lowB cmpN
 simp only [Bool.or_eq_true, Bool.and_eq_true, decide_eq_true_eq]
 split
 · constructor
   · intro _; omega
   · intro _; exact .inl (by decide)
 · split
   · constructor
     · rintro (h | ⟨h, _⟩) <;> omega
     · omega
   · constructor
     · rintro (h | ⟨_, h⟩)
       · omega
       · exact .inr ⟨by omega, h⟩
     · rintro (h | ⟨_, h⟩)
       · omega
       · exact .inr ⟨rfl, h⟩
theorem bool_f {b : Bool} {p : Prop} (h : b = true ↔ p) : b = false ↔ ¬ p := by rw [← h]; cases b <;> simp
theorem high_f (s : SpanP) : highB s = false ↔ ¬ (s.u < s.r + s.a ∨ (s.r + s.a = s.u ∧ s.ends = true)) := bool_f (high_iff s)
theorem low_f (s : SpanP) : lowB s = false ↔ ¬ (s.r < s.b ∨ (s.r = s.b ∧ s.ends = true)) := bool_f (low_iff s)
theorem ten_pow (x j : Nat) : x * 10 * 10 ^ j = x * 10 ^ (j + 1) := by rw [Nat.mul_assoc, Nat.mul_comm 10, ← Nat.pow_succ]
theorem end_iff (b : Bool) : b = true ↔ (if b = true then 1 else 0 : Nat) = 1 := by cases b <;> simp
def upBy (s : SpanP) (i : Nat) : SpanP := ⟨s.r, s.u * 10 ^ i, s.a, s.b, s.ends⟩
def dnBy (s : SpanP) (j : Nat) : SpanP := ⟨s.r * 10 ^ j, s.u, s.a * 10 ^ j, s.b * 10 ^ j, s.ends⟩
theorem upF_spec : ∀ (f : Nat) (s : SpanP) (p : Int), 0 < s.u → s.r + s.a + 1 - s.u < f → ∃ i : Nat, upF f s p = (upBy s i, p + i) ∧ highB (upBy s i) = false
 | 0, s, p, hu, hf => by omega
 | f + 1, s, p, hu, hf => by
   rcases h : highB s with _ | _
   · refine ⟨0, ?_, ?_⟩
     · rw [upF_no h]; simp [upBy]
     · rw [show upBy s 0 = s by simp [upBy]]; exact h
   · have hg := high_ge h
     obtain ⟨i, h1, h2⟩ := upF_spec f ⟨s.r, s.u * 10, s.a, s.b, s.ends⟩ (p + 1) (by show 0 < s.u * 10; omega) (by show s.r + s.a + 1 - s.u * 10 < f; omega)
     have e : upBy ⟨s.r, s.u * 10, s.a, s.b, s.ends⟩ i = upBy s (i + 1) := by unfold upBy; simp only [SpanP.mk.injEq, and_self, and_true, true_and]; rw [Nat.pow_succ, Nat.mul_assoc, Nat.mul_comm 10]
     rw [e] at h1 h2
     exact ⟨i + 1, by rw [upF_go h, h1]; refine Prod.ext rfl ?_; show p + 1 + (i : Int) = p + ((i + 1 : Nat) : Int); omega, h2⟩
theorem dnF_spec : ∀ (f : Nat) (s : SpanP) (p : Int), 0 < s.r → s.u - s.r < f → highB s = false → ∃ j : Nat, dnF f s p = (dnBy s j, p - j) ∧ highB (dnBy s j) = false ∧ highB (tenS (dnBy s j)) = true
 | 0, s, p, hu, hf, _ => by omega
 | f + 1, s, p, hu, hf, hs => by
   rcases h : highB (tenS s) with _ | _
   · have hg := high_lt h
     have hg' : s.r * 10 + s.a * 10 ≤ s.u := hg
     obtain ⟨j, h1, h2, h3⟩ := dnF_spec f (tenS s) (p - 1) (by show 0 < s.r * 10; omega) (by show s.u - s.r * 10 < f; omega) h
     have e : dnBy (tenS s) j = dnBy s (j + 1) := by unfold dnBy tenS; simp only [ten_pow]
     rw [e] at h1 h2 h3
     exact ⟨j + 1, by rw [dnF_go h, h1]; refine Prod.ext rfl ?_; show p - 1 - (j : Int) = p - ((j + 1 : Nat) : Int); omega, h2, h3⟩
   · refine ⟨0, ?_, ?_, ?_⟩
     · rw [dnF_no h]; simp [dnBy]
     · rw [show dnBy s 0 = s by simp [dnBy]]; exact hs
     · rw [show dnBy s 0 = s by simp [dnBy]]; exact h
def digC (d : Nat) : UInt8 := UInt8.ofNat (48 + d)
theorem itoa_dig {d : Nat} (h : d < 10) : Lib.itoa (d : Int) = [digC d] := by
 rw [Lib.itoa_nonneg, Lib.decDigits, dif_pos h]; rfl
theorem digC_dig {d : Nat} (h : d < 10) : isDig (digC d) = true ∧ (digC d).toNat = 48 + d := dig_of h
structure Ends (s : SpanP) (m m' : Bytes) (k M r1 d : Nat) : Prop where
  len : m'.length = m.length + k + 1
  digs : (∀ c ∈ m, isDig c = true) → ∀ c ∈ m', isDig c = true
  cut : ∃ Q, m' = Q ++ [digC d] ∧ Q.length = m.length + k ∧ ofD Q = ofD m * 10 ^ k + M
  rest : s.r * 10 ^ k = M * s.u + r1
  less : r1 < s.u
  low : lowB ⟨r1, s.u, s.a * 10 ^ k, s.b * 10 ^ k, s.ends⟩ = false
  high : highB ⟨r1, s.u, s.a * 10 ^ k, s.b * 10 ^ k, s.ends⟩ = false
  dig : 1 ≤ d ∧ d ≤ 9
  stop : (d * s.u ≤ r1 * 10 ∧ (r1 * 10 - d * s.u < s.b * 10 ^ (k + 1) ∨ (r1 * 10 - d * s.u = s.b * 10 ^ (k + 1) ∧ s.ends = true))) ∨ (r1 * 10 ≤ d * s.u ∧ (d * s.u - r1 * 10 < s.a * 10 ^ (k + 1) ∨ (d * s.u - r1 * 10 = s.a * 10 ^ (k + 1) ∧ s.ends = true)))
theorem gen_spec : ∀ (f : Nat) (s : SpanP) (m : Bytes), 0 < s.u → 0 < s.b → s.b ≤ s.a → s.u < s.b * 10 ^ f → lowB s = false → highB s = false → ∃ k M r1 d, k < f ∧ Ends s m (genF f s m) k M r1 d
 | 0, s, m, hu, hb, hba, hf, hl, hh => by
   rw [high_f] at hh
   rw [Nat.pow_zero, Nat.mul_one] at hf
   omega
 | f + 1, s, m, hu, hb, hba, hf, hl, hh => by
   have hh' := hh
   have hl' := hl
   rw [high_f] at hh
   rw [low_f] at hl
   obtain ⟨e, he⟩ : ∃ e : Nat, s.ends = true ↔ e = 1 := ⟨_, end_iff s.ends⟩
   rw [he] at hh hl
   have hd10 : s.r * 10 / s.u < 10 := by rw [Nat.div_lt_iff_lt_mul hu]; omega
   have hdm := Nat.div_add_mod (s.r * 10) s.u
   have hml := Nat.mod_lt (s.r * 10) hu
   obtain ⟨d, hd⟩ : ∃ d, d = s.r * 10 / s.u := ⟨_, rfl⟩
   obtain ⟨q, hq⟩ : ∃ q, q = s.r * 10 % s.u := ⟨_, rfl⟩
   have hds : digS s = d := hd.symm
   have hrs : restS s = ⟨q, s.u, s.a * 10, s.b * 10, s.ends⟩ := by unfold restS; rw [← hq]
   rw [← hd, ← hq, Nat.mul_comm] at hdm
   rw [← hd] at hd10
   rw [← hq] at hml
   by_cases hc : lowB (restS s) = false ∧ highB (restS s) = false
   · rw [genF_go hc.1 hc.2, hds, itoa_dig hd10, hrs]
     rw [hrs] at hc
     obtain ⟨k, M, r1, d', hk, h⟩ := gen_spec f ⟨q, s.u, s.a * 10, s.b * 10, s.ends⟩ (m ++ [digC d]) hu (by show 0 < s.b * 10; omega) (by show s.b * 10 ≤ s.a * 10; omega) (by show s.u < s.b * 10 * 10 ^ f; rw [Nat.mul_assoc, Nat.mul_comm 10, ← Nat.pow_succ]; exact hf) hc.1 hc.2
     have ea : s.a * 10 * 10 ^ k = s.a * 10 ^ (k + 1) := by rw [Nat.mul_assoc, Nat.mul_comm 10, ← Nat.pow_succ]
     have eb : s.b * 10 * 10 ^ k = s.b * 10 ^ (k + 1) := by rw [Nat.mul_assoc, Nat.mul_comm 10, ← Nat.pow_succ]
     have ea2 : s.a * 10 * 10 ^ (k + 1) = s.a * 10 ^ (k + 1 + 1) := by rw [Nat.mul_assoc, Nat.mul_comm 10, ← Nat.pow_succ]
     have eb2 : s.b * 10 * 10 ^ (k + 1) = s.b * 10 ^ (k + 1 + 1) := by rw [Nat.mul_assoc, Nat.mul_comm 10, ← Nat.pow_succ]
     have h1 := h.low; have h2 := h.high; have h3 := h.stop
     simp only [ea, eb] at h1 h2
     simp only [ea2, eb2] at h3
     refine ⟨k + 1, d * 10 ^ k + M, r1, d', by omega, ⟨?_, ?_, ?_, ?_, h.less, h1, h2, h.dig, h3⟩⟩
     · rw [h.len]; simp; omega
     · intro hm
       refine h.digs fun c hcm => ?_
       rcases List.mem_append.1 hcm with q1 | q1
       · exact hm c q1
       · rw [List.mem_singleton.1 q1]; exact (digC_dig hd10).1
     · obtain ⟨Q, q1, q2, q3⟩ := h.cut
       refine ⟨Q, q1, by rw [q2]; simp; omega, ?_⟩
       rw [q3, ofD_app, (digC_dig hd10).2, show 48 + d - 48 = d by omega, Nat.add_mul, Nat.mul_assoc, Nat.mul_comm 10, ← Nat.pow_succ]
       exact Nat.add_assoc ..
     · have hr := h.rest
       simp only [] at hr
       have e1 : s.r * 10 ^ (k + 1) = d * s.u * 10 ^ k + q * 10 ^ k := by rw [← Nat.add_mul, hdm, Nat.pow_succ, Nat.mul_comm (10 ^ k), ← Nat.mul_assoc]
       have e2 : d * s.u * 10 ^ k = d * 10 ^ k * s.u := Nat.mul_right_comm ..
       have e3 : (d * 10 ^ k + M) * s.u = d * 10 ^ k * s.u + M * s.u := Nat.add_mul ..
       show s.r * 10 ^ (k + 1) = (d * 10 ^ k + M) * s.u + r1
       rw [e1, e2, e3, hr, Nat.add_assoc]
   · have hstop : lowB ⟨q, s.u, s.a * 10, s.b * 10, s.ends⟩ = true ∨ highB ⟨q, s.u, s.a * 10, s.b * 10, s.ends⟩ = true := by
       rw [hrs] at hc
       rcases hx : lowB ⟨q, s.u, s.a * 10, s.b * 10, s.ends⟩ with _ | _
       · right
         rcases hy : highB ⟨q, s.u, s.a * 10, s.b * 10, s.ends⟩ with _ | _
         · exact absurd ⟨hx, hy⟩ hc
         · rfl
       · exact .inl rfl
     have hLo := low_iff ⟨q, s.u, s.a * 10, s.b * 10, s.ends⟩
     have hHi := high_iff ⟨q, s.u, s.a * 10, s.b * 10, s.ends⟩
     simp only [he] at hLo hHi
     rcases hup : upD (restS s) (digS s) with _ | _
     · rw [genF_dn hc hup, hds, itoa_dig hd10]
       have hlow : lowB ⟨q, s.u, s.a * 10, s.b * 10, s.ends⟩ = true := by
         rcases hstop with z | z
         · exact z
         · unfold upD at hup
           rw [hrs] at hup
           rw [z] at hup
           rcases hx : lowB ⟨q, s.u, s.a * 10, s.b * 10, s.ends⟩ with _ | _
           · rw [hx] at hup; simp at hup
           · rfl
       have hlow' := hLo.1 hlow
       have hd1 : 1 ≤ d := by
         rcases Nat.eq_zero_or_pos d with z | z
         · subst z; rw [Nat.zero_mul, Nat.zero_add] at hdm; omega
         · exact z
       refine ⟨0, 0, s.r, d, by omega, ⟨by simp, ?_, ⟨m, rfl, rfl, by simp⟩, by simp, by omega, ?_, ?_, ⟨hd1, by omega⟩, .inl ⟨by omega, ?_⟩⟩⟩
       · intro hm c hcm
         rcases List.mem_append.1 hcm with q1 | q1
         · exact hm c q1
         · rw [List.mem_singleton.1 q1]; exact (digC_dig hd10).1
       · simpa using hl'
       · simpa using hh'
       · simp only [Nat.zero_add, Nat.pow_one, he]; omega
     · have hhi : highB ⟨q, s.u, s.a * 10, s.b * 10, s.ends⟩ = true := by
         unfold upD at hup
         rw [hrs] at hup
         rcases hx : highB ⟨q, s.u, s.a * 10, s.b * 10, s.ends⟩ with _ | _
         · rw [hx] at hup; simp at hup
         · rfl
       have hhi' := hHi.1 hhi
       have hd9 : d + 1 < 10 := by
         have h9 : d * s.u + s.u ≤ 9 * s.u := by
           rcases Nat.lt_or_ge d 9 with z | z
           · have := Nat.mul_le_mul_right s.u (show d ≤ 8 by omega); omega
           · have : d = 9 := by omega
             subst this
             omega
         have : (d + 1) * s.u ≤ 9 * s.u := by rw [Nat.succ_mul]; exact h9
         have := Nat.le_of_mul_le_mul_right this hu
         omega
       rw [genF_up hc hup, hds, show ((d : Int) + 1) = ((d + 1 : Nat) : Int) by omega, itoa_dig hd9]
       have hsm : (d + 1) * s.u = d * s.u + s.u := Nat.succ_mul ..
       refine ⟨0, 0, s.r, d + 1, by omega, ⟨by simp, ?_, ⟨m, rfl, rfl, by simp⟩, by simp, by omega, ?_, ?_, ⟨by omega, by omega⟩, .inr ⟨by omega, ?_⟩⟩⟩
       · intro hm c hcm
         rcases List.mem_append.1 hcm with q1 | q1
         · exact hm c q1
         · rw [List.mem_singleton.1 q1]; exact (digC_dig hd9).1
       · simpa using hl'
       · simpa using hh'
       · simp only [Nat.zero_add, Nat.pow_one, he]; omega
theorem a_parts (a : Nat) : a = (expP a - 1) * 4503599627370496 + manP a ∧ manP a < 9007199254740992 ∧ (expP a - 1 = 0 ∨ 4503599627370496 ≤ manP a) := by
 unfold expP manP
 split <;> omega
theorem pow_at {x y x' y' : Nat} (h : x + y = x' + y') : (2 : Nat) ^ x * 2 ^ y = 2 ^ x' * 2 ^ y' := by rw [← Nat.pow_add, ← Nat.pow_add, h]
theorem open_spec {a S : Nat} (h0 : 0 < a) (ha : a < 9218868437227405312) (hS : S = 1074) :
   (openS a).r * 2 ^ S = valF a * (openS a).u ∧ valF a * (openS a).u + 2 * (openS a).a * 2 ^ S = valF (a + 1) * (openS a).u ∧ valF (a - 1) * (openS a).u + 2 * (openS a).b * 2 ^ S = valF a * (openS a).u ∧ ((openS a).ends = true ↔ a % 2 = 0) := by
 obtain ⟨e1, e2⟩ := expP_in ha
 obtain ⟨q1, q2, q3⟩ := a_parts a
 have hm0 := manP_pos h0
 obtain ⟨K, hK⟩ : ∃ K, K = expP a - 1 := ⟨_, rfl⟩
 obtain ⟨n, hn⟩ : ∃ n, n = nearP a := ⟨_, rfl⟩
 have hn12 := nearP_in a
 obtain ⟨U, hU⟩ : ∃ U, U = expP a - 1075 := ⟨_, rfl⟩
 obtain ⟨V, hV⟩ : ∃ V, V = 1075 - expP a := ⟨_, rfl⟩
 have v0 : valF a = manP a * 2 ^ K := by
   have := valF_mk (K := expP a - 1) (g := manP a) (by omega) q3
   rw [← q1] at this
   rw [hK]; exact this
 have v1 : valF (a + 1) = (manP a + 1) * 2 ^ K := by
   rw [show a + 1 = (expP a - 1) * 4503599627370496 + (manP a + 1) by omega, hK]; exact valF_mk (by omega) (by omega)
 have er : (openS a).r = manP a * 2 ^ (U + n) := by rw [hU, hn]; rfl
 have eu : (openS a).u = 2 ^ (V + n) := by rw [hV, hn]; exact Nat.one_mul _
 have ea : (openS a).a = 2 ^ (U + n - 1) := by rw [hU, hn]; exact Nat.one_mul _
 have eb : (openS a).b = 2 ^ U := by rw [hU]; exact Nat.one_mul _
 have two : ∀ x, 2 * 2 ^ x = 2 ^ (x + 1) := fun x => by rw [Nat.pow_succ, Nat.mul_comm]
 rw [er, eu, ea, eb, two, two]
 refine ⟨?_, ?_, ?_, ?_⟩
 · rw [v0, Nat.mul_assoc, Nat.mul_assoc, pow_at (x' := K) (y' := V + n) (by omega)]
 · rw [v0, v1, Nat.add_mul, Nat.one_mul, Nat.add_mul, pow_at (x := U + n - 1 + 1) (y := S) (x' := K) (y' := V + n) (by omega)]
 · by_cases hc : manP a = 4503599627370496 ∧ expP a > 1
   · have hn2 : n = 2 := by rw [hn]; unfold nearP; rw [if_pos hc]
     obtain ⟨k, hk⟩ : ∃ k, K = k + 1 := ⟨K - 1, by omega⟩
     have vm : valF (a - 1) = 9007199254740991 * 2 ^ k := by
       rw [show a - 1 = k * 4503599627370496 + 9007199254740991 by omega]; exact valF_mk (by omega) (by omega)
     have v0' : valF a = 9007199254740992 * 2 ^ k := by rw [v0, hc.1, hk, Nat.pow_succ]; omega
     rw [v0', vm, pow_at (x := U + 1) (y := S) (x' := k) (y' := V + n) (by omega), show 9007199254740992 * 2 ^ k = 9007199254740991 * 2 ^ k + 2 ^ k by omega, Nat.add_mul]
   · have hn1 : n = 1 := by rw [hn]; unfold nearP; rw [if_neg hc]
     have vm : valF (a - 1) = (manP a - 1) * 2 ^ K := by
       rw [show a - 1 = K * 4503599627370496 + (manP a - 1) by omega]; exact valF_mk (by omega) (by omega)
     rw [v0, vm, pow_at (x := U + 1) (y := S) (x' := K) (y' := V + n) (by omega)]
     conv => rhs; rw [show manP a = (manP a - 1) + 1 by omega, Nat.add_mul, Nat.one_mul, Nat.add_mul]
 · show (((manP a % 2 : Nat) : Int) == 0) = true ↔ a % 2 = 0
   rw [beq_iff_eq]
   omega
section
variable {a S W q : Nat} (h0 : 0 < a) (ha : a < 9218868437227405312) (hS : S = 1074) (hq : 0 < q)
include h0 ha hS hq
theorem isRN_span : isRN (W * 2 ^ S) q a ↔
   (q * (openS a).r < W * (openS a).u + q * (openS a).b ∨ (q * (openS a).r = W * (openS a).u + q * (openS a).b ∧ a % 2 = 0)) ∧
   (W * (openS a).u < q * (openS a).r + q * (openS a).a ∨ (W * (openS a).u = q * (openS a).r + q * (openS a).a ∧ a % 2 = 0)) := by
 obtain ⟨K, C, hK, hC, -⟩ := cap_room
 obtain ⟨-, -, -, -, hu, -⟩ := openS_in h0 ha hK hC
 obtain ⟨f1, f2, f3, -⟩ := open_spec h0 ha hS
 have hT := Nat.two_pow_pos S
 unfold isRN
 generalize 2 ^ S = T at *
 generalize (openS a).r = r at *
 generalize (openS a).u = u at *
 generalize (openS a).a = x at *
 generalize (openS a).b = y at *
 generalize valF (a - 1) = F0 at *
 generalize valF a = F1 at *
 generalize valF (a + 1) = F2 at *
 have m1 : q * (F0 + F1) * u + 2 * ((q * y) * T) = 2 * ((q * r) * T) := by
   have : q * ((F0 * u + F1 * u) + 2 * y * T) = q * (2 * (r * T)) := by congr 1; omega
   rw [Nat.mul_add, ← Nat.add_mul, ← Nat.mul_assoc, Nat.mul_left_comm q 2, ← Nat.mul_assoc q r T] at this
   rw [← this, Nat.mul_assoc 2 y T, Nat.mul_left_comm q 2, ← Nat.mul_assoc q y T]
 have m2 : q * (F1 + F2) * u = 2 * ((q * r) * T) + 2 * ((q * x) * T) := by
   have : q * (F1 * u + F2 * u) = q * (2 * (r * T) + 2 * (x * T)) := by congr 1; rw [← f2, f1.symm, Nat.mul_assoc 2 x T]; omega
   have e : q * (2 * (r * T) + 2 * (x * T)) = 2 * (q * r * T) + 2 * (q * x * T) := by rw [Nat.mul_add, Nat.mul_left_comm q 2 (r * T), Nat.mul_left_comm q 2 (x * T), ← Nat.mul_assoc q r T, ← Nat.mul_assoc q x T]
   rw [e, ← Nat.add_mul, ← Nat.mul_assoc] at this
   exact this
 have m3 : 2 * (W * T) * u = 2 * ((W * u) * T) := by rw [Nat.mul_assoc, Nat.mul_right_comm]
 have a1 : ((q * r) * T < (W * u + q * y) * T ↔ q * r < W * u + q * y) := Nat.mul_lt_mul_right hT
 have a2 : ((W * u) * T < (q * r + q * x) * T ↔ W * u < q * r + q * x) := Nat.mul_lt_mul_right hT
 have a3 : ((q * r) * T = (W * u + q * y) * T ↔ q * r = W * u + q * y) := ⟨Nat.eq_of_mul_eq_mul_right hT, fun h => by rw [h]⟩
 have a4 : ((W * u) * T = (q * r + q * x) * T ↔ W * u = q * r + q * x) := ⟨Nat.eq_of_mul_eq_mul_right hT, fun h => by rw [h]⟩
 have b1 : (q * (F0 + F1) * u < 2 * (W * T) * u ↔ q * (F0 + F1) < 2 * (W * T)) := Nat.mul_lt_mul_right hu
 have b2 : (2 * (W * T) * u < q * (F1 + F2) * u ↔ 2 * (W * T) < q * (F1 + F2)) := Nat.mul_lt_mul_right hu
 have b3 : (q * (F0 + F1) * u = 2 * (W * T) * u ↔ q * (F0 + F1) = 2 * (W * T)) := ⟨Nat.eq_of_mul_eq_mul_right hu, fun h => by rw [h]⟩
 have b4 : (2 * (W * T) * u = q * (F1 + F2) * u ↔ 2 * (W * T) = q * (F1 + F2)) := ⟨Nat.eq_of_mul_eq_mul_right hu, fun h => by rw [h]⟩
 rw [Nat.add_mul] at a1 a2 a3 a4
 rw [← a1, ← a2, ← a3, ← a4, ← b1, ← b2, ← b3, ← b4]
 omega
end
theorem ofD_cons (c : UInt8) (l : Bytes) : ofD (c :: l) = (c.toNat - 48) * 10 ^ l.length + ofD l := by
 have h : ∀ (l : Bytes) (x : Nat), l.foldl (fun a c => a * 10 + (c.toNat - 48)) x = x * 10 ^ l.length + l.foldl (fun a c => a * 10 + (c.toNat - 48)) 0 := by
   intro l
   induction l with
   | nil => intro x; simp
   | cons c r ih =>
     intro x
     rw [List.foldl_cons, List.foldl_cons, ih, ih (0 * 10 + (c.toNat - 48)), List.length_cons, Nat.pow_succ, Nat.add_mul, Nat.mul_assoc x 10, Nat.mul_comm 10, Nat.zero_mul, Nat.zero_add, Nat.add_assoc]
 show l.foldl _ (0 * 10 + (c.toNat - 48)) = _
 rw [h, Nat.zero_mul, Nat.zero_add]
 rfl
theorem ofD_zeros (l : Bytes) : ofD (l.dropWhile (· == 48)) = ofD l := by
 induction l with
 | nil => rfl
 | cons c r ih =>
   rw [List.dropWhile_cons]
   split
   · next h =>
     have : c = 48 := by simpa using h
     rw [ih, ofD_cons, this]; simp
   · rfl
theorem ofD_append (l m : Bytes) : ofD (l ++ m) = ofD l * 10 ^ m.length + ofD m := by
 induction l with
 | nil => rw [List.nil_append]; show ofD m = 0 * _ + ofD m; simp
 | cons c r ih =>
   rw [List.cons_append, ofD_cons, ofD_cons, ih, List.length_append, Nat.pow_add, Nat.add_mul, Nat.mul_assoc, Nat.add_assoc]
theorem ofD_lead {c : UInt8} {r : Bytes} (hc : 49 ≤ c.toNat) : 10 ^ r.length ≤ ofD (c :: r) := by
 rw [ofD_cons]
 have := Nat.mul_le_mul_right (10 ^ r.length) (show 1 ≤ c.toNat - 48 by omega)
 omega
structure Short (a S : Nat) (D : Bytes) (p : Int) (i j k M d : Nat) (Q : Bytes) : Prop where
  pow : p = (i : Int) - j
  cut : D = Q ++ [digC d]
  len : Q.length = k
  few : k < 20
  digs : ∀ c ∈ D, isDig c = true
  worth : ofD Q = M
  last : 1 ≤ d ∧ d ≤ 9
  lead : 0 < k → 10 ^ (k - 1) ≤ M
  near : isRN (ofD D * 10 ^ i * 2 ^ S) (10 ^ (j + k + 1)) a
  less : ¬ isRN (M * 10 ^ i * 2 ^ S) (10 ^ (j + k)) a
  more : ¬ isRN ((M + 1) * 10 ^ i * 2 ^ S) (10 ^ (j + k)) a
theorem open_more {a : Nat} (h0 : 0 < a) (ha : a < 9218868437227405312) : 0 < (openS a).b ∧ (openS a).b ≤ (openS a).a ∧ (openS a).a ≤ 2 * (openS a).b ∧ (openS a).r < 36028797018963968 * (openS a).b ∧ 2 * (openS a).b ≤ (openS a).r := by
 have q2 := manP_lt a
 have hm0 := manP_pos h0
 have hn12 := nearP_in a
 obtain ⟨U, hU⟩ : ∃ U, U = expP a - 1075 := ⟨_, rfl⟩
 have er : (openS a).r = manP a * 2 ^ (U + nearP a) := by rw [hU]; rfl
 have ea : (openS a).a = 2 ^ (U + nearP a - 1) := by rw [hU]; exact Nat.one_mul _
 have eb : (openS a).b = 2 ^ U := by rw [hU]; exact Nat.one_mul _
 have hp := Nat.two_pow_pos U
 rw [er, ea, eb]
 have hmul := Nat.mul_lt_mul_of_pos_right q2 hp
 have hmul2 := Nat.mul_le_mul_right (2 ^ U) hm0
 rcases hn12 with h | h <;> rw [h]
 · rw [show U + 1 - 1 = U by omega, Nat.pow_succ, ← Nat.mul_assoc]
   omega
 · rw [show U + 2 - 1 = U + 1 by omega, show (2 : Nat) ^ (U + 1) = 2 ^ U * 2 from Nat.pow_succ .., show (2 : Nat) ^ (U + 2) = 2 ^ U * 4 from by rw [Nat.pow_add], ← Nat.mul_assoc]
   omega
theorem short_spec {a S : Nat} (h0 : 0 < a) (ha : a < 9218868437227405312) (hS : S = 1074) : ∃ i j k M d Q, Short a S (shortP a).1 (shortP a).2 i j k M d Q := by
 obtain ⟨K, C, hK, hC, -⟩ := cap_room
 obtain ⟨-, -, -, -, hu, hr⟩ := openS_in h0 ha hK hC
 obtain ⟨hb, hba, hab, hrb, hbr⟩ := open_more h0 ha
 obtain ⟨-, -, -, hends⟩ := open_spec h0 ha hS
 obtain ⟨i, u1, u2⟩ := upF_spec ((openS a).r + (openS a).a + 1 - (openS a).u + 1) (openS a) 0 hu (by omega)
 have e1 : upS a = (upBy (openS a) i, (0 : Int) + (i : Int)) := u1
 obtain ⟨j, d1, d2, d3⟩ := dnF_spec ((upS a).1.u + 1 - (upS a).1.r) (upS a).1 (upS a).2 (by rw [e1]; exact hr) (by
   rw [e1]
   rw [high_f] at u2
   show (upBy (openS a) i).u - (upBy (openS a) i).r < (upBy (openS a) i).u + 1 - (upBy (openS a) i).r
   omega) (by rw [e1]; exact u2)
 have e2 : dnS a = (dnBy (upBy (openS a) i) j, (i : Int) - j) := by
   show dnF _ _ _ = _
   rw [d1, e1]
   refine Prod.ext rfl ?_
   show (0 : Int) + i - j = i - j
   omega
 rw [e1] at d2 d3
 have hp := Nat.pow_pos (a := 10) (n := j) (by decide)
 have hpi := Nat.pow_pos (a := 10) (n := i) (by decide)
 have hbj : 0 < (openS a).b * 10 ^ j := Nat.mul_pos hb hp
 have c1 := Nat.mul_le_mul_right (10 ^ j) hba
 have c2 := Nat.mul_le_mul_right (10 ^ j) hab
 have c3 := Nat.mul_lt_mul_of_pos_right hrb hp
 have c4 := Nat.mul_le_mul_right (10 ^ j) hbr
 rw [Nat.mul_assoc] at c2 c3 c4
 obtain ⟨k, M, r1, d, hk, h⟩ := gen_spec 20 (dnBy (upBy (openS a) i) j) [] (Nat.mul_pos hu hpi) hbj c1 (by
   rw [high_iff] at d3
   simp only [tenS, dnBy, upBy] at d3 ⊢
   omega) (by rw [low_f]; simp only [dnBy, upBy]; omega) d2
 obtain ⟨Q, q1, q2, q3⟩ := h.cut
 rw [show ofD [] = 0 from rfl, Nat.zero_mul, Nat.zero_add] at q3
 rw [List.length_nil, Nat.zero_add] at q2
 have hsp : shortP a = (genF 20 (dnBy (upBy (openS a) i) j) [], (i : Int) - j) := by unfold shortP; rw [e2]
 have hdg : ∀ c ∈ (shortP a).1, isDig c = true := by rw [hsp]; exact h.digs (fun c hc => by cases hc)
 have hD : (shortP a).1 = Q ++ [digC d] := by rw [hsp]; exact q1
 have hw : ofD (shortP a).1 = M * 10 + d := by rw [hD, ofD_app, (digC_dig (show d < 10 by have := h.dig; omega)).2, q3]; omega
 have hrest := h.rest
 have hlow := h.low
 have hhigh := h.high
 have hstop := h.stop
 have hless := h.less
 rw [low_f] at hlow
 rw [high_f] at hhigh
 simp only [dnBy, upBy] at hrest hlow hhigh hstop hless
 rw [hends] at hlow hhigh hstop
 have hq : ∀ n : Nat, 0 < 10 ^ n := fun n => Nat.pow_pos (by decide)
 obtain ⟨U, hU⟩ : ∃ U, U = (openS a).u * 10 ^ i := ⟨_, rfl⟩
 rw [← hU] at hrest hhigh hstop hless
 have hWu : ∀ N, N * 10 ^ i * (openS a).u = N * U := fun N => by rw [hU, Nat.mul_assoc, Nat.mul_comm (10 ^ i)]
 have hqx : ∀ n x, 10 ^ (j + n) * x = x * 10 ^ j * 10 ^ n := fun n x => by rw [Nat.mul_comm, Nat.pow_add, ← Nat.mul_assoc]
 refine ⟨i, j, k, M, d, Q, ⟨by rw [hsp], hD, q2, hk, hdg, q3, h.dig, ?_, ?_, ?_, ?_⟩⟩
 · intro hk0
   obtain ⟨n, rfl⟩ : ∃ n, k = n + 1 := ⟨k - 1, by omega⟩
   rw [Nat.add_sub_cancel]
   rw [high_iff] at d3
   simp only [tenS, dnBy, upBy] at d3
   rw [hends, ← hU] at d3
   generalize (openS a).r * 10 ^ j = R at *
   generalize (openS a).a * 10 ^ j = A at *
   have hU0 : 0 < U := by omega
   have hn := hq n
   have t1 : R * 10 ^ (n + 1) + A * 10 ^ (n + 1) = (R * 10 + A * 10) * 10 ^ n := by rw [Nat.pow_succ, Nat.mul_comm (10 ^ n), ← Nat.mul_assoc, ← Nat.mul_assoc, Nat.add_mul]
   have t2 : (M + 1) * U = M * U + U := Nat.succ_mul ..
   have t3 : U * 10 ^ n ≤ (R * 10 + A * 10) * 10 ^ n := Nat.mul_le_mul_right _ (by omega)
   have t4 : 10 ^ n * U ≤ (M + 1) * U := by rw [Nat.mul_comm]; omega
   have t5 := Nat.le_of_mul_le_mul_right t4 hU0
   rcases Nat.lt_or_ge M (10 ^ n) with z | z
   · have z1 : M + 1 = 10 ^ n := by omega
     rcases d3 with w | w
     · have t6 : U * 10 ^ n < (R * 10 + A * 10) * 10 ^ n := Nat.mul_lt_mul_of_pos_right w hn
       have t8 : (M + 1) * U < (R * 10 + A * 10) * 10 ^ n := by rw [z1, Nat.mul_comm]; exact t6
       omega
     · have t7 : (R * 10 + A * 10) * 10 ^ n = (M + 1) * U := by rw [w.1, z1, Nat.mul_comm]
       omega
   · exact z
 · rw [hw, isRN_span h0 ha hS (hq _), hWu, Nat.add_assoc, hqx, hqx, hqx]
   have e1 : (openS a).r * 10 ^ j * 10 ^ (k + 1) = 10 * (M * U) + 10 * r1 := by rw [Nat.pow_succ, ← Nat.mul_assoc, hrest]; omega
   have e2 : (M * 10 + d) * U = 10 * (M * U) + d * U := by rw [Nat.add_mul, Nat.mul_right_comm]; omega
   have e3 : 0 < (openS a).a * 10 ^ j * 10 ^ (k + 1) := Nat.mul_pos (Nat.mul_pos (by omega) hp) (hq _)
   have e4 : 0 < (openS a).b * 10 ^ j * 10 ^ (k + 1) := Nat.mul_pos hbj (hq _)
   rw [e1, e2]
   omega
 · rw [isRN_span h0 ha hS (hq _), hWu, hqx, hqx, hqx, hrest]
   omega
 · rw [isRN_span h0 ha hS (hq _), hWu, hqx, hqx, hqx, hrest, Nat.succ_mul]
   omega
end Go.Proofs.YtnhmmjogfkjceaaGreatDoor
namespace Go.Proofs.YtnhmmjogfkjceaaGreatDoor
open Go.Sl
theorem ten_310 {e : Nat} (h : e ≤ 1025) : ∃ k, k = 310 ∧ 2 ^ e ≤ 10 ^ k := by
 obtain ⟨m, hm⟩ : ∃ m : Nat, m = 5 := ⟨_, rfl⟩
 refine ⟨62 * m, by omega, ?_⟩
 refine Nat.le_trans (Nat.pow_le_pow_right (by decide) (show e ≤ 205 * m by omega)) ?_
 rw [Nat.pow_mul, Nat.pow_mul]
 exact Nat.pow_le_pow_left (by decide) m
theorem ten_330 {e : Nat} (h : e ≤ 1090) : ∃ k, k = 330 ∧ 2 ^ e ≤ 10 ^ k := by
 obtain ⟨m, hm⟩ : ∃ m : Nat, m = 10 := ⟨_, rfl⟩
 refine ⟨33 * m, by omega, ?_⟩
 refine Nat.le_trans (Nat.pow_le_pow_right (by decide) (show e ≤ 109 * m by omega)) ?_
 rw [Nat.pow_mul, Nat.pow_mul]
 exact Nat.pow_le_pow_left (by decide) m
theorem nearD_spec {L : Bytes} {P : Int} {S : Nat} (hS : S = 1074) (hd : ∀ c ∈ L, isDig c = true) (hl : L.length ≤ 801) {c : UInt8} {r : Bytes} (hL : L = c :: r) (hc : 49 ≤ c.toNat) :
   isRN (ofD L * 10 ^ P.toNat * 2 ^ S) (10 ^ (-P).toNat) (nearD L P) := by
 have hlo : 10 ^ r.length ≤ ofD L := by rw [hL]; exact ofD_lead hc
 have hhi := ofD_lt _ L rfl fun x hx => isDig_in (hd x hx)
 have hn : L.length = r.length + 1 := by rw [hL]; rfl
 have hne : L ≠ [] := by rw [hL]; simp
 have q10 : ∀ n : Nat, 0 < 10 ^ n := fun n => Nat.pow_pos (by decide)
 have q2 : ∀ n : Nat, 0 < 2 ^ n := fun n => Nat.two_pow_pos n
 by_cases h1 : (L.length : Int) + P < -330
 · rw [nearD_none (.inr h1)]
   apply isRN_none
   rw [show P.toNat = 0 by omega, Nat.pow_zero, Nat.mul_one]
   obtain ⟨k, hk, hp⟩ := ten_330 (e := S + 1) (by omega)
   have e1 : 2 * (ofD L * 2 ^ S) = ofD L * 2 ^ (S + 1) := by rw [Nat.pow_succ, Nat.mul_left_comm, Nat.mul_comm 2]
   have e2 : ofD L * 2 ^ (S + 1) < 10 ^ L.length * 2 ^ (S + 1) := Nat.mul_lt_mul_of_pos_right hhi (q2 _)
   have e3 : 10 ^ L.length * 2 ^ (S + 1) ≤ 10 ^ L.length * 10 ^ k := Nat.mul_le_mul_left _ hp
   rw [← Nat.pow_add] at e3
   have e4 : (10 : Nat) ^ (L.length + k) ≤ 10 ^ (-P).toNat := Nat.pow_le_pow_right (by decide) (by omega)
   omega
 · by_cases h2 : (L.length : Int) + P > 310
   · rw [nearD_inf hne h1 h2]
     apply isRN_inf (q10 _)
     obtain ⟨k, hk, hv⟩ := valF_inf
     obtain ⟨t, ht, hp⟩ := ten_310 (e := k - S) (by omega)
     rw [hv, show k = (k - S) + S by omega, Nat.pow_add, ← Nat.mul_assoc]
     refine Nat.mul_le_mul_right _ ?_
     refine Nat.le_trans (Nat.mul_le_mul_left _ hp) ?_
     rw [← Nat.pow_add]
     refine Nat.le_trans ?_ (Nat.mul_le_mul_right _ hlo)
     rw [← Nat.pow_add]
     exact Nat.pow_le_pow_right (by decide) (by omega)
   · rw [nearD_some hne h1 h2, Nat.one_mul]
     have hdl : ∀ x ∈ L, 48 ≤ x.toNat ∧ x.toNat ≤ 57 := fun x hx => isDig_in (hd x hx)
     have k1 := ofD_tensK (K := L.length) (n := P.toNat) hdl (Nat.le_refl _)
     have hpos : 0 < ofD L := Nat.lt_of_lt_of_le (q10 _) hlo
     exact round_spec (Nat.mul_pos hpos (q10 _)) (q10 _) hS (ten_room (k := L.length + P.toNat) (by omega) k1) (ten_room (k := (-P).toNat) (by omega) (Nat.le_refl _))
theorem nearest_spec {A B : Bytes} {z : Int} {S : Nat} (hS : S = 1074) (hd : ∀ c ∈ A ++ B, isDig c = true) (hl : (A ++ B).length ≤ 800) :
   isRN (ofD (A ++ B) * 10 ^ (z - (B.length : Int)).toNat * 2 ^ S) (10 ^ (-(z - (B.length : Int))).toNat) (nearestP ⟨A, B, z⟩) := by
 unfold nearestP
 simp only []
 have hll : ((A ++ B).dropWhile (· == 48)).length ≤ (A ++ B).length := (List.dropWhile_sublist _).length_le
 rw [cutD_no (by omega)]
 simp only []
 by_cases h : (A ++ B).dropWhile (· == 48) = []
 · have hz : ofD (A ++ B) = 0 := by rw [← ofD_zeros, h]; rfl
   rw [hz, h, nearD_none (.inl rfl)]
   apply isRN_none
   simp only [Nat.zero_mul, Nat.mul_zero]
   exact Nat.pow_pos (by decide)
 · obtain ⟨c, r, e⟩ : ∃ c r, (A ++ B).dropWhile (· == 48) = c :: r := by
     cases hq : (A ++ B).dropWhile (· == 48) with
     | nil => exact absurd hq h
     | cons c r => exact ⟨c, r, rfl⟩
   have hsub : ∀ x ∈ (A ++ B).dropWhile (· == 48), isDig x = true := fun x hx => hd x ((List.dropWhile_sublist _).subset hx)
   have hc : 49 ≤ c.toNat := by
     have h4 := List.head?_dropWhile_not (· == 48) (A ++ B)
     rw [e] at h4
     have hc := isDig_in (hsub c (by rw [e]; exact List.mem_cons_self ..))
     rcases Nat.lt_or_ge 48 c.toNat with q | q
     · exact q
     · have : c = 48 := by apply UInt8.toNat_inj.1; show c.toNat = 48; omega
       rw [this] at h4; simp at h4
   have := nearD_spec (P := z - (B.length : Int)) hS hsub (by omega) e hc
   rw [ofD_zeros] at this
   exact this
def okC (x : UInt8) : Prop := isDig x = true ∨ x = 46 ∨ x = 101 ∨ x = 43 ∨ x = 45
theorem okC.bl {x : UInt8} (h : okC x) : isBl x = false := by
 rcases h with q | q | q | q | q
 · exact isDig_bl q
 all_goals (subst q; rfl)
theorem okC.ne {x : UInt8} (h : okC x) : x ≠ 120 ∧ x ≠ 88 ∧ x ≠ 73 := by
 rcases h with q | q | q | q | q
 · have := isDig_ne q; exact ⟨this.2.2.2.2.2.2.1, this.2.2.2.2.2.2.2, this.2.2.2.2.2.1⟩
 all_goals (subst q; decide)
theorem dropWhile_none {p : UInt8 → Bool} : ∀ {X : Bytes}, (∀ c ∈ X, p c = false) → X.dropWhile p = X
 | [], _ => rfl
 | c :: r, h => by rw [List.dropWhile_cons, if_neg (by rw [h c (List.mem_cons_self ..)]; decide)]
theorem trim_none {s : Bytes} (h : ∀ x ∈ s, isBl x = false) : Lib.trimS s [9, 10, 32] = s := by
 unfold Lib.trimS Lib.trimLeftS Lib.trimRightS
 have e1 : s.reverse.dropWhile ([9, 10, 32].contains ·) = s.reverse := dropWhile_none fun c hc => h c (List.mem_reverse.1 hc)
 rw [e1, List.reverse_reverse]
 exact dropWhile_none h
theorem pre_none {s : Bytes} {y : UInt8} (h : ∀ x ∈ s, x ≠ y) (l : UInt8) : Lib.hasPrefix s [l, y] = false := by
 rcases hp : Lib.hasPrefix s [l, y] with _ | _
 · rfl
 · obtain ⟨r, hr⟩ := List.isPrefixOf_iff_prefix.1 hp
   exact absurd rfl (h y (by rw [← hr]; simp))
theorem read_plain {s : Bytes} {c : UInt8} {r : Bytes} {n : DecP} (hs : s = c :: r) (hc : isDig c = true) (h : ∀ x ∈ s, okC x) (hd : decP s = (n, true)) : readP s = nearestP n := by
 have hw : wayR s = (0, s) := by rw [hs]; exact wayR_else (isDig_ne hc).1 (isDig_ne hc).2.1
 have hx : ¬ (Lib.hasPrefix s [48, 120] = true ∨ Lib.hasPrefix s [48, 88] = true) := by
   rw [pre_none (fun x hx => (h x hx).ne.1), pre_none (fun x hx => (h x hx).ne.2.1)]; decide
 rw [readP_dec (trim_none fun x hx => (h x hx).bl) (by rw [hs]; simp) hx (by rw [hw, hs]; exact no_inf (isDig_ne hc).2.2.2.2.2.1), hw]
 simp only []
 rw [hd, if_pos rfl, Nat.zero_add]
theorem read_neg {s : Bytes} {n : DecP} (h : ∀ x ∈ s, okC x) (hd : decP s = (n, true)) : readP ([45] ++ s) = 9223372036854775808 + nearestP n := by
 have h' : ∀ x ∈ [45] ++ s, okC x := by
   intro x hx
   rcases List.mem_append.1 hx with q | q
   · rw [List.mem_singleton.1 q]; exact .inr (.inr (.inr (.inr rfl)))
   · exact h x q
 have hx : ¬ (Lib.hasPrefix ([45] ++ s) [48, 120] = true ∨ Lib.hasPrefix ([45] ++ s) [48, 88] = true) := by
   rw [pre_none (fun x hx => (h' x hx).ne.1), pre_none (fun x hx => (h' x hx).ne.2.1)]; decide
 have hi : ¬ s = [73, 110, 102, 105, 110, 105, 116, 121] := by
   intro q
   exact absurd rfl (h 73 (by rw [q]; simp)).ne.2.2
 rw [readP_dec (trim_none fun x hx => (h' x hx).bl) (by simp) hx (by rw [show [45] ++ s = 45 :: s from rfl, wayR_45]; exact hi), show [45] ++ s = 45 :: s from rfl, wayR_45]
 simp only []
 rw [hd, if_pos rfl]
def Tail (T : Bytes) (z : Int) : Prop := (T = [] ∧ z = 0) ∨ ∃ r, T = 101 :: r ∧ powN 0 ((wayP r).2.takeWhile isDig) * (wayP r).1 = z ∧ (wayP r).2.takeWhile isDig ≠ [] ∧ (wayP r).2.dropWhile isDig = [] ∧ ∀ x ∈ r, okC x ∧ x ≠ 46
theorem Tail.ok {T : Bytes} {z : Int} (h : Tail T z) : ∀ x ∈ T, okC x := by
 rcases h with ⟨h, _⟩ | ⟨r, h, _, _, _, hr⟩
 · rw [h]; intro x hx; cases hx
 · rw [h]; intro x hx
   rcases List.mem_cons.1 hx with q | q
   · exact .inr (.inr (.inl q))
   · exact (hr x q).1
theorem decP_tail {A T : Bytes} {z : Int} (hA : ∀ c ∈ A, isDig c = true) (hn : A ≠ []) (hT : Tail T z) : decP (A ++ T) = (⟨A, [], z⟩, true) := by
 rcases hT with ⟨h, hz⟩ | ⟨r, h, p1, p2, p3, _⟩
 · subst h; subst hz
   rw [List.append_nil]
   have t := takeWhile_full hA
   exact decP_end (A := A) (B := []) (R := []) t.1 (by rw [t.2]; rfl) (by rw [t.2]; rfl) (fun q => hn q.1) rfl
 · subst h
   have ta := takeWhile_stop (p := isDig) (X := A) (c := 101) (Y := r) hA (by decide)
   have hf : fracP ((A ++ 101 :: r).dropWhile isDig) = ([], 101 :: r) := by
     rw [ta.2]
     refine fracP_no ?_
     rcases h : Lib.hasPrefix (101 :: r) [46] with _ | _
     · rfl
     · obtain ⟨q, hq⟩ := pre_dot h
       have := congrArg List.head? hq; simp at this
   rw [decP_pow (A := A) (B := []) (R := 101 :: r) (c := 101) (r := r) ta.1 (by rw [hf]) (by rw [hf]) (fun q => hn q.1) rfl (.inl rfl), p1, p3]
   simp [p2]
section
variable {a S : Nat} {D : Bytes} {p : Int} {i j k M d : Nat} {Q : Bytes} (hS : S = 1074) (h0 : 0 < a) (ha : a < 9218868437227405312) (h : Short a S D p i j k M d Q)
include h
theorem Short.length : D.length = k + 1 := by rw [h.cut, List.length_append, h.len]; rfl
theorem Short.first : ∃ c r, D = c :: r ∧ 49 ≤ c.toNat ∧ isDig c = true := by
  have hd := h.digs
  have hc := h.cut
  cases hQ : Q with
  | nil =>
    rw [hQ] at hc
    have := digC_dig (d := d) (by have := h.last; omega)
    exact ⟨digC d, [], by rw [hc]; rfl, by rw [this.2]; have := h.last; omega, this.1⟩
  | cons c r =>
    rw [hQ, List.cons_append] at hc
    have hcd : isDig c = true := hd c (by rw [hc]; exact List.mem_cons_self ..)
    have hl := h.len
    have hw := h.worth
    rw [hQ] at hl hw
    have hk : k = r.length + 1 := hl.symm
    have hlead := h.lead (by omega)
    rw [← hw, hk, Nat.add_sub_cancel, ofD_cons] at hlead
    have hlt := ofD_lt _ r rfl fun x hx => isDig_in (hd x (by rw [hc]; exact List.mem_cons_of_mem _ (List.mem_append.2 (.inl hx))))
    refine ⟨c, _, hc, ?_, hcd⟩
    have hc2 := isDig_in hcd
    rcases Nat.lt_or_ge 48 c.toNat with q | q
    · exact q
    · rw [show c.toNat - 48 = 0 by omega, Nat.zero_mul, Nat.zero_add] at hlead
      omega
include hS h0 ha
theorem Short.range : -400 ≤ p ∧ p ≤ 400 := by
 obtain ⟨c, r, hD, hc, -⟩ := h.first
 have hlen := h.length
 have hr : r.length = k := by rw [hD] at hlen; simpa using hlen
 have hlo : 10 ^ k ≤ ofD D := by rw [hD, ← hr]; exact ofD_lead hc
 have hhi := ofD_lt _ D rfl fun x hx => isDig_in (h.digs x hx)
 rw [hlen] at hhi
 have hp := h.pow
 have q10 : ∀ n : Nat, 0 < 10 ^ n := fun n => Nat.pow_pos (by decide)
 have q2 : ∀ n : Nat, 0 < 2 ^ n := fun n => Nat.two_pow_pos n
 apply Classical.byContradiction
 intro hn
 rcases Int.lt_or_le 400 p with hb | hb
 · have : isRN (ofD D * 10 ^ i * 2 ^ S) (10 ^ (j + k + 1)) 9218868437227405312 := by
     apply isRN_inf (q10 _)
     obtain ⟨n, hn, hv⟩ := valF_inf
     obtain ⟨t, ht, hp2⟩ := ten_310 (e := n - S) (by omega)
     rw [hv, show n = (n - S) + S by omega, Nat.pow_add 2, ← Nat.mul_assoc]
     refine Nat.mul_le_mul_right _ ?_
     refine Nat.le_trans (Nat.mul_le_mul_left _ hp2) ?_
     rw [← Nat.pow_add]
     refine Nat.le_trans ?_ (Nat.mul_le_mul_right _ hlo)
     rw [← Nat.pow_add]
     exact Nat.pow_le_pow_right (by decide) (by omega)
   have := isRN_uniq (q10 _) h.near this
   omega
 · have : isRN (ofD D * 10 ^ i * 2 ^ S) (10 ^ (j + k + 1)) 0 := by
     apply isRN_none
     obtain ⟨t, ht, hp2⟩ := ten_330 (e := S + 1) (by omega)
     have e1 : 2 * (ofD D * 10 ^ i * 2 ^ S) = ofD D * 10 ^ i * 2 ^ (S + 1) := by rw [Nat.pow_succ, Nat.mul_left_comm, Nat.mul_comm 2]
     have e2 : ofD D * 10 ^ i * 2 ^ (S + 1) < 10 ^ (k + 1) * 10 ^ i * 2 ^ (S + 1) := Nat.mul_lt_mul_of_pos_right (Nat.mul_lt_mul_of_pos_right hhi (q10 _)) (q2 _)
     have e3 : 10 ^ (k + 1) * 10 ^ i * 2 ^ (S + 1) ≤ 10 ^ (k + 1) * 10 ^ i * 10 ^ t := Nat.mul_le_mul_left _ hp2
     rw [← Nat.pow_add, ← Nat.pow_add] at e3
     have e4 : (10 : Nat) ^ (k + 1 + i + t) ≤ 10 ^ (j + k + 1) := Nat.pow_le_pow_right (by decide) (by omega)
     rw [← Nat.pow_add] at e2
     omega
   have := isRN_uniq (q10 _) h.near this
   omega
end
end Go.Proofs.YtnhmmjogfkjceaaGreatDoor
namespace Go.Proofs.YtnhmmjogfkjceaaGreatDoor
open Go.Sl
end Go.Proofs.YtnhmmjogfkjceaaGreatDoor
namespace Go.Proofs.YtnhmmjogfkjceaaGreatDoor
open Go.Sl
end Go.Proofs.YtnhmmjogfkjceaaGreatDoor
namespace Go.Proofs.YtnhmmjogfkjceaaGreatDoor
open Go.Sl
end Go.Proofs.YtnhmmjogfkjceaaGreatDoor
namespace Go.Proofs.YtnhmmjogfkjceaaGreatDoor
open Go.Sl
end Go.Proofs.YtnhmmjogfkjceaaGreatDoor
namespace Go.Proofs.YtnhmmjogfkjceaaGreatDoor
open Go.Sl
theorem print_form {a : Nat} (h0 : 0 < a) (ha : a < 9218868437227405312) : printP0 a = formP (shortP a).1 (shortP a).2 := by
 unfold printP0
 rw [if_neg (by omega), if_neg (by omega), if_neg (by omega)]
def mag (a : Nat) : Nat := a % 9223372036854775808
theorem read64 (a : Nat) (ha : a < 18446744073709551616) : Ieee.double.read a =
   if mag a < 4503599627370496 then .number (decide (9223372036854775808 ≤ a)) (mag a) (-1074)
   else if mag a < 9218868437227405312 then .number (decide (9223372036854775808 ≤ a)) (4503599627370496 + mag a % 4503599627370496) (-1074 + (mag a / 4503599627370496 - 1 : Nat))
   else if mag a = 9218868437227405312 then .infinity (decide (9223372036854775808 ≤ a)) else .nan (decide (9223372036854775808 ≤ a)) (mag a - 9218868437227405312) := by
 have hs : (a / 9223372036854775808 % 2 == 1) = decide (9223372036854775808 ≤ a) := by
   rw [Bool.eq_iff_iff]; simp; omega
 unfold Ieee.Format.read
 rw [show Ieee.double.signWeight = 9223372036854775808 from rfl, show Ieee.double.binade = 4503599627370496 from rfl, show Ieee.double.infRung = 9218868437227405312 from rfl, show Ieee.double.leastPlace = -1074 from rfl]
 simp only [hs]
 rfl
theorem read_fin {a : Nat} (ha : a < 18446744073709551616) (h : mag a < 9218868437227405312) : ∃ m k : Nat, Ieee.double.read a = .number (decide (9223372036854775808 ≤ a)) m ((k : Int) - 1074) ∧ valF (mag a) = m * 2 ^ k ∧ m < 9007199254740992 ∧ k ≤ 2045 := by
 rw [read64 a ha]
 by_cases h1 : mag a < 4503599627370496
 · rw [if_pos h1]
   exact ⟨mag a, 0, rfl, by unfold valF; rw [if_pos h1]; simp, by omega, by omega⟩
 · rw [if_neg h1, if_pos h]
   refine ⟨4503599627370496 + mag a % 4503599627370496, mag a / 4503599627370496 - 1, ?_, by unfold valF; rw [if_neg h1, Nat.add_comm], by omega, by omega⟩
   congr 1 <;> omega
def valZ (a : Nat) : Int := if 9223372036854775808 ≤ a then -(valF (mag a) : Int) else (valF (mag a) : Int)
theorem signed_val {s : Bool} {m k n b : Nat} (hb : b ≤ k) : Ieee.signed s m (k - b) * 2 ^ b = if s = true then -((m * 2 ^ k : Nat) : Int) else ((m * 2 ^ k : Nat) : Int) := by
 have e : ((m <<< (k - b) : Nat) : Int) * 2 ^ b = ((m * 2 ^ k : Nat) : Int) := by
   rw [Nat.shiftLeft_eq, show (2 : Int) ^ b = ((2 ^ b : Nat) : Int) by simp, ← Int.natCast_mul, Nat.mul_assoc, ← Nat.pow_add, show k - b + b = k by omega]
 unfold Ieee.signed
 split
 · rw [Int.neg_mul, e]
 · exact e
theorem order_fin {a b : Nat} (ha : a < 18446744073709551616) (hb : b < 18446744073709551616) (h1 : mag a < 9218868437227405312) (h2 : mag b < 9218868437227405312) : Ieee.double.order a b = some (compare (valZ a) (valZ b)) := by
 obtain ⟨m, k, r1, v1, -, -⟩ := read_fin ha h1
 obtain ⟨n, l, r2, v2, -, -⟩ := read_fin hb h2
 unfold Ieee.Format.order
 rw [r1, r2]
 show some (compare (Ieee.signed _ m (((k : Int) - 1074) - min ((k : Int) - 1074) ((l : Int) - 1074)).toNat) (Ieee.signed _ n (((l : Int) - 1074) - min ((k : Int) - 1074) ((l : Int) - 1074)).toNat)) = _
 obtain ⟨c, hc⟩ : ∃ c : Nat, c = min k l := ⟨_, rfl⟩
 rw [show (((k : Int) - 1074) - min ((k : Int) - 1074) ((l : Int) - 1074)).toNat = k - c by omega, show (((l : Int) - 1074) - min ((k : Int) - 1074) ((l : Int) - 1074)).toNat = l - c by omega]
 have e1 := signed_val (s := decide (9223372036854775808 ≤ a)) (m := m) (k := k) (n := n) (b := c) (by omega)
 have e2 := signed_val (s := decide (9223372036854775808 ≤ b)) (m := n) (k := l) (n := n) (b := c) (by omega)
 have z1 : valZ a = Ieee.signed (decide (9223372036854775808 ≤ a)) m (k - c) * 2 ^ c := by rw [e1]; unfold valZ; rw [v1]; simp only [decide_eq_true_eq]
 have z2 : valZ b = Ieee.signed (decide (9223372036854775808 ≤ b)) n (l - c) * 2 ^ c := by rw [e2]; unfold valZ; rw [v2]; simp only [decide_eq_true_eq]
 rw [z1, z2]
 generalize Ieee.signed (decide (9223372036854775808 ≤ a)) m (k - c) = x
 generalize Ieee.signed (decide (9223372036854775808 ≤ b)) n (l - c) = y
 have hp : (0 : Int) < 2 ^ c := by have := Int.pow_pos (n := 2) (m := c) (by decide); exact this
 congr 1
 have lt : x * 2 ^ c < y * 2 ^ c ↔ x < y := Int.mul_lt_mul_right hp
 have eq : x * 2 ^ c = y * 2 ^ c ↔ x = y := ⟨fun h => Int.eq_of_mul_eq_mul_right (by omega) h, fun h => by rw [h]⟩
 show compareOfLessAndEq x y = compareOfLessAndEq (x * 2 ^ c) (y * 2 ^ c)
 unfold compareOfLessAndEq
 simp only [lt, eq]
theorem order_nan {a b : Nat} (ha : a < 18446744073709551616) (h : mag a > 9218868437227405312) : Ieee.double.order a b = none ∧ Ieee.double.order b a = none := by
 have hr : ∃ s f, Ieee.double.read a = .nan s f := by
   rw [read64 a ha, if_neg (by omega), if_neg (by omega), if_neg (by omega)]
   exact ⟨_, _, rfl⟩
 obtain ⟨s, f, hr⟩ := hr
 unfold Ieee.Format.order
 rw [hr]
 refine ⟨rfl, ?_⟩
 cases Ieee.double.read b <;> rfl
theorem order_self {a : Nat} (ha : a < 18446744073709551616) : Ieee.double.order a a = if mag a > 9218868437227405312 then none else some .eq := by
 by_cases h : mag a > 9218868437227405312
 · rw [if_pos h]; exact (order_nan ha h).1
 · rw [if_neg h]
   by_cases h1 : mag a = 9218868437227405312
   · unfold Ieee.Format.order
     rw [read64 a ha, if_neg (by omega), if_neg (by omega), if_pos h1]
     show some (compare _ _) = some .eq
     cases decide (9223372036854775808 ≤ a) <;> rfl
   · rw [order_fin ha ha (by omega) (by omega)]
     congr 1
     show compareOfLessAndEq (valZ a) (valZ a) = .eq
     unfold compareOfLessAndEq
     rw [if_neg (by omega), if_pos rfl]
theorem f_nan {a : Nat} (ha : a < 18446744073709551616) : (Ieee.double.order a a != some .eq) = decide (mag a > 9218868437227405312) := by
 rw [order_self ha]
 by_cases h : mag a > 9218868437227405312
 · rw [if_pos h, decide_eq_true h]; rfl
 · rw [if_neg h, decide_eq_false h]; rfl
end Go.Proofs.YtnhmmjogfkjceaaGreatDoor
namespace Go.Proofs.YtnhmmjogfkjceaaGreatDoor
open Go.Sl
theorem len_snoc (d : Bytes) (e : UInt8) : (d ++ [e]).length = d.length + 1 := by rw [List.length_append]; rfl
theorem rep48 : ∀ n : Nat, Lib.repeatL [48] n = List.replicate n (48 : UInt8)
 | 0 => rfl
 | n + 1 => by rw [Lib.repeatL, rep48 n, List.replicate_succ]; rfl
structure Form (X D : Bytes) (p : Int) (A F B T : Bytes) (z : Int) (x y : Nat) : Prop where
  text : X = A ++ (F ++ T)
  ahead : ∀ c ∈ A, isDig c = true
  behind : ∀ c ∈ B, isDig c = true
  point : (F = [] ∧ B = []) ∨ F = 46 :: B
  tail : (T = [] ∧ z = 0) ∨ ∃ r, T = 101 :: r ∧ Lib.atoiAll r = .ok z ∧ -420 ≤ z ∧ z ≤ 420
  digits : A ++ B = List.replicate x 48 ++ (D ++ List.replicate y 48)
  place : (A.length : Int) - x + z = p
section
variable {a S : Nat} {D : Bytes} {p : Int} {i j k M d : Nat} {Q : Bytes}
theorem short_head (h : Short a S D p i j k M d Q) : ∀ c, D[0]? = some c → c ≠ 48 := by
 intro c hc q
 obtain ⟨e, r, h1, h2, -⟩ := h.first
 rw [h1] at hc
 have : e = c := by simpa using hc
 rw [this, q] at h2
 exact absurd h2 (by decide)
end
end Go.Proofs.YtnhmmjogfkjceaaGreatDoor
namespace Go.Proofs.YtnhmmjogfkjceaaGreatDoor
open Go.Sl
theorem cut_even (s : Bool) (n drop : Nat) : Ieee.Toward.even.cut s n drop = if 2 ^ drop < 2 * (n % 2 ^ drop) ∨ (2 ^ drop = 2 * (n % 2 ^ drop) ∧ n / 2 ^ drop % 2 = 1) then n / 2 ^ drop + 1 else n / 2 ^ drop := by
 have key : Ieee.Toward.even.cut s n drop = if 2 ^ min drop (n.log2 + 2) < 2 * (n % 2 ^ min drop (n.log2 + 2)) ∨ (2 ^ min drop (n.log2 + 2) = 2 * (n % 2 ^ min drop (n.log2 + 2)) ∧ n / 2 ^ min drop (n.log2 + 2) % 2 = 1) then n / 2 ^ min drop (n.log2 + 2) + 1 else n / 2 ^ min drop (n.log2 + 2) := by
   unfold Ieee.Toward.cut
   simp only [Nat.one_shiftLeft]
   generalize 2 ^ min drop (n.log2 + 2) = g
   by_cases h1 : g < 2 * (n % g)
   · simp [h1]
   · by_cases h2 : g = 2 * (n % g)
     · by_cases h3 : n / g % 2 = 1
       · rw [if_pos (.inr ⟨h2, h3⟩)]
         simp [h1, ← h2, h3]
       · rw [if_neg (by omega)]
         simp [h1, h3]
     · rw [if_neg (by omega)]
       simp [h1, h2]
 rw [key]
 by_cases hd : drop ≤ n.log2 + 2
 · rw [Nat.min_eq_left hd]
 · rw [Nat.min_eq_right (by omega)]
   have h1 : n < 2 ^ (n.log2 + 1) := Nat.lt_log2_self
   have h2 : 2 ^ (n.log2 + 2) = 2 * 2 ^ (n.log2 + 1) := by rw [Nat.pow_succ]; omega
   have h3 : 2 ^ (n.log2 + 2) ≤ 2 ^ drop := Nat.pow_le_pow_right (by decide) (by omega)
   rw [Nat.mod_eq_of_lt (show n < 2 ^ (n.log2 + 2) by omega), Nat.mod_eq_of_lt (show n < 2 ^ drop by omega), Nat.div_eq_of_lt (show n < 2 ^ (n.log2 + 2) by omega), Nat.div_eq_of_lt (show n < 2 ^ drop by omega)]
   rw [if_neg (by omega), if_neg (by omega)]
theorem double_word (s : Bool) (r : Nat) : Ieee.double.word s r = if s = true then 9223372036854775808 + r else r := by
 cases s <;> rfl
theorem isRN_cut {X q g u : Nat} {up : Prop} [Decidable up] (hq : 0 < q) (h1 : q * (g * 2 ^ u) ≤ X) (h2 : X < q * ((g + 1) * 2 ^ u)) (hg : g < 9007199254740992) (hgg : u = 0 ∨ 4503599627370496 ≤ g)
   (hup : up ↔ (q * ((2 * g + 1) * 2 ^ u) < 2 * X ∨ (q * ((2 * g + 1) * 2 ^ u) = 2 * X ∧ g % 2 = 1))) : isRN X q (min (u * 4503599627370496 + (if up then g + 1 else g)) 9218868437227405312) := by
 have v1 : valF (u * 4503599627370496 + g) = g * 2 ^ u := valF_mk (by omega) hgg
 have v2 : valF (u * 4503599627370496 + g + 1) = (g + 1) * 2 ^ u := by rw [Nat.add_assoc]; exact valF_mk (by omega) (by omega)
 by_cases hinf : u * 4503599627370496 + g < 9218868437227405312
 · have hb := isRN_between hq hinf (by rw [v1]; exact h1) (by rw [v2]; exact h2)
   have hm : q * (valF (u * 4503599627370496 + g) + valF (u * 4503599627370496 + g + 1)) = q * ((2 * g + 1) * 2 ^ u) := by rw [v1, v2, ← Nat.add_mul, show g + (g + 1) = 2 * g + 1 by omega]
   simp only [hm, show (u * 4503599627370496 + g) % 2 = g % 2 by omega] at hb
   by_cases hu : up
   · rw [if_pos (hup.1 hu)] at hb
     rw [if_pos hu, Nat.min_eq_left (by omega), ← Nat.add_assoc]
     exact hb
   · rw [if_neg fun z => hu (hup.2 z)] at hb
     rw [if_neg hu, Nat.min_eq_left (by omega)]
     exact hb
 · rw [Nat.min_eq_right (by split <;> omega)]
   refine isRN_inf hq (Nat.le_trans (Nat.mul_le_mul_left _ ?_) h1)
   rw [← v1]
   exact valF_mono (by omega)
theorem nearest_isRN (s : Bool) {m k j : Nat} {pl : Int} (hm : 0 < m) (hp : pl = (k : Int) - j - 1074) : ∃ a, Ieee.double.nearest s m pl = (if s = true then 9223372036854775808 + a else a) ∧ isRN (m * 2 ^ k) (2 ^ j) a := by
 unfold Ieee.Format.nearest
 rw [if_neg (by omega)]
 have hL1 : 2 ^ m.log2 ≤ m := Nat.log2_self_le (by omega)
 have hL2 : m < 2 ^ (m.log2 + 1) := Nat.lt_log2_self
 generalize m.log2 = L at *
 rw [show Ieee.double.leastPlace = -1074 from rfl, show Ieee.double.binade = 4503599627370496 from rfl, show Ieee.double.infRung = 9218868437227405312 from rfl, show Ieee.double.fractionBits = 52 from rfl]
 simp only [double_word]
 obtain ⟨u, hu⟩ : ∃ u : Nat, max (pl + (L : Int) - ((52 : Nat) : Int)) (-1074) = (u : Int) - 1074 := ⟨(max (pl + (L : Int) - ((52 : Nat) : Int)) (-1074) + 1074).toNat, by omega⟩
 rw [hu, show ((u : Int) - 1074 - -1074).toNat = u by omega, cut_even]
 obtain ⟨x, hx⟩ : ∃ x, x = (pl - ((u : Int) - 1074)).toNat := ⟨_, rfl⟩
 obtain ⟨y, hy⟩ : ∃ y, y = ((u : Int) - 1074 - pl).toNat := ⟨_, rfl⟩
 rw [← hx, ← hy, Nat.shiftLeft_eq]
 have hxy : k + y = x + (u + j) := by omega
 have hu0 : u = 0 ∨ L + x = 52 + y := by omega
 have hLx : L + x ≤ 52 + y := by omega
 obtain ⟨g, hg⟩ : ∃ g, g = m * 2 ^ x / 2 ^ y := ⟨_, rfl⟩
 obtain ⟨r, hr⟩ : ∃ r, r = m * 2 ^ x % 2 ^ y := ⟨_, rfl⟩
 have hdm : 2 ^ y * g + r = m * 2 ^ x := by rw [hg, hr]; exact Nat.div_add_mod _ _
 have hrl : r < 2 ^ y := by rw [hr]; exact Nat.mod_lt _ (Nat.two_pow_pos y)
 rw [← hg, ← hr]
 have hgl : g < 9007199254740992 := by
   rw [hg, Nat.div_lt_iff_lt_mul (Nat.two_pow_pos y), show 9007199254740992 = 2 ^ 53 from rfl, ← Nat.pow_add]
   refine Nat.lt_of_lt_of_le (Nat.mul_lt_mul_of_pos_right hL2 (Nat.two_pow_pos x)) ?_
   rw [← Nat.pow_add]
   exact Nat.pow_le_pow_right (by decide) (by omega)
 have hgg : u = 0 ∨ 4503599627370496 ≤ g := by
   rcases hu0 with h | h
   · exact .inl h
   · refine .inr ?_
     rw [hg, Nat.le_div_iff_mul_le (Nat.two_pow_pos y), show 4503599627370496 = 2 ^ 52 from rfl, ← Nat.pow_add, ← h, Nat.pow_add]
     exact Nat.mul_le_mul_right _ hL1
 -- the number, in units of what is kept
 have hX : m * 2 ^ k * 2 ^ y = (2 ^ y * g + r) * 2 ^ (u + j) := by
   rw [hdm, Nat.mul_assoc, Nat.mul_assoc, ← Nat.pow_add, ← Nat.pow_add, hxy]
 have py := Nat.two_pow_pos y
 have pj := Nat.two_pow_pos j
 have pu := Nat.two_pow_pos (u + j)
 have lo : 2 ^ j * 2 ^ y * (g * 2 ^ u) ≤ (2 ^ y * g + r) * 2 ^ (u + j) := by
   rw [show 2 ^ j * 2 ^ y * (g * 2 ^ u) = 2 ^ y * g * 2 ^ (u + j) by rw [Nat.pow_add]; ac_rfl]
   exact Nat.mul_le_mul_right _ (Nat.le_add_right _ _)
 have hi : (2 ^ y * g + r) * 2 ^ (u + j) < 2 ^ j * 2 ^ y * ((g + 1) * 2 ^ u) := by
   rw [show 2 ^ j * 2 ^ y * ((g + 1) * 2 ^ u) = (2 ^ y * g + 2 ^ y) * 2 ^ (u + j) by rw [Nat.pow_add, show 2 ^ y * g + 2 ^ y = 2 ^ y * (g + 1) by rw [Nat.mul_add, Nat.mul_one]]; ac_rfl]
   exact Nat.mul_lt_mul_of_pos_right (by omega) pu
 have back : ∀ a, isRN ((2 ^ y * g + r) * 2 ^ (u + j)) (2 ^ j * 2 ^ y) a → isRN (m * 2 ^ k) (2 ^ j) a := fun a h =>
   isRN_scale (Nat.mul_pos pj py) pj (by rw [← hX]; ac_rfl) h
 refine ⟨_, rfl, back _ ?_⟩
 have hq : 0 < 2 ^ j * 2 ^ y := Nat.mul_pos pj py
 refine isRN_cut hq lo hi hgl hgg ?_
 rw [show 2 ^ j * 2 ^ y * ((2 * g + 1) * 2 ^ u) = (2 ^ y * (2 * g) + 2 ^ y) * 2 ^ (u + j) by rw [Nat.pow_add, show 2 ^ y * (2 * g) + 2 ^ y = 2 ^ y * (2 * g + 1) by rw [Nat.mul_add, Nat.mul_one]]; ac_rfl, show 2 * ((2 ^ y * g + r) * 2 ^ (u + j)) = (2 ^ y * (2 * g) + 2 * r) * 2 ^ (u + j) by rw [← Nat.mul_assoc, Nat.mul_add, Nat.mul_left_comm]]
 have c1 : (2 ^ y * (2 * g) + 2 ^ y) * 2 ^ (u + j) < (2 ^ y * (2 * g) + 2 * r) * 2 ^ (u + j) ↔ 2 ^ y < 2 * r := by
   rw [Nat.mul_lt_mul_right pu]; omega
 have c2 : (2 ^ y * (2 * g) + 2 ^ y) * 2 ^ (u + j) = (2 ^ y * (2 * g) + 2 * r) * 2 ^ (u + j) ↔ 2 ^ y = 2 * r := by
   rw [Nat.mul_right_cancel_iff pu]; omega
 rw [c1, c2]
end Go.Proofs.YtnhmmjogfkjceaaGreatDoor
namespace Go.Proofs.YtnhmmjogfkjceaaGreatDoor
open Go.Sl
theorem isRN_exact {q a : Nat} (hq : 0 < q) (ha : a ≤ 9218868437227405312) : isRN (q * valF a) q a := by
 rcases Nat.lt_or_ge a 9218868437227405312 with h | h
 · have h1 : q * valF a < q * valF (a + 1) := Nat.mul_lt_mul_of_pos_left (valF_lt a) hq
   have := isRN_between hq h (Nat.le_refl _) h1
   rw [if_neg (by rw [Nat.mul_add]; omega)] at this
   exact this
 · rw [show a = 9218868437227405312 by omega]
   exact isRN_inf hq (Nat.le_refl _)
theorem nearest_eq {m m' k j k' j' : Nat} {pl pl' : Int} (hm : 0 < m) (hm' : 0 < m') (hp : pl = (k : Int) - j - 1074) (hp' : pl' = (k' : Int) - j' - 1074) (h : m * 2 ^ (k + j') = m' * 2 ^ (k' + j)) : Ieee.double.nearest false m pl = Ieee.double.nearest false m' pl' := by
 obtain ⟨a, e1, r1⟩ := nearest_isRN false hm hp
 obtain ⟨b, e2, r2⟩ := nearest_isRN false hm' hp'
 rw [e1, e2]
 show a = b
 refine isRN_uniq (Nat.two_pow_pos j) r1 (isRN_scale (Nat.two_pow_pos j') (Nat.two_pow_pos j) ?_ r2)
 rw [Nat.mul_assoc, ← Nat.pow_add, Nat.mul_assoc, ← Nat.pow_add]
 exact h.symm
def ldP (m : Nat) (e : Int) : Nat := Ieee.double.nearest false m e
theorem ldP_zero (e : Int) : ldP 0 e = 0 := by unfold ldP Ieee.Format.nearest; rw [if_pos rfl]; rfl
theorem ldP_isRN {m k j : Nat} {pl : Int} (hm : 0 < m) (hp : pl = (k : Int) - j - 1074) : isRN (m * 2 ^ k) (2 ^ j) (ldP m pl) := by
 obtain ⟨a, e1, r1⟩ := nearest_isRN false hm hp
 unfold ldP
 rw [e1]; exact r1
theorem ldP_exact {g u : Nat} {pl : Int} (hg : g ≤ 9007199254740992) (hgg : u = 0 ∨ 4503599627370496 ≤ g) (hp : pl = (u : Int) - 1074) : ldP g pl = min (u * 4503599627370496 + g) 9218868437227405312 := by
 rcases Nat.eq_zero_or_pos g with h0 | h0
 · subst h0
   rw [ldP_zero, show u = 0 by omega]; rfl
 have h1 := ldP_isRN (m := g) (k := u) (j := 0) (pl := pl) h0 (by omega)
 have v := valF_mk hg hgg
 rcases Nat.le_total (u * 4503599627370496 + g) 9218868437227405312 with h | h
 · rw [Nat.min_eq_left h]
   have := isRN_exact (q := 1) (by decide) h
   rw [v, Nat.one_mul] at this
   exact isRN_uniq (by decide) h1 this
 · rw [Nat.min_eq_right h]
   refine isRN_uniq (by decide) h1 (isRN_inf (by decide) ?_)
   rw [← v]
   have := valF_mono h
   omega
def hN (h : Bool) : Nat := if h = true then 1 else 0
theorem stands_exact {m M s a : Nat} {E E0 : Int} (h : m * 2 ^ a = M * 2 ^ s) (hE : E0 = E + a - s) : Stands (M * 2 ^ E.toNat) (2 ^ (-E).toNat) m E0 false := by
 intro f
 have e1 : M * 2 ^ E.toNat * 2 ^ (-E0).toNat = M * 2 ^ (E.toNat + (-E0).toNat) := by rw [Nat.mul_assoc, ← Nat.pow_add]
 have e2 : 2 * f * 2 ^ (-E).toNat * 2 ^ E0.toNat = 2 * f * 2 ^ ((-E).toNat + E0.toNat) := by rw [Nat.mul_assoc, ← Nat.pow_add]
 rw [e1, e2, pow_cmp (x' := s) (y' := a) (by omega), pow_cmp_eq (x' := s) (y' := a) (by omega), ← h]
 have p := Nat.two_pow_pos a
 refine ⟨Nat.mul_lt_mul_right p, ?_⟩
 simp only [and_true]
 exact ⟨fun q => Nat.eq_of_mul_eq_mul_right p q, fun q => by rw [q]⟩
theorem nearN_spec {man : Nat} {e E : Int} {half : Bool} (hm : man < 18446744073709551616) (hpos : 0 < 2 * man + hN half) (hE : E = clampE e - 1 + 1074) : isRN ((2 * man + hN half) * 2 ^ E.toNat) (2 ^ (-E).toNat) (nearN man e half) := by
 have hq := Nat.two_pow_pos (-E).toNat
 unfold nearN
 simp only []
 rw [show min (max e (-5000)) 5000 = clampE e from rfl]
 generalize clampE e = c at *
 by_cases h0 : man = 0
 · subst h0
   have hh : half = true := by cases half; simp [hN] at hpos; rfl
   subst hh
   rw [if_pos ⟨rfl, rfl⟩]
   exact form_spec hq (by decide) (by decide) (stands_exact (s := 63) (a := 0) (by simp [hN]) (by omega))
 rw [if_neg fun q => h0 q.1, if_neg h0]
 have b0 : 0 < bitsN man := by rw [bitsN_pos h0]; omega
 have b1 := bitsN_ge man h0
 have b2 := bitsN_lt man
 have b64 : bitsN man ≤ 64 := by
   rcases Nat.lt_or_ge 64 (bitsN man) with q | q
   · have : 2 ^ 64 ≤ 2 ^ (bitsN man - 1) := Nat.pow_le_pow_right (by decide) (by omega)
     omega
   · exact q
 obtain ⟨s, hs⟩ : ∃ s, s = 64 - bitsN man := ⟨_, rfl⟩
 rw [← hs]
 have hlo : 9223372036854775808 ≤ man * 2 ^ s := by
   have := Nat.mul_le_mul_right (2 ^ s) b1
   rw [← Nat.pow_add, show bitsN man - 1 + s = 63 by omega] at this
   exact this
 have hhi : man * 2 ^ s + 2 ^ s ≤ 18446744073709551616 := by
   have := Nat.mul_le_mul_right (2 ^ s) b2
   rw [← Nat.pow_add, show bitsN man + s = 64 by omega, Nat.succ_mul] at this
   exact this
 have ps := Nat.two_pow_pos s
 cases half
 · rw [if_neg (by simp)]
   refine form_spec hq hlo (by omega) (stands_exact (s := s) (a := 1) ?_ (by omega))
   simp only [hN]
   rw [Nat.pow_one, if_neg (by decide), Nat.add_zero, Nat.mul_comm 2 man, Nat.mul_right_comm]
 · by_cases hs0 : s > 0
   · rw [if_pos ⟨rfl, hs0⟩]
     have e2 : 2 ^ s = 2 * 2 ^ (s - 1) := by rw [show s = s - 1 + 1 by omega, Nat.pow_succ, Nat.mul_comm]; rfl
     refine form_spec hq (by omega) (by omega) (stands_exact (s := s - 1) (a := 0) ?_ (by omega))
     rw [hN, if_pos rfl, Nat.pow_zero, Nat.mul_one, Nat.add_mul, Nat.one_mul, e2, ← Nat.mul_assoc, Nat.mul_comm man 2]
   · rw [if_neg fun q => hs0 q.2]
     have hs00 : s = 0 := by omega
     rw [hs00, Nat.pow_zero, Nat.mul_one] at hlo ⊢
     refine form_spec hq hlo hm ?_
     intro f
     have hc : c - ((0 : Nat) : Int) + 1074 = E + 1 := by omega
     rw [hc]
     have e1 : (2 * man + hN true) * 2 ^ E.toNat * 2 ^ (-(E + 1)).toNat = (2 * man + 1) * 2 ^ (E.toNat + (-(E + 1)).toNat) := by rw [Nat.mul_assoc, ← Nat.pow_add]; rfl
     have e2 : 2 * f * 2 ^ (-E).toNat * 2 ^ (E + 1).toNat = 2 * f * 2 ^ ((-E).toNat + (E + 1).toNat) := by rw [Nat.mul_assoc, ← Nat.pow_add]
     have l1 := pow_cmp (A := 2 * man + 1) (B := 2 * f) (x := E.toNat + (-(E + 1)).toNat) (y := (-E).toNat + (E + 1).toNat) (x' := 0) (y' := 1) (by omega)
     have l2 := pow_cmp_eq (A := 2 * man + 1) (B := 2 * f) (x := E.toNat + (-(E + 1)).toNat) (y := (-E).toNat + (E + 1).toNat) (x' := 0) (y' := 1) (by omega)
     rw [e1, e2, l1, l2, Nat.pow_zero, Nat.pow_one, Nat.mul_one]
     simp only [Bool.true_eq_false, and_false, iff_false]
     omega
theorem nearN_zero {e : Int} : nearN 0 e false = 0 := by unfold nearN; simp
structure Whole53 (m a L g : Nat) : Prop where
  pos : 0 < m
  bits : a = (L + 1022) * 4503599627370496 + g
  lo : 4503599627370496 ≤ g
  hi : g < 9007199254740992
  l53 : L ≤ 53
  eq : m * 4503599627370496 = g * 2 ^ L
theorem whole53 {m : Nat} (h0 : 0 < m) (h1 : m ≤ 9007199254740992) : ∃ L g, Whole53 m (ldP m 0) L g := by
 obtain ⟨L, hL⟩ : ∃ L, L = m.log2 := ⟨_, rfl⟩
 have l1 : 2 ^ L ≤ m := by rw [hL]; exact Nat.log2_self_le (by omega)
 have l2 : m < 2 ^ (L + 1) := by rw [hL]; exact Nat.lt_log2_self
 have l53 : L ≤ 53 := by
   rcases Nat.lt_or_ge 53 L with q | q
   · have : 2 ^ 54 ≤ 2 ^ L := Nat.pow_le_pow_right (by decide) q
     omega
   · exact q
 obtain ⟨g, hg⟩ : ∃ g, m * 4503599627370496 = g * 2 ^ L := by
   rcases Nat.lt_or_ge 52 L with q | q
   · have h2 : L = 53 := by omega
     subst h2
     have : m = 9007199254740992 := by omega
     exact ⟨4503599627370496, by rw [this]⟩
   · refine ⟨m * 2 ^ (52 - L), ?_⟩
     rw [Nat.mul_assoc, ← Nat.pow_add, show 52 - L + L = 52 by omega]
 have glo : 4503599627370496 ≤ g := by
   refine Nat.le_of_mul_le_mul_right (c := 2 ^ L) ?_ (Nat.two_pow_pos L)
   rw [← hg, Nat.mul_comm]
   exact Nat.mul_le_mul_right _ l1
 have ghi : g < 9007199254740992 := by
   refine Nat.lt_of_mul_lt_mul_right (a := 2 ^ L) ?_
   rw [← hg, show 9007199254740992 = 2 * 4503599627370496 from rfl, Nat.mul_right_comm, show 2 * 2 ^ L = 2 ^ (L + 1) by rw [Nat.pow_succ, Nat.mul_comm]]
   exact Nat.mul_lt_mul_of_pos_right l2 (by decide)
 refine ⟨L, g, h0, ?_, glo, ghi, l53, hg⟩
 have e1 : ldP m 0 = ldP g ((L + 1022 : Nat) - 1074 : Int) := by
   obtain ⟨T, hT⟩ : ∃ T : Nat, T = 1022 := ⟨_, rfl⟩
   refine nearest_eq (k := 52 + T) (j := 0) (k' := L + T) (j' := 0) h0 (by omega) (by omega) (by omega) ?_
   have : m * 2 ^ (52 + T + 0) = m * 4503599627370496 * 2 ^ T := by
     rw [Nat.mul_assoc, show 4503599627370496 = 2 ^ 52 from rfl, ← Nat.pow_add]; rfl
   rw [this, hg, Nat.mul_assoc, ← Nat.pow_add]; rfl
 rw [e1, ldP_exact (u := L + 1022) (by omega) (.inr glo) rfl]
 exact Nat.min_eq_left (by omega)
end Go.Proofs.YtnhmmjogfkjceaaGreatDoor
namespace Go.Proofs.YtnhmmjogfkjceaaGreatDoor
open Go.Sl
end Go.Proofs.YtnhmmjogfkjceaaGreatDoor
namespace Go.Proofs.YtnhmmjogfkjceaaGreatDoor
open Go.Sl
theorem mid_lo {X q X' q' v : Nat} (hq : 0 < q) (h : X * q' ≤ X' * q) (hv : q * v ≤ 2 * X) : q' * v ≤ 2 * X' := by
 refine Nat.le_of_mul_le_mul_left (c := q) ?_ hq
 calc q * (q' * v) = q' * (q * v) := Nat.mul_left_comm ..
   _ ≤ q' * (2 * X) := Nat.mul_le_mul_left _ hv
   _ = 2 * (X * q') := by rw [Nat.mul_left_comm, Nat.mul_comm q']
   _ ≤ 2 * (X' * q) := Nat.mul_le_mul_left _ h
   _ = q * (2 * X') := by rw [Nat.mul_left_comm q 2, Nat.mul_comm q]
theorem mid_lt {X q X' q' v : Nat} (hq : 0 < q) (hq' : 0 < q') (h : X * q' ≤ X' * q) (hv : q * v < 2 * X) : q' * v < 2 * X' := by
 apply Nat.lt_of_mul_lt_mul_left (a := q)
 calc q * (q' * v) = q' * (q * v) := Nat.mul_left_comm ..
   _ < q' * (2 * X) := Nat.mul_lt_mul_of_pos_left hv hq'
   _ = 2 * (X * q') := by rw [Nat.mul_left_comm, Nat.mul_comm q']
   _ ≤ 2 * (X' * q) := Nat.mul_le_mul_left _ h
   _ = q * (2 * X') := by rw [Nat.mul_left_comm q 2, Nat.mul_comm q]
theorem mid_hi {X q X' q' v : Nat} (hq : 0 < q) (h : X' * q ≤ X * q') (hv : 2 * X ≤ q * v) : 2 * X' ≤ q' * v := by
 refine Nat.le_of_mul_le_mul_left (c := q) ?_ hq
 calc q * (2 * X') = 2 * (X' * q) := by rw [Nat.mul_left_comm, Nat.mul_comm q]
   _ ≤ 2 * (X * q') := Nat.mul_le_mul_left _ h
   _ = q' * (2 * X) := by rw [Nat.mul_left_comm q' 2, Nat.mul_comm q']
   _ ≤ q' * (q * v) := Nat.mul_le_mul_left _ hv
   _ = q * (q' * v) := Nat.mul_left_comm ..
theorem mid_gt {X q X' q' v : Nat} (hq : 0 < q) (hq' : 0 < q') (h : X' * q ≤ X * q') (hv : 2 * X < q * v) : 2 * X' < q' * v := by
 apply Nat.lt_of_mul_lt_mul_left (a := q)
 calc q * (2 * X') = 2 * (X' * q) := by rw [Nat.mul_left_comm, Nat.mul_comm q]
   _ ≤ 2 * (X * q') := Nat.mul_le_mul_left _ h
   _ = q' * (2 * X) := by rw [Nat.mul_left_comm q' 2, Nat.mul_comm q']
   _ < q' * (q * v) := Nat.mul_lt_mul_of_pos_left hv hq'
   _ = q * (q' * v) := Nat.mul_left_comm ..
theorem isRN_mid {X1 q1 X2 q2 X3 q3 a : Nat} (h1 : 0 < q1) (h2 : 0 < q2) (h3 : 0 < q3) (l1 : X1 * q2 ≤ X2 * q1) (l2 : X2 * q3 ≤ X3 * q2) (g1 : isRN X1 q1 a) (g3 : isRN X3 q3 a) : isRN X2 q2 a := by
 refine ⟨g1.1, ?_, ?_⟩
 · rcases g1.2.1 with g | g | ⟨g, e⟩
   · exact .inl g
   · exact .inr (.inl (mid_lt h1 h2 l1 g))
   · have := mid_lo h1 l1 (Nat.le_of_eq g)
     rcases Nat.lt_or_ge (q2 * (valF (a - 1) + valF a)) (2 * X2) with q | q
     · exact .inr (.inl q)
     · exact .inr (.inr ⟨by omega, e⟩)
 · rcases g3.2.2 with g | g | ⟨g, e⟩
   · exact .inl g
   · exact .inr (.inl (mid_gt h3 h2 l2 g))
   · have := mid_hi h3 l2 (Nat.le_of_eq g)
     rcases Nat.lt_or_ge (2 * X2) (q2 * (valF a + valF (a + 1))) with q | q
     · exact .inr (.inl q)
     · exact .inr (.inr ⟨by omega, e⟩)
theorem whole_rn {m S : Nat} (hS : S = 1074) : isRN (m * 2 ^ S) 1 (ldP m 0) := by
 rcases Nat.eq_zero_or_pos m with h | h
 · rw [h, ldP_zero, Nat.zero_mul]
   exact isRN_none (by decide)
 · have := ldP_isRN (m := m) (k := S) (j := 0) (pl := 0) h (by omega)
   exact this
theorem whole_val {m S : Nat} (hS : S = 1074) (h0 : 0 < m) (h : m ≤ 9007199254740992) : valF (ldP m 0) = m * 2 ^ S := by
 obtain ⟨L, g, hw⟩ := whole53 h0 h
 have hb := hw.bits
 have h1 := valF_mk (K := L + 1022) (g := g) (by have := hw.hi; omega) (.inr hw.lo)
 rw [hb, h1]
 refine Nat.eq_of_mul_eq_mul_right (m := 4503599627370496) (by decide) ?_
 rw [Nat.mul_right_comm m, hw.eq, Nat.mul_assoc g, Nat.mul_assoc g, show (4503599627370496 : Nat) = 2 ^ 52 from rfl, ← Nat.pow_add, ← Nat.pow_add]
 congr 2
 omega
theorem whole_in {m : Nat} (h0 : 0 < m) (h : m ≤ 9007199254740992) : 0 < ldP m 0 ∧ ldP m 0 < 9218868437227405312 := by
 obtain ⟨L, g, hw⟩ := whole53 h0 h
 have := hw.bits
 have := hw.lo
 have := hw.hi
 have := hw.l53
 omega
theorem whole_one {m n S : Nat} (hS : S = 1074) (hm0 : 0 < m) (hm : m < 9007199254740992) (hn : 0 < n) {a : Nat} (h1 : isRN (m * 2 ^ S) 1 a) (h2 : isRN (n * 2 ^ S) 1 a) : n = m := by
 have hp := Nat.two_pow_pos S
 have e1 := isRN_uniq (by decide) h1 (whole_rn hS)
 rcases Nat.lt_or_ge 9007199254740992 n with h | h
 · have := isRN_mid (a := a) (X1 := m * 2 ^ S) (q1 := 1) (X2 := 9007199254740992 * 2 ^ S) (q2 := 1) (X3 := n * 2 ^ S) (q3 := 1) (by decide) (by decide) (by decide) (by rw [Nat.mul_one, Nat.mul_one]; exact Nat.mul_le_mul_right _ (by omega)) (by rw [Nat.mul_one, Nat.mul_one]; exact Nat.mul_le_mul_right _ (by omega)) h1 h2
   have e2 := isRN_uniq (by decide) this (whole_rn hS)
   have v1 := whole_val hS hm0 (by omega)
   have v2 := whole_val hS (m := 9007199254740992) (by decide) (by decide)
   rw [← e1] at v1
   rw [← e2, v1] at v2
   have := Nat.eq_of_mul_eq_mul_right hp v2
   omega
 · have e2 := isRN_uniq (by decide) h2 (whole_rn hS)
   have v1 := whole_val hS hm0 (by omega)
   have v2 := whole_val hS hn h
   rw [← e1] at v1
   rw [← e2, v1] at v2
   exact (Nat.eq_of_mul_eq_mul_right hp v2).symm
theorem short_whole {N a S : Nat} {D : Bytes} {p : Int} {i j k M d : Nat} {Q : Bytes} (hS : S = 1074) (h : Short a S D p i j k M d Q) (hN : isRN (N * 2 ^ S) 1 a) (h0 : 0 < N) (h1 : N < 9007199254740992) :
   ((k + 1 : Nat) : Int) ≤ p ∧ ofD D * 10 ^ (p.toNat - (k + 1)) = N := by
 have hp := h.pow
 have q10 : ∀ n : Nat, 0 < 10 ^ n := fun n => Nat.pow_pos (by decide)
 have hd := h.last
 have hD : ofD D = M * 10 + d := by
   rw [h.cut, ofD_app, h.worth, (digC_dig (show d < 10 by omega)).2]; omega
 have hle : ((k + 1 : Nat) : Int) ≤ p := by
   apply Classical.byContradiction
   intro hc
   obtain ⟨t, ht⟩ : ∃ t, j + k = i + t := ⟨j + k - i, by omega⟩
   have hn : N * 10 ^ (j + k) = N * 10 ^ t * 10 ^ i := by rw [ht, Nat.mul_assoc, ← Nat.pow_add, Nat.add_comm t i]
   have hl := h.less
   have hm := h.more
   have hr := h.near
   have e10 : (10 : Nat) ^ (j + k + 1) = 10 ^ (j + k) * 10 := Nat.pow_succ ..
   rw [e10] at hr
   generalize hJ : (10 : Nat) ^ (j + k) = J at *
   have hJ0 : 0 < J := hJ ▸ q10 _
   generalize N * 10 ^ t = N' at *
   generalize (10 : Nat) ^ i = I at *
   generalize 2 ^ S = T at *
   rcases Nat.lt_or_ge M N' with g | g
   · refine hm (isRN_mid (X1 := ofD D * I * T) (q1 := J * 10) (X3 := N * T) (q3 := 1) (by omega) hJ0 (by decide) ?_ ?_ hr hN)
     · have : ofD D * (I * T * J) ≤ (M + 1) * 10 * (I * T * J) := Nat.mul_le_mul_right _ (by omega)
       calc ofD D * I * T * J = ofD D * (I * T * J) := by simp only [Nat.mul_assoc]
         _ ≤ (M + 1) * 10 * (I * T * J) := this
         _ = (M + 1) * I * T * (J * 10) := by simp only [Nat.mul_assoc, Nat.mul_left_comm, Nat.mul_comm]
     · calc (M + 1) * I * T * 1 ≤ N' * I * T * 1 := by rw [Nat.mul_one, Nat.mul_one]; exact Nat.mul_le_mul_right _ (Nat.mul_le_mul_right _ g)
         _ = N * T * J := by rw [← hn, Nat.mul_one, Nat.mul_right_comm]
   · refine hl (isRN_mid (X1 := N * T) (q1 := 1) (X3 := ofD D * I * T) (q3 := J * 10) (by decide) hJ0 (by omega) ?_ ?_ hN hr)
     · calc N * T * J = N' * I * T * 1 := by rw [← hn, Nat.mul_one, Nat.mul_right_comm]
         _ ≤ M * I * T * 1 := by rw [Nat.mul_one, Nat.mul_one]; exact Nat.mul_le_mul_right _ (Nat.mul_le_mul_right _ g)
     · have : M * 10 * (I * T * J) ≤ ofD D * (I * T * J) := Nat.mul_le_mul_right _ (by omega)
       calc M * I * T * (J * 10) = M * 10 * (I * T * J) := by simp only [Nat.mul_assoc, Nat.mul_left_comm, Nat.mul_comm]
         _ ≤ ofD D * (I * T * J) := this
         _ = ofD D * I * T * J := by simp only [Nat.mul_assoc]
 refine ⟨hle, ?_⟩
 have hv := isRN_scale (q10 _) (show 0 < 1 by decide) (X' := ofD D * 10 ^ (p.toNat - (k + 1)) * 2 ^ S) (by
   rw [Nat.mul_one, Nat.mul_right_comm _ (2 ^ S), Nat.mul_assoc (ofD D) (10 ^ (p.toNat - (k + 1))), ← Nat.pow_add]
   congr 3
   omega) h.near
 exact whole_one hS h0 h1 (Nat.mul_pos (by rw [hD]; omega) (q10 _)) hN hv
theorem dec_canon : ∀ (n : Nat) (l : Bytes), l.length = n → (∀ c ∈ l, isDig c = true) → (∀ c, l[0]? = some c → c ≠ 48) → l ≠ [] → Lib.decDigits (ofD l) = l
 | 0, l, hl, _, _, hn => absurd (List.length_eq_zero_iff.1 hl) hn
 | n + 1, l, hl, hd, hh, hn => by
   obtain ⟨m, c, rfl⟩ : ∃ m c, l = m ++ [c] := ⟨l.dropLast, l.getLast hn, (List.dropLast_concat_getLast hn).symm⟩
   have hml : m.length = n := by rw [len_snoc] at hl; omega
   have hc := isDig_in (hd c (by simp))
   have hcc : UInt8.ofNat (48 + (c.toNat - 48)) = c := by rw [show 48 + (c.toNat - 48) = c.toNat by omega]; simp
   rw [ofD_app]
   by_cases hm : m = []
   · subst hm
     rw [show ofD [] = 0 from rfl, Nat.zero_mul, Nat.zero_add, Lib.decDigits, dif_pos (by omega), hcc]
     rfl
   · have ih := dec_canon n m hml (fun x hx => hd x (List.mem_append_left _ hx)) (fun x hx => hh x (by rw [List.getElem?_append_left (List.length_pos_iff.2 hm)]; exact hx)) hm
     have hpos : 1 ≤ ofD m := by
       rcases m with _ | ⟨x, r⟩
       · exact absurd rfl hm
       · have hx := isDig_in (hd x (by simp))
         have hx48 := hh x (by simp)
         have hne : x.toNat ≠ 48 := fun q => hx48 (by rw [← UInt8.ofNat_toNat (x := x), q]; rfl)
         have := ofD_lead (r := r) (c := x) (by omega)
         have := Nat.pow_pos (n := r.length) (show 0 < 10 by decide)
         omega
     rw [Lib.decDigits, dif_neg (by omega), show (ofD m * 10 + (c.toNat - 48)) / 10 = ofD m by omega, show (ofD m * 10 + (c.toNat - 48)) % 10 = c.toNat - 48 by omega, ih, hcc]
theorem ofD_noughts (n : Nat) : ofD (List.replicate n (48 : UInt8)) = 0 := by
 induction n with
 | zero => rfl
 | succ n ih => rw [List.replicate_succ, ofD_cons, ih]; simp
theorem print_whole {N : Nat} (h0 : 0 < N) (h1 : N < 9007199254740992) : printP0 (ldP N 0) = Lib.decDigits N := by
 obtain ⟨S, hS⟩ : ∃ S : Nat, S = 1074 := ⟨_, rfl⟩
 have hi := whole_in h0 (by omega)
 rw [print_form hi.1 hi.2]
 obtain ⟨i, j, k, M, d, Q, h⟩ := short_spec hi.1 hi.2 hS
 obtain ⟨hle, hv⟩ := short_whole hS h (whole_rn hS) h0 h1
 have hlen := h.length
 generalize (shortP (ldP N 0)).1 = D at *
 generalize (shortP (ldP N 0)).2 = p at *
 have hd : ∀ c ∈ D ++ List.replicate (p.toNat - (k + 1)) (48 : UInt8), isDig c = true := by
   intro c hc
   rcases List.mem_append.1 hc with q | q
   · exact h.digs c q
   · rw [List.eq_of_mem_replicate q]; rfl
 have hval : ofD (D ++ List.replicate (p.toNat - (k + 1)) (48 : UInt8)) = N := by rw [ofD_append, ofD_noughts, List.length_replicate, hv, Nat.add_zero]
 have hll : (D ++ List.replicate (p.toNat - (k + 1)) (48 : UInt8)).length = p.toNat := by rw [List.length_append, List.length_replicate, hlen]; omega
 have hne : D ≠ [] := by intro z; rw [z] at hlen; simp at hlen
 have hp : p ≤ 21 := by
   obtain ⟨c, r, hD, hc, -⟩ := h.first
   rw [hD, List.cons_append] at hval hll
   have := ofD_lead (r := r ++ List.replicate (p.toNat - (k + 1)) (48 : UInt8)) hc
   rw [hval] at this
   rw [List.length_cons] at hll
   apply Classical.byContradiction
   intro q
   have h20 : (10 : Nat) ^ 20 ≤ 10 ^ (r ++ List.replicate (p.toNat - (k + 1)) (48 : UInt8)).length := Nat.pow_le_pow_right (by decide) (by omega)
   have : (10 : Nat) ^ 20 = 100000000000000000000 := rfl
   omega
 rw [form_a (by omega) hp, rep48, show (p - (D.length : Int)).toNat = p.toNat - (k + 1) by omega]
 have := dec_canon _ _ rfl hd (by
   intro c hc
   rw [List.getElem?_append_left (List.length_pos_iff.2 hne)] at hc
   exact short_head h c hc) (by simp [hne])
 rw [hval] at this
 exact this.symm
def flP (z : Int) : Nat := if z < 0 then 9223372036854775808 + ldP z.natAbs 0 else ldP z.natAbs 0
theorem fl_nearest (z : Int) : FloatKind.f64.nearest z = flP z := by
 have e : FloatKind.f64.nearest z = Ieee.double.nearest (decide (z < 0)) z.natAbs 0 := rfl
 rw [e]
 unfold flP
 by_cases h : z < 0
 · rw [decide_eq_true h, if_pos h]
   obtain ⟨S, hS⟩ : ∃ S : Nat, S = 1074 := ⟨_, rfl⟩
   obtain ⟨a, h1, h2⟩ := nearest_isRN true (m := z.natAbs) (k := S) (j := 0) (pl := 0) (by omega) (by omega)
   rw [h1, if_pos rfl, isRN_uniq (by decide) h2 (whole_rn hS)]
 · rw [decide_eq_false h, if_neg h]
   rfl
theorem fl_in {z : Int} : flP z < 18446744073709551616 ∧ mag (flP z) ≤ 9218868437227405312 := by
 have h := (whole_rn (m := z.natAbs) rfl).1
 unfold flP mag
 split <;> omega
theorem itoa_neg {z : Int} (h : z < 0) : Lib.itoa z = [45] ++ Lib.decDigits z.natAbs := by simp [Lib.itoa, h]
theorem itoa_pos {z : Int} (h : ¬ z < 0) : Lib.itoa z = Lib.decDigits z.natAbs := by simp [Lib.itoa, h]; congr 1; omega
theorem print_fl {z : Int} (h1 : -9007199254740992 < z) (h2 : z < 9007199254740992) : printP (flP z) = Lib.itoa z := by
 by_cases hz : z = 0
 · subst hz; kernel_rfl
 · have hi := whole_in (m := z.natAbs) (by omega) (by omega)
   have hp := print_whole (N := z.natAbs) (by omega) (by omega)
   by_cases h : z < 0
   · rw [itoa_neg h, ← hp]
     unfold flP
     rw [if_pos h]
     unfold printP
     rw [if_neg (by omega), if_neg (by omega), if_pos (by omega), Nat.add_sub_cancel_left]
   · rw [itoa_pos h, ← hp]
     unfold flP
     rw [if_neg h, printP_small (by omega)]
theorem near_dec (N : Nat) (hN : N < 18446744073709551616) : nearestP ⟨Lib.decDigits N, [], 0⟩ = ldP N 0 := by
 obtain ⟨S, hS⟩ : ∃ S : Nat, S = 1074 := ⟨_, rfl⟩
 have hl : (Lib.decDigits N).length ≤ 20 := by
   rw [Lib.decDigits_length]
   rcases Nat.eq_zero_or_pos N with q | q
   · subst q; decide +kernel
   · have := Lib.numDigits_eq N q hN
     split at this <;> omega
 have h1 := nearest_spec (A := Lib.decDigits N) (B := []) (z := 0) hS (by rw [List.append_nil]; exact decDigits_dig N) (by rw [List.append_nil]; omega)
 rw [List.append_nil, ofD_decDigits] at h1
 simp only [List.length_nil, Int.natCast_zero, Int.sub_zero, Int.toNat_zero, Nat.pow_zero, Nat.mul_one, Int.neg_zero] at h1
 exact isRN_uniq (by decide) h1 (whole_rn hS)
theorem read_fl {z : Int} (h1 : -9223372036854775808 ≤ z) (h2 : z ≤ 9223372036854775807) : readP (Lib.itoa z) = flP z := by
 have hd := decP_tail (A := Lib.decDigits z.natAbs) (T := []) (z := 0) (decDigits_dig _) (decDigits_ne _) (.inl ⟨rfl, rfl⟩)
 rw [List.append_nil] at hd
 have hok : ∀ x ∈ Lib.decDigits z.natAbs, okC x := fun x hx => .inl (decDigits_dig _ x hx)
 unfold flP
 by_cases h : z < 0
 · rw [itoa_neg h, if_pos h, read_neg hok hd, near_dec _ (by omega)]
 · obtain ⟨c, r, hs⟩ : ∃ c r, Lib.decDigits z.natAbs = c :: r := by
     cases hq : Lib.decDigits z.natAbs with
     | nil => exact absurd hq (decDigits_ne _)
     | cons c r => exact ⟨c, r, rfl⟩
   rw [itoa_pos h, if_neg h, read_plain hs (decDigits_dig _ c (by rw [hs]; exact List.mem_cons_self)) hok hd, near_dec _ (by omega)]
def nibC (d : Nat) : UInt8 := if d < 10 then UInt8.ofNat (48 + d) else UInt8.ofNat (87 + d)
def hexU (n : Nat) : Bytes := if h : n < 16 then [nibC n] else hexU (n / 16) ++ [nibC (n % 16)]
theorem nib_all : ∀ d : Fin 16, hexD (nibC d.val) = some d.val ∧ isBl (nibC d.val) = false ∧ nibs[d.val]? = some (nibC d.val) := by decide +kernel
theorem hexU_mem : ∀ (n : Nat), ∀ c ∈ hexU n, ∃ d : Fin 16, c = nibC d.val := by
 intro n
 induction n using Nat.strongRecOn with
 | _ n ih =>
   intro c hc
   rw [hexU] at hc
   split at hc
   · next h => exact ⟨⟨n, h⟩, List.mem_singleton.1 hc⟩
   · rcases List.mem_append.1 hc with q | q
     · exact ih (n / 16) (by omega) c q
     · exact ⟨⟨n % 16, by omega⟩, List.mem_singleton.1 q⟩
theorem hexGo_app : ∀ (l m : Bytes) (man : Nat) (e : Int) (b : Bool), hexGo man e b (l ++ m) = match hexGo man e b l with | none => none | some (a, x, y) => hexGo a x y m
 | [], m, man, e, b => rfl
 | c :: r, m, man, e, b => by
   rw [List.cons_append]
   simp only [hexGo]
   cases hexD c with
   | none => rfl
   | some d =>
     simp only []
     split
     · exact hexGo_app r m _ _ _
     · exact hexGo_app r m _ _ _
theorem hexGo_one {c : UInt8} {d man : Nat} {e : Int} {b : Bool} (h : hexD c = some d) (hm : man < 1152921504606846976) : hexGo man e b [c] = some (man * 16 + d, e, b) := by
 simp only [hexGo, h]
 rw [if_pos (by omega)]
theorem hexGo_U : ∀ (n : Nat), n < 18446744073709551616 → hexGo 0 0 false (hexU n) = some (n, 0, false) := by
 intro n
 induction n using Nat.strongRecOn with
 | _ n ih =>
   intro hn
   rw [hexU]
   split
   · next h => rw [hexGo_one (nib_all ⟨n, h⟩).1 (by decide), Nat.zero_mul, Nat.zero_add]
   · next h =>
     rw [hexGo_app, ih (n / 16) (by omega) (by omega)]
     simp only []
     rw [hexGo_one (nib_all ⟨n % 16, by omega⟩).1 (by omega)]
     congr 2
     simp only []
     omega
theorem hexU_ne (n : Nat) : hexU n ≠ [] := by
 rw [hexU]
 split <;> simp
theorem nearN_whole {u : Nat} (hu : u < 18446744073709551616) : nearN u 0 false = ldP u 0 := by
 rcases Nat.eq_zero_or_pos u with h | h
 · subst h; rw [nearN_zero, ldP_zero]
 · obtain ⟨S, hS⟩ : ∃ S : Nat, S = 1074 := ⟨_, rfl⟩
   have h1 := nearN_spec (man := u) (e := 0) (E := (S : Int) - 1) (half := false) hu (by unfold hN; simp; omega) (by unfold clampE; omega)
   have h2 : isRN ((2 * u + hN false) * 2 ^ ((S : Int) - 1).toNat) (2 ^ (-((S : Int) - 1)).toNat) (ldP u 0) := by
     refine isRN_scale (by decide) (Nat.two_pow_pos _) ?_ (whole_rn (m := u) hS)
     have e2 : 2 ^ S = 2 * 2 ^ ((S : Int) - 1).toNat := by rw [← Nat.pow_succ']; congr 1; omega
     rw [show (-((S : Int) - 1)).toNat = 0 by omega, show hN false = 0 from rfl, e2]
     simp only [Nat.add_zero, Nat.pow_zero, Nat.mul_one]
     rw [Nat.mul_comm 2 u, Nat.mul_assoc]
   exact isRN_uniq (Nat.two_pow_pos _) h1 h2
theorem hexP_U {u : Nat} (hu : u < 18446744073709551616) : hexP (hexU u) = (ldP u 0, true) := by
 unfold hexP
 rw [hexGo_U u hu]
 simp only []
 rw [nearN_whole hu, decide_eq_true (hexU_ne u)]
theorem lit_hex {u : Nat} (hu : u < 18446744073709551616) : litP ([48, 120] ++ hexU u) = (ldP u 0, true) := by
 unfold litP
 rw [if_pos (by rfl)]
 exact hexP_U hu
theorem read_hex {u : Nat} (hu : u < 18446744073709551616) : readP ([32, 48, 88] ++ hexU u) = ldP u 0 := by
 have hb : ∀ x ∈ [48, 88] ++ hexU u, isBl x = false := by
   intro x hx
   rcases List.mem_append.1 hx with q | q
   · rcases List.mem_cons.1 q with y | y
     · rw [y]; rfl
     · rw [List.mem_singleton.1 y]; rfl
   · obtain ⟨d, rfl⟩ := hexU_mem u x q
     exact (nib_all d).2.1
 have ht : Lib.trimS ([32, 48, 88] ++ hexU u) [9, 10, 32] = [48, 88] ++ hexU u := by
   rw [show ([32, 48, 88] ++ hexU u : Bytes) = [32] ++ ([48, 88] ++ hexU u) from rfl, trim_pre (by intro c hc; rw [List.mem_singleton.1 hc]; rfl)]
   exact trim_none hb
 rw [readP_hex ht (by simp) (.inr (by rfl))]
 rw [show List.drop 2 ([48, 88] ++ hexU u : Bytes) = hexU u from rfl, hexP_U hu, if_pos rfl]
end Go.Proofs.YtnhmmjogfkjceaaGreatDoor
namespace Go.Proofs
open Go.Shelf
def Tryz.lays7n27_ren : Go.Shelf.Ren := ⟨fun | 27 => 140 | 28 => 168 | 29 => 169 | n => n, fun | 25 => 67 | 3 => 3 | 27 => 87 | 22 => 29 | 4 => 4 | 53 => 189 | 0 => 0 | 5 => 5 | 54 => 190 | n => n, fun | 0 => 9 | 1 => 10 | n => n⟩
theorem Tryz.lays7n27 : Go.Proofs.Lays7.n27 Tryz.prog Tryz.lays7n27_ren := {
 mixed := by kernel_rfl
 f27 := Tryz.func140.trans (congrArg some (by kernel_rfl))
 f28 := Tryz.func168.trans (congrArg some (by kernel_rfl))
 f29 := Tryz.func169.trans (congrArg some (by kernel_rfl))
 t0 := Tryz.underlying0
 a0 := Tryz.isAgg0
 z0 := Tryz.sizeOf0
 v0 := Tryz.zeroValue0
 i0 := by kernel_rfl
 t3 := Tryz.underlying3
 a3 := Tryz.isAgg3
 z3 := Tryz.sizeOf3
 v3 := Tryz.zeroValue3
 i3 := by kernel_rfl
 t4 := Tryz.underlying4
 a4 := Tryz.isAgg4
 z4 := Tryz.sizeOf4
 v4 := Tryz.zeroValue4
 i4 := by kernel_rfl
 t5 := Tryz.underlying5
 a5 := Tryz.isAgg5
 z5 := Tryz.sizeOf5
 v5 := Tryz.zeroValue5
 i5 := by kernel_rfl
 t22 := Tryz.underlying29
 a22 := Tryz.isAgg29
 z22 := Tryz.sizeOf29
 v22 := Tryz.zeroValue29
 i22 := by kernel_rfl
 t25 := Tryz.underlying67
 a25 := Tryz.isAgg67
 z25 := Tryz.sizeOf67
 v25 := Tryz.zeroValue67
 i25 := by kernel_rfl
 t27 := Tryz.underlying87
 a27 := Tryz.isAgg87
 z27 := Tryz.sizeOf87
 v27 := Tryz.zeroValue87
 i27 := by kernel_rfl
 t53 := Tryz.underlying189
 a53 := Tryz.isAgg189
 z53 := Tryz.sizeOf189
 v53 := Tryz.zeroValue189
 i53 := by kernel_rfl
 t54 := Tryz.underlying190
 a54 := Tryz.isAgg190
 z54 := Tryz.sizeOf190
 g0 := by kernel_rfl
 g1 := by kernel_rfl }
end Go.Proofs
namespace Go.Proofs.YtnhmmjogfkjceaaGreatDoor
open Go.Sl

theorem num_trim {W0 : World} {a : Gs} {l : List Int} (hl : LimOk l) (hk : Gs.ok 1 l.length a (l.map encP)) : SC Tryz.prog W0 121 #[a.val l.length] (Gs.ent 87 1 a (l.map encP)) (Ret (fun _ : Unit => Gs.ent 87 1 a ((lim (limV l)).map encP)) (fun v _ => v = a.val (lim (limV l)).length ∧ Gs.ok 1 (lim (limV l)).length a ((lim (limV l)).map encP))) := by
 refine SC_body (fn := Tryz.f121) (n := 21) Tryz.func121 rfl (by kernel_rfl) (ρ := [(0, Gs.val a l.length)]) rfl ?_
 refine SW_sig ((Gs.ent 87 1 a (l.map encP)) ++ ([])) (by simp only [List.append_nil, List.append_assoc]) ?_
 have hll_ : l.length ≤ maxLen := Nat.le_trans (Gs.ok.cap_le hk) (Gs.ok.cap_max hk)
 unfold maxLen at hll_
 have hcp_ : l.length ≤ a.cap := Gs.ok.cap_le hk
 refine sr ?_
 refine os 1 ?_
 refine nq ?_
 refine SW_block ?_
 refine SW_loop (α := Nat) (fun z_ ρ_ σ_ => Fits ρ_ σ_ [(0, Gs.val a z_)] ((Gs.ent 87 1 a (l.map encP)) ++ ([])) ∧ z_ ≤ l.length ∧ limV (l.take z_) = limV l) (fun z_ => z_) l.length ⟨⟨fun _ => rfl, ow⟩, Nat.le_refl _, by rw [List.take_length]⟩ ?_
 rintro j ρ_ σ_ ⟨hfit, hi0, hi1⟩
 refine SW_fits hfit ?_
 clear hfit
 refine SW_seq ?_
 refine sr ?_
 refine os 4 ?_
 refine tbp 6 (fun hg1 => ?_) (fun hg1 => ?_)
 ·replace hg1 : (j : Int) > 0 := hg1
  refine os 4 ?_
  refine L (ixg ((j : Int) - 1) (j - 1) hk Tryz.underlying82 ?_)
  obtain ⟨e1, he1⟩ : ∃ y_, l[j - 1]? = some y_ := ⟨_, List.getElem?_eq_getElem (by omega)⟩
  refine L (ld ?_ (hc := Gs.cell hk (fun e he => (mem_h he)) (map_cell he1 rfl)))
  refine os 2 ?_
  refine kp [14, 0] ?_
  refine nt ?_
  refine cd (fun hc2 : (e1 == 0) = true => ?_) (fun hc2 => ?_)
  ·have hz0_ : l[j - 1]? = some 0 := by rw [show (0 : Int) = e1 from (by simpa using hc2 : e1 = 0).symm]; exact he1
   refine SW_skip (n_then ?_)
   refine SW_block ?_
   refine SW_region ?_
   refine os 4 ?_
   refine L (O_val (.slice (Gs.addr a) ((j : Int) - 1).toNat (Gs.cap a)) rfl (fun δ w _ => run_slice_to ((j : Int) - 1) (Gs.addr a) j (Gs.cap a) .i64 Tryz.underlying82 (by kernel_rfl) rfl rfl (by omega) (by omega)) ?_)
   rw [show ((j : Int) - 1).toNat = j - 1 from by omega]
   refine os 1 ?_
   refine kp [0, 14] ?_
   refine SL_nil (n_in (n_then ?_))
   exact ⟨j - 1, by omega, ⟨fun _ => rfl, ow⟩, by omega, by rw [← limV_take (n := j - 1) (by omega) (by rw [show j - 1 = j - 1 from rfl]; exact hz0_), show j - 1 + 1 = j by omega]; exact hi1⟩
  refine SW_exit (x_then (x_then (x_in (n_then ?_))))
  refine sr ?_
  refine os 2 ?_
  refine nt ?_
  have htk_ : l.take j = lim (limV l) := lim_take hl hi0 hi1 (by first | (left; omega) | (right; exact ⟨_, he1, by simpa using hc2⟩))
  have hjl_ : (lim (limV l)).length = j := by rw [← htk_, List.length_take]; omega
  have hkn_ : Gs.ok 1 (lim (limV l)).length a ((lim (limV l)).map encP) := Gs.ok_less hk (by simp) (by omega)
  refine SW_sig (Gs.ent 87 1 a ((l.take j).map encP ++ (l.drop j).map encP) ++ ([])) (by rw [← List.map_append, List.take_append_drop]) ?_
  refine SW_weakG ?_
  rw [htk_]
  refine SW_ret ?_
  refine body_end (Gs.val a j) (fun _ => rfl) ?_
  exact ⟨(), ow, by rw [hjl_], hkn_⟩
 replace hg1 : ¬ ((j : Int) > 0) := hg1
 refine os 8 ?_
 refine kp [14, 0] ?_
 refine nt ?_
 refine cf ?_
 refine SW_exit (x_then (x_then (x_in (n_then ?_))))
 refine sr ?_
 refine os 2 ?_
 refine nt ?_
 have htk_ : l.take j = lim (limV l) := lim_take hl hi0 hi1 (.inl (by omega))
 have hjl_ : (lim (limV l)).length = j := by rw [← htk_, List.length_take]; omega
 have hkn_ : Gs.ok 1 (lim (limV l)).length a ((lim (limV l)).map encP) := Gs.ok_less hk (by simp) (by omega)
 refine SW_sig (Gs.ent 87 1 a ((l.take j).map encP ++ (l.drop j).map encP) ++ ([])) (by rw [← List.map_append, List.take_append_drop]) ?_
 refine SW_weakG ?_
 rw [htk_]
 refine SW_ret ?_
 refine body_end (Gs.val a j) (fun _ => rfl) ?_
 exact ⟨(), ow, by rw [hjl_], hkn_⟩

theorem num_times {W0 : World} {a : Gs} {a0 n more : Nat} (hk : Gs.ok 1 (lim a0).length a ((lim a0).map encP)) (hs : (lim a0).length ≤ 1048576) (hn : n < 4294967296) (hm : more < 4294967296) : SC Tryz.prog W0 72 #[a.val (lim a0).length, .int .u32 (n : Int), .int .u32 (more : Int)] (Gs.ent 87 1 a ((lim a0).map encP)) (Ret (fun g : Gs => Gs.ent 87 1 g ((lim (a0 * n + more)).map encP) ++ Gs.ent 87 1 a ((lim a0).map encP)) (fun v g => v = g.val (lim (a0 * n + more)).length ∧ Gs.ok 1 (lim (a0 * n + more)).length g ((lim (a0 * n + more)).map encP))) := by
 refine SC_body (fn := Tryz.f72) (n := 44) Tryz.func72 rfl (by kernel_rfl) (ρ := [(0, Gs.val a ((lim a0).length)), (1, .int .u32 (n : Int)), (2, .int .u32 (more : Int))]) rfl ?_
 refine SW_sig ((Gs.ent 87 1 a ((lim a0).map encP)) ++ ([])) (by simp only [List.append_nil, List.append_assoc]) ?_
 refine sr ?_
 refine os 1 ?_
 refine nsr ?_
 refine os 3 ?_
 refine L (O_make2 (bytes := 4) 0 ((((((lim a0).length : Nat)) : Int) + 1).toNat) (.int .u32 0) (fun _ => rfl) (fun _ => rfl) Tryz.underlying82 (by kernel_rfl) rfl (by omega) (by omega) (by omega) rfl ?_)
 intro b1 hlb1 hnb1
 refine SL_weakG ?_
 have hmkb1 : Gs.ok 1 0 (Gs.at b1 ((((((lim a0).length : Nat)) : Int) + 1).toNat)) (([] : List Int).map encP) := Gs.ok_cap (by simp) (by omega) (by unfold maxLen; omega)
 refine SL_sig ((Gs.ent 87 1 (Gs.at b1 ((((((lim a0).length : Nat)) : Int) + 1).toNat)) (([] : List Int).map encP)) ++ ((Gs.ent 87 1 a ((lim a0).map encP)) ++ ([]))) (by rw [show (([] : List Int).map encP) = List.replicate 0 (.int .u32 0) from by simp]) ?_
 refine os 1 ?_
 refine kp [7, 6, 0, 1, 2] ?_
 refine nsr ?_
 refine os 3 ?_
 refine nq ?_
 refine sr ?_
 refine os 3 ?_
 refine nt ?_
 refine SW_block ?_
 refine SW_loop (α := Nat × Gs × List Int × Int) (fun z_ ρ_ σ_ => Fits ρ_ σ_ [(1, .int .u32 (n : Int)), (17, Gs.val a ((lim a0).length)), (18, .int .i64 ((((lim a0).length : Nat)) : Int)), (7, Gs.val z_.2.1 z_.2.2.1.length), (8, .int .u64 z_.2.2.2), (19, .int .i64 (z_.1 : Int))] ((Gs.ent 87 1 z_.2.1 (z_.2.2.1.map encP)) ++ ((Gs.ent 87 1 a ((lim a0).map encP)) ++ ([]))) ∧ z_.1 ≤ (lim a0).length ∧ Gs.ok 1 z_.2.2.1.length z_.2.1 (z_.2.2.1.map encP) ∧ (z_.2.2.1.length = z_.1 ∧ LimOk z_.2.2.1 ∧ (0 ≤ z_.2.2.2 ∧ z_.2.2.2 < 4294967296)) ∧ limV z_.2.2.1 + 4294967296 ^ z_.1 * z_.2.2.2.toNat = limV ((lim a0).take z_.1) * n + more) (fun z_ => (lim a0).length - z_.1) (0, (Gs.at b1 ((((((lim a0).length : Nat)) : Int) + 1).toNat)), ([] : List Int), (more : Int)) ⟨⟨fun _ => rfl, ow⟩, Nat.zero_le _, hmkb1, ⟨rfl, (fun x hx => by cases hx), (show 0 ≤ (more : Int) ∧ (more : Int) < 4294967296 from by omega)⟩, by simp [limV]⟩ ?_
 rintro ⟨i, b, ys, c⟩ ρ_ σ_ ⟨hfit, hi0, hi1, hi2, hi3⟩
 refine SW_fits hfit ?_
 clear hfit
 simp only [] at hi0 hi1 hi2 hi3 ⊢
 obtain ⟨hyl, hyo, hc⟩ := hi2
 refine sr ?_
 refine os 1 ?_
 refine nq ?_
 refine cdp (fun hc2 : (i : Int) < ((((lim a0).length : Nat)) : Int) => ?_) (fun hc2 => ?_)
 ·refine SW_skip (n_then ?_)
  refine SW_seq ?_
  refine SW_block ?_
  refine sr ?_
  refine L (ixg (i : Int) (i) hk Tryz.underlying82 ?_)
  obtain ⟨e1, he1⟩ : ∃ y_, (lim a0)[i]? = some y_ := ⟨_, List.getElem?_eq_getElem (by omega)⟩
  refine L (ld ?_ (hc := Gs.cell hk (fun e he => (mem_a (mem_h he))) (map_cell he1 rfl)))
  refine os 1 ?_
  refine nq ?_
  have heo_ := lim_ok a0 _ (List.mem_of_getElem? he1)
  have hmu_ := times_mul heo_ hn
  refine SW_region ?_
  refine os 8 ?_
  refine kp [8, 10, 20, 1, 17, 18, 7, 19] ?_
  refine nsr ?_
  refine os 2 ?_
  refine oV (.int .u32 (IntKind.wrap .u32 (c + (e1 * (n : Int))))) ?_
  refine L (nws 87 1 1 [.int .u32 (IntKind.wrap .u32 (c + (e1 * (n : Int))))] ?_)
  intro b3
  refine SL_perm _ (perm_cc perm_cz) ?_
  refine L (O_append (size := 1) (bytes := 4) (z := .int .u32 0) b ys.length 1 (some ⟨b3, 0, none⟩) 1 (ys.map encP) ([.int .u32 (IntKind.wrap .u32 (c + (e1 * (n : Int))))]) ((ys ++ [IntKind.wrap .u32 (c + (e1 * (n : Int)))]).map encP) (map_snoc _ (IntKind.wrap .u32 (c + (e1 * (n : Int)))) rfl) (fun _ => rfl) (fun _ => rfl) Tryz.underlying82 (by kernel_rfl) rfl (by decide) hi1 rfl (.inr ⟨b3, 0, rfl, Cells.own (mem_a mem_z) rfl⟩) rfl (by omega) (by decide) rfl ?_)
  intro s4 hks4 hfs4
  rw [show ys.length + 1 = (ys ++ [IntKind.wrap .u32 (c + (e1 * (n : Int)))]).length from by first | (simp; done) | (simp; omega)]
  rw [show ys.length + 1 = (ys ++ [IntKind.wrap .u32 (c + (e1 * (n : Int)))]).length from by first | (simp; done) | (simp; omega)] at hks4
  have hls4 : (ys ++ [IntKind.wrap .u32 (c + (e1 * (n : Int)))]).length = ys.length + 1 := by first | (simp; done) | (simp; omega)
  refine os 1 ?_
  refine kp [7, 8, 10, 20, 1, 17, 18, 19] ?_
  refine nr ?_
  refine os 1 ?_
  refine oX (.int .u64 (Int.fdiv (c + (e1 * (n : Int))) 4294967296)) (.int .u64 ((c + (e1 * (n : Int))) / 4294967296)) (congrArg (Value.int .u64) (Int.fdiv_eq_ediv_of_nonneg _ (by omega))) ?_
  refine os 1 ?_
  refine SL_nil (n_in (n_then ?_))
  refine SW_region ?_
  refine os 2 ?_
  refine kp [19, 8, 7, 10, 20, 1, 17, 18] ?_
  refine nt ?_
  obtain ⟨q1_, q2_, q3_, q4_⟩ := times_body hyl hyo he1 heo_ hc hn hi3
  refine ⟨(i + 1, s4, (ys ++ [IntKind.wrap .u32 (c + (e1 * (n : Int)))]), (c + (e1 * (n : Int))) / 4294967296), by simp only []; omega, ?_⟩
  simp only []
  exact ⟨⟨fun _ => rfl, ow⟩, by omega, hks4, ⟨q1_, q2_, q3_⟩, q4_⟩
 refine SW_exit (x_then (x_then (x_in (n_then ?_))))
 refine sr ?_
 refine os 3 ?_
 refine L (nws 87 1 1 [.int .u32 c] ?_)
 intro b5
 refine SL_perm _ (perm_cc perm_cz) ?_
 refine L (O_append (size := 1) (bytes := 4) (z := .int .u32 0) b ys.length 1 (some ⟨b5, 0, none⟩) 1 (ys.map encP) ([.int .u32 c]) ((ys ++ [c]).map encP) (map_snoc _ c rfl) (fun _ => rfl) (fun _ => rfl) Tryz.underlying82 (by kernel_rfl) rfl (by decide) hi1 rfl (.inr ⟨b5, 0, rfl, Cells.own (mem_a mem_z) rfl⟩) rfl (by omega) (by decide) rfl ?_)
 intro s6 hks6 hfs6
 rw [show ys.length + 1 = (ys ++ [c]).length from by first | (simp; done) | (simp; omega)]
 rw [show ys.length + 1 = (ys ++ [c]).length from by first | (simp; done) | (simp; omega)] at hks6
 have hls6 : (ys ++ [c]).length = ys.length + 1 := by first | (simp; done) | (simp; omega)
 have hie_ : i = (lim a0).length := by omega
 rw [hie_] at hyl hi3
 obtain ⟨hto_, htv_⟩ := times_end (l := lim a0) hyl hyo hc hi3
 rw [lim_val] at htv_
 have hq_ := num_trim (W0 := W0) (l := (ys ++ [c])) hto_ hks6
 rw [htv_] at hq_
 refine L (cl (hq_) ?_)
 rintro _ _ ⟨rfl, hkt_⟩
 refine os 1 ?_
 refine kp [6, 20, 1, 17, 18, 7, 8, 19] ?_
 refine nt ?_
 refine SW_ret ?_
 refine body_end (Gs.val s6 ((lim (a0 * n + more)).length)) (fun _ => rfl) ?_
 exact ⟨s6, ow, rfl, hkt_⟩

end Go.Proofs.YtnhmmjogfkjceaaGreatDoor
namespace Go.Proofs.YtnhmmjogfkjceaaGreatDoor
open Go.Sl

theorem num_small {W0 : World} {n : Nat} (hn : n < 18446744073709551616) : SC Tryz.prog W0 93 #[.int .u64 (n : Int)] [] (Ret (fun g : Gs => Gs.ent 87 1 g ((lim n).map encP)) (fun v g => v = g.val (lim n).length ∧ Gs.ok 1 (lim n).length g ((lim n).map encP))) := by
 refine SC_body (fn := Tryz.f93) (n := 10) Tryz.func93 rfl (by kernel_rfl) (ρ := [(0, .int .u64 (n : Int))]) rfl ?_
 refine sr ?_
 refine os 1 ?_
 refine nsr ?_
 refine os 1 ?_
 refine oV (.int .u32 (IntKind.wrap .u32 ((n : Int)))) ?_
 refine os 1 ?_
 refine oX (.int .u64 (Int.fdiv (n : Int) 4294967296)) (.int .u64 ((n : Int) / 4294967296)) (congrArg (Value.int .u64) (Int.fdiv_eq_ediv_of_nonneg _ (by omega))) ?_
 refine oV (.int .u32 (IntKind.wrap .u32 ((n : Int) / 4294967296))) ?_
 refine L (nws 87 2 2 [.int .u32 (IntKind.wrap .u32 ((n : Int))), .int .u32 (IntKind.wrap .u32 ((n : Int) / 4294967296))] ?_)
 intro b1
 refine SL_sig ((Gs.ent 87 1 (Gs.at b1 2) (([IntKind.wrap .u32 ((n : Int)), IntKind.wrap .u32 ((n : Int) / 4294967296)]).map encP)) ++ ([])) rfl ?_
 have hv_ : limV ([IntKind.wrap .u32 ((n : Int)), IntKind.wrap .u32 ((n : Int) / 4294967296)]) = n := small_val hn
 have hq_ := num_trim (W0 := W0) (l := [IntKind.wrap .u32 ((n : Int)), IntKind.wrap .u32 ((n : Int) / 4294967296)]) (small_ok hn) (show Gs.ok 1 ([IntKind.wrap .u32 ((n : Int)), IntKind.wrap .u32 ((n : Int) / 4294967296)]).length (Gs.at b1 2) (([IntKind.wrap .u32 ((n : Int)), IntKind.wrap .u32 ((n : Int) / 4294967296)]).map encP) from ⟨Nat.le_refl _, by unfold maxLen; omega, rfl⟩)
 rw [hv_] at hq_
 refine L (cl (hq_) ?_)
 rintro _ _ ⟨rfl, hkt_⟩
 refine os 1 ?_
 refine kp [2, 0] ?_
 refine nt ?_
 refine SW_ret ?_
 refine body_end (Gs.val (Gs.at b1 2) ((lim n).length)) (fun _ => rfl) ?_
 exact ⟨(Gs.at b1 2), ow, rfl, hkt_⟩

theorem num_size {W0 : World} {a : Gs} {a0 : Nat} (hk : Gs.ok 1 (lim a0).length a ((lim a0).map encP)) (hs : (lim a0).length ≤ 1048576) : SC Tryz.prog W0 130 #[a.val (lim a0).length] (Gs.ent 87 1 a ((lim a0).map encP)) (Ret (fun _ : Unit => Gs.ent 87 1 a ((lim a0).map encP)) (fun v _ => v = .int .i64 (bitsN a0 : Int))) := by
 refine SC_body (fn := Tryz.f130) (n := 17) Tryz.func130 rfl (by kernel_rfl) (ρ := [(0, Gs.val a ((lim a0).length))]) rfl ?_
 refine SW_sig ((Gs.ent 87 1 a ((lim a0).map encP)) ++ ([])) (by simp only [List.append_nil, List.append_assoc]) ?_
 refine sr ?_
 refine os 1 ?_
 refine nq ?_
 refine sr ?_
 refine os 3 ?_
 refine nt ?_
 refine cd (fun hc1 : (((((lim a0).length : Nat)) : Int) == 0) = true => ?_) (fun hc1 => ?_)
 ·simp only [beq_iff_eq, bne_iff_ne, ne_eq, beq_eq_false_iff_ne, bne_eq_false_iff_eq, Classical.not_not] at hc1
  refine sr ?_
  refine os 1 ?_
  refine nt ?_
  refine SW_ret (r_then ?_)
  refine body_end (.int .i64 0) (fun _ => rfl) ?_
  exact ⟨(), ow, by rw [size_zero (n := a0) (by omega)]⟩
 simp only [beq_iff_eq, bne_iff_ne, ne_eq, beq_eq_false_iff_ne, bne_eq_false_iff_eq, Classical.not_not] at hc1
 refine SW_skip (n_then ?_)
 refine sr ?_
 refine os 7 ?_
 refine kp [12, 9, 8, 5, 2, 0] ?_
 refine L (ixg (((((lim a0).length : Nat)) : Int) - 1) (((lim a0).length - 1)) hk Tryz.underlying82 ?_)
 obtain ⟨e1, he1⟩ : ∃ y_, (lim a0)[((lim a0).length - 1)]? = some y_ := ⟨_, List.getElem?_eq_getElem (by omega)⟩
 refine L (ld ?_ (hc := Gs.cell hk (fun e he => (mem_h he)) (map_cell he1 rfl)))
 have heo_ := lim_ok a0 _ (List.mem_of_getElem? he1)
 have hbl_ := Any.bitLen_le32 e1 heo_.1 (by omega)
 refine L (cl (str_lz32 e1 heo_) ?_)
 rintro _ _ rfl
 refine un ?_
 refine os 2 ?_
 refine kp [2, 5, 0] ?_
 refine nt ?_
 refine SW_ret ?_
 refine body_end (.int .i64 ((32 * ((((lim a0).length : Nat)) : Int)) - (32 - (Lib.bitLen e1.toNat : Int)))) (fun _ => rfl) ?_
 exact ⟨(), ow, congrArg (Value.int .i64) (size_top (by omega) he1)⟩

theorem num_order {W0 : World} {a b : Gs} {a0 b0 : Nat} (hka : Gs.ok 1 (lim a0).length a ((lim a0).map encP)) (hkb : Gs.ok 1 (lim b0).length b ((lim b0).map encP)) (hsa : (lim a0).length ≤ 1048576) : SC Tryz.prog W0 75 #[a.val (lim a0).length, b.val (lim b0).length] (Gs.ent 87 1 a ((lim a0).map encP) ++ Gs.ent 87 1 b ((lim b0).map encP)) (Ret (fun _ : Unit => Gs.ent 87 1 a ((lim a0).map encP) ++ Gs.ent 87 1 b ((lim b0).map encP)) (fun v _ => v = .int .i64 (cmpN a0 b0))) := by
 refine SC_body (fn := Tryz.f75) (n := 41) Tryz.func75 rfl (by kernel_rfl) (ρ := [(0, Gs.val a ((lim a0).length)), (1, Gs.val b ((lim b0).length))]) rfl ?_
 refine SW_sig ((Gs.ent 87 1 a ((lim a0).map encP)) ++ ((Gs.ent 87 1 b ((lim b0).map encP)) ++ ([]))) (by simp only [List.append_nil, List.append_assoc]) ?_
 refine sr ?_
 refine os 1 ?_
 refine nq ?_
 refine sr ?_
 refine os 5 ?_
 refine kp [10, 4, 0, 1] ?_
 refine nt ?_
 refine cd (fun hc1 : (((((lim a0).length : Nat)) : Int) != ((((lim b0).length : Nat)) : Int)) = true => ?_) (fun hc1 => ?_)
 ·simp only [beq_iff_eq, bne_iff_ne, ne_eq, beq_eq_false_iff_ne, bne_eq_false_iff_eq, Classical.not_not] at hc1
  refine SW_seq ?_
  refine sr ?_
  refine os 5 ?_
  refine kp [15, 10, 4, 0, 1] ?_
  refine nt ?_
  refine cdp (fun hc2 : ((((lim a0).length : Nat)) : Int) < ((((lim b0).length : Nat)) : Int) => ?_) (fun hc2 => ?_)
  ·refine sr ?_
   refine os 1 ?_
   refine nt ?_
   refine SW_ret (r_then (r_then ?_))
   refine body_end (.int .i64 (-1)) (fun _ => rfl) ?_
   exact ⟨(), ow, by rw [cmp_lt (order_len (by omega))]⟩
  refine SW_skip (n_then ?_)
  refine sr ?_
  refine os 1 ?_
  refine nt ?_
  refine SW_ret (r_then ?_)
  refine body_end (.int .i64 1) (fun _ => rfl) ?_
  exact ⟨(), ow, by rw [cmp_gt (order_len (by omega))]⟩
 simp only [beq_iff_eq, bne_iff_ne, ne_eq, beq_eq_false_iff_ne, bne_eq_false_iff_eq, Classical.not_not] at hc1
 refine SW_skip (n_then ?_)
 refine SW_seq ?_
 refine sr ?_
 refine os 4 ?_
 refine kp [5, 10, 4, 0, 1] ?_
 refine nt ?_
 refine SW_block ?_
 have hle_ : (lim a0).length = (lim b0).length := by omega
 refine SW_loop (α := Nat) (fun z_ ρ_ σ_ => Fits ρ_ σ_ [(0, Gs.val a ((lim a0).length)), (1, Gs.val b ((lim b0).length)), (5, .int .i64 ((z_ : Int) - 1))] ((Gs.ent 87 1 a ((lim a0).map encP)) ++ ((Gs.ent 87 1 b ((lim b0).map encP)) ++ ([]))) ∧ z_ ≤ (lim a0).length ∧ (lim a0).drop z_ = (lim b0).drop z_) (fun z_ => z_) ((lim a0).length) ⟨⟨fun _ => rfl, ow⟩, Nat.le_refl _, by rw [List.drop_length, hle_, List.drop_length]⟩ ?_
 rintro j ρ_ σ_ ⟨hfit, hi0, hi1⟩
 refine SW_fits hfit ?_
 clear hfit
 refine SW_seq ?_
 refine sr ?_
 refine os 2 ?_
 refine nt ?_
 refine cdp (fun hc3 : ((j : Int) - 1) ≥ 0 => ?_) (fun hc3 => ?_)
 ·refine SW_skip (n_then ?_)
  refine SW_seq ?_
  refine SW_block ?_
  refine SW_seq ?_
  obtain ⟨e1, he1⟩ : ∃ y_, (lim a0)[j - 1]? = some y_ := ⟨_, List.getElem?_eq_getElem (by omega)⟩
  obtain ⟨e2, he2⟩ : ∃ y_, (lim b0)[j - 1]? = some y_ := ⟨_, List.getElem?_eq_getElem (by omega)⟩
  refine SW_draw [((Gs.blk a), j - 1, .int .u32 e1), ((Gs.blk b), j - 1, .int .u32 e2)] [0, 1, 2, 3, 4, 5, 6, 7] (by kernel_rfl) (rd_cons (Gs.cell hka (fun e he => (mem_h he)) (map_cell he1 rfl)) (rd_cons (Gs.cell hkb (fun e he => (mem_a (mem_h he))) (map_cell he2 rfl)) rd_nil)) ?_
  refine aS 0 ?_
  refine aS 1 ?_
  refine aI 2 ((j : Int) - 1) (j - 1) hka Tryz.underlying82 ?_
  refine aL 3 ?_
  refine aS 4 ?_
  refine aS 5 ?_
  refine aI 6 ((j : Int) - 1) (j - 1) hkb Tryz.underlying82 ?_
  refine aL 7 ?_
  refine aS 8 ?_
  refine kpA [31, 20, 0, 1, 5] ?_
  refine SA_done (by kernel_rfl) (n_then ?_)
  refine cd (fun hc4 : (e1 != e2) = true => ?_) (fun hc4 => ?_)
  ·simp only [beq_iff_eq, bne_iff_ne, ne_eq, beq_eq_false_iff_ne, bne_eq_false_iff_eq, Classical.not_not] at hc4
   refine SW_seq ?_
   refine SW_seq ?_
   refine SW_draw [((Gs.blk a), j - 1, .int .u32 e1), ((Gs.blk b), j - 1, .int .u32 e2)] [0, 1, 2, 3, 4, 5, 6, 7] (by kernel_rfl) (rd_cons (Gs.cell hka (fun e he => (mem_h he)) (map_cell he1 rfl)) (rd_cons (Gs.cell hkb (fun e he => (mem_a (mem_h he))) (map_cell he2 rfl)) rd_nil)) ?_
   refine aS 0 ?_
   refine aS 1 ?_
   refine aI 2 ((j : Int) - 1) (j - 1) hka Tryz.underlying82 ?_
   refine aL 3 ?_
   refine aS 4 ?_
   refine aS 5 ?_
   refine aI 6 ((j : Int) - 1) (j - 1) hkb Tryz.underlying82 ?_
   refine aL 7 ?_
   refine aS 8 ?_
   refine kpA [40, 31, 20, 0, 1, 5] ?_
   refine SA_done (by kernel_rfl) (n_then ?_)
   refine cdp (fun hc5 : e1 < e2 => ?_) (fun hc5 => ?_)
   ·refine sr ?_
    refine os 1 ?_
    refine nt ?_
    refine SW_ret (r_then (r_in (r_then (r_then (r_in (r_then ?_))))))
    refine body_end (.int .i64 (-1)) (fun _ => rfl) ?_
    exact ⟨(), ow, by rw [cmp_lt (order_top hle_ (by omega) hi1 he1 he2 (by omega))]⟩
   refine SW_skip (n_then ?_)
   refine sr ?_
   refine os 1 ?_
   refine nt ?_
   refine SW_ret (r_in (r_then (r_then (r_in (r_then ?_)))))
   refine body_end (.int .i64 1) (fun _ => rfl) ?_
   exact ⟨(), ow, by rw [cmp_gt (order_top hle_.symm (by omega) hi1.symm he2 he1 (by omega))]⟩
  simp only [beq_iff_eq, bne_iff_ne, ne_eq, beq_eq_false_iff_ne, bne_eq_false_iff_eq, Classical.not_not] at hc4
  refine SW_skip (n_in (n_then ?_))
  refine SW_region ?_
  refine os 3 ?_
  refine nt ?_
  rw [show (j : Int) - 1 - 1 = ((j - 1 : Nat) : Int) - 1 from by omega]
  exact ⟨j - 1, by omega, ⟨fun _ => rfl, ow⟩, by omega, order_next (by omega) he1 he2 (by omega) hi1⟩
 refine SW_exit (x_then (x_then (x_in (n_then ?_))))
 refine sr ?_
 refine os 1 ?_
 refine nt ?_
 refine SW_ret ?_
 refine body_end (.int .i64 0) (fun _ => rfl) ?_
 exact ⟨(), ow, by rw [cmp_eq (by rw [show j = 0 from by omega] at hi1; exact order_same hi1)]⟩

end Go.Proofs.YtnhmmjogfkjceaaGreatDoor
namespace Go.Proofs.YtnhmmjogfkjceaaGreatDoor
open Go.Sl

theorem num_up {W0 : World} {a : Gs} {a0 k s : Nat} (hk : Gs.ok 1 (lim a0).length a ((lim a0).map encP)) (hs0 : (lim a0).length ≤ 1048576) (hs : s < 32) (hkk : k ≤ 1048576) : SC Tryz.prog W0 120 #[a.val (lim a0).length, .int .i64 ((32 * k + s : Nat) : Int)] (Gs.ent 87 1 a ((lim a0).map encP)) (Ret (fun g : Gs => Gs.ent 87 1 g ((lim (a0 * 2 ^ (32 * k + s))).map encP) ++ Gs.ent 87 1 a ((lim a0).map encP)) (fun v g => v = g.val (lim (a0 * 2 ^ (32 * k + s))).length ∧ Gs.ok 1 (lim (a0 * 2 ^ (32 * k + s))).length g ((lim (a0 * 2 ^ (32 * k + s))).map encP))) := by
 refine SC_body (fn := Tryz.f120) (n := 48) Tryz.func120 rfl (by kernel_rfl) (ρ := [(0, Gs.val a ((lim a0).length)), (1, .int .i64 ((32 * k + s : Nat) : Int))]) rfl ?_
 refine SW_sig ((Gs.ent 87 1 a ((lim a0).map encP)) ++ ([])) (by simp only [List.append_nil, List.append_assoc]) ?_
 have hp0_ : (0 : Int) < ((2 ^ s : Nat) : Int) := by have := Nat.two_pow_pos s; omega
 have hp31_ : ((2 ^ s : Nat) : Int) ≤ 2147483648 := by have := Nat.pow_le_pow_right (show 0 < 2 by decide) (show s ≤ 31 by omega); omega
 refine sr ?_
 refine os 1 ?_
 refine nq ?_
 refine sr ?_
 refine os 3 ?_
 refine nt ?_
 refine cd (fun hc1 : (((((lim a0).length : Nat)) : Int) == 0) = true => ?_) (fun hc1 => ?_)
 ·simp only [beq_iff_eq, bne_iff_ne, ne_eq, beq_eq_false_iff_ne, bne_eq_false_iff_eq, Classical.not_not] at hc1
  refine sr ?_
  refine os 1 ?_
  refine nt ?_
  refine SW_ret (r_then ?_)
  refine body_end (.slice none 0 0) (fun _ => rfl) ?_
  have hl0_ : lim (a0 * 2 ^ (32 * k + s)) = [] := by rw [(lim_len_eq (n := a0)).1 (by omega), Nat.zero_mul, lim_zero]
  rw [hl0_]
  exact ⟨.nil, Own.of_perm (List.Perm.of_eq (by simp [Gs.ent])), rfl, rfl, rfl⟩
 simp only [beq_iff_eq, bne_iff_ne, ne_eq, beq_eq_false_iff_ne, bne_eq_false_iff_eq, Classical.not_not] at hc1
 refine SW_skip (n_then ?_)
 refine sr ?_
 refine os 1 ?_
 refine oX (.int .i64 (IntKind.wrap .i64 (Int.tdiv ((32 * k + s : Nat) : Int) 32))) (.int .i64 (((32 * k + s : Nat) : Int) / 32)) (congrArg (Value.int .i64) (IntWalk.i64_quo _ _ (by omega))) ?_
 refine os 1 ?_
 refine oX (.int .i64 (IntKind.wrap .i64 (Int.tdiv ((32 * k + s : Nat) : Int) 32))) (.int .i64 (((32 * k + s : Nat) : Int) / 32)) (congrArg (Value.int .i64) (IntWalk.i64_quo _ _ (by omega))) ?_
 refine os 4 ?_
 refine kp [19, 13, 11, 4, 0, 1] ?_
 rw [show ((32 * k + s : Nat) : Int) / 32 = (k : Int) from by omega]
 refine L (O_make2 (bytes := 4) k (k + (lim a0).length + 1) (.int .u32 0) (fun _ => rfl) (fun _ => rfl) Tryz.underlying82 (by kernel_rfl) rfl (by omega) (by omega) (by omega) rfl ?_)
 intro b2 hlb2 hnb2
 refine SL_weakG ?_
 have hmkb2 : Gs.ok 1 k (Gs.at b2 (k + (lim a0).length + 1)) ((List.replicate k 0).map encP) := Gs.ok_cap (by simp) (by omega) (by unfold maxLen; omega)
 refine SL_sig ((Gs.ent 87 1 (Gs.at b2 (k + (lim a0).length + 1)) ((List.replicate k 0).map encP)) ++ ((Gs.ent 87 1 a ((lim a0).map encP)) ++ ([]))) (by rw [show ((List.replicate k 0).map encP) = List.replicate k (.int .u32 0) from by simp]) ?_
 refine os 1 ?_
 refine kp [5, 11, 4, 0, 1] ?_
 refine nsr ?_
 refine os 1 ?_
 refine nq ?_
 refine sr ?_
 refine os 3 ?_
 refine nt ?_
 refine SW_block ?_
 rw [show (List.replicate k 0 : List Int) = List.replicate k 0 ++ [] from (List.append_nil _).symm] at hmkb2 ⊢
 refine SW_loop (α := Nat × Gs × List Int × Int) (fun z_ ρ_ σ_ => Fits ρ_ σ_ [(1, .int .i64 ((32 * k + s : Nat) : Int)), (21, Gs.val a ((lim a0).length)), (22, .int .i64 ((((lim a0).length : Nat)) : Int)), (5, Gs.val z_.2.1 (k + z_.2.2.1.length)), (6, .int .u64 z_.2.2.2), (23, .int .i64 (z_.1 : Int))] ((Gs.ent 87 1 z_.2.1 ((List.replicate k 0 ++ z_.2.2.1).map encP)) ++ ((Gs.ent 87 1 a ((lim a0).map encP)) ++ ([]))) ∧ z_.1 ≤ (lim a0).length ∧ Gs.ok 1 (k + z_.2.2.1.length) z_.2.1 ((List.replicate k 0 ++ z_.2.2.1).map encP) ∧ (z_.2.2.1.length = z_.1 ∧ LimOk z_.2.2.1 ∧ (0 ≤ z_.2.2.2 ∧ z_.2.2.2 < ((2 ^ s : Nat) : Int))) ∧ limV z_.2.2.1 + 4294967296 ^ z_.1 * z_.2.2.2.toNat = limV ((lim a0).take z_.1) * 2 ^ s) (fun z_ => (lim a0).length - z_.1) (0, (Gs.at b2 (k + (lim a0).length + 1)), [], 0) ⟨⟨fun _ => rfl, ow⟩, Nat.zero_le _, hmkb2, ⟨rfl, (fun x hx => by cases hx), (show 0 ≤ (0 : Int) ∧ (0 : Int) < ((2 ^ s : Nat) : Int) from ⟨Int.le_refl _, hp0_⟩)⟩, by simp [limV]⟩ ?_
 rintro ⟨i, b, ys, c⟩ ρ_ σ_ ⟨hfit, hi0, hi1, hi2, hi3⟩
 refine SW_fits hfit ?_
 clear hfit
 simp only [] at hi0 hi1 hi2 hi3 ⊢
 obtain ⟨hyl, hyo, hc⟩ := hi2
 refine sr ?_
 refine os 1 ?_
 refine nq ?_
 refine cdp (fun hc3 : (i : Int) < ((((lim a0).length : Nat)) : Int) => ?_) (fun hc3 => ?_)
 ·refine SW_skip (n_then ?_)
  refine SW_seq ?_
  refine SW_block ?_
  refine sr ?_
  refine L (ixg (i : Int) (i) hk Tryz.underlying82 ?_)
  obtain ⟨e1, he1⟩ : ∃ y_, (lim a0)[i]? = some y_ := ⟨_, List.getElem?_eq_getElem (by omega)⟩
  refine L (ld ?_ (hc := Gs.cell hk (fun e he => (mem_a (mem_h he))) (map_cell he1 rfl)))
  refine os 1 ?_
  refine nq ?_
  have heo_ := lim_ok a0 _ (List.mem_of_getElem? he1)
  have hup_ := up_body hyl hyo he1 heo_ hs hc hi3
  refine SW_region ?_
  refine os 4 ?_
  refine oX (.int .i64 (Int.tmod ((32 * k + s : Nat) : Int) 32)) (.int .i64 (((32 * k + s : Nat) : Int) % 32)) (congrArg (Value.int .i64) (rem_nn (by first | omega | exact Int.natCast_nonneg _))) ?_
  refine oV (.int .u64 (e1 * ((2 ^ s : Nat) : Int))) ?_ (hs := shlR (e1 * ((2 ^ s : Nat) : Int)) (by omega) (up_shl (k := k) hs heo_))
  refine oV (.int .u64 ((e1 * ((2 ^ s : Nat) : Int)) + c)) ?_ (hs := orR _ (up_or heo_ hc hup_.2.1))
  refine os 1 ?_
  refine kp [6, 8, 24, 1, 21, 22, 5, 23] ?_
  refine nsr ?_
  refine os 2 ?_
  refine oV (.int .u32 (IntKind.wrap .u32 (((e1 * ((2 ^ s : Nat) : Int)) + c)))) ?_
  refine L (nws 87 1 1 [.int .u32 (IntKind.wrap .u32 (((e1 * ((2 ^ s : Nat) : Int)) + c)))] ?_)
  intro b4
  refine SL_perm _ (perm_cc perm_cz) ?_
  refine L (O_append (size := 1) (bytes := 4) (z := .int .u32 0) b (k + ys.length) 1 (some ⟨b4, 0, none⟩) 1 ((List.replicate k 0 ++ ys).map encP) ([.int .u32 (IntKind.wrap .u32 (((e1 * ((2 ^ s : Nat) : Int)) + c)))]) (((List.replicate k 0 ++ ys) ++ [IntKind.wrap .u32 (((e1 * ((2 ^ s : Nat) : Int)) + c))]).map encP) (map_snoc _ (IntKind.wrap .u32 (((e1 * ((2 ^ s : Nat) : Int)) + c))) rfl) (fun _ => rfl) (fun _ => rfl) Tryz.underlying82 (by kernel_rfl) rfl (by decide) hi1 rfl (.inr ⟨b4, 0, rfl, Cells.own (mem_a mem_z) rfl⟩) rfl (by omega) (by decide) rfl ?_)
  intro s5 hks5 hfs5
  rw [show k + ys.length + 1 = ((List.replicate k 0 ++ ys) ++ [IntKind.wrap .u32 (((e1 * ((2 ^ s : Nat) : Int)) + c))]).length from by first | (simp; done) | (simp; omega)]
  rw [show k + ys.length + 1 = ((List.replicate k 0 ++ ys) ++ [IntKind.wrap .u32 (((e1 * ((2 ^ s : Nat) : Int)) + c))]).length from by first | (simp; done) | (simp; omega)] at hks5
  have hls5 : ((List.replicate k 0 ++ ys) ++ [IntKind.wrap .u32 (((e1 * ((2 ^ s : Nat) : Int)) + c))]).length = (List.replicate k 0 ++ ys).length + 1 := by first | (simp; done) | (simp; omega)
  refine os 1 ?_
  refine kp [5, 6, 8, 24, 1, 21, 22, 23] ?_
  refine nr ?_
  refine os 1 ?_
  refine oX (.int .u64 (Int.fdiv ((e1 * ((2 ^ s : Nat) : Int)) + c) 4294967296)) (.int .u64 (((e1 * ((2 ^ s : Nat) : Int)) + c) / 4294967296)) (congrArg (Value.int .u64) (Int.fdiv_eq_ediv_of_nonneg _ (by omega))) ?_
  refine os 1 ?_
  refine SL_nil (n_in (n_then ?_))
  refine SW_region ?_
  refine os 2 ?_
  refine kp [23, 6, 5, 8, 24, 1, 21, 22] ?_
  refine nt ?_
  have hap_ : (List.replicate k 0 ++ ys : List Int) ++ [IntKind.wrap .u32 (e1 * ((2 ^ s : Nat) : Int) + c)] = List.replicate k 0 ++ (ys ++ [IntKind.wrap .u32 (e1 * ((2 ^ s : Nat) : Int) + c)]) := List.append_assoc _ _ _
  have hkq_ := hks5
  rw [hap_] at hkq_ ⊢
  rw [show (List.replicate k 0 ++ (ys ++ [IntKind.wrap .u32 (e1 * ((2 ^ s : Nat) : Int) + c)]) : List Int).length = k + (ys ++ [IntKind.wrap .u32 (e1 * ((2 ^ s : Nat) : Int) + c)]).length from by simp] at hkq_ ⊢
  refine ⟨(i + 1, s5, (ys ++ [IntKind.wrap .u32 (e1 * ((2 ^ s : Nat) : Int) + c)]), ((e1 * ((2 ^ s : Nat) : Int)) + c) / 4294967296), by simp only []; omega, ?_⟩
  simp only []
  exact ⟨⟨fun _ => rfl, ow⟩, by omega, hkq_, ⟨hup_.2.2.1, hup_.2.2.2.1, hup_.2.2.2.2.1⟩, hup_.2.2.2.2.2⟩
 refine SW_exit (x_then (x_then (x_in (n_then ?_))))
 refine sr ?_
 refine os 3 ?_
 refine L (nws 87 1 1 [.int .u32 c] ?_)
 intro b6
 refine SL_perm _ (perm_cc perm_cz) ?_
 refine L (O_append (size := 1) (bytes := 4) (z := .int .u32 0) b (k + ys.length) 1 (some ⟨b6, 0, none⟩) 1 ((List.replicate k 0 ++ ys).map encP) ([.int .u32 c]) (((List.replicate k 0 ++ ys) ++ [c]).map encP) (map_snoc _ c rfl) (fun _ => rfl) (fun _ => rfl) Tryz.underlying82 (by kernel_rfl) rfl (by decide) hi1 rfl (.inr ⟨b6, 0, rfl, Cells.own (mem_a mem_z) rfl⟩) rfl (by omega) (by decide) rfl ?_)
 intro s7 hks7 hfs7
 rw [show k + ys.length + 1 = ((List.replicate k 0 ++ ys) ++ [c]).length from by first | (simp; done) | (simp; omega)]
 rw [show k + ys.length + 1 = ((List.replicate k 0 ++ ys) ++ [c]).length from by first | (simp; done) | (simp; omega)] at hks7
 have hls7 : ((List.replicate k 0 ++ ys) ++ [c]).length = (List.replicate k 0 ++ ys).length + 1 := by first | (simp; done) | (simp; omega)
 have hie_ : i = (lim a0).length := by omega
 rw [hie_] at hyl hi3
 obtain ⟨hto_, htv_⟩ := up_end (l := lim a0) (k := k) hyl hyo ⟨hc.1, by omega⟩ hi3
 rw [lim_val] at htv_
 have hq_ := num_trim (W0 := W0) (l := ((List.replicate k 0 ++ ys) ++ [c])) hto_ hks7
 rw [htv_] at hq_
 refine L (cl (hq_) ?_)
 rintro _ _ ⟨rfl, hkt_⟩
 refine os 1 ?_
 refine kp [4, 24, 1, 21, 22, 5, 6, 23] ?_
 refine nt ?_
 refine SW_ret ?_
 refine body_end (Gs.val s7 ((lim (a0 * 2 ^ (32 * k + s))).length)) (fun _ => rfl) ?_
 exact ⟨s7, ow, rfl, hkt_⟩

end Go.Proofs.YtnhmmjogfkjceaaGreatDoor
