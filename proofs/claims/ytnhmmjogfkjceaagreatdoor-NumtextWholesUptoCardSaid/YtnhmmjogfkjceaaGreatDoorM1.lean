/-
  Whole numbers, however great, as lists of parts of 32 bits, the least first, in plain Lean. No condition.
-/
import Derived.Test.YtnhmmjogfkjceaaGreatDoorM0
import Derived.Lib.Bytealg
import Derived.Lib.BitFns
import Derived.Lib.SlTrimSet
import Derived.Lib.Strings
import Derived.Shelf.Lays
import Derived.Shelf.LaysM
import Derived.Shelf.Small.Strs
import Derived.Shelf.Small.Bits
import Derived.Shelf.Strings.SlTrimAscii
import Derived.Shelf.Strings.Prefix
import Derived.Shelf.Strings.Search3
import Derived.Test.YtnhmmjogfkjceaaGreatDoorProg
import Derived.Shelf.Strconv.Itoa4
import Derived.Shelf.Strings.Repeat
import Derived.Lib.AppendIntMem
import Derived.Lib.ItoaMem
import Derived.Lib.IndexAny
import Derived.Lib.IndexLaws
set_option linter.unusedVariables false
set_option linter.unusedSimpArgs false
set_option maxRecDepth 100000
namespace Go.Proofs.YtnhmmjogfkjceaaGreatDoor
open Go.Sl
abbrev encP (n : Int) : Value := .int .u32 n
def limV : List Int → Nat
 | [] => 0
 | x :: r => x.toNat + 4294967296 * limV r
def LimOk (l : List Int) : Prop := ∀ x ∈ l, 0 ≤ x ∧ x < 4294967296
def lim (n : Nat) : List Int := if h : n = 0 then [] else ((n % 4294967296 : Nat) : Int) :: lim (n / 4294967296)
decreasing_by omega
theorem lim_zero : lim 0 = [] := by rw [lim, dif_pos rfl]
theorem lim_pos {n : Nat} (h : n ≠ 0) : lim n = ((n % 4294967296 : Nat) : Int) :: lim (n / 4294967296) := by rw [lim, dif_neg h]
theorem lim_val : ∀ n : Nat, limV (lim n) = n := by
 intro n
 induction n using Nat.strongRecOn with
 | _ n ih =>
   by_cases h : n = 0
   · rw [h, lim_zero]; rfl
   · rw [lim_pos h]
     show (((n % 4294967296 : Nat) : Int)).toNat + 4294967296 * limV (lim (n / 4294967296)) = n
     rw [ih _ (by omega), Int.toNat_natCast]
     omega
theorem lim_ok : ∀ n : Nat, LimOk (lim n) := by
 intro n
 induction n using Nat.strongRecOn with
 | _ n ih =>
   by_cases h : n = 0
   · rw [h, lim_zero]; intro x hx; cases hx
   · rw [lim_pos h]
     intro x hx
     rcases List.mem_cons.1 hx with q | q
     · rw [q]; omega
     · exact ih _ (by omega) x q
theorem limV_app (l m : List Int) : limV (l ++ m) = limV l + 4294967296 ^ l.length * limV m := by
 induction l with
 | nil => simp [limV]
 | cons x r ih =>
   simp only [List.cons_append, limV, List.length_cons, ih, Nat.pow_succ]
   rw [Nat.mul_add, ← Nat.mul_assoc, Nat.mul_comm (4294967296 ^ r.length) 4294967296]
   omega
theorem limV_lt {l : List Int} (h : LimOk l) : limV l < 4294967296 ^ l.length := by
 induction l with
 | nil => simp [limV]
 | cons x r ih =>
   have h1 := h x (List.mem_cons_self ..)
   have h2 := ih fun y hy => h y (List.mem_cons_of_mem _ hy)
   simp only [limV, List.length_cons, Nat.pow_succ]
   have : limV r + 1 ≤ 4294967296 ^ r.length := h2
   have h3 := Nat.mul_le_mul_left 4294967296 this
   rw [Nat.mul_comm (4294967296 ^ r.length)]
   omega
theorem LimOk.app {l m : List Int} (h : LimOk l) (g : LimOk m) : LimOk (l ++ m) := fun x hx => (List.mem_append.1 hx).elim (h x) (g x)
theorem LimOk.take {l : List Int} (h : LimOk l) (n : Nat) : LimOk (l.take n) := fun x hx => h x (List.mem_of_mem_take hx)
theorem lim_uniq : ∀ {l : List Int}, LimOk l → l.getLast? ≠ some 0 → l = lim (limV l)
 | [], _, _ => by rw [show limV [] = 0 from rfl, lim_zero]
 | x :: r, h, hz => by
   have h1 := h x (List.mem_cons_self ..)
   have h2 : LimOk r := fun y hy => h y (List.mem_cons_of_mem _ hy)
   have hr : r.getLast? ≠ some 0 := by
     cases r with
     | nil => simp
     | cons y s => rw [List.getLast?_cons_cons] at hz; exact hz
   have ih := lim_uniq h2 hr
   have hne : limV (x :: r) ≠ 0 := by
     intro q
     have q1 : x.toNat + 4294967296 * limV r = 0 := q
     have q2 : limV r = 0 := by omega
     have q3 : x = 0 := by omega
     rw [q2, lim_zero] at ih
     subst ih
     exact hz (by rw [q3]; rfl)
   rw [lim_pos hne]
   have e1 : limV (x :: r) = x.toNat + 4294967296 * limV r := rfl
   rw [show limV (x :: r) % 4294967296 = x.toNat by omega, show limV (x :: r) / 4294967296 = limV r by omega, ← ih, Int.toNat_of_nonneg h1.1]
theorem limV_take {l : List Int} {n : Nat} (hn : n < l.length) (hz : l[n]? = some 0) : limV (l.take (n + 1)) = limV (l.take n) := by
 rw [List.take_add_one, hz, limV_app]
 simp [limV]
theorem lim_take {l : List Int} (h : LimOk l) {n : Nat} (hn : n ≤ l.length) (hv : limV (l.take n) = limV l) (hz : n = 0 ∨ ∃ x, l[n - 1]? = some x ∧ x ≠ 0) : l.take n = lim (limV l) := by
 rw [← hv]
 refine lim_uniq (h.take n) ?_
 rcases hz with q | ⟨x, q1, q2⟩
 · rw [q]; simp
 · rcases Nat.eq_zero_or_pos n with q0 | q0
   · rw [q0]; simp
   rw [List.getLast?_eq_getElem?, List.length_take]
   intro z
   have hlt := (List.getElem?_eq_some_iff.1 q1).1
   rw [show min n l.length - 1 = n - 1 by omega, List.getElem?_take_of_lt (by omega), q1] at z
   exact q2 (Option.some.inj z)
theorem lim_len_eq {n : Nat} : (lim n).length = 0 ↔ n = 0 := by
 by_cases h : n = 0
 · rw [h, lim_zero]; simp
 · rw [lim_pos h]; simp [h]
theorem limV_step {l : List Int} {i : Nat} {x : Int} (h : l[i]? = some x) : limV (l.take (i + 1)) = limV (l.take i) + 4294967296 ^ i * x.toNat := by
 have hl := (List.getElem?_eq_some_iff.1 h).1
 rw [List.take_add_one, h, limV_app, List.length_take, Nat.min_eq_left (by omega)]
 simp [limV]
theorem lim_len_lt {n k : Nat} (h : n < 4294967296 ^ k) : (lim n).length ≤ k := by
 induction k generalizing n with
 | zero => rw [show n = 0 by simpa using h, lim_zero]; simp
 | succ k ih =>
   by_cases hn : n = 0
   · rw [hn, lim_zero]; simp
   · rw [lim_pos hn]
     have := ih (n := n / 4294967296) (by rw [Nat.pow_succ] at h; exact Nat.div_lt_of_lt_mul (by rw [Nat.mul_comm]; exact h))
     simp only [List.length_cons]
     omega
theorem lim_len_mono {a b : Nat} (h : a ≤ b) : (lim a).length ≤ (lim b).length := by
 have h1 := limV_lt (lim_ok b)
 rw [lim_val] at h1
 exact lim_len_lt (Nat.lt_of_le_of_lt h h1)
end Go.Proofs.YtnhmmjogfkjceaaGreatDoor
namespace Go.Proofs.YtnhmmjogfkjceaaGreatDoor
open Go.Sl
theorem limV_snoc (ys : List Int) (z : Nat) : limV (ys ++ [(z : Int)]) = limV ys + 4294967296 ^ ys.length * z := by
 rw [limV_app]
 simp [limV]
theorem pow_split {B i c : Nat} (hB : 0 < B) : B ^ i * (c % B) + B ^ (i + 1) * (c / B) = B ^ i * c := by
 rw [Nat.pow_succ, Nat.mul_assoc, ← Nat.mul_add, Nat.mod_add_div]
theorem times_step {l ys : List Int} {i n more carry : Nat} {x : Int} (hl : ys.length = i) (hx : l[i]? = some x) (h : limV ys + 4294967296 ^ i * carry = limV (l.take i) * n + more) :
   limV (ys ++ [(((carry + x.toNat * n) % 4294967296 : Nat) : Int)]) + 4294967296 ^ (i + 1) * ((carry + x.toNat * n) / 4294967296) = limV (l.take (i + 1)) * n + more := by
 rw [limV_snoc, limV_step hx, hl]
 have e := pow_split (B := 4294967296) (i := i) (c := carry + x.toNat * n) (by decide)
 have e2 : 4294967296 ^ i * (carry + x.toNat * n) = 4294967296 ^ i * carry + 4294967296 ^ i * x.toNat * n := by rw [Nat.mul_add, Nat.mul_assoc]
 have e3 : (limV (l.take i) + 4294967296 ^ i * x.toNat) * n = limV (l.take i) * n + 4294967296 ^ i * x.toNat * n := Nat.add_mul _ _ _
 omega
theorem times_carry {x carry n : Nat} (hx : x < 4294967296) (hc : carry < 4294967296) (hn : n < 4294967296) : carry + x * n < 18446744073709551616 ∧ (carry + x * n) / 4294967296 < 4294967296 := by
 have h : x * n ≤ 4294967295 * 4294967295 := Nat.mul_le_mul (by omega) (by omega)
 omega
theorem LimOk.snoc {ys : List Int} {z : Nat} (h : LimOk ys) (hz : z < 4294967296) : LimOk (ys ++ [(z : Int)]) := h.app fun x hx => by rw [List.mem_singleton.1 hx]; omega
theorem wrap_u32 (z : Int) : IntKind.wrap .u32 z = z % 4294967296 := by simp [IntKind.wrap, IntKind.bits, IntKind.signed]
theorem times_body {l ys : List Int} {i n more : Nat} {c e : Int} (hyl : ys.length = i) (hyo : LimOk ys) (hx : l[i]? = some e) (he : 0 ≤ e ∧ e < 4294967296) (hc : 0 ≤ c ∧ c < 4294967296) (hn : n < 4294967296)
   (h : limV ys + 4294967296 ^ i * c.toNat = limV (l.take i) * n + more) :
   (ys ++ [IntKind.wrap .u32 (c + e * (n : Int))]).length = i + 1 ∧ LimOk (ys ++ [IntKind.wrap .u32 (c + e * (n : Int))]) ∧ (0 ≤ (c + e * (n : Int)) / 4294967296 ∧ (c + e * (n : Int)) / 4294967296 < 4294967296) ∧
   limV (ys ++ [IntKind.wrap .u32 (c + e * (n : Int))]) + 4294967296 ^ (i + 1) * ((c + e * (n : Int)) / 4294967296).toNat = limV (l.take (i + 1)) * n + more := by
 obtain ⟨cn, rfl⟩ := Int.eq_ofNat_of_zero_le hc.1
 obtain ⟨en, rfl⟩ := Int.eq_ofNat_of_zero_le he.1
 have e1 : (cn : Int) + (en : Int) * (n : Int) = ((cn + en * n : Nat) : Int) := by simp
 rw [e1, wrap_u32]
 have e2 : ((cn + en * n : Nat) : Int) % 4294967296 = (((cn + en * n) % 4294967296 : Nat) : Int) := by omega
 have e3 : (((cn + en * n : Nat) : Int) / 4294967296).toNat = (cn + en * n) / 4294967296 := by omega
 rw [e2, e3]
 obtain ⟨h1, h2⟩ := times_carry (x := en) (carry := cn) (n := n) (by omega) (by omega) hn
 refine ⟨by simp [hyl], LimOk.snoc hyo (by omega), by omega, ?_⟩
 have := times_step (l := l) (ys := ys) (i := i) (n := n) (more := more) (carry := cn) (x := (en : Int)) hyl hx (by simpa using h)
 simpa using this
theorem times_mul {e : Int} {n : Nat} (he : 0 ≤ e ∧ e < 4294967296) (hn : n < 4294967296) : 0 ≤ e * (n : Int) ∧ e * (n : Int) ≤ 18446744065119617025 := by
 obtain ⟨en, rfl⟩ := Int.eq_ofNat_of_zero_le he.1
 have h : en * n ≤ 4294967295 * 4294967295 := Nat.mul_le_mul (by omega) (by omega)
 have e1 : (en : Int) * (n : Int) = ((en * n : Nat) : Int) := by simp
 rw [e1]; omega
theorem times_end {l ys : List Int} {n more : Nat} {c : Int} (hyl : ys.length = l.length) (hyo : LimOk ys) (hc : 0 ≤ c ∧ c < 4294967296) (h : limV ys + 4294967296 ^ l.length * c.toNat = limV (l.take l.length) * n + more) :
   LimOk (ys ++ [c]) ∧ limV (ys ++ [c]) = limV l * n + more := by
 obtain ⟨cn, rfl⟩ := Int.eq_ofNat_of_zero_le hc.1
 refine ⟨hyo.snoc (by omega), ?_⟩
 rw [limV_snoc, hyl]
 rw [List.take_length] at h
 simpa using h
theorem limV_zeros (k : Nat) : limV (List.replicate k 0) = 0 := by
 induction k with
 | zero => rfl
 | succ k ih => rw [List.replicate_succ]; show (0 : Int).toNat + 4294967296 * limV (List.replicate k 0) = 0; rw [ih]; rfl
theorem limOk_zeros (k : Nat) : LimOk (List.replicate k 0) := fun x hx => by rw [List.eq_of_mem_replicate hx]; omega
theorem up_body {l ys : List Int} {i s : Nat} {c e : Int} (hyl : ys.length = i) (hyo : LimOk ys) (hx : l[i]? = some e) (he : 0 ≤ e ∧ e < 4294967296) (hs : s < 32) (hc : 0 ≤ c ∧ c < ((2 ^ s : Nat) : Int))
   (h : limV ys + 4294967296 ^ i * c.toNat = limV (l.take i) * 2 ^ s) :
   0 ≤ e * ((2 ^ s : Nat) : Int) + c ∧ e * ((2 ^ s : Nat) : Int) + c < 18446744073709551616 ∧ (ys ++ [IntKind.wrap .u32 (e * ((2 ^ s : Nat) : Int) + c)]).length = i + 1 ∧ LimOk (ys ++ [IntKind.wrap .u32 (e * ((2 ^ s : Nat) : Int) + c)]) ∧
   (0 ≤ (e * ((2 ^ s : Nat) : Int) + c) / 4294967296 ∧ (e * ((2 ^ s : Nat) : Int) + c) / 4294967296 < ((2 ^ s : Nat) : Int)) ∧
   limV (ys ++ [IntKind.wrap .u32 (e * ((2 ^ s : Nat) : Int) + c)]) + 4294967296 ^ (i + 1) * ((e * ((2 ^ s : Nat) : Int) + c) / 4294967296).toNat = limV (l.take (i + 1)) * 2 ^ s := by
 have hp : 2 ^ s ≤ 2 ^ 31 := Nat.pow_le_pow_right (by decide) (by omega)
 have hp1 : 0 < 2 ^ s := Nat.two_pow_pos s
 obtain ⟨cn, rfl⟩ := Int.eq_ofNat_of_zero_le hc.1
 obtain ⟨en, rfl⟩ := Int.eq_ofNat_of_zero_le he.1
 generalize hq : 2 ^ s = n at *
 have e1 : (en : Int) * (n : Int) + (cn : Int) = ((cn + en * n : Nat) : Int) := by simp [Int.add_comm]
 rw [e1, wrap_u32]
 have hen : en * n ≤ 4294967295 * n := Nat.mul_le_mul_right n (by omega)
 have hen2 : 4294967295 * n ≤ 4294967295 * 2147483648 := Nat.mul_le_mul_left _ hp
 have e2 : ((cn + en * n : Nat) : Int) % 4294967296 = (((cn + en * n) % 4294967296 : Nat) : Int) := by omega
 have e3 : (((cn + en * n : Nat) : Int) / 4294967296).toNat = (cn + en * n) / 4294967296 := by omega
 rw [e2, e3]
 refine ⟨by omega, by omega, by simp [hyl], LimOk.snoc hyo (by omega), ⟨by omega, ?_⟩, ?_⟩
 · have : (cn + en * n) / 4294967296 < n := by
     rw [Nat.div_lt_iff_lt_mul (by decide)]
     have : n * 4294967296 = 4294967295 * n + n := by omega
     omega
   omega
 · have := times_step (l := l) (ys := ys) (i := i) (n := n) (more := 0) (carry := cn) (x := (en : Int)) hyl hx (by simpa using h)
   simpa using this
theorem up_shl {e : Int} {k s : Nat} (hs : s < 32) (he : 0 ≤ e ∧ e < 4294967296) : IntKind.wrap .u64 (e * 2 ^ min (((32 * k + s : Nat) : Int) % 32).toNat (IntKind.bits .u64)) = e * ((2 ^ s : Nat) : Int) := by
 have h1 : min (((32 * k + s : Nat) : Int) % 32).toNat (IntKind.bits .u64) = s := by
   have : IntKind.bits .u64 = 64 := rfl
   rw [this]; omega
 rw [h1, wrap64]
 have hp : 2 ^ s ≤ 2 ^ 31 := Nat.pow_le_pow_right (by decide) (by omega)
 obtain ⟨en, rfl⟩ := Int.eq_ofNat_of_zero_le he.1
 have hen : en * 2 ^ s ≤ 4294967295 * 2147483648 := Nat.mul_le_mul (by omega) hp
 have e1 : (en : Int) * ((2 ^ s : Nat) : Int) = ((en * 2 ^ s : Nat) : Int) := by simp
 have e2 : (en : Int) * 2 ^ s = ((en * 2 ^ s : Nat) : Int) := by simp
 rw [e1, e2]
 generalize en * 2 ^ s = z at *
 omega
theorem up_or {e c : Int} {s : Nat} (he : 0 ≤ e ∧ e < 4294967296) (hc : 0 ≤ c ∧ c < ((2 ^ s : Nat) : Int)) (h : e * ((2 ^ s : Nat) : Int) + c < 18446744073709551616) :
   IntKind.wrap .u64 ((BitVec.ofInt 64 c ||| BitVec.ofInt 64 (e * ((2 ^ s : Nat) : Int))).toNat) = e * ((2 ^ s : Nat) : Int) + c := by
 obtain ⟨cn, rfl⟩ := Int.eq_ofNat_of_zero_le hc.1
 obtain ⟨en, rfl⟩ := Int.eq_ofNat_of_zero_le he.1
 have e1 : (en : Int) * ((2 ^ s : Nat) : Int) = ((en * 2 ^ s : Nat) : Int) := by simp
 rw [e1] at h ⊢
 rw [or_apart64 (s := s) (by omega) (by omega)]
 simp
theorem up_end {l ys : List Int} {s k : Nat} {c : Int} (hyl : ys.length = l.length) (hyo : LimOk ys) (hc : 0 ≤ c ∧ c < 4294967296) (h : limV ys + 4294967296 ^ l.length * c.toNat = limV (l.take l.length) * 2 ^ s) :
   LimOk (List.replicate k 0 ++ ys ++ [c]) ∧ limV (List.replicate k 0 ++ ys ++ [c]) = limV l * 2 ^ (32 * k + s) := by
 obtain ⟨cn, rfl⟩ := Int.eq_ofNat_of_zero_le hc.1
 refine ⟨(LimOk.app (limOk_zeros k) hyo).snoc (by omega), ?_⟩
 rw [List.append_assoc, limV_app, limV_zeros, limV_snoc, hyl, List.length_replicate, Nat.zero_add]
 rw [List.take_length] at h
 rw [show limV ys + 4294967296 ^ l.length * cn = limV l * 2 ^ s by simpa using h, Nat.pow_add, Nat.pow_mul]
 rw [show (2 : Nat) ^ 32 = 4294967296 by decide, ← Nat.mul_assoc, ← Nat.mul_assoc, Nat.mul_comm (4294967296 ^ k)]
def halfL : List Int → List Int
 | [] => []
 | [x] => [x / 2]
 | x :: y :: r => (x / 2 + y % 2 * 2147483648) :: halfL (y :: r)
theorem halfL_len : ∀ l : List Int, (halfL l).length = l.length
 | [] => rfl
 | [x] => rfl
 | x :: y :: r => by show (halfL (y :: r)).length + 1 = _; rw [halfL_len (y :: r)]; rfl
theorem halfL_ok : ∀ {l : List Int}, LimOk l → LimOk (halfL l)
 | [], _ => fun x hx => by cases hx
 | [x], h => fun y hy => by
   have := h x (List.mem_cons_self ..)
   rw [List.mem_singleton.1 hy]; omega
 | x :: y :: r, h => fun z hz => by
   have h1 := h x (List.mem_cons_self ..)
   rcases List.mem_cons.1 hz with q | q
   · rw [q]; omega
   · exact halfL_ok (l := y :: r) (fun w hw => h w (List.mem_cons_of_mem _ hw)) z q
theorem halfL_val : ∀ {l : List Int}, LimOk l → limV (halfL l) = limV l / 2
 | [], _ => rfl
 | [x], h => by
   have := h x (List.mem_cons_self ..)
   show (x / 2).toNat + 4294967296 * 0 = (x.toNat + 4294967296 * 0) / 2
   omega
 | x :: y :: r, h => by
   have h1 := h x (List.mem_cons_self ..)
   have h2 := h y (List.mem_cons_of_mem _ (List.mem_cons_self ..))
   have ih := halfL_val (l := y :: r) fun w hw => h w (List.mem_cons_of_mem _ hw)
   have e1 : limV (halfL (x :: y :: r)) = (x / 2 + y % 2 * 2147483648).toNat + 4294967296 * limV (halfL (y :: r)) := rfl
   have e2 : limV (x :: y :: r) = x.toNat + 4294967296 * limV (y :: r) := rfl
   have e3 : limV (y :: r) = y.toNat + 4294967296 * limV r := rfl
   rw [e1, e2, ih]
   omega
theorem halfL_at : ∀ {l : List Int} {i : Nat} {x : Int}, l[i]? = some x → (halfL l)[i]? = some (x / 2 + (match l[i + 1]? with | some y => y % 2 * 2147483648 | none => 0))
 | [x], 0, _, h => by simp at h; subst h; simp [halfL]
 | [_], i + 1, _, h => by simp at h
 | x :: y :: r, 0, _, h => by simp at h; subst h; simp [halfL]
 | x :: y :: r, i + 1, z, h => by
   show (halfL (y :: r))[i]? = _
   rw [halfL_at (l := y :: r) (i := i) (x := z) (by simpa using h)]
   simp
theorem half_shl (y : Int) : IntKind.wrap .u32 (y * 2147483648) = y % 2 * 2147483648 := by rw [wrap_u32]; omega
theorem or_apart32 {a b s : Nat} (hb : b < 2 ^ s) (h : a * 2 ^ s + b < 4294967296) : IntKind.wrap .u32 ((BitVec.ofInt 32 ((b : Nat) : Int) ||| BitVec.ofInt 32 ((a * 2 ^ s : Nat) : Int)).toNat) = ((a * 2 ^ s + b : Nat) : Int) := by
 rw [Nat.mul_comm a (2 ^ s)] at h ⊢
 have h1 : (BitVec.ofInt 32 ((2 ^ s * a : Nat) : Int)).toNat = 2 ^ s * a := by
   rw [BitVec.toNat_ofInt]; generalize 2 ^ s * a = z at *; omega
 have h2 : (BitVec.ofInt 32 ((b : Nat) : Int)).toNat = b := by rw [BitVec.toNat_ofInt]; omega
 rw [BitVec.toNat_or, h1, h2, Nat.or_comm, ← Nat.two_pow_add_eq_or_of_lt hb, wrap_u32]
 omega
theorem half_or {e y : Int} (he : 0 ≤ e ∧ e < 4294967296) : IntKind.wrap .u32 ((BitVec.ofInt 32 (e / 2) ||| BitVec.ofInt 32 (y % 2 * 2147483648)).toNat) = e / 2 + y % 2 * 2147483648 := by
 obtain ⟨en, rfl⟩ := Int.eq_ofNat_of_zero_le he.1
 obtain ⟨yn, hy⟩ := Int.eq_ofNat_of_zero_le (show 0 ≤ y % 2 by omega)
 rw [hy]
 have e1 : ((en : Int)) / 2 = ((en / 2 : Nat) : Int) := by omega
 have e2 : (yn : Int) * 2147483648 = ((yn * 2 ^ 31 : Nat) : Int) := by omega
 rw [e1, e2, or_apart32 (s := 31) (by omega) (by omega)]
 omega
def halfM (l : List Int) (i : Nat) : List Int := (halfL l).take i ++ l.drop i
theorem halfM_zero (l : List Int) : halfM l 0 = l := by simp [halfM]
theorem halfM_len {l : List Int} {i : Nat} (hi : i ≤ l.length) : (halfM l i).length = l.length := by
 unfold halfM; rw [List.length_append, List.length_take, List.length_drop, halfL_len]; omega
theorem halfM_at {l : List Int} {i : Nat} (hi : i < l.length) : (halfM l i)[i]? = l[i]? := by
 unfold halfM
 rw [List.getElem?_append_right (by rw [List.length_take]; omega), List.length_take, halfL_len, Nat.min_eq_left (by omega), List.getElem?_drop]
 simp
theorem halfM_end {l : List Int} : halfM l l.length = halfL l := by
 unfold halfM; rw [List.drop_length, List.append_nil, ← halfL_len l, List.take_length]
theorem halfM_step {l : List Int} {i : Nat} {v : Int} (hv : (halfL l)[i]? = some v) : (halfM l i).set i v = halfM l (i + 1) := by
 have hi := (List.getElem?_eq_some_iff.1 hv).1
 rw [halfL_len] at hi
 apply List.ext_getElem?
 intro j
 have h1 : ((halfL l).take i).length = i := by rw [List.length_take, halfL_len]; omega
 have h2 : ((halfL l).take (i + 1)).length = i + 1 := by rw [List.length_take, halfL_len]; omega
 by_cases hj : j = i
 · subst hj
   rw [List.getElem?_set_self (by rw [halfM_len (by omega)]; omega)]
   unfold halfM
   rw [List.getElem?_append_left (by omega), List.getElem?_take_of_lt (by omega), hv]
 · rw [List.getElem?_set_ne (fun z => hj z.symm)]
   unfold halfM
   by_cases hlt : j < i
   · rw [List.getElem?_append_left (by omega), List.getElem?_append_left (by omega), List.getElem?_take_of_lt hlt, List.getElem?_take_of_lt (by omega)]
   · rw [List.getElem?_append_right (by omega), List.getElem?_append_right (by omega), h1, h2, List.getElem?_drop, List.getElem?_drop]
     congr 1; omega
def lessL : List Int → List Int → Int → List Int
 | [], _, _ => []
 | x :: r, m, b => ((x - (b + m.headD 0)) % 4294967296) :: lessL r m.tail (if x < b + m.headD 0 then 1 else 0)
def lessB : List Int → List Int → Int → Int
 | [], _, b => b
 | x :: r, m, b => lessB r m.tail (if x < b + m.headD 0 then 1 else 0)
theorem lessL_len : ∀ (l m : List Int) (b : Int), (lessL l m b).length = l.length
 | [], _, _ => rfl
 | x :: r, m, b => by show (lessL r m.tail _).length + 1 = _; rw [lessL_len]; rfl
theorem lessL_ok : ∀ (l m : List Int) (b : Int), LimOk (lessL l m b)
 | [], _, _ => fun x hx => by cases hx
 | x :: r, m, b => fun y hy => by
   rcases List.mem_cons.1 hy with q | q
   · rw [q]; omega
   · exact lessL_ok r m.tail _ y q
theorem lessL_val : ∀ {l m : List Int} {b : Int}, LimOk l → LimOk m → m.length ≤ l.length → (b = 0 ∨ b = 1) →
   (limV (lessL l m b) : Int) + limV m + b = limV l + 4294967296 ^ l.length * lessB l m b ∧ (lessB l m b = 0 ∨ lessB l m b = 1)
 | [], m, b, _, _, hm, hb => by
   rw [List.eq_nil_of_length_eq_zero (show m.length = 0 by simpa using hm)]
   exact ⟨by simp [lessL, lessB, limV], hb⟩
 | x :: r, m, b, hl, hok, hm, hb => by
   have h1 := hl x (List.mem_cons_self ..)
   have hr : LimOk r := fun y hy => hl y (List.mem_cons_of_mem _ hy)
   have ht : LimOk m.tail := fun y hy => hok y (List.mem_of_mem_tail hy)
   have hh : 0 ≤ m.headD 0 ∧ m.headD 0 < 4294967296 := by
     cases m with
     | nil => simp
     | cons y s => exact hok y (List.mem_cons_self ..)
   have hmv : limV m = (m.headD 0).toNat + 4294967296 * limV m.tail := by
     cases m with
     | nil => rfl
     | cons y s => rfl
   have hmt : m.tail.length ≤ r.length := by simp at hm ⊢; omega
   obtain ⟨ih, ihb⟩ := lessL_val (l := r) (m := m.tail) (b := if x < b + m.headD 0 then 1 else 0) hr ht hmt (by split <;> simp)
   refine ⟨?_, ihb⟩
   have e1 : limV (lessL (x :: r) m b) = ((x - (b + m.headD 0)) % 4294967296).toNat + 4294967296 * limV (lessL r m.tail (if x < b + m.headD 0 then 1 else 0)) := rfl
   have e2 : limV (x :: r) = x.toNat + 4294967296 * limV r := rfl
   have e3 : lessB (x :: r) m b = lessB r m.tail (if x < b + m.headD 0 then 1 else 0) := rfl
   rw [e1, e2, e3, hmv, List.length_cons, Int.pow_succ]
   generalize lessB r m.tail (if x < b + m.headD 0 then 1 else 0) = B at *
   generalize limV (lessL r m.tail (if x < b + m.headD 0 then 1 else 0)) = V at *
   have e4 : (4294967296 : Int) ^ r.length * 4294967296 * B = 4294967296 * (4294967296 ^ r.length * B) := by rw [Int.mul_comm ((4294967296 : Int) ^ r.length) 4294967296, Int.mul_assoc]
   rw [e4]
   split at ih <;> omega
theorem lessL_sub {l m : List Int} (hl : LimOk l) (hm : LimOk m) (h : limV m ≤ limV l) (hlen : m.length ≤ l.length) : limV (lessL l m 0) = limV l - limV m := by
 obtain ⟨e, hb⟩ := lessL_val hl hm hlen (.inl rfl)
 have h1 := limV_lt (lessL_ok l m 0)
 rw [lessL_len] at h1
 rcases hb with q | q
 · rw [q] at e; simp at e; omega
 · rw [q] at e
   have h2 : ((4294967296 ^ l.length : Nat) : Int) = (4294967296 : Int) ^ l.length := by simp
   have h3 : (limV (lessL l m 0) : Int) < (4294967296 : Int) ^ l.length := by rw [← h2]; exact_mod_cast h1
   omega
theorem order_len {a b : Nat} (h : (lim a).length < (lim b).length) : a < b := by
 apply Classical.byContradiction
 intro hc
 have := lim_len_mono (show b ≤ a by omega)
 omega
theorem order_at {l m : List Int} {i : Nat} (hl : LimOk l) (hm : LimOk m) (hlen : l.length = m.length) (hi : i < l.length) (hs : l.drop (i + 1) = m.drop (i + 1)) {x y : Int} (hx : l[i]? = some x) (hy : m[i]? = some y) (h : x < y) : limV l < limV m := by
 have e1 := limV_app (l.take (i + 1)) (l.drop (i + 1))
 have e2 := limV_app (m.take (i + 1)) (m.drop (i + 1))
 rw [List.take_append_drop] at e1 e2
 rw [hs] at e1
 have h1 := limV_step hx
 have h2 := limV_step hy
 have h3 := limV_lt (hl.take i)
 have h4 := hl x (List.mem_of_getElem? hx)
 have h5 : 4294967296 ^ i * x.toNat + 4294967296 ^ i ≤ 4294967296 ^ i * y.toNat := by
   have := Nat.mul_le_mul_left (4294967296 ^ i) (show x.toNat + 1 ≤ y.toNat by omega)
   rw [Nat.mul_add, Nat.mul_one] at this
   exact this
 rw [List.length_take, Nat.min_eq_left (by omega)] at h3 e1 e2
 omega
end Go.Proofs.YtnhmmjogfkjceaaGreatDoor
namespace Go.Proofs.YtnhmmjogfkjceaaGreatDoor
open Go.Sl
abbrev Bytes := List UInt8
def isDig (c : UInt8) : Bool := decide (48 ≤ c.toNat ∧ c.toNat ≤ 57)
abbrev digs : Bytes := [48, 49, 50, 51, 52, 53, 54, 55, 56, 57]
structure DecP where
  ahead : Bytes
  behind : Bytes
  power : Int
def powN : Int → Bytes → Int
 | a, [] => a
 | a, c :: r => powN (min (a * 10 + ((c.toNat : Int) - 48)) 1099511627776) r
def fracP (s : Bytes) : Bytes × Bytes := match s with
 | 46 :: r => (r.takeWhile isDig, r.dropWhile isDig)
 | _ => ([], s)
def wayP (r : Bytes) : Int × Bytes := match r with
 | d :: t => if d = 43 ∨ d = 45 then (44 - (d.toNat : Int), t) else (1, r)
 | [] => (1, r)
def decP (s : Bytes) : DecP × Bool :=
 let a := s.takeWhile isDig
 let f := fracP (s.dropWhile isDig)
 if a = [] ∧ f.1 = [] then (⟨a, f.1, 0⟩, false)
 else match f.2 with
   | [] => (⟨a, f.1, 0⟩, true)
   | c :: r => if c ≠ 101 ∧ c ≠ 69 then (⟨a, f.1, 0⟩, false)
     else (⟨a, f.1, powN 0 ((wayP r).2.takeWhile isDig) * (wayP r).1⟩, decide ((wayP r).2.takeWhile isDig ≠ [] ∧ (wayP r).2.dropWhile isDig = []))
def ofD : Bytes → Nat := fun l => l.foldl (fun a c => a * 10 + (c.toNat - 48)) 0
def bitsN (n : Nat) : Nat := if h : n = 0 then 0 else bitsN (n / 2) + 1
decreasing_by omega
def formNear (m : Nat) (exp : Int) (half : Bool) : Nat :=
 if exp + 63 > 1023 then 9218868437227405312
 else
   let biased := exp + 63 + 1023
   let shift : Int := if biased < 1 then 12 - biased else 11
   let b : Int := if biased < 1 then 1 else biased
   if shift > 64 then 0
   else
     let man := m / 2 ^ shift.toNat
     let rest := m * 2 ^ (64 - shift.toNat) % 18446744073709551616
     (b - 1).toNat * 4503599627370496 + (if rest > 9223372036854775808 ∨ (rest = 9223372036854775808 ∧ (half = true ∨ man % 2 = 1)) then man + 1 else man)
def nearN (man : Nat) (exp : Int) (half : Bool) : Nat :=
 let e := min (max exp (-5000)) 5000
 if man = 0 ∧ half = true then formNear 9223372036854775808 (e - 1 - 63) false
 else if man = 0 then 0
 else
   let shift := 64 - bitsN man
   if half = true ∧ shift > 0 then formNear (man * 2 ^ shift + 2 ^ (shift - 1)) (e - shift) false else formNear (man * 2 ^ shift) (e - shift) half
def divN : Nat → Nat → Nat → Nat → Nat × Nat
 | 0, p, _, man => (p, man)
 | k + 1, p, t, man => if t ≤ p then divN k (p - t) (t / 2) (man * 2 % 18446744073709551616 + 1) else divN k p (t / 2) (man * 2 % 18446744073709551616)
def roundN (p q : Nat) : Nat :=
 let up : Int := 63 - bitsN p + bitsN q
 let r := divN 64 (p * 2 ^ up.toNat) (q * 2 ^ (-up).toNat * 2 ^ 63) 0
 nearN r.2 (-up) (decide (0 < (lim r.1).length))
def cutD (l : Bytes) (p : Int) : Bytes × Int :=
 if l.length > 800 then (if (l.drop 800).any (· != 48) = true then (l.take 800 ++ [49], p + (l.length - 800 : Nat) - 1) else (l.take 800, p + (l.length - 800 : Nat))) else (l, p)
def nearD (l : Bytes) (p : Int) : Nat :=
 if l = [] ∨ (l.length : Int) + p < -330 then 0
 else if (l.length : Int) + p > 310 then 9218868437227405312
 else roundN (ofD l * 10 ^ p.toNat) (10 ^ (-p).toNat)
def nearestP (n : DecP) : Nat :=
 let c := cutD ((n.ahead ++ n.behind).dropWhile (· == 48)) (n.power - n.behind.length)
 nearD c.1 c.2
abbrev nibs : Bytes := [48, 49, 50, 51, 52, 53, 54, 55, 56, 57, 97, 98, 99, 100, 101, 102]
def hexD (c : UInt8) : Option Nat :=
 let d := Lib.indexByte nibs (c ||| 32)
 if c.toNat < 48 ∨ d < 0 ∨ (d < 10 ∧ (c.toNat : Int) ≠ 48 + d) then none else some d.toNat
def hexGo : Nat → Int → Bool → Bytes → Option (Nat × Int × Bool)
 | man, exp, lost, [] => some (man, exp, lost)
 | man, exp, lost, c :: r => match hexD c with
   | none => none
   | some d => if man / 1152921504606846976 = 0 then hexGo (man * 16 + d) exp lost r else hexGo man (exp + 4) (lost || decide (0 < d)) r
def hexP (s : Bytes) : Nat × Bool := match hexGo 0 0 false s with
 | none => (0, false)
 | some (man, exp, lost) => (nearN man exp lost, decide (s ≠ []))
def litP (s : Bytes) : Nat × Bool :=
 if Lib.hasPrefix s [48, 120] = true then hexP (s.drop 2)
 else
   let n := decP s
   if n.2 = false ∨ n.1.ahead = [] ∨ (46 ∈ s ∧ n.1.behind = []) ∨ (n.1.ahead.length > 1 ∧ n.1.ahead.head? = some 48) then (0, false)
   else (nearestP n.1, true)
def wayR : Bytes → Nat × Bytes
 | c :: r => if c = 43 then (0, r) else if c = 45 then (9223372036854775808, r) else (0, c :: r)
 | [] => (0, [])
def readP (t : Bytes) : Nat :=
 let s := Lib.trimS t [9, 10, 32]
 if s = [] then 0
 else if Lib.hasPrefix s [48, 120] = true ∨ Lib.hasPrefix s [48, 88] = true then (if (hexP (s.drop 2)).2 = true then (hexP (s.drop 2)).1 else 9221120237041090560)
 else
   let w := wayR s
   if w.2 = [73, 110, 102, 105, 110, 105, 116, 121] then w.1 + 9218868437227405312
   else if (decP w.2).2 = true then w.1 + nearestP (decP w.2).1 else 9221120237041090560
theorem small_ok {n : Nat} (h : n < 18446744073709551616) : LimOk [IntKind.wrap .u32 (n : Int), IntKind.wrap .u32 ((n : Int) / 4294967296)] := by
 intro x hx
 simp only [wrap_u32, List.mem_cons, List.not_mem_nil, or_false] at hx
 rcases hx with rfl | rfl <;> omega
theorem small_val {n : Nat} (h : n < 18446744073709551616) : limV [IntKind.wrap .u32 (n : Int), IntKind.wrap .u32 ((n : Int) / 4294967296)] = n := by
 simp only [wrap_u32, limV]
 omega
def cmpN (a b : Nat) : Int := if a < b then -1 else if b < a then 1 else 0
theorem cmp_lt {a b : Nat} (h : a < b) : cmpN a b = -1 := if_pos h
theorem cmp_gt {a b : Nat} (h : b < a) : cmpN a b = 1 := by unfold cmpN; rw [if_neg (by omega), if_pos h]
theorem cmp_eq {a b : Nat} (h : a = b) : cmpN a b = 0 := by unfold cmpN; rw [if_neg (by omega), if_neg (by omega)]
theorem order_same {a b : Nat} (h : (lim a).drop 0 = (lim b).drop 0) : a = b := by
 have := congrArg limV h
 rw [List.drop_zero, List.drop_zero, lim_val, lim_val] at this
 exact this
theorem order_next {l m : List Int} {j : Nat} {x y : Int} (hj : 0 < j) (hx : l[j - 1]? = some x) (hy : m[j - 1]? = some y) (h : x = y) (hd : l.drop j = m.drop j) : l.drop (j - 1) = m.drop (j - 1) := by
 have h1 := (List.getElem?_eq_some_iff.1 hx)
 have h2 := (List.getElem?_eq_some_iff.1 hy)
 rw [List.drop_eq_getElem_cons h1.1, List.drop_eq_getElem_cons h2.1, h1.2, h2.2, h, show j - 1 + 1 = j by omega, hd]
theorem order_top {a b : Nat} {j : Nat} {x y : Int} (hl : (lim a).length = (lim b).length) (hj : 0 < j) (hd : (lim a).drop j = (lim b).drop j) (hx : (lim a)[j - 1]? = some x) (hy : (lim b)[j - 1]? = some y) (h : x < y) : a < b := by
 have h1 := (List.getElem?_eq_some_iff.1 hx).1
 have := order_at (lim_ok a) (lim_ok b) hl (i := j - 1) h1 (by rw [show j - 1 + 1 = j by omega]; exact hd) hx hy h
 rw [lim_val, lim_val] at this
 exact this
theorem bitsN_zero : bitsN 0 = 0 := by rw [bitsN, dif_pos rfl]
theorem bitsN_pos {n : Nat} (h : n ≠ 0) : bitsN n = bitsN (n / 2) + 1 := by rw [bitsN, dif_neg h]
theorem bitsN_lt : ∀ n : Nat, n < 2 ^ bitsN n := by
 intro n
 induction n using Nat.strongRecOn with
 | _ n ih =>
   by_cases h : n = 0
   · rw [h, bitsN_zero]; decide
   · rw [bitsN_pos h, Nat.pow_succ]
     have := ih (n / 2) (by omega)
     omega
theorem bitsN_ge : ∀ n : Nat, n ≠ 0 → 2 ^ (bitsN n - 1) ≤ n := by
 intro n
 induction n using Nat.strongRecOn with
 | _ n ih =>
   intro h
   rw [bitsN_pos h]
   by_cases h2 : n / 2 = 0
   · rw [h2, bitsN_zero]; simp; omega
   · have h3 := ih (n / 2) (by omega) h2
     have h4 : bitsN (n / 2) ≠ 0 := by rw [bitsN_pos h2]; omega
     rw [show bitsN (n / 2) + 1 - 1 = (bitsN (n / 2) - 1) + 1 by omega, Nat.pow_succ]
     omega
theorem bitsN_iff {n k : Nat} (h1 : 2 ^ k ≤ n) (h2 : n < 2 ^ (k + 1)) : bitsN n = k + 1 := by
 have hn : n ≠ 0 := by have := Nat.two_pow_pos k; omega
 have a := bitsN_lt n
 have b := bitsN_ge n hn
 have hp : bitsN n ≠ 0 := by rw [bitsN_pos hn]; omega
 have c : k < bitsN n := (Nat.pow_lt_pow_iff_right (by decide : 1 < 2)).1 (Nat.lt_of_le_of_lt h1 a)
 have d : bitsN n - 1 < k + 1 := (Nat.pow_lt_pow_iff_right (by decide : 1 < 2)).1 (Nat.lt_of_le_of_lt b h2)
 omega
theorem bitLenAux_eq : ∀ (f x : Nat), x < 2 ^ f → Lib.bitLenAux f x = bitsN x
 | 0, x, h => by rw [show x = 0 by simpa using h, bitsN_zero]; rfl
 | f + 1, x, h => by
   unfold Lib.bitLenAux
   by_cases hx : x = 0
   · rw [if_pos hx, hx, bitsN_zero]
   · rw [if_neg hx, bitLenAux_eq f (x / 2) (by rw [Nat.pow_succ] at h; omega), bitsN_pos hx, Nat.add_comm]
theorem bitLen_eq {x : Nat} (h : x < 18446744073709551616) : Lib.bitLen x = bitsN x := bitLenAux_eq 64 x (by simpa using h)
theorem size_zero {n : Nat} (h : (lim n).length = 0) : (0 : Int) = (bitsN n : Int) := by rw [lim_len_eq.1 h, bitsN_zero]; rfl
theorem bitsN_shift {x k y : Nat} (hx : x ≠ 0) (hy : y < 2 ^ k) : bitsN (x * 2 ^ k + y) = bitsN x + k := by
 have a := bitsN_lt x
 have b := bitsN_ge x hx
 have hp : bitsN x ≠ 0 := by rw [bitsN_pos hx]; omega
 have e : bitsN x + k = (bitsN x - 1 + k) + 1 := by omega
 rw [e]
 apply bitsN_iff
 · rw [Nat.pow_add]
   have := Nat.mul_le_mul_right (2 ^ k) b
   omega
 · rw [show bitsN x - 1 + k + 1 = bitsN x + k by omega, Nat.pow_add]
   have := Nat.mul_le_mul_right (2 ^ k) (show x + 1 ≤ 2 ^ bitsN x from a)
   rw [Nat.add_mul, Nat.one_mul] at this
   omega
theorem size_top {n : Nat} {x : Int} (h : (lim n).length ≠ 0) (hx : (lim n)[(lim n).length - 1]? = some x) : 32 * ((lim n).length : Int) - (32 - (Lib.bitLen x.toNat : Int)) = (bitsN n : Int) := by
 have hl := (List.getElem?_eq_some_iff.1 hx).1
 have ho := lim_ok n x (List.mem_of_getElem? hx)
 have hv := limV_step hx
 rw [show (lim n).length - 1 + 1 = (lim n).length by omega, List.take_length, lim_val] at hv
 have hlt := limV_lt ((lim_ok n).take ((lim n).length - 1))
 rw [List.length_take, Nat.min_eq_left (by omega)] at hlt
 have hx0 : x.toNat ≠ 0 := by
   intro q
   rw [q, Nat.mul_zero, Nat.add_zero] at hv
   have := lim_len_lt (n := n) (k := (lim n).length - 1) (by omega)
   omega
 have e : (4294967296 : Nat) ^ ((lim n).length - 1) = 2 ^ (32 * ((lim n).length - 1)) := by rw [Nat.pow_mul]
 rw [e] at hv hlt
 have hb : bitsN n = bitsN x.toNat + 32 * ((lim n).length - 1) := by
   have := bitsN_shift (x := x.toNat) (k := 32 * ((lim n).length - 1)) (y := limV ((lim n).take ((lim n).length - 1))) hx0 hlt
   rw [← this]
   congr 1
   have hc := Nat.mul_comm (2 ^ (32 * ((lim n).length - 1))) x.toNat
   omega
 rw [bitLen_eq (by omega), hb]
 omega
end Go.Proofs.YtnhmmjogfkjceaaGreatDoor
namespace Go.Proofs
open Go.Shelf
def Tryz.lays133_ren : Go.Shelf.Ren := ⟨fun | 133 => 164 | 128 => 181 | n => n, fun | 51 => 87 | 3 => 3 | 4 => 4 | 46 => 67 | 5 => 5 | 9 => 9 | n => n, fun | n => n⟩
theorem Tryz.lays133 : Go.Proofs.Lays.n133 Tryz.prog Tryz.lays133_ren := {
 mixed := by kernel_rfl
 f128 := Tryz.func181.trans (congrArg some (by kernel_rfl))
 f133 := Tryz.func164.trans (congrArg some (by kernel_rfl))
 t3 := Tryz.underlying3
 a3 := Tryz.isAgg3
 z3 := Tryz.sizeOf3
 v3 := Tryz.zeroValue3
 t4 := Tryz.underlying4
 a4 := Tryz.isAgg4
 z4 := Tryz.sizeOf4
 v4 := Tryz.zeroValue4
 t5 := Tryz.underlying5
 a5 := Tryz.isAgg5
 z5 := Tryz.sizeOf5
 v5 := Tryz.zeroValue5
 t9 := Tryz.underlying9
 a9 := Tryz.isAgg9
 z9 := Tryz.sizeOf9
 v9 := Tryz.zeroValue9
 t46 := Tryz.underlying67
 a46 := Tryz.isAgg67
 z46 := Tryz.sizeOf67
 v46 := Tryz.zeroValue67
 t51 := Tryz.underlying87
 a51 := Tryz.isAgg87
 z51 := Tryz.sizeOf87
 v51 := Tryz.zeroValue87 }
def Tryz.lays134_ren : Go.Shelf.Ren := ⟨fun | 134 => 128 | 129 => 137 | n => n, fun | 53 => 29 | 3 => 3 | 4 => 4 | 46 => 67 | 5 => 5 | 9 => 9 | n => n, fun | n => n⟩
theorem Tryz.lays134 : Go.Proofs.Lays.n134 Tryz.prog Tryz.lays134_ren := {
 mixed := by kernel_rfl
 f129 := Tryz.func137.trans (congrArg some (by kernel_rfl))
 f134 := Tryz.func128.trans (congrArg some (by kernel_rfl))
 t3 := Tryz.underlying3
 a3 := Tryz.isAgg3
 z3 := Tryz.sizeOf3
 v3 := Tryz.zeroValue3
 t4 := Tryz.underlying4
 a4 := Tryz.isAgg4
 z4 := Tryz.sizeOf4
 v4 := Tryz.zeroValue4
 t5 := Tryz.underlying5
 a5 := Tryz.isAgg5
 z5 := Tryz.sizeOf5
 v5 := Tryz.zeroValue5
 t9 := Tryz.underlying9
 a9 := Tryz.isAgg9
 z9 := Tryz.sizeOf9
 v9 := Tryz.zeroValue9
 t46 := Tryz.underlying67
 a46 := Tryz.isAgg67
 z46 := Tryz.sizeOf67
 v46 := Tryz.zeroValue67
 t53 := Tryz.underlying29
 a53 := Tryz.isAgg29
 z53 := Tryz.sizeOf29
 v53 := Tryz.zeroValue29 }
def Tryz.lays99_ren : Go.Shelf.Ren := ⟨fun | 99 => 39 | 206 => 85 | n => n, fun | 9 => 9 | 4 => 4 | 3 => 3 | n => n, fun | n => n⟩
theorem Tryz.lays99 : Go.Proofs.Lays.n99 Tryz.prog Tryz.lays99_ren := {
 mixed := by kernel_rfl
 f99 := Tryz.func39.trans (congrArg some (by kernel_rfl))
 f206 := Tryz.func85.trans (congrArg some (by kernel_rfl))
 t3 := Tryz.underlying3
 a3 := Tryz.isAgg3
 z3 := Tryz.sizeOf3
 v3 := Tryz.zeroValue3
 t4 := Tryz.underlying4
 a4 := Tryz.isAgg4
 z4 := Tryz.sizeOf4
 v4 := Tryz.zeroValue4
 t9 := Tryz.underlying9
 a9 := Tryz.isAgg9
 z9 := Tryz.sizeOf9
 v9 := Tryz.zeroValue9 }
def Tryz.lays137_ren : Go.Shelf.Ren := ⟨fun | 137 => 86 | 217 => 127 | 266 => 161 | n => n, fun | 9 => 9 | 5 => 5 | 3 => 3 | n => n, fun | n => n⟩
theorem Tryz.lays137 : Go.Proofs.Lays.n137 Tryz.prog Tryz.lays137_ren := {
 mixed := by kernel_rfl
 f137 := Tryz.func86.trans (congrArg some (by kernel_rfl))
 f217 := Tryz.func127.trans (congrArg some (by kernel_rfl))
 f266 := Tryz.func161.trans (congrArg some (by kernel_rfl))
 t3 := Tryz.underlying3
 a3 := Tryz.isAgg3
 z3 := Tryz.sizeOf3
 v3 := Tryz.zeroValue3
 t5 := Tryz.underlying5
 a5 := Tryz.isAgg5
 z5 := Tryz.sizeOf5
 v5 := Tryz.zeroValue5
 t9 := Tryz.underlying9
 a9 := Tryz.isAgg9
 z9 := Tryz.sizeOf9
 v9 := Tryz.zeroValue9 }
def Tryz.lays160_ren : Go.Shelf.Ren := ⟨fun | 160 => 44 | 232 => 95 | 231 => 94 | 227 => 96 | 234 => 98 | 233 => 97 | 236 => 100 | 235 => 99 | 228 => 132 | 271 => 135 | 151 => 134 | 197 => 133 | 120 => 167 | 152 => 166 | 260 => 165 | 137 => 86 | 119 => 182 | 224 => 154 | 225 => 153 | 217 => 127 | 266 => 161 | n => n, fun | 9 => 9 | 4 => 4 | 3 => 3 | 5 => 5 | 117 => 111 | 116 => 110 | 0 => 0 | 124 => 114 | 21 => 21 | 105 => 139 | 46 => 67 | 119 => 164 | 139 => 188 | 138 => 187 | n => n, fun | 3 => 7 | 4 => 8 | n => n⟩
theorem Tryz.lays160 : Go.Proofs.Lays.n160 Tryz.prog Tryz.lays160_ren := {
 mixed := by kernel_rfl
 f119 := Tryz.func182.trans (congrArg some (by kernel_rfl))
 f120 := Tryz.func167.trans (congrArg some (by kernel_rfl))
 f137 := Tryz.func86.trans (congrArg some (by kernel_rfl))
 f151 := Tryz.func134.trans (congrArg some (by kernel_rfl))
 f152 := Tryz.func166.trans (congrArg some (by kernel_rfl))
 f160 := Tryz.func44.trans (congrArg some (by kernel_rfl))
 f197 := Tryz.func133.trans (congrArg some (by kernel_rfl))
 f217 := Tryz.func127.trans (congrArg some (by kernel_rfl))
 f224 := Tryz.func154.trans (congrArg some (by kernel_rfl))
 f225 := Tryz.func153.trans (congrArg some (by kernel_rfl))
 f227 := Tryz.func96.trans (congrArg some (by kernel_rfl))
 f228 := Tryz.func132.trans (congrArg some (by kernel_rfl))
 f231 := Tryz.func94.trans (congrArg some (by kernel_rfl))
 f232 := Tryz.func95.trans (congrArg some (by kernel_rfl))
 f233 := Tryz.func97.trans (congrArg some (by kernel_rfl))
 f234 := Tryz.func98.trans (congrArg some (by kernel_rfl))
 f235 := Tryz.func99.trans (congrArg some (by kernel_rfl))
 f236 := Tryz.func100.trans (congrArg some (by kernel_rfl))
 f260 := Tryz.func165.trans (congrArg some (by kernel_rfl))
 f266 := Tryz.func161.trans (congrArg some (by kernel_rfl))
 f271 := Tryz.func135.trans (congrArg some (by kernel_rfl))
 t0 := Tryz.underlying0
 a0 := Tryz.isAgg0
 z0 := Tryz.sizeOf0
 v0 := Tryz.zeroValue0
 t3 := Tryz.underlying3
 a3 := Tryz.isAgg3
 z3 := Tryz.sizeOf3
 v3 := Tryz.zeroValue3
 t4 := Tryz.underlying4
 a4 := Tryz.isAgg4
 z4 := Tryz.sizeOf4
 v4 := Tryz.zeroValue4
 t5 := Tryz.underlying5
 a5 := Tryz.isAgg5
 z5 := Tryz.sizeOf5
 v5 := Tryz.zeroValue5
 t9 := Tryz.underlying9
 a9 := Tryz.isAgg9
 z9 := Tryz.sizeOf9
 v9 := Tryz.zeroValue9
 t21 := Tryz.underlying21
 a21 := Tryz.isAgg21
 z21 := Tryz.sizeOf21
 v21 := Tryz.zeroValue21
 t46 := Tryz.underlying67
 a46 := Tryz.isAgg67
 z46 := Tryz.sizeOf67
 v46 := Tryz.zeroValue67
 t105 := Tryz.underlying139
 a105 := Tryz.isAgg139
 z105 := Tryz.sizeOf139
 v105 := Tryz.zeroValue139
 t116 := Tryz.underlying110
 a116 := Tryz.isAgg110
 z116 := Tryz.sizeOf110
 t117 := Tryz.underlying111
 a117 := Tryz.isAgg111
 z117 := Tryz.sizeOf111
 v117 := Tryz.zeroValue111
 t119 := Tryz.underlying164
 a119 := Tryz.isAgg164
 z119 := Tryz.sizeOf164
 t124 := Tryz.underlying114
 a124 := Tryz.isAgg114
 z124 := Tryz.sizeOf114
 v124 := Tryz.zeroValue114
 t138 := Tryz.underlying187
 a138 := Tryz.isAgg187
 z138 := Tryz.sizeOf187
 v138 := Tryz.zeroValue187
 t139 := Tryz.underlying188
 a139 := Tryz.isAgg188
 z139 := Tryz.sizeOf188
 v139 := Tryz.zeroValue188
 g3 := by kernel_rfl
 g4 := by kernel_rfl }
def Tryz.lays161_ren : Go.Shelf.Ren := ⟨fun | 161 => 89 | 231 => 94 | 227 => 96 | 233 => 97 | 235 => 99 | 228 => 132 | 197 => 133 | 151 => 134 | 260 => 165 | 152 => 166 | 137 => 86 | 119 => 182 | 224 => 154 | 225 => 153 | 217 => 127 | 266 => 161 | n => n, fun | 9 => 9 | 4 => 4 | 3 => 3 | 5 => 5 | 117 => 111 | 116 => 110 | 0 => 0 | 124 => 114 | 105 => 139 | 21 => 21 | 119 => 164 | 46 => 67 | 139 => 188 | 138 => 187 | n => n, fun | 3 => 7 | 4 => 8 | n => n⟩
theorem Tryz.lays161 : Go.Proofs.Lays.n161 Tryz.prog Tryz.lays161_ren := {
 mixed := by kernel_rfl
 f119 := Tryz.func182.trans (congrArg some (by kernel_rfl))
 f137 := Tryz.func86.trans (congrArg some (by kernel_rfl))
 f151 := Tryz.func134.trans (congrArg some (by kernel_rfl))
 f152 := Tryz.func166.trans (congrArg some (by kernel_rfl))
 f161 := Tryz.func89.trans (congrArg some (by kernel_rfl))
 f197 := Tryz.func133.trans (congrArg some (by kernel_rfl))
 f217 := Tryz.func127.trans (congrArg some (by kernel_rfl))
 f224 := Tryz.func154.trans (congrArg some (by kernel_rfl))
 f225 := Tryz.func153.trans (congrArg some (by kernel_rfl))
 f227 := Tryz.func96.trans (congrArg some (by kernel_rfl))
 f228 := Tryz.func132.trans (congrArg some (by kernel_rfl))
 f231 := Tryz.func94.trans (congrArg some (by kernel_rfl))
 f233 := Tryz.func97.trans (congrArg some (by kernel_rfl))
 f235 := Tryz.func99.trans (congrArg some (by kernel_rfl))
 f260 := Tryz.func165.trans (congrArg some (by kernel_rfl))
 f266 := Tryz.func161.trans (congrArg some (by kernel_rfl))
 t0 := Tryz.underlying0
 a0 := Tryz.isAgg0
 z0 := Tryz.sizeOf0
 v0 := Tryz.zeroValue0
 t3 := Tryz.underlying3
 a3 := Tryz.isAgg3
 z3 := Tryz.sizeOf3
 v3 := Tryz.zeroValue3
 t4 := Tryz.underlying4
 a4 := Tryz.isAgg4
 z4 := Tryz.sizeOf4
 v4 := Tryz.zeroValue4
 t5 := Tryz.underlying5
 a5 := Tryz.isAgg5
 z5 := Tryz.sizeOf5
 v5 := Tryz.zeroValue5
 t9 := Tryz.underlying9
 a9 := Tryz.isAgg9
 z9 := Tryz.sizeOf9
 v9 := Tryz.zeroValue9
 t21 := Tryz.underlying21
 a21 := Tryz.isAgg21
 z21 := Tryz.sizeOf21
 v21 := Tryz.zeroValue21
 t46 := Tryz.underlying67
 a46 := Tryz.isAgg67
 z46 := Tryz.sizeOf67
 v46 := Tryz.zeroValue67
 t105 := Tryz.underlying139
 a105 := Tryz.isAgg139
 z105 := Tryz.sizeOf139
 v105 := Tryz.zeroValue139
 t116 := Tryz.underlying110
 a116 := Tryz.isAgg110
 z116 := Tryz.sizeOf110
 t117 := Tryz.underlying111
 a117 := Tryz.isAgg111
 z117 := Tryz.sizeOf111
 v117 := Tryz.zeroValue111
 t119 := Tryz.underlying164
 a119 := Tryz.isAgg164
 z119 := Tryz.sizeOf164
 t124 := Tryz.underlying114
 a124 := Tryz.isAgg114
 z124 := Tryz.sizeOf114
 v124 := Tryz.zeroValue114
 t138 := Tryz.underlying187
 a138 := Tryz.isAgg187
 z138 := Tryz.sizeOf187
 v138 := Tryz.zeroValue187
 t139 := Tryz.underlying188
 a139 := Tryz.isAgg188
 z139 := Tryz.sizeOf188
 v139 := Tryz.zeroValue188
 g3 := by kernel_rfl
 g4 := by kernel_rfl }
def Tryz.lays144_ren : Go.Shelf.Ren := ⟨fun | 144 => 42 | 143 => 54 | 219 => 111 | 217 => 127 | 225 => 153 | 224 => 154 | 267 => 155 | 266 => 161 | 314 => 179 | n => n, fun | 9 => 9 | 4 => 4 | 3 => 3 | 5 => 5 | 46 => 67 | 146 => 131 | 51 => 87 | n => n, fun | 1 => 2 | n => n⟩
theorem Tryz.lays144 : Go.Proofs.Lays.n144 Tryz.prog Tryz.lays144_ren := {
 mixed := by kernel_rfl
 f143 := Tryz.func54.trans (congrArg some (by kernel_rfl))
 f144 := Tryz.func42.trans (congrArg some (by kernel_rfl))
 f217 := Tryz.func127.trans (congrArg some (by kernel_rfl))
 f219 := Tryz.func111.trans (congrArg some (by kernel_rfl))
 f224 := Tryz.func154.trans (congrArg some (by kernel_rfl))
 f225 := Tryz.func153.trans (congrArg some (by kernel_rfl))
 f266 := Tryz.func161.trans (congrArg some (by kernel_rfl))
 f267 := Tryz.func155.trans (congrArg some (by kernel_rfl))
 f314 := Tryz.func179.trans (congrArg some (by kernel_rfl))
 t3 := Tryz.underlying3
 a3 := Tryz.isAgg3
 z3 := Tryz.sizeOf3
 v3 := Tryz.zeroValue3
 t4 := Tryz.underlying4
 a4 := Tryz.isAgg4
 z4 := Tryz.sizeOf4
 v4 := Tryz.zeroValue4
 t5 := Tryz.underlying5
 a5 := Tryz.isAgg5
 z5 := Tryz.sizeOf5
 v5 := Tryz.zeroValue5
 t9 := Tryz.underlying9
 a9 := Tryz.isAgg9
 z9 := Tryz.sizeOf9
 v9 := Tryz.zeroValue9
 t46 := Tryz.underlying67
 a46 := Tryz.isAgg67
 z46 := Tryz.sizeOf67
 v46 := Tryz.zeroValue67
 t51 := Tryz.underlying87
 a51 := Tryz.isAgg87
 z51 := Tryz.sizeOf87
 v51 := Tryz.zeroValue87
 t146 := Tryz.underlying131
 a146 := Tryz.isAgg131
 z146 := Tryz.sizeOf131
 v146 := Tryz.zeroValue131
 g1 := by kernel_rfl }
end Go.Proofs
namespace Go.Proofs.YtnhmmjogfkjceaaGreatDoor
open Go.Sl Go.RowKit
variable {W0 : World} {σ : Heaplet}
theorem str_lz32 (x : Int) (h : 0 ≤ x ∧ x < 4294967296) : SC Tryz.prog W0 164 #[.int .u32 x] σ (Ret (fun _ : Unit => σ) (fun v _ => v = .int .i64 (32 - (Lib.bitLen x.toNat : Int)))) := by
 refine SC.of_below fun w hb => ?_
 refine (Any.bits_LeadingZeros32 Tryz.lays133 x w h.1 (by omega)).mono ?_
 rintro e w' ⟨rfl, rfl⟩
 exact ⟨_, rfl, Below.refl _ _, rfl⟩
theorem str_lz64 (x : Int) (h : 0 ≤ x ∧ x < 18446744073709551616) : SC Tryz.prog W0 128 #[.int .u64 x] σ (Ret (fun _ : Unit => σ) (fun v _ => v = .int .i64 (64 - (Lib.bitLen x.toNat : Int)))) := by
 refine SC.of_below fun w hb => ?_
 refine (Any.bits_LeadingZeros64 Tryz.lays134 x w h.1 (by omega)).mono ?_
 rintro e w' ⟨rfl, rfl⟩
 exact ⟨_, rfl, Below.refl _ _, rfl⟩
theorem str_HasPrefix (l p : List UInt8) : SC Tryz.prog W0 39 #[.string (bS l), .string (bS p)] σ (Ret (fun _ : Unit => σ) (fun v _ => v = .bool (Lib.hasPrefix l p))) := by
 refine SC.of_below fun w hb => ?_
 refine (Any.strings_HasPrefix Tryz.lays99 (bS l) (bS p) w).mono ?_
 rintro e w' ⟨rfl, rfl⟩
 exact ⟨_, rfl, Below.refl _ _, by rw [bS_list, bS_list]⟩
theorem str_IndexByte (l : List UInt8) (c : UInt8) : SC Tryz.prog W0 86 #[.string (bS l), .int .u8 (c.toNat : Int)] σ (Ret (fun _ : Unit => σ) (fun v _ => v = .int .i64 (Lib.indexByte l c))) := by
 refine SC.of_below fun w hb => ?_
 refine (Any.strings_IndexByte Tryz.lays137 (bS l) (c.toNat : Int) w).mono ?_
 rintro e w' ⟨rfl, rfl⟩
 exact ⟨_, rfl, Below.refl _ _, by rw [bS_list, Int.toNat_natCast]; simp⟩
theorem str_TrimLeft (l cs : List UInt8) (hc : cs.length < 4294967281) (ha : cs.all (fun b => decide (b.toNat < 128)) = true) : SC Tryz.prog W0 89 #[.string (bS l), .string (bS cs)] σ (Ret (fun _ : Unit => σ) (fun v _ => v = .string (bS (Lib.trimLeftS l cs)))) := by
 refine SC.of_below fun w hb => ?_
 refine (Any.strings_TrimLeft_laid Tryz.lays161 (by kernel_rfl) (bS l) (bS cs) w (by rw [bS_size]; exact hc) (by rw [bS_list]; exact ascii_of_all ha)).mono ?_
 rintro e w' ⟨rfl, hw⟩
 exact ⟨_, rfl, hw, by rw [bS_list, bS_list]⟩
theorem str_Trim (l cs : List UInt8) (hl : l.length ≤ 9223372036854775807) (hc : cs.length < 4294967281) (ha : cs.all (fun b => decide (b.toNat < 128)) = true) : SC Tryz.prog W0 44 #[.string (bS l), .string (bS cs)] σ (Ret (fun _ : Unit => σ) (fun v _ => v = .string (bS (Lib.trimS l cs)))) := by
 refine SC.of_below fun w hb => ?_
 refine (Any.strings_Trim_laid Tryz.lays160 (by kernel_rfl) (bS l) (bS cs) w (by rw [bS_size]; exact hl) (by rw [bS_size]; exact hc) (by rw [bS_list]; exact ascii_of_all ha)).mono ?_
 rintro e w' ⟨rfl, hw⟩
 exact ⟨_, rfl, hw, by rw [bS_list, bS_list]⟩
theorem str_Contains1 (l : List UInt8) (c : UInt8) : SC Tryz.prog W0 42 #[.string (bS l), .string (bS [c])] σ (Ret (fun _ : Unit => σ) (fun v _ => v = .bool (decide (0 ≤ Lib.indexByte l c)))) := by
 refine SC.of_below fun w hb => ?_
 refine (Any.strings_Contains_one Tryz.lays144 (bS l) c w).mono ?_
 rintro e w' ⟨rfl, rfl⟩
 exact ⟨_, rfl, Below.refl _ _, by rw [bS_list]⟩
end Go.Proofs.YtnhmmjogfkjceaaGreatDoor
namespace Go.Proofs
open Go.Shelf
def Tryz.laysM171_ren : Go.Shelf.Ren := ⟨fun | 171 => 38 | 243 => 84 | 246 => 45 | 283 => 101 | 284 => 102 | 285 => 103 | 286 => 104 | 129 => 137 | 317 => 136 | 318 => 138 | 319 => 139 | 320 => 140 | 337 => 168 | 338 => 169 | n => n, fun | 3 => 3 | 9 => 9 | 2 => 2 | 4 => 4 | 171 => 115 | 0 => 0 | 53 => 29 | 37 => 95 | 5 => 5 | 173 => 117 | 212 => 144 | 51 => 87 | 20 => 20 | 213 => 145 | 46 => 67 | 232 => 189 | 233 => 190 | n => n, fun | 17 => 1 | 18 => 9 | 19 => 10 | n => n⟩
theorem Tryz.laysM171 : Go.Proofs.LaysM.n171 Tryz.prog Tryz.laysM171_ren := {
 mixed := by kernel_rfl
 f129 := Tryz.func137.trans (congrArg some (by kernel_rfl))
 f171 := Tryz.func38.trans (congrArg some (by kernel_rfl))
 f243 := Tryz.func84.trans (congrArg some (by kernel_rfl))
 f246 := Tryz.func45.trans (congrArg some (by kernel_rfl))
 f283 := Tryz.func101.trans (congrArg some (by kernel_rfl))
 f284 := Tryz.func102.trans (congrArg some (by kernel_rfl))
 f285 := Tryz.func103.trans (congrArg some (by kernel_rfl))
 f286 := Tryz.func104.trans (congrArg some (by kernel_rfl))
 f317 := Tryz.func136.trans (congrArg some (by kernel_rfl))
 f318 := Tryz.func138.trans (congrArg some (by kernel_rfl))
 f319 := Tryz.func139.trans (congrArg some (by kernel_rfl))
 f320 := Tryz.func140.trans (congrArg some (by kernel_rfl))
 f337 := Tryz.func168.trans (congrArg some (by kernel_rfl))
 f338 := Tryz.func169.trans (congrArg some (by kernel_rfl))
 t0 := Tryz.underlying0
 a0 := Tryz.isAgg0
 z0 := Tryz.sizeOf0
 v0 := Tryz.zeroValue0
 t2 := Tryz.underlying2
 a2 := Tryz.isAgg2
 z2 := Tryz.sizeOf2
 v2 := Tryz.zeroValue2
 t3 := Tryz.underlying3
 a3 := Tryz.isAgg3
 z3 := Tryz.sizeOf3
 v3 := Tryz.zeroValue3
 t4 := Tryz.underlying4
 a4 := Tryz.isAgg4
 z4 := Tryz.sizeOf4
 v4 := Tryz.zeroValue4
 t5 := Tryz.underlying5
 a5 := Tryz.isAgg5
 z5 := Tryz.sizeOf5
 v5 := Tryz.zeroValue5
 t9 := Tryz.underlying9
 a9 := Tryz.isAgg9
 z9 := Tryz.sizeOf9
 v9 := Tryz.zeroValue9
 t20 := Tryz.underlying20
 a20 := Tryz.isAgg20
 z20 := Tryz.sizeOf20
 v20 := Tryz.zeroValue20
 t37 := Tryz.underlying95
 a37 := Tryz.isAgg95
 z37 := Tryz.sizeOf95
 v37 := Tryz.zeroValue95
 t46 := Tryz.underlying67
 a46 := Tryz.isAgg67
 z46 := Tryz.sizeOf67
 v46 := Tryz.zeroValue67
 t51 := Tryz.underlying87
 a51 := Tryz.isAgg87
 z51 := Tryz.sizeOf87
 v51 := Tryz.zeroValue87
 t53 := Tryz.underlying29
 a53 := Tryz.isAgg29
 z53 := Tryz.sizeOf29
 v53 := Tryz.zeroValue29
 t171 := Tryz.underlying115
 a171 := Tryz.isAgg115
 z171 := Tryz.sizeOf115
 v171 := Tryz.zeroValue115
 t173 := Tryz.underlying117
 a173 := Tryz.isAgg117
 z173 := Tryz.sizeOf117
 v173 := Tryz.zeroValue117
 t212 := Tryz.underlying144
 a212 := Tryz.isAgg144
 z212 := Tryz.sizeOf144
 v212 := Tryz.zeroValue144
 t213 := Tryz.underlying145
 a213 := Tryz.isAgg145
 z213 := Tryz.sizeOf145
 t232 := Tryz.underlying189
 a232 := Tryz.isAgg189
 z232 := Tryz.sizeOf189
 v232 := Tryz.zeroValue189
 t233 := Tryz.underlying190
 a233 := Tryz.isAgg190
 z233 := Tryz.sizeOf190
 v233 := Tryz.zeroValue190
 g17 := by kernel_rfl
 g18 := by kernel_rfl
 g19 := by kernel_rfl
 i0 := by kernel_rfl
 i2 := by kernel_rfl
 i3 := by kernel_rfl
 i4 := by kernel_rfl
 i5 := by kernel_rfl
 i9 := by kernel_rfl
 i20 := by kernel_rfl
 i37 := by kernel_rfl
 i46 := by kernel_rfl
 i51 := by kernel_rfl
 i53 := by kernel_rfl
 i171 := by kernel_rfl
 i173 := by kernel_rfl
 i212 := by kernel_rfl
 i232 := by kernel_rfl
 i233 := by kernel_rfl
 m17 := by kernel_rfl
 m18 := by kernel_rfl
 m19 := by kernel_rfl }
def Tryz.laysM173_ren : Go.Shelf.Ren := ⟨fun | 173 => 18 | 246 => 45 | 283 => 101 | 284 => 102 | 285 => 103 | 286 => 104 | 129 => 137 | 317 => 136 | 318 => 138 | 319 => 139 | 320 => 140 | 337 => 168 | 338 => 169 | n => n, fun | 2 => 2 | 3 => 3 | 9 => 9 | 4 => 4 | 171 => 115 | 0 => 0 | 53 => 29 | 37 => 95 | 5 => 5 | 173 => 117 | 212 => 144 | 51 => 87 | 20 => 20 | 213 => 145 | 46 => 67 | 232 => 189 | 233 => 190 | n => n, fun | 17 => 1 | 18 => 9 | 19 => 10 | n => n⟩
theorem Tryz.laysM173 : Go.Proofs.LaysM.n173 Tryz.prog Tryz.laysM173_ren := {
 mixed := by kernel_rfl
 f129 := Tryz.func137.trans (congrArg some (by kernel_rfl))
 f173 := Tryz.func18.trans (congrArg some (by kernel_rfl))
 f246 := Tryz.func45.trans (congrArg some (by kernel_rfl))
 f283 := Tryz.func101.trans (congrArg some (by kernel_rfl))
 f284 := Tryz.func102.trans (congrArg some (by kernel_rfl))
 f285 := Tryz.func103.trans (congrArg some (by kernel_rfl))
 f286 := Tryz.func104.trans (congrArg some (by kernel_rfl))
 f317 := Tryz.func136.trans (congrArg some (by kernel_rfl))
 f318 := Tryz.func138.trans (congrArg some (by kernel_rfl))
 f319 := Tryz.func139.trans (congrArg some (by kernel_rfl))
 f320 := Tryz.func140.trans (congrArg some (by kernel_rfl))
 f337 := Tryz.func168.trans (congrArg some (by kernel_rfl))
 f338 := Tryz.func169.trans (congrArg some (by kernel_rfl))
 t0 := Tryz.underlying0
 a0 := Tryz.isAgg0
 z0 := Tryz.sizeOf0
 v0 := Tryz.zeroValue0
 t2 := Tryz.underlying2
 a2 := Tryz.isAgg2
 z2 := Tryz.sizeOf2
 v2 := Tryz.zeroValue2
 t3 := Tryz.underlying3
 a3 := Tryz.isAgg3
 z3 := Tryz.sizeOf3
 v3 := Tryz.zeroValue3
 t4 := Tryz.underlying4
 a4 := Tryz.isAgg4
 z4 := Tryz.sizeOf4
 v4 := Tryz.zeroValue4
 t5 := Tryz.underlying5
 a5 := Tryz.isAgg5
 z5 := Tryz.sizeOf5
 v5 := Tryz.zeroValue5
 t9 := Tryz.underlying9
 a9 := Tryz.isAgg9
 z9 := Tryz.sizeOf9
 v9 := Tryz.zeroValue9
 t20 := Tryz.underlying20
 a20 := Tryz.isAgg20
 z20 := Tryz.sizeOf20
 v20 := Tryz.zeroValue20
 t37 := Tryz.underlying95
 a37 := Tryz.isAgg95
 z37 := Tryz.sizeOf95
 v37 := Tryz.zeroValue95
 t46 := Tryz.underlying67
 a46 := Tryz.isAgg67
 z46 := Tryz.sizeOf67
 v46 := Tryz.zeroValue67
 t51 := Tryz.underlying87
 a51 := Tryz.isAgg87
 z51 := Tryz.sizeOf87
 v51 := Tryz.zeroValue87
 t53 := Tryz.underlying29
 a53 := Tryz.isAgg29
 z53 := Tryz.sizeOf29
 v53 := Tryz.zeroValue29
 t171 := Tryz.underlying115
 a171 := Tryz.isAgg115
 z171 := Tryz.sizeOf115
 v171 := Tryz.zeroValue115
 t173 := Tryz.underlying117
 a173 := Tryz.isAgg117
 z173 := Tryz.sizeOf117
 v173 := Tryz.zeroValue117
 t212 := Tryz.underlying144
 a212 := Tryz.isAgg144
 z212 := Tryz.sizeOf144
 v212 := Tryz.zeroValue144
 t213 := Tryz.underlying145
 a213 := Tryz.isAgg145
 z213 := Tryz.sizeOf145
 t232 := Tryz.underlying189
 a232 := Tryz.isAgg189
 z232 := Tryz.sizeOf189
 v232 := Tryz.zeroValue189
 t233 := Tryz.underlying190
 a233 := Tryz.isAgg190
 z233 := Tryz.sizeOf190
 v233 := Tryz.zeroValue190
 g17 := by kernel_rfl
 g18 := by kernel_rfl
 g19 := by kernel_rfl
 i0 := by kernel_rfl
 i2 := by kernel_rfl
 i3 := by kernel_rfl
 i4 := by kernel_rfl
 i5 := by kernel_rfl
 i9 := by kernel_rfl
 i20 := by kernel_rfl
 i37 := by kernel_rfl
 i46 := by kernel_rfl
 i51 := by kernel_rfl
 i53 := by kernel_rfl
 i171 := by kernel_rfl
 i173 := by kernel_rfl
 i212 := by kernel_rfl
 i232 := by kernel_rfl
 i233 := by kernel_rfl
 m17 := by kernel_rfl
 m18 := by kernel_rfl
 m19 := by kernel_rfl }
def Tryz.lays105_ren : Go.Shelf.Ren := ⟨fun | 105 => 37 | 212 => 79 | 99 => 39 | 165 => 80 | 166 => 81 | 170 => 82 | 169 => 83 | 263 => 123 | 264 => 124 | 206 => 85 | 240 => 125 | 241 => 126 | 276 => 159 | 277 => 160 | n => n, fun | 9 => 9 | 3 => 3 | 4 => 4 | 20 => 20 | 0 => 0 | 46 => 67 | 109 => 92 | 5 => 5 | 72 => 97 | 76 => 72 | 51 => 87 | 146 => 131 | 53 => 29 | 148 => 133 | 70 => 94 | 37 => 95 | 75 => 71 | 127 => 135 | 164 => 166 | 80 => 99 | n => n, fun | n => n⟩
theorem Tryz.lays105 : Go.Proofs.Lays.n105 Tryz.prog Tryz.lays105_ren := {
 mixed := by kernel_rfl
 f99 := Tryz.func39.trans (congrArg some (by kernel_rfl))
 f105 := Tryz.func37.trans (congrArg some (by kernel_rfl))
 f165 := Tryz.func80.trans (congrArg some (by kernel_rfl))
 f166 := Tryz.func81.trans (congrArg some (by kernel_rfl))
 f169 := Tryz.func83.trans (congrArg some (by kernel_rfl))
 f170 := Tryz.func82.trans (congrArg some (by kernel_rfl))
 f206 := Tryz.func85.trans (congrArg some (by kernel_rfl))
 f212 := Tryz.func79.trans (congrArg some (by kernel_rfl))
 f240 := Tryz.func125.trans (congrArg some (by kernel_rfl))
 f241 := Tryz.func126.trans (congrArg some (by kernel_rfl))
 f263 := Tryz.func123.trans (congrArg some (by kernel_rfl))
 f264 := Tryz.func124.trans (congrArg some (by kernel_rfl))
 f276 := Tryz.func159.trans (congrArg some (by kernel_rfl))
 f277 := Tryz.func160.trans (congrArg some (by kernel_rfl))
 t0 := Tryz.underlying0
 a0 := Tryz.isAgg0
 z0 := Tryz.sizeOf0
 v0 := Tryz.zeroValue0
 t3 := Tryz.underlying3
 a3 := Tryz.isAgg3
 z3 := Tryz.sizeOf3
 v3 := Tryz.zeroValue3
 t4 := Tryz.underlying4
 a4 := Tryz.isAgg4
 z4 := Tryz.sizeOf4
 v4 := Tryz.zeroValue4
 t5 := Tryz.underlying5
 a5 := Tryz.isAgg5
 z5 := Tryz.sizeOf5
 v5 := Tryz.zeroValue5
 t9 := Tryz.underlying9
 a9 := Tryz.isAgg9
 z9 := Tryz.sizeOf9
 v9 := Tryz.zeroValue9
 t20 := Tryz.underlying20
 a20 := Tryz.isAgg20
 z20 := Tryz.sizeOf20
 v20 := Tryz.zeroValue20
 t37 := Tryz.underlying95
 a37 := Tryz.isAgg95
 z37 := Tryz.sizeOf95
 v37 := Tryz.zeroValue95
 t46 := Tryz.underlying67
 a46 := Tryz.isAgg67
 z46 := Tryz.sizeOf67
 v46 := Tryz.zeroValue67
 t51 := Tryz.underlying87
 a51 := Tryz.isAgg87
 z51 := Tryz.sizeOf87
 v51 := Tryz.zeroValue87
 t53 := Tryz.underlying29
 a53 := Tryz.isAgg29
 z53 := Tryz.sizeOf29
 v53 := Tryz.zeroValue29
 t70 := Tryz.underlying94
 a70 := Tryz.isAgg94
 z70 := Tryz.sizeOf94
 v70 := Tryz.zeroValue94
 t72 := Tryz.underlying97
 a72 := Tryz.isAgg97
 z72 := Tryz.sizeOf97
 v72 := Tryz.zeroValue97
 t75 := Tryz.underlying71
 a75 := Tryz.isAgg71
 z75 := Tryz.sizeOf71
 v75 := Tryz.zeroValue71
 t76 := Tryz.underlying72
 a76 := Tryz.isAgg72
 z76 := Tryz.sizeOf72
 v76 := Tryz.zeroValue72
 t109 := Tryz.underlying92
 a109 := Tryz.isAgg92
 z109 := Tryz.sizeOf92
 v109 := Tryz.zeroValue92
 t127 := Tryz.underlying135
 a127 := Tryz.isAgg135
 z127 := Tryz.sizeOf135
 v127 := Tryz.zeroValue135
 t146 := Tryz.underlying131
 a146 := Tryz.isAgg131
 z146 := Tryz.sizeOf131
 v146 := Tryz.zeroValue131
 t148 := Tryz.underlying133
 a148 := Tryz.isAgg133
 z148 := Tryz.sizeOf133
 v148 := Tryz.zeroValue133
 t164 := Tryz.underlying166
 a164 := Tryz.isAgg166
 z164 := Tryz.sizeOf166
 v164 := Tryz.zeroValue166 }
end Go.Proofs
namespace Go.Proofs.YtnhmmjogfkjceaaGreatDoor
open Go.Sl Go.RowKit
structure LaidN (W0 : World) : Prop where
  tab : ∀ w, Below W0.heap.size W0 w → Lib.TabIs Tryz.prog w "internal/strconv.uint64pow10" .u64 Lib.pow10Tab
variable {W0 : World} {σ : Heaplet}
theorem str_ItoaN (hL : LaidN W0) (n : Int) (h : -9223372036854775808 ≤ n ∧ n ≤ 9223372036854775807) : SC Tryz.prog W0 38 #[.int .i64 n] σ (Ret (fun _ : Unit => σ) (fun v _ => v = .string (bS (Lib.itoa n)))) := by
 refine SC.of_below fun w hb => ?_
 refine (Any.strconv_Itoa Tryz.laysM171 n h.1 h.2 w (hL.tab w hb)).mono ?_
 rintro e w' ⟨rfl, k, os, rfl⟩
 exact ⟨_, rfl, Lib.below_grow _ w (Nat.le_refl _) k os, rfl⟩
theorem repeat_extra : Builder.Extra Tryz.prog Tryz.lays105_ren where
 sizeBuilder := by kernel_rfl
 liesBuilder := by kernel_rfl
 t5 := Tryz.underlying5
 a5 := Tryz.isAgg5
 z5 := Tryz.sizeOf5
 v5 := Tryz.zeroValue5
 infoByte := by kernel_rfl
 cellsByte := by kernel_rfl
 sizeByte := by kernel_rfl
 neB5 := by decide
theorem str_RepeatN (s : List UInt8) (c : Nat) (hc : c ≤ 1048576) (hs : s.length ≤ 1048576) : SC Tryz.prog W0 37 #[.string (bS s), .int .i64 (c : Int)] σ (Ret (fun _ : Unit => σ) (fun v _ => v = .string (bS (Lib.repeatL s c)))) := by
 refine SC.of_below fun w hb => ?_
 refine (Any.strings_Repeat Tryz.lays105 repeat_extra (bS s) c w (by omega) (by rw [bS_size]; exact Nat.le_trans (Nat.mul_le_mul hs hc) (by decide))).mono ?_
 rintro e w' ⟨rfl, hw⟩
 exact ⟨_, rfl, hw, by rw [bS_list]⟩
end Go.Proofs.YtnhmmjogfkjceaaGreatDoor
namespace Go.Proofs.YtnhmmjogfkjceaaGreatDoor
open Go.Sl Go.ChangeShapes Go.WideShapes Go.ChangeAt Go.RowKit Go.Deep
abbrev laidNum : List (String × DataW Unit) := [("math/bits.deBruijn32tab", Rows.laid_math_bits_deBruijn32tab), ("math/bits.deBruijn64tab", Rows.laid_math_bits_deBruijn64tab), ("internal/strconv.uint64pow10", Rows.laid_internal_strconv_uint64pow10), ("unicode/utf8.acceptRanges", Rows.laid_unicode_utf8_acceptRanges), ("unicode/utf8.first", Rows.laid_unicode_utf8_first)]
theorem laid_num {W : World} (h : laidMet Tryz.prog laidNum W) (hs : W.ShapedOpen Tryz.prog) : LaidN W := by
 obtain ⟨ps, h, _⟩ := h
 obtain ⟨q1, h1⟩ := laidVars_drop (l1 := [("math/bits.deBruijn32tab", Rows.laid_math_bits_deBruijn32tab), ("math/bits.deBruijn64tab", Rows.laid_math_bits_deBruijn64tab)]) (l2 := [("internal/strconv.uint64pow10", Rows.laid_internal_strconv_uint64pow10), ("unicode/utf8.acceptRanges", Rows.laid_unicode_utf8_acceptRanges), ("unicode/utf8.first", Rows.laid_unicode_utf8_first)]) h
 have ht : Lib.TabIs Tryz.prog W "internal/strconv.uint64pow10" .u64 Lib.pow10Tab := laid_tab (g := 1) (t := 144) (by kernel_rfl) (by kernel_rfl) Tryz.underlying144 Tryz.underlying29 (by kernel_rfl) (by kernel_rfl) h1
 exact ⟨fun w hb => var_below hb ht⟩
noncomputable def laidWorldN (os : Os) : World :=
  let w0 := World.holding Tryz.prog os ⟨#[], #[], []⟩
  { w0 with heap := putG (putG (putG (putG (putG w0.heap 9 (flatCells Rows.laid_math_bits_deBruijn32tab).toArray) 10 (flatCells Rows.laid_math_bits_deBruijn64tab).toArray) 1 (flatCells Rows.laid_internal_strconv_uint64pow10).toArray) 8 (flatCells Rows.laid_unicode_utf8_acceptRanges).toArray) 7 (flatCells Rows.laid_unicode_utf8_first).toArray }
theorem laid_metN (os : Os) (args : Array Value) : laidMet Tryz.prog laidNum ((laidWorldN os).forCall (fun _ _ => 0) ⟨#[], args, []⟩).memory :=
 laidMet_of_run' 8 (by kernel_rfl) (by kernel_rfl)
end Go.Proofs.YtnhmmjogfkjceaaGreatDoor
namespace Go.Proofs.YtnhmmjogfkjceaaGreatDoor
open Go.Sl Go.RowKit «Sort»
variable {W0 : World} {σ : Heaplet}
theorem of_nums (l : List UInt8) : strOfNums (l.map fun c => (c.toNat : Int)) = bS l := by
 unfold strOfNums
 rw [List.map_map, show ((fun n : Int => UInt8.ofNat n.toNat) ∘ fun c : UInt8 => (c.toNat : Int)) = id from by funext c; simp, List.map_id]
end Go.Proofs.YtnhmmjogfkjceaaGreatDoor
namespace Go.Proofs.YtnhmmjogfkjceaaGreatDoor
open Go.Sl
def mixM (n l : List Int) (i : Nat) : List Int := n.take i ++ l.drop i
theorem mixM_zero (n l : List Int) : mixM n l 0 = l := by simp [mixM]
theorem mixM_len {n l : List Int} {i : Nat} (hn : n.length = l.length) (hi : i ≤ l.length) : (mixM n l i).length = l.length := by
 unfold mixM; rw [List.length_append, List.length_take, List.length_drop]; omega
theorem mixM_at {n l : List Int} {i : Nat} (hn : n.length = l.length) (hi : i < l.length) : (mixM n l i)[i]? = l[i]? := by
 unfold mixM
 rw [List.getElem?_append_right (by rw [List.length_take]; omega), List.length_take, Nat.min_eq_left (by omega), List.getElem?_drop]
 simp
theorem mixM_end {n l : List Int} (hn : n.length = l.length) : mixM n l l.length = n := by
 unfold mixM; rw [List.drop_length, List.append_nil, ← hn, List.take_length]
theorem mixM_step {n l : List Int} {i : Nat} {v : Int} (hn : n.length = l.length) (hv : n[i]? = some v) : (mixM n l i).set i v = mixM n l (i + 1) := by
 have hi := (List.getElem?_eq_some_iff.1 hv).1
 apply List.ext_getElem?
 intro j
 have h1 : (n.take i).length = i := by rw [List.length_take]; omega
 have h2 : (n.take (i + 1)).length = i + 1 := by rw [List.length_take]; omega
 by_cases hj : j = i
 · subst hj
   rw [List.getElem?_set_self (by rw [mixM_len hn (by omega)]; omega)]
   unfold mixM
   rw [List.getElem?_append_left (by omega), List.getElem?_take_of_lt (by omega), hv]
 · rw [List.getElem?_set_ne (fun z => hj z.symm)]
   unfold mixM
   by_cases hlt : j < i
   · rw [List.getElem?_append_left (by omega), List.getElem?_append_left (by omega), List.getElem?_take_of_lt hlt, List.getElem?_take_of_lt (by omega)]
   · rw [List.getElem?_append_right (by omega), List.getElem?_append_right (by omega), h1, h2, List.getElem?_drop, List.getElem?_drop]
     congr 1; omega
theorem lessL_at : ∀ {l m : List Int} {i : Nat} {x b : Int}, l[i]? = some x → (lessL l m b)[i]? = some ((x - (lessB (l.take i) m b + m[i]?.getD 0)) % 4294967296)
 | [], m, i, x, b, h => by simp at h
 | z :: r, m, 0, x, b, h => by
   simp at h; subst h
   cases m <;> simp [lessL, lessB]
 | z :: r, m, i + 1, x, b, h => by
   show (lessL r m.tail (if z < b + m.headD 0 then 1 else 0))[i]? = _
   rw [lessL_at (l := r) (m := m.tail) (i := i) (x := x) (by simpa using h)]
   cases m <;> simp [lessB]
theorem lessB_step : ∀ {l m : List Int} {i : Nat} {x b : Int}, l[i]? = some x → lessB (l.take (i + 1)) m b = if x < lessB (l.take i) m b + m[i]?.getD 0 then 1 else 0
 | [], m, i, x, b, h => by simp at h
 | z :: r, m, 0, x, b, h => by
   simp at h; subst h
   cases m <;> simp [lessB]
 | z :: r, m, i + 1, x, b, h => by
   have := lessB_step (l := r) (m := m.tail) (i := i) (x := x) (b := if z < b + m.headD 0 then 1 else 0) (by simpa using h)
   cases m <;> simpa [lessB] using this
theorem less_wrap (x z : Int) : IntKind.wrap .u32 (x - IntKind.wrap .u32 z) = (x - z) % 4294967296 := by rw [wrap_u32, wrap_u32]; omega
theorem less_y {l m : List Int} {i : Nat} {x y c : Int} (hx : l[i]? = some x) (hy : m[i]? = some y) (hc : c = lessB (l.take i) m 0) :
   (mixM (lessL l m 0) l i).set i (IntKind.wrap .u32 (x - IntKind.wrap .u32 (c + y))) = mixM (lessL l m 0) l (i + 1) ∧ (x < c + y → 1 = lessB (l.take (i + 1)) m 0) ∧ (¬ x < c + y → 0 = lessB (l.take (i + 1)) m 0) := by
 refine ⟨mixM_step (lessL_len ..) ?_, fun h => ?_, fun h => ?_⟩
 · rw [lessL_at hx, hy, less_wrap, hc]; rfl
 · rw [lessB_step hx, hy, ← hc]; exact (if_pos h).symm
 · rw [lessB_step hx, hy, ← hc]; exact (if_neg h).symm
theorem less_n {l m : List Int} {i : Nat} {x c : Int} (hx : l[i]? = some x) (hy : m.length ≤ i) (hc : c = lessB (l.take i) m 0) :
   (mixM (lessL l m 0) l i).set i (IntKind.wrap .u32 (x - IntKind.wrap .u32 c)) = mixM (lessL l m 0) l (i + 1) ∧ (x < c → 1 = lessB (l.take (i + 1)) m 0) ∧ (¬ x < c → 0 = lessB (l.take (i + 1)) m 0) := by
 have e : m[i]? = none := List.getElem?_eq_none hy
 refine ⟨mixM_step (lessL_len ..) ?_, fun h => ?_, fun h => ?_⟩
 · rw [lessL_at hx, e, less_wrap, hc]; simp
 · rw [lessB_step hx, e, ← hc]; simp [h]
 · rw [lessB_step hx, e, ← hc]; simp [h]
theorem plus_y {l m ys : List Int} {i : Nat} {c x y : Int} (hyl : ys.length = i) (hyo : LimOk ys) (hx : l[i]? = some x) (ho : 0 ≤ x ∧ x < 4294967296) (hy : m[i]? = some y) (hp : 0 ≤ y ∧ y < 4294967296) (hc : 0 ≤ c ∧ c ≤ 1)
   (h : limV ys + 4294967296 ^ i * c.toNat = limV (l.take i) + limV (m.take i)) :
   (ys ++ [IntKind.wrap .u32 (c + x + y)]).length = i + 1 ∧ LimOk (ys ++ [IntKind.wrap .u32 (c + x + y)]) ∧ (0 ≤ (c + x + y) / 4294967296 ∧ (c + x + y) / 4294967296 ≤ 1) ∧
   limV (ys ++ [IntKind.wrap .u32 (c + x + y)]) + 4294967296 ^ (i + 1) * ((c + x + y) / 4294967296).toNat = limV (l.take (i + 1)) + limV (m.take (i + 1)) := by
 obtain ⟨cn, rfl⟩ := Int.eq_ofNat_of_zero_le hc.1
 obtain ⟨xn, rfl⟩ := Int.eq_ofNat_of_zero_le ho.1
 obtain ⟨yn, rfl⟩ := Int.eq_ofNat_of_zero_le hp.1
 rw [wrap_u32]
 have e2 : ((cn : Int) + xn + yn) % 4294967296 = (((cn + xn + yn) % 4294967296 : Nat) : Int) := by omega
 have e3 : (((cn : Int) + xn + yn) / 4294967296).toNat = (cn + xn + yn) / 4294967296 := by omega
 rw [e2, e3]
 refine ⟨by simp [hyl], LimOk.snoc hyo (by omega), by omega, ?_⟩
 rw [limV_snoc, hyl, limV_step hx, limV_step hy]
 have e := pow_split (B := 4294967296) (i := i) (c := cn + xn + yn) (by decide)
 have e4 : 4294967296 ^ i * (cn + xn + yn) = 4294967296 ^ i * cn + 4294967296 ^ i * xn + 4294967296 ^ i * yn := by rw [Nat.mul_add, Nat.mul_add]
 simp only [Int.toNat_natCast] at h ⊢
 omega
theorem plus_n {l m ys : List Int} {i : Nat} {c x : Int} (hyl : ys.length = i) (hyo : LimOk ys) (hx : l[i]? = some x) (ho : 0 ≤ x ∧ x < 4294967296) (hm : m.length ≤ i) (hc : 0 ≤ c ∧ c ≤ 1)
   (h : limV ys + 4294967296 ^ i * c.toNat = limV (l.take i) + limV (m.take i)) :
   (ys ++ [IntKind.wrap .u32 (c + x)]).length = i + 1 ∧ LimOk (ys ++ [IntKind.wrap .u32 (c + x)]) ∧ (0 ≤ (c + x) / 4294967296 ∧ (c + x) / 4294967296 ≤ 1) ∧
   limV (ys ++ [IntKind.wrap .u32 (c + x)]) + 4294967296 ^ (i + 1) * ((c + x) / 4294967296).toNat = limV (l.take (i + 1)) + limV (m.take (i + 1)) := by
 obtain ⟨cn, rfl⟩ := Int.eq_ofNat_of_zero_le hc.1
 obtain ⟨xn, rfl⟩ := Int.eq_ofNat_of_zero_le ho.1
 rw [wrap_u32]
 have e2 : ((cn : Int) + xn) % 4294967296 = (((cn + xn) % 4294967296 : Nat) : Int) := by omega
 have e3 : (((cn : Int) + xn) / 4294967296).toNat = (cn + xn) / 4294967296 := by omega
 rw [e2, e3]
 refine ⟨by simp [hyl], LimOk.snoc hyo (by omega), by omega, ?_⟩
 rw [limV_snoc, hyl, limV_step hx, List.take_of_length_le (show m.length ≤ i + 1 by omega)]
 rw [List.take_of_length_le hm] at h
 have e := pow_split (B := 4294967296) (i := i) (c := cn + xn) (by decide)
 have e4 : 4294967296 ^ i * (cn + xn) = 4294967296 ^ i * cn + 4294967296 ^ i * xn := by rw [Nat.mul_add]
 simp only [Int.toNat_natCast] at h ⊢
 omega
theorem plus_end {l m ys : List Int} {c : Int} (hyl : ys.length = l.length) (hml : m.length ≤ l.length) (hyo : LimOk ys) (hc : 0 ≤ c ∧ c ≤ 1) (h : limV ys + 4294967296 ^ l.length * c.toNat = limV (l.take l.length) + limV (m.take l.length)) :
   LimOk (ys ++ [c]) ∧ limV (ys ++ [c]) = limV l + limV m := by
 obtain ⟨cn, rfl⟩ := Int.eq_ofNat_of_zero_le hc.1
 refine ⟨hyo.snoc (by omega), ?_⟩
 rw [limV_snoc, hyl]
 rw [List.take_length, List.take_of_length_le hml] at h
 simpa using h
theorem pow_mono10 {a i n : Nat} (h : i ≤ n) : a * 10 ^ i ≤ a * 10 ^ n := Nat.mul_le_mul_left _ (Nat.pow_le_pow_right (by decide) h)
theorem ofD_app (l : Bytes) (c : UInt8) : ofD (l ++ [c]) = ofD l * 10 + (c.toNat - 48) := by simp [ofD, List.foldl_append]
theorem ofD_step {X : Bytes} {i : Nat} {c : UInt8} (h : X[i]? = some c) : ofD (X.take (i + 1)) = ofD (X.take i) * 10 + (c.toNat - 48) := by
 rw [List.take_add_one, h]; exact ofD_app _ _
theorem ofD_ge : ∀ (l : Bytes) (a : Nat), a ≤ l.foldl (fun a c => a * 10 + (c.toNat - 48)) a
 | [], a => Nat.le_refl _
 | c :: r, a => Nat.le_trans (by omega) (ofD_ge r (a * 10 + (c.toNat - 48)))
theorem ofD_take_le (X : Bytes) (i : Nat) : ofD (X.take i) ≤ ofD X := by
 have h : ofD X = (X.drop i).foldl (fun a c => a * 10 + (c.toNat - 48)) (ofD (X.take i)) := by
   conv => lhs; rw [← List.take_append_drop i X]
   unfold ofD; rw [List.foldl_append]
 rw [h]; exact ofD_ge _ _
end Go.Proofs.YtnhmmjogfkjceaaGreatDoor
namespace Go.Proofs.YtnhmmjogfkjceaaGreatDoor
open Go.Sl
def clampE (e : Int) : Int := min (max e (-5000)) 5000
theorem clampE_in (e : Int) : -5000 ≤ clampE e ∧ clampE e ≤ 5000 := by unfold clampE; omega
theorem clampE_eq (e : Int) : (if 5000 < (if -5000 > e then -5000 else e) then 5000 else (if -5000 > e then -5000 else e)) = clampE e := by
 unfold clampE; split <;> split <;> omega
theorem and1_64 (m : Nat) (h : m < 18446744073709551616) : IntKind.wrap .u64 ((BitVec.ofInt 64 (m : Int) &&& BitVec.ofInt 64 1).toNat) = ((m % 2 : Nat) : Int) := by
 rw [BitVec.toNat_and, show (BitVec.ofInt 64 1).toNat = 2 ^ 1 - 1 by decide, Nat.and_two_pow_sub_one_eq_mod, BitVec.toNat_ofInt]
 have : (((m : Int) % ((2 ^ 64 : Nat) : Int)).toNat) = m := by omega
 rw [this]
 simp [IntKind.wrap, IntKind.bits, IntKind.signed]
 omega
theorem formNear_hi {m : Nat} {e : Int} {h : Bool} (h1 : e + 63 > 1023) : formNear m e h = 9218868437227405312 := by unfold formNear; rw [if_pos h1]
theorem formNear_lo {m : Nat} {e : Int} {h : Bool} (h2 : e + 63 + 1023 < 1) (h3 : 12 - (e + 63 + 1023) > 64) : formNear m e h = 0 := by
 unfold formNear; rw [if_neg (by omega)]; simp only [if_pos h2]; rw [if_pos h3]
abbrev upIf (R M : Nat) (h : Bool) : Prop := R > 9223372036854775808 ∨ (R = 9223372036854775808 ∧ (h = true ∨ M % 2 = 1))
theorem formNear_d {m M R : Nat} {e : Int} {h : Bool} (h2 : e + 63 + 1023 < 1) (h3 : ¬ 12 - (e + 63 + 1023) > 64) (hM : M = m / 2 ^ (12 - (e + 63 + 1023)).toNat) (hR : R = m * 2 ^ (64 - (12 - (e + 63 + 1023)).toNat) % 18446744073709551616) :
   (formNear m e h : Int) = ((if upIf R M h then M + 1 else M : Nat) : Int) := by
 unfold formNear; rw [if_neg (by omega)]; simp only [if_pos h2]; rw [if_neg h3, ← hM, ← hR]; simp
theorem formNear_n {m M R : Nat} {e : Int} {h : Bool} (h1 : ¬ e + 63 > 1023) (h2 : ¬ e + 63 + 1023 < 1) (hM : M = m / 2 ^ 11) (hR : R = m * 2 ^ 53 % 18446744073709551616) :
   (formNear m e h : Int) = (e + 63 + 1023 - 1) * 4503599627370496 + ((if upIf R M h then M + 1 else M : Nat) : Int) := by
 unfold formNear; rw [if_neg h1]; simp only [if_neg h2]; rw [if_neg (by decide)]
 rw [show (11 : Int).toNat = 11 from rfl, show 64 - 11 = 53 from rfl, ← hM, ← hR]
 generalize (if R > 9223372036854775808 ∨ (R = 9223372036854775808 ∧ (h = true ∨ M % 2 = 1)) then M + 1 else M : Nat) = r
 omega
theorem up_if {p : Prop} [Decidable p] {a : Nat} (h : p) : ((if p then a + 1 else a : Nat) : Int) = (a : Int) + 1 := by rw [if_pos h]; simp
theorem dn_if {p : Prop} [Decidable p] {a : Nat} (h : ¬ p) : ((if p then a + 1 else a : Nat) : Int) = (a : Int) := by rw [if_neg h]
theorem div_pow_lt {m s : Nat} (h : m < 18446744073709551616) (hs : 11 ≤ s) : m / 2 ^ s < 9007199254740992 := by
 rw [Nat.div_lt_iff_lt_mul (Nat.two_pow_pos s)]
 have : 2 ^ 11 ≤ 2 ^ s := Nat.pow_le_pow_right (by decide) hs
 omega
theorem one_shl {k : Nat} (h : k < 64) : IntKind.wrap .u64 ((1 : Int) * 2 ^ min (k : Int).toNat IntKind.u64.bits) = ((2 ^ k : Nat) : Int) := by
 rw [Int.toNat_natCast, show IntKind.u64.bits = 64 from rfl, Nat.min_eq_left (by omega), wrap64]
 have h1 : (1 : Int) * 2 ^ k = ((2 ^ k : Nat) : Int) := by simp
 have h2 : 2 ^ k ≤ 2 ^ 63 := Nat.pow_le_pow_right (by decide) (by omega)
 rw [h1]
 generalize 2 ^ k = z at *
 omega
theorem or_half {m k : Nat} (hk : 0 < k) (h : m * 2 ^ k + 2 ^ (k - 1) < 18446744073709551616) : IntKind.wrap .u64 ((BitVec.ofInt 64 ((m * 2 ^ k : Nat) : Int) ||| BitVec.ofInt 64 ((2 ^ (k - 1) : Nat) : Int)).toNat) = ((m * 2 ^ k + 2 ^ (k - 1) : Nat) : Int) := by
 rw [show (BitVec.ofInt 64 ((m * 2 ^ k : Nat) : Int) ||| BitVec.ofInt 64 ((2 ^ (k - 1) : Nat) : Int)) = (BitVec.ofInt 64 ((2 ^ (k - 1) : Nat) : Int) ||| BitVec.ofInt 64 ((m * 2 ^ k : Nat) : Int)) from BitVec.or_comm _ _]
 exact or_apart64 (Nat.pow_lt_pow_right (by decide) (by omega)) h
theorem lz_one : (64 - (Lib.bitLen (1 : Int).toNat : Int)) = 63 := by decide
theorem bitsN_le64 {m : Nat} (h : m < 18446744073709551616) : bitsN m ≤ 64 := by
 by_cases h0 : m = 0
 · rw [h0, bitsN_zero]; decide
 · have := bitsN_ge m h0
   apply Classical.byContradiction
   intro hc
   have : 2 ^ 64 ≤ 2 ^ (bitsN m - 1) := Nat.pow_le_pow_right (by decide) (by omega)
   omega
theorem lz_eq {m : Nat} (h : m < 18446744073709551616) : (64 - (Lib.bitLen (m : Int).toNat : Int)) = ((64 - bitsN m : Nat) : Int) := by
 rw [Int.toNat_natCast, bitLen_eq h]
 have := bitsN_le64 h
 omega
theorem shl_top {m : Nat} (h : m < 18446744073709551616) : m * 2 ^ (64 - bitsN m) < 18446744073709551616 := by
 have h1 := bitsN_lt m
 have h2 := bitsN_le64 h
 have : m * 2 ^ (64 - bitsN m) < 2 ^ bitsN m * 2 ^ (64 - bitsN m) := Nat.mul_lt_mul_of_pos_right h1 (Nat.two_pow_pos _)
 rw [← Nat.pow_add, show bitsN m + (64 - bitsN m) = 64 by omega] at this
 exact this
theorem shl_wrap {m k : Nat} (h : m * 2 ^ k < 18446744073709551616) (hk : k ≤ 64) : IntKind.wrap .u64 ((m : Int) * 2 ^ min (k : Int).toNat IntKind.u64.bits) = ((m * 2 ^ k : Nat) : Int) := by
 rw [Int.toNat_natCast, show IntKind.u64.bits = 64 from rfl, Nat.min_eq_left hk, wrap64]
 have : (m : Int) * 2 ^ k = ((m * 2 ^ k : Nat) : Int) := by simp
 rw [this]; omega
theorem shl_half {m k : Nat} (h : m * 2 ^ k < 18446744073709551616) (hk : 0 < k) (hk2 : k ≤ 64) : m * 2 ^ k + 2 ^ (k - 1) < 18446744073709551616 := by
 obtain ⟨j, rfl⟩ : ∃ j, k = j + 1 := ⟨k - 1, by omega⟩
 rw [Nat.add_sub_cancel]
 rw [Nat.pow_succ] at h ⊢
 by_cases hj : j = 63
 · subst hj; have : m = 0 := by omega
   subst this; decide
 · have : 2 ^ j ≤ 2 ^ 62 := Nat.pow_le_pow_right (by decide) (by omega)
   have e : m * (2 ^ j * 2) = 2 * (m * 2 ^ j) := by rw [← Nat.mul_assoc, Nat.mul_comm]
   rw [e] at h ⊢
   have h64 : (18446744073709551616 : Nat) = 2 ^ j * (2 * 2 ^ (63 - j)) := by rw [show (2 : Nat) * 2 ^ (63 - j) = 2 ^ (64 - j) by rw [show 64 - j = (63 - j) + 1 by omega, Nat.pow_succ, Nat.mul_comm], ← Nat.pow_add, show j + (64 - j) = 64 by omega]
   have h2 : 2 * (m * 2 ^ j) = 2 ^ j * (2 * m) := by rw [← Nat.mul_assoc, Nat.mul_comm]
   rw [h2, h64] at h ⊢
   have h3 : 2 * m < 2 * 2 ^ (63 - j) := Nat.lt_of_mul_lt_mul_left h
   have h4 := Nat.mul_le_mul_left (2 ^ j) (show 2 * m + 2 ≤ 2 * 2 ^ (63 - j) by omega)
   rw [Nat.mul_add] at h4
   have := Nat.two_pow_pos j
   omega
theorem near_z {e : Int} : nearN 0 e true = formNear 9223372036854775808 (clampE e - 1 - 63) false := by unfold nearN clampE; rw [if_pos ⟨rfl, rfl⟩]
theorem near_0 {e : Int} {h : Bool} (hh : h = false) : nearN 0 e h = 0 := by subst hh; unfold nearN; simp
theorem near_half {m : Nat} {e : Int} {h : Bool} (hm : m ≠ 0) (hh : h = true) (hs : 0 < 64 - bitsN m) : nearN m e h = formNear (m * 2 ^ (64 - bitsN m) + 2 ^ (64 - bitsN m - 1)) (clampE e - (64 - bitsN m : Nat)) false := by
 unfold nearN clampE; rw [if_neg (fun q => hm q.1), if_neg hm]; simp only []; rw [if_pos ⟨hh, hs⟩]
theorem near_up {m : Nat} {e : Int} {h : Bool} (hm : m ≠ 0) (hs : ¬ (h = true ∧ 0 < 64 - bitsN m)) : nearN m e h = formNear (m * 2 ^ (64 - bitsN m)) (clampE e - (64 - bitsN m : Nat)) h := by
 unfold nearN clampE; rw [if_neg (fun q => hm q.1), if_neg hm]; simp only []; rw [if_neg hs]
theorem max0_eq (z : Int) : (if 0 > z then 0 else z) = (z.toNat : Int) := by split <;> omega
theorem cmp_ge {a b : Nat} (h : cmpN a b ≥ 0) : b ≤ a := by unfold cmpN at h; split at h <;> omega
theorem cmp_nge {a b : Nat} (h : ¬ cmpN a b ≥ 0) : ¬ b ≤ a := by
 unfold cmpN at h
 split at h <;> first | omega | (split at h <;> omega)
theorem shl_one (m : Nat) : IntKind.wrap .u64 ((m : Int) * 2 ^ min (1 : Int).toNat IntKind.u64.bits) = ((m * 2 % 18446744073709551616 : Nat) : Int) := by
 rw [show min (1 : Int).toNat IntKind.u64.bits = 1 from rfl, wrap64]; omega
theorem or_one (m : Nat) : IntKind.wrap .u64 ((BitVec.ofInt 64 ((m * 2 % 18446744073709551616 : Nat) : Int) ||| BitVec.ofInt 64 1).toNat) = ((m * 2 % 18446744073709551616 + 1 : Nat) : Int) := by
 have e : m * 2 % 18446744073709551616 = (m % 9223372036854775808) * 2 ^ 1 := by omega
 rw [e, BitVec.or_comm]
 exact or_apart64 (a := m % 9223372036854775808) (b := 1) (s := 1) (by decide) (by omega)
theorem bitsN_mono {x y : Nat} (h : x ≤ y) : bitsN x ≤ bitsN y := by
 by_cases hx : x = 0
 · rw [hx, bitsN_zero]; omega
 · have h1 := bitsN_ge x hx
   have h2 := bitsN_lt y
   have h3 : bitsN x - 1 < bitsN y := (Nat.pow_lt_pow_iff_right (by decide : 1 < 2)).1 (Nat.lt_of_le_of_lt (Nat.le_trans h1 h) h2)
   omega
theorem bitsN_mul_pow (x n : Nat) : bitsN (x * 2 ^ n) ≤ bitsN x + n := by
 by_cases hx : x = 0
 · rw [hx, Nat.zero_mul, bitsN_zero]; omega
 · have := bitsN_shift (x := x) (k := n) (y := 0) hx (Nat.two_pow_pos n)
   rw [Nat.add_zero] at this; omega
theorem len_bits {x k : Nat} (h : bitsN x ≤ 32 * k) : (lim x).length ≤ k := by
 apply lim_len_lt
 rw [show (4294967296 : Nat) = 2 ^ 32 from rfl, ← Nat.pow_mul]
 exact Nat.lt_of_lt_of_le (bitsN_lt x) (Nat.pow_le_pow_right (by decide) h)
theorem len_mono {x y k : Nat} (h : x ≤ y) (hk : (lim y).length ≤ k) : (lim x).length ≤ k := Nat.le_trans (lim_len_mono h) hk
theorem divN_step1 {k p t man : Nat} (h : t ≤ p) : divN (k + 1) p t man = divN k (p - t) (t / 2) (man * 2 % 18446744073709551616 + 1) := by rw [divN, if_pos h]
theorem divN_step0 {k p t man : Nat} (h : ¬ t ≤ p) : divN (k + 1) p t man = divN k p (t / 2) (man * 2 % 18446744073709551616) := by rw [divN, if_neg h]
theorem roundN_eq {p q p' t' man : Nat} (h : divN 0 p' t' man = divN 64 (p * 2 ^ (63 - (bitsN p : Int) + (bitsN q : Int)).toNat) (q * 2 ^ (-(63 - (bitsN p : Int) + (bitsN q : Int))).toNat * 2 ^ 63) 0) :
   roundN p q = nearN man (-(63 - (bitsN p : Int) + (bitsN q : Int))) (decide (((lim p').length : Int) > 0)) := by
 unfold roundN
 simp only []
 rw [← h, divN]
 simp
end Go.Proofs.YtnhmmjogfkjceaaGreatDoor
namespace Go.Proofs.YtnhmmjogfkjceaaGreatDoor
open Go.Sl
theorem digs_contains (c : UInt8) : digs.contains c = isDig c := by
 have h : ∀ n : Fin 256, digs.contains (UInt8.ofNat n) = isDig (UInt8.ofNat n) := by decide
 have := h ⟨c.toNat, c.toNat_lt⟩
 simpa using this
theorem trimLeft_digs (X : Bytes) : Lib.trimLeftS X digs = X.dropWhile isDig := by
 unfold Lib.trimLeftS
 congr 1
 funext c
 exact digs_contains c
theorem take_drop_len (p : UInt8 → Bool) (X : Bytes) : X.take (X.length - (X.dropWhile p).length) = X.takeWhile p := by
 have h : X.takeWhile p ++ X.dropWhile p = X := List.takeWhile_append_dropWhile
 have hl : (X.takeWhile p).length + (X.dropWhile p).length = X.length := by rw [← List.length_append, h]
 conv => lhs; arg 2; rw [← h]
 rw [show X.length - (X.dropWhile p).length = (X.takeWhile p).length by omega, List.take_left']
 rfl
theorem dropWhile_len (p : UInt8 → Bool) (X : Bytes) : (X.dropWhile p).length ≤ X.length := (List.dropWhile_sublist p).length_le
theorem takeWhile_len (p : UInt8 → Bool) (X : Bytes) : (X.takeWhile p).length ≤ X.length := (List.takeWhile_sublist p).length_le
theorem takeWhile_all (p : UInt8 → Bool) : ∀ {X : Bytes} {c : UInt8}, c ∈ X.takeWhile p → p c = true
 | x :: r, c, h => by
   rw [List.takeWhile_cons] at h
   split at h
   · rcases List.mem_cons.1 h with q | q
     · rw [q]; assumption
     · exact takeWhile_all p q
   · cases h
theorem takeWhile_dig {X : Bytes} {c : UInt8} (h : c ∈ X.takeWhile isDig) : 48 ≤ c.toNat ∧ c.toNat ≤ 57 := by
 have := takeWhile_all isDig h
 simpa [isDig] using this
def numV (n : DecP × Bool) : Value := .tuple #[.agg #[.string (bS n.1.ahead), .string (bS n.1.behind), .int .i64 n.1.power], .bool n.2]
theorem pre_dot {D : Bytes} (h : Lib.hasPrefix D [46] = true) : ∃ r, D = 46 :: r := by
 cases D with
 | nil => simp [Lib.hasPrefix] at h
 | cons c r => simp [Lib.hasPrefix] at h; exact ⟨r, by rw [h]⟩
theorem fracP_no {D : Bytes} (h : Lib.hasPrefix D [46] = false) : fracP D = ([], D) := by
 cases D with
 | nil => rfl
 | cons c r =>
   unfold fracP
   split
   · rename_i heq; simp at heq; rw [heq.1] at h; simp [Lib.hasPrefix] at h
   · rfl
theorem fracP_len (D : Bytes) : (fracP D).1.length ≤ D.length ∧ (fracP D).2.length ≤ D.length := by
 unfold fracP
 split
 · rename_i r
   have := takeWhile_len isDig r
   have := dropWhile_len isDig r
   simp; omega
 · simp
theorem wayP_at {d : UInt8} {t : Bytes} (h : d = 43 ∨ d = 45) : wayP (d :: t) = (44 - (d.toNat : Int), t) := if_pos h
theorem wayP_no {d : UInt8} {t : Bytes} (h : ¬ (d = 43 ∨ d = 45)) : wayP (d :: t) = (1, d :: t) := if_neg h
theorem wayP_in (r : Bytes) : (wayP r).1 = 1 ∨ (wayP r).1 = -1 := by
 cases r with
 | nil => exact .inl rfl
 | cons d t =>
   by_cases h : d = 43 ∨ d = 45
   · rw [wayP_at h]; rcases h with rfl | rfl; exact .inl rfl; exact .inr rfl
   · rw [wayP_no h]; exact .inl rfl
theorem wayP_len (r : Bytes) : (wayP r).2.length ≤ r.length := by
 cases r with
 | nil => exact Nat.le_refl _
 | cons d t =>
   by_cases h : d = 43 ∨ d = 45
   · rw [wayP_at h]; simp
   · rw [wayP_no h]; exact Nat.le_refl _
theorem powN_in : ∀ (l : Bytes) (a : Int), 0 ≤ a ∧ a ≤ 1099511627776 → (∀ c ∈ l, 48 ≤ c.toNat ∧ c.toNat ≤ 57) → 0 ≤ powN a l ∧ powN a l ≤ 1099511627776
 | [], a, h, _ => h
 | c :: r, a, h, hd => powN_in r _ (by have := hd c (List.mem_cons_self ..); omega) fun x hx => hd x (List.mem_cons_of_mem _ hx)
theorem powN_app : ∀ (l m : Bytes) (a : Int), powN a (l ++ m) = powN (powN a l) m
 | [], _, _ => rfl
 | c :: r, m, a => powN_app r m _
theorem powN_step {l : Bytes} {i : Nat} {c : UInt8} (h : l[i]? = some c) : powN 0 (l.take (i + 1)) = min (powN 0 (l.take i) * 10 + ((c.toNat : Int) - 48)) 1099511627776 := by
 rw [List.take_add_one, h, powN_app]; rfl
theorem way_mul {p w : Int} (hp : 0 ≤ p ∧ p ≤ 1099511627776) (hw : w = 1 ∨ w = -1) : -1099511627776 ≤ p * w ∧ p * w ≤ 1099511627776 := by rcases hw with rfl | rfl <;> omega
section
variable {X A B R r : Bytes} {c : UInt8} (hA : X.takeWhile isDig = A) (hB : (fracP (X.dropWhile isDig)).1 = B) (hR : (fracP (X.dropWhile isDig)).2 = R)
include hA hB
theorem decP_none (h : A = [] ∧ B = []) : decP X = (⟨A, B, 0⟩, false) := by unfold decP; simp only [hA, hB, if_pos h]
include hR
theorem decP_end (h : ¬ (A = [] ∧ B = [])) (h1 : R = []) : decP X = (⟨A, B, 0⟩, true) := by unfold decP; simp only [hA, hB, hR, if_neg h, h1]
theorem decP_other (h : ¬ (A = [] ∧ B = [])) (h1 : R = c :: r) (h2 : c ≠ 101 ∧ c ≠ 69) : decP X = (⟨A, B, 0⟩, false) := by unfold decP; simp only [hA, hB, hR, if_neg h, h1, if_pos h2]
theorem decP_pow (h : ¬ (A = [] ∧ B = [])) (h1 : R = c :: r) (h2 : c = 101 ∨ c = 69) : decP X = (⟨A, B, powN 0 ((wayP r).2.takeWhile isDig) * (wayP r).1⟩, decide ((wayP r).2.takeWhile isDig ≠ [] ∧ (wayP r).2.dropWhile isDig = [])) := by
 unfold decP; simp only [hA, hB, hR, if_neg h, h1]; rw [if_neg (by rcases h2 with rfl | rfl <;> decide)]
end
theorem cons_of_at {R : Bytes} {c : UInt8} (h : R[0]? = some c) : R = c :: R.drop 1 := by
 cases R with
 | nil => simp at h
 | cons d t => simp at h; rw [h]; rfl
theorem wayP_hit {r : Bytes} {d : UInt8} (h : r[0]? = some d) (hd : d = 43 ∨ d = 45) : wayP r = (44 - (d.toNat : Int), r.drop 1) := by
 rw [cons_of_at h, wayP_at hd]; rfl
theorem wayP_miss {r : Bytes} {d : UInt8} (h : r[0]? = some d) (hd : ¬ (d = 43 ∨ d = 45)) : wayP r = (1, r) := by
 conv => lhs; rw [cons_of_at h]
 rw [wayP_no hd, ← cons_of_at h]
theorem min_if (a b : Int) : (if b < a then b else a) = min a b := by split <;> omega
theorem num_eq {A B : Bytes} {p p' : Int} {b b' : Bool} (hp : p = p') (hb : b = b') : Value.tuple #[.agg #[.string (bS A), .string (bS B), .int .i64 p], .bool b] = numV (⟨A, B, p'⟩, b') := by rw [hp, hb]; rfl
theorem u8_eq {c : UInt8} {n : Nat} (hn : n < 256) : ((c.toNat : Int) = (n : Int)) ↔ c = UInt8.ofNat n := by
 constructor
 · intro h
   apply UInt8.toNat_inj.1
   rw [UInt8.toNat_ofNat']
   omega
 · intro h; rw [h, UInt8.toNat_ofNat']; omega
end Go.Proofs.YtnhmmjogfkjceaaGreatDoor
namespace Go.Proofs.YtnhmmjogfkjceaaGreatDoor
open Go.Sl
theorem trimLeft_0 (X : Bytes) : Lib.trimLeftS X [48] = X.dropWhile (· == 48) := by
 unfold Lib.trimLeftS
 congr 1
 funext c
 exact Lib.contains_one 48 c
theorem dropWhile_nil_iff (p : UInt8 → Bool) : ∀ X : Bytes, X.dropWhile p = [] ↔ X.all p = true
 | [] => by simp
 | c :: r => by
   rw [List.dropWhile_cons, List.all_cons]
   by_cases h : p c = true
   · rw [if_pos h, dropWhile_nil_iff p r, h, Bool.true_and]
   · rw [if_neg h]; simp [h]
theorem trimS_nil (X : Bytes) : Lib.trimS X [48] = [] ↔ X.any (· != 48) = false := by
 have h1 : Lib.trimS X [48] = [] ↔ (Lib.trimRightS X [48]).all (· == 48) = true := by
   unfold Lib.trimS
   rw [trimLeft_0, dropWhile_nil_iff]
 rw [h1]
 unfold Lib.trimRightS
 have h2 : ([48].contains · : UInt8 → Bool) = (· == 48) := by funext c; exact Lib.contains_one 48 c
 rw [h2, List.all_reverse]
 constructor
 · intro h
   have h3 : (X.reverse.dropWhile (· == 48)) = [] := by
     cases hd : X.reverse.dropWhile (· == 48) with
     | nil => rfl
     | cons c r =>
       rw [hd, List.all_cons] at h
       have : (c == 48) = true := by simp at h; simp [h.1]
       have h4 := List.head?_dropWhile_not (· == 48) X.reverse
       rw [hd] at h4
       simp at h4 this
       exact absurd this h4
   rw [dropWhile_nil_iff, List.all_reverse] at h3
   rw [List.all_eq_true] at h3
   rw [List.any_eq_false]
   intro c hc
   have := h3 c hc
   simpa using this
 · intro h
   rw [List.any_eq_false] at h
   rw [List.all_eq_true]
   intro c hc
   have := h c (by have := (List.dropWhile_sublist _).subset hc; simpa using this)
   simpa using this
theorem cutD_more {L : Bytes} {P : Int} (h : L.length > 800) (ha : ¬ Lib.trimS (L.drop 800) [48] = []) : cutD L P = (L.take 800 ++ [49], P + ((L.length : Int) - 800) - 1) := by
 unfold cutD
 rw [if_pos h, if_pos (by rw [trimS_nil] at ha; simpa using ha), show ((L.length - 800 : Nat) : Int) = (L.length : Int) - 800 by omega]
theorem cutD_cut {L : Bytes} {P : Int} (h : L.length > 800) (ha : Lib.trimS (L.drop 800) [48] = []) : cutD L P = (L.take 800, P + ((L.length : Int) - 800)) := by
 unfold cutD
 rw [if_pos h, if_neg (by rw [trimS_nil] at ha; rw [ha]; decide), show ((L.length - 800 : Nat) : Int) = (L.length : Int) - 800 by omega]
theorem cutD_no {L : Bytes} {P : Int} (h : ¬ L.length > 800) : cutD L P = (L, P) := by unfold cutD; rw [if_neg h]
theorem cutD_facts {L : Bytes} {P : Int} (hd : ∀ c ∈ L, 48 ≤ c.toNat ∧ c.toNat ≤ 57) : (cutD L P).1.length ≤ 801 ∧ (∀ c ∈ (cutD L P).1, 48 ≤ c.toNat ∧ c.toNat ≤ 57) ∧ (P - 1 ≤ (cutD L P).2 ∧ (cutD L P).2 ≤ P + L.length) := by
 by_cases h : L.length > 800
 · by_cases ha : Lib.trimS (L.drop 800) [48] = []
   · rw [cutD_cut h ha]
     exact ⟨by simp; omega, fun c hc => hd c (List.mem_of_mem_take hc), by simp only []; omega⟩
   · rw [cutD_more h ha]
     refine ⟨by simp; omega, fun c hc => ?_, by simp only []; omega⟩
     rcases List.mem_append.1 hc with q | q
     · exact hd c (List.mem_of_mem_take q)
     · rw [List.mem_singleton.1 q]; decide
 · rw [cutD_no h]
   exact ⟨by simp only []; omega, hd, by simp only []; omega⟩
theorem ofD_lt : ∀ (n : Nat) (L : Bytes), L.length = n → (∀ c ∈ L, 48 ≤ c.toNat ∧ c.toNat ≤ 57) → ofD L < 10 ^ n := by
 intro n
 induction n with
 | zero => intro L h _; rw [List.eq_nil_of_length_eq_zero h]; decide
 | succ n ih =>
   intro L h hd
   have hl : L ≠ [] := by intro q; rw [q] at h; cases h
   have h1 := ih L.dropLast (by rw [List.length_dropLast]; omega) fun c hc => hd c (List.dropLast_subset _ hc)
   have h2 := hd _ (List.getLast_mem hl)
   rw [← List.dropLast_concat_getLast hl, ofD_app, Nat.pow_succ]
   omega
theorem bitsN_ten {x k : Nat} (h : x ≤ 10 ^ k) : bitsN x ≤ 4 * k + 1 := by
 have h1 : (10 : Nat) ^ k ≤ 2 ^ (4 * k) := by rw [Nat.pow_mul]; exact Nat.pow_le_pow_left (by decide) k
 have h2 : bitsN x ≤ bitsN (1 * 2 ^ (4 * k)) := bitsN_mono (by omega)
 have h3 := bitsN_mul_pow 1 (4 * k)
 have h4 : bitsN 1 = 1 := by rw [bitsN_pos (by decide), show 1 / 2 = 0 from rfl, bitsN_zero]
 omega
theorem ofD_tensK {K : Nat} {L : Bytes} {n : Nat} (hd : ∀ c ∈ L, 48 ≤ c.toNat ∧ c.toNat ≤ 57) (hl : L.length ≤ K) : ofD L * 10 ^ n ≤ 10 ^ (K + n) := by
 have h := ofD_lt _ L rfl hd
 rw [Nat.pow_add]
 exact Nat.mul_le_mul_right _ (Nat.le_trans (Nat.le_of_lt h) (Nat.pow_le_pow_right (by decide) hl))
theorem ofD_tens {L : Bytes} {n : Nat} (hd : ∀ c ∈ L, 48 ≤ c.toNat ∧ c.toNat ≤ 57) (hl : L.length ≤ 801) : ofD L * 10 ^ n ≤ 10 ^ (801 + n) := ofD_tensK hd hl
theorem one_tens (n : Nat) : 1 * 10 ^ n ≤ 10 ^ n := by omega
theorem nearD_none {L : Bytes} {p : Int} (h : L = [] ∨ (L.length : Int) + p < -330) : nearD L p = 0 := by unfold nearD; rw [if_pos h]
theorem nearD_inf {L : Bytes} {p : Int} (h : ¬ L = []) (h1 : ¬ (L.length : Int) + p < -330) (h2 : (L.length : Int) + p > 310) : nearD L p = 9218868437227405312 := by unfold nearD; rw [if_neg (by rintro (q | q) <;> contradiction), if_pos h2]
theorem nearD_some {L : Bytes} {p : Int} (h : ¬ L = []) (h1 : ¬ (L.length : Int) + p < -330) (h2 : ¬ (L.length : Int) + p > 310) : nearD L p = roundN (ofD L * 10 ^ p.toNat) (1 * 10 ^ (-p).toNat) := by
 unfold nearD; rw [if_neg (by rintro (q | q) <;> contradiction), if_neg h2, Nat.one_mul]
theorem nearestP_eq {A B L M : Bytes} {p P q : Int} (hL : (A ++ B).dropWhile (· == 48) = L) (hP : p - (B.length : Int) = P) (h1 : (cutD L P).1 = M) (h2 : (cutD L P).2 = q) : nearestP ⟨A, B, p⟩ = nearD M q := by
 unfold nearestP; simp only [hL, hP, h1, h2]
theorem or8 (c : UInt8) : IntKind.wrap .u8 ((BitVec.ofInt 8 (c.toNat : Int) ||| BitVec.ofInt 8 32).toNat) = ((c ||| 32).toNat : Int) := by
 have h : ∀ n : Fin 256, IntKind.wrap .u8 ((BitVec.ofInt 8 (((UInt8.ofNat n).toNat : Nat) : Int) ||| BitVec.ofInt 8 32).toNat) = (((UInt8.ofNat n) ||| 32).toNat : Int) := by decide
 have := h ⟨c.toNat, c.toNat_lt⟩
 simpa using this
theorem nib_lt (c : UInt8) : Lib.indexByte nibs c < 16 := by
 rcases Int.lt_or_le (Lib.indexByte nibs c) 0 with h | h
 · omega
 · obtain ⟨o, ho⟩ := Int.eq_ofNat_of_zero_le h
   have := (List.getElem?_eq_some_iff.1 (Lib.indexByte_some ho).1).1
   have h16 : nibs.length = 16 := rfl
   omega
theorem hexD_none {c : UInt8} (h : c.toNat < 48 ∨ Lib.indexByte nibs (c ||| 32) < 0 ∨ (Lib.indexByte nibs (c ||| 32) < 10 ∧ (c.toNat : Int) ≠ 48 + Lib.indexByte nibs (c ||| 32))) : hexD c = none := by unfold hexD; exact if_pos h
theorem hexD_some {c : UInt8} (h : ¬ (c.toNat < 48 ∨ Lib.indexByte nibs (c ||| 32) < 0 ∨ (Lib.indexByte nibs (c ||| 32) < 10 ∧ (c.toNat : Int) ≠ 48 + Lib.indexByte nibs (c ||| 32)))) : hexD c = some (Lib.indexByte nibs (c ||| 32)).toNat := by unfold hexD; exact if_neg h
theorem drop_at {X : Bytes} {i : Nat} {c : UInt8} (h : X[i]? = some c) : X.drop i = c :: X.drop (i + 1) := by
 obtain ⟨h1, h2⟩ := List.getElem?_eq_some_iff.1 h
 rw [List.drop_eq_getElem_cons h1, h2]
theorem hexGo_none {m : Nat} {x : Int} {b : Bool} {c : UInt8} {r : Bytes} (h : hexD c = none) : hexGo m x b (c :: r) = none := by unfold hexGo; rw [h]
theorem hexGo_in {m d : Nat} {x : Int} {b : Bool} {c : UInt8} {r : Bytes} (h : hexD c = some d) (h2 : m / 1152921504606846976 = 0) : hexGo m x b (c :: r) = hexGo (m * 16 + d) x b r := by
 conv => lhs; unfold hexGo
 rw [h]; exact if_pos h2
theorem hexGo_out {m d : Nat} {x : Int} {b : Bool} {c : UInt8} {r : Bytes} (h : hexD c = some d) (h2 : ¬ m / 1152921504606846976 = 0) : hexGo m x b (c :: r) = hexGo m (x + 4) (b || decide (0 < d)) r := by
 conv => lhs; unfold hexGo
 rw [h]; exact if_neg h2
theorem hexP_none {X : Bytes} (h : hexGo 0 0 false X = none) : hexP X = (0, false) := by unfold hexP; rw [h]
theorem hexP_some {X : Bytes} {m : Nat} {x : Int} {b : Bool} (h : hexGo 0 0 false X = some (m, x, b)) : hexP X = (nearN m x b, decide (X ≠ [])) := by unfold hexP; rw [h]
theorem or_nib {m d : Nat} (hm : m < 1152921504606846976) (hd : d < 16) : IntKind.wrap .u64 ((BitVec.ofInt 64 ((m * 16 : Nat) : Int) ||| BitVec.ofInt 64 (d : Int)).toNat) = ((m * 16 + d : Nat) : Int) := by
 rw [BitVec.or_comm]
 exact or_apart64 (a := m) (b := d) (s := 4) (by omega) (by omega)
theorem shl_nib (m : Nat) (h : m < 1152921504606846976) : IntKind.wrap .u64 ((m : Int) * 2 ^ min (4 : Int).toNat IntKind.u64.bits) = ((m * 16 : Nat) : Int) := by
 rw [show min (4 : Int).toNat IntKind.u64.bits = 4 from rfl, wrap64]; omega
theorem formNear_lt {m : Nat} {e : Int} {h : Bool} (hm : m < 18446744073709551616) (he : -10000 ≤ e) : formNear m e h < 9223372036854775808 := by
 by_cases h1 : e + 63 > 1023
 · rw [formNear_hi h1]; decide
 · by_cases h2 : e + 63 + 1023 < 1
   · by_cases h3 : 12 - (e + 63 + 1023) > 64
     · rw [formNear_lo h2 h3]; decide
     · have h4 := formNear_d (m := m) (h := h) h2 h3 rfl rfl
       have h5 := div_pow_lt (s := (12 - (e + 63 + 1023)).toNat) hm (by omega)
       generalize m / 2 ^ (12 - (e + 63 + 1023)).toNat = M at *
       have h6 : (formNear m e h : Int) ≤ (M : Int) + 1 := by rw [h4]; split <;> omega
       omega
   · have h4 := formNear_n (m := m) (h := h) h1 h2 rfl rfl
     have h5 := div_pow_lt (s := 11) hm (by omega)
     generalize m / 2 ^ 11 = M at *
     generalize m * 2 ^ 53 % 18446744073709551616 = R at *
     have h6 : (formNear m e h : Int) ≤ (e + 63 + 1023 - 1) * 4503599627370496 + ((M : Int) + 1) := by rw [h4]; split <;> omega
     omega
theorem nearN_lt {m : Nat} {e : Int} {h : Bool} (hm : m < 18446744073709551616) : nearN m e h < 9223372036854775808 := by
 have hc := clampE_in e
 have hb := bitsN_le64 hm
 by_cases h0 : m = 0
 · subst h0
   cases h with
   | true => rw [near_z]; exact formNear_lt (by decide) (by omega)
   | false => rw [near_0 rfl]; decide
 · by_cases hs : h = true ∧ 0 < 64 - bitsN m
   · rw [near_half h0 hs.1 hs.2]; exact formNear_lt (shl_half (shl_top hm) hs.2 (by omega)) (by omega)
   · rw [near_up h0 hs]; exact formNear_lt (shl_top hm) (by omega)
theorem divN_lt : ∀ (k p t man : Nat), man < 18446744073709551616 → (divN k p t man).2 < 18446744073709551616
 | 0, p, t, man, h => h
 | k + 1, p, t, man, h => by
   by_cases hc : t ≤ p
   · rw [divN_step1 hc]; exact divN_lt k _ _ _ (by omega)
   · rw [divN_step0 hc]; exact divN_lt k _ _ _ (by omega)
theorem roundN_lt (p q : Nat) : roundN p q < 9223372036854775808 := nearN_lt (divN_lt 64 _ _ 0 (by decide))
theorem nearestP_lt (n : DecP) : nearestP n < 9223372036854775808 := by
 unfold nearestP nearD
 simp only []
 split
 · decide
 · split
   · decide
   · exact roundN_lt _ _
theorem or_way {w x : Nat} (hw : w = 0 ∨ w = 9223372036854775808) (hx : x < 9223372036854775808) : IntKind.wrap .u64 ((BitVec.ofInt 64 (w : Int) ||| BitVec.ofInt 64 (x : Int)).toNat) = ((w + x : Nat) : Int) := by
 rw [BitVec.or_comm]
 rcases hw with rfl | rfl
 · have := or_apart64 (a := 0) (b := x) (s := 63) (by omega) (by omega)
   simpa using this
 · exact or_apart64 (a := 1) (b := x) (s := 63) (by omega) (by omega)
theorem decP_facts (X : Bytes) : (∀ c ∈ (decP X).1.ahead ++ (decP X).1.behind, 48 ≤ c.toNat ∧ c.toNat ≤ 57) ∧ (decP X).1.ahead.length + (decP X).1.behind.length ≤ X.length ∧ (-1099511627776 ≤ (decP X).1.power ∧ (decP X).1.power ≤ 1099511627776) := by
 have e1 : (decP X).1.ahead = X.takeWhile isDig := by
   unfold decP
   simp only []
   repeat' split
   all_goals rfl
 have e2 : (decP X).1.behind = (fracP (X.dropWhile isDig)).1 := by
   unfold decP
   simp only []
   repeat' split
   all_goals rfl
 have e3 : (decP X).1.power = 0 ∨ ∃ r, (decP X).1.power = powN 0 ((wayP r).2.takeWhile isDig) * (wayP r).1 := by
   unfold decP
   simp only []
   repeat' split
   all_goals first | exact .inl rfl | exact .inr ⟨_, rfl⟩
 refine ⟨fun c hc => ?_, ?_, ?_⟩
 · rw [e1, e2] at hc
   rcases List.mem_append.1 hc with q | q
   · exact takeWhile_dig q
   · unfold fracP at q
     split at q
     · exact takeWhile_dig q
     · cases q
 · rw [e1, e2]
   have h : (X.takeWhile isDig).length + (X.dropWhile isDig).length = X.length := by rw [← List.length_append, List.takeWhile_append_dropWhile]
   have := (fracP_len (X.dropWhile isDig)).1
   omega
 · rcases e3 with q | ⟨r, q⟩
   · rw [q]; omega
   · rw [q]; exact way_mul (powN_in _ 0 (by omega) fun c hc => takeWhile_dig hc) (wayP_in r)
theorem has_dot (l : Bytes) (c : UInt8) : decide (0 ≤ Lib.indexByte l c) = decide (c ∈ l) := by
 rw [← Lib.contains_iff_indexByte]
 simp
def litBad (s : Bytes) : Prop := (decP s).2 = false ∨ (decP s).1.ahead = [] ∨ (46 ∈ s ∧ (decP s).1.behind = []) ∨ ((decP s).1.ahead.length > 1 ∧ (decP s).1.ahead.head? = some 48)
theorem litP_hex {s : Bytes} (h : Lib.hasPrefix s [48, 120] = true) : litP s = hexP (s.drop 2) := by unfold litP; exact if_pos h
theorem litP_bad {s : Bytes} (h : Lib.hasPrefix s [48, 120] = false) (hb : litBad s) : litP s = (0, false) := by
 unfold litP; rw [if_neg (by rw [h]; decide)]; exact if_pos hb
theorem litP_good {s : Bytes} (h : Lib.hasPrefix s [48, 120] = false) (hb : ¬ litBad s) : litP s = (nearestP (decP s).1, true) := by
 unfold litP; rw [if_neg (by rw [h]; decide)]; exact if_neg hb
theorem head_at {l : Bytes} {c : UInt8} (h : l[0]? = some c) : l.head? = some c := by cases l <;> simp at h ⊢; exact h
theorem head_c {l : Bytes} {c : UInt8} (h : l[0]? = some c) (hc : (c.toNat : Int) = 48) : l.head? = some 48 := by
 rw [head_at h, (u8_eq (n := 48) (by decide)).1 hc]; rfl
theorem head_n {l : Bytes} {c : UInt8} (h : l[0]? = some c) (hc : l.head? = some 48) : (c.toNat : Int) = 48 := by
 rw [head_at h] at hc
 rw [Option.some.inj hc]; rfl
theorem pre_len {s p : Bytes} (h : Lib.hasPrefix s p = true) : p.length ≤ s.length := (List.isPrefixOf_iff_prefix.1 h).length_le
theorem trimS_len (X cs : Bytes) : (Lib.trimS X cs).length ≤ X.length := by
 unfold Lib.trimS Lib.trimLeftS Lib.trimRightS
 refine Nat.le_trans (dropWhile_len _ _) ?_
 rw [List.length_reverse]
 refine Nat.le_trans (dropWhile_len _ _) ?_
 rw [List.length_reverse]
 exact Nat.le_refl _
theorem wayR_plus {s : Bytes} {c : UInt8} (h : s[0]? = some c) (hc : c = 43) : wayR s = (0, s.drop 1) := by rw [cons_of_at h]; exact if_pos hc
theorem wayR_minus {s : Bytes} {c : UInt8} (h : s[0]? = some c) (hc : c = 45) : wayR s = (9223372036854775808, s.drop 1) := by rw [cons_of_at h]; subst hc; rfl
theorem wayR_no {s : Bytes} {c : UInt8} (h : s[0]? = some c) (h1 : c ≠ 43) (h2 : c ≠ 45) : wayR s = (0, s) := by
 conv => lhs; rw [cons_of_at h]
 rw [show wayR (c :: s.drop 1) = if c = 43 then (0, s.drop 1) else if c = 45 then (9223372036854775808, s.drop 1) else (0, c :: s.drop 1) from rfl, if_neg h1, if_neg h2, ← cons_of_at h]
theorem wayR_facts (s : Bytes) : ((wayR s).1 = 0 ∨ (wayR s).1 = 9223372036854775808) ∧ (wayR s).2.length ≤ s.length := by
 cases s with
 | nil => exact ⟨.inl rfl, Nat.le_refl _⟩
 | cons c r =>
   by_cases h1 : c = 43
   · rw [wayR_plus (c := c) rfl h1]; exact ⟨.inl rfl, by simp⟩
   · by_cases h2 : c = 45
     · rw [wayR_minus (c := c) rfl h2]; exact ⟨.inr rfl, by simp⟩
     · rw [wayR_no (c := c) rfl h1 h2]; exact ⟨.inl rfl, Nat.le_refl _⟩
section
variable {X T : Bytes} (hT : Lib.trimS X [9, 10, 32] = T)
include hT
theorem readP_nil (h : T = []) : readP X = 0 := by unfold readP; simp only [hT]; exact if_pos h
theorem readP_hex (h : ¬ T = []) (h1 : Lib.hasPrefix T [48, 120] = true ∨ Lib.hasPrefix T [48, 88] = true) : readP X = if (hexP (T.drop 2)).2 = true then (hexP (T.drop 2)).1 else 9221120237041090560 := by unfold readP; simp only [hT]; rw [if_neg h, if_pos h1]
theorem readP_inf (h : ¬ T = []) (h1 : ¬ (Lib.hasPrefix T [48, 120] = true ∨ Lib.hasPrefix T [48, 88] = true)) (h2 : (wayR T).2 = [73, 110, 102, 105, 110, 105, 116, 121]) : readP X = (wayR T).1 + 9218868437227405312 := by
 unfold readP; simp only [hT]; rw [if_neg h, if_neg h1, if_pos h2]
theorem readP_dec (h : ¬ T = []) (h1 : ¬ (Lib.hasPrefix T [48, 120] = true ∨ Lib.hasPrefix T [48, 88] = true)) (h2 : ¬ (wayR T).2 = [73, 110, 102, 105, 110, 105, 116, 121]) : readP X = if (decP (wayR T).2).2 = true then (wayR T).1 + nearestP (decP (wayR T).2).1 else 9221120237041090560 := by
 unfold readP; simp only [hT]; rw [if_neg h, if_neg h1, if_neg h2]
end
end Go.Proofs.YtnhmmjogfkjceaaGreatDoor
namespace Go.Proofs.YtnhmmjogfkjceaaGreatDoor
open Go.Sl
def valF (a : Nat) : Nat := if a < 4503599627370496 then a else (a % 4503599627370496 + 4503599627370496) * 2 ^ (a / 4503599627370496 - 1)
theorem valF_mk {K g : Nat} (hg : g ≤ 9007199254740992) (hK : K = 0 ∨ 4503599627370496 ≤ g) : valF (K * 4503599627370496 + g) = g * 2 ^ K := by
 unfold valF
 by_cases h0 : g < 4503599627370496
 · have hk : K = 0 := by omega
   subst hk
   rw [if_pos (by omega)]; simp
 · by_cases h1 : g = 9007199254740992
   · subst h1
     rw [if_neg (by omega), show (K * 4503599627370496 + 9007199254740992) % 4503599627370496 = 0 by omega, show (K * 4503599627370496 + 9007199254740992) / 4503599627370496 - 1 = K + 1 by omega, Nat.pow_succ]
     omega
   · rw [if_neg (by omega), show (K * 4503599627370496 + g) % 4503599627370496 + 4503599627370496 = g by omega, show (K * 4503599627370496 + g) / 4503599627370496 - 1 = K by omega]
theorem valF_parts (a : Nat) : ∃ K g, a = K * 4503599627370496 + g ∧ g < 9007199254740992 ∧ (K = 0 ∨ 4503599627370496 ≤ g) := by
 by_cases h : a < 4503599627370496
 · exact ⟨0, a, by omega, by omega, .inl rfl⟩
 · exact ⟨a / 4503599627370496 - 1, a % 4503599627370496 + 4503599627370496, by omega, by omega, .inr (by omega)⟩
theorem valF_lt (a : Nat) : valF a < valF (a + 1) := by
 obtain ⟨K, g, rfl, h1, h2⟩ := valF_parts a
 rw [Nat.add_assoc, valF_mk (by omega) h2, valF_mk (K := K) (g := g + 1) (by omega) (by omega)]
 exact Nat.mul_lt_mul_of_pos_right (by omega) (Nat.two_pow_pos K)
theorem valF_mono {a b : Nat} (h : a ≤ b) : valF a ≤ valF b := by
 induction h with
 | refl => exact Nat.le_refl _
 | step _ ih => exact Nat.le_trans ih (Nat.le_of_lt (valF_lt _))
theorem valF_mono_lt {a b : Nat} (h : a < b) : valF a < valF b := Nat.lt_of_lt_of_le (valF_lt a) (valF_mono h)
theorem valF_one : valF 1 = 1 := rfl
theorem valF_zero : valF 0 = 0 := rfl
theorem valF_inf : ∃ k, k = 2098 ∧ valF 9218868437227405312 = 2 ^ k := by
 obtain ⟨K, hK⟩ : ∃ K : Nat, K = 2046 := ⟨_, rfl⟩
 have := valF_mk (K := K) (g := 4503599627370496) (by omega) (by omega)
 rw [show K * 4503599627370496 + 4503599627370496 = 9218868437227405312 by omega] at this
 refine ⟨52 + K, by omega, ?_⟩
 rw [this, show 4503599627370496 = 2 ^ 52 from rfl, ← Nat.pow_add]
def isRN (X q a : Nat) : Prop := a ≤ 9218868437227405312 ∧
 (a = 0 ∨ q * (valF (a - 1) + valF a) < 2 * X ∨ (q * (valF (a - 1) + valF a) = 2 * X ∧ a % 2 = 0)) ∧
 (a = 9218868437227405312 ∨ 2 * X < q * (valF a + valF (a + 1)) ∨ (2 * X = q * (valF a + valF (a + 1)) ∧ a % 2 = 0))
theorem isRN_uniq_lt {X q a b : Nat} (hq : 0 < q) (ha : isRN X q a) (hb : isRN X q b) (h : a < b) : False := by
 obtain ⟨a1, -, a2⟩ := ha
 obtain ⟨b1, b2, -⟩ := hb
 have h1 : valF a ≤ valF (b - 1) := valF_mono (by omega)
 have h2 : valF (a + 1) ≤ valF b := valF_mono (by omega)
 have h3 := Nat.mul_le_mul_left q (Nat.add_le_add h1 h2)
 by_cases hc : b = a + 1
 · subst hc
   rw [Nat.add_sub_cancel] at b2
   omega
 · have h4 : valF a < valF (b - 1) := valF_mono_lt (by omega)
   have h5 := Nat.mul_lt_mul_of_pos_left (Nat.add_lt_add_of_lt_of_le h4 h2) hq
   omega
theorem isRN_uniq {X q a b : Nat} (hq : 0 < q) (ha : isRN X q a) (hb : isRN X q b) : a = b := by
 rcases Nat.lt_trichotomy a b with h | h | h
 · exact (isRN_uniq_lt hq ha hb h).elim
 · exact h
 · exact (isRN_uniq_lt hq hb ha h).elim
theorem cross_lt {X q X' q' v : Nat} (hq : 0 < q) (hq' : 0 < q') (h : X * q' = X' * q) (hv : q * v < 2 * X) : q' * v < 2 * X' := by
 have h1 := Nat.mul_lt_mul_of_pos_right hv hq'
 rw [Nat.mul_assoc 2, h] at h1
 apply Nat.lt_of_mul_lt_mul_left (a := q)
 rw [show q * (q' * v) = q * v * q' by rw [Nat.mul_comm q' v, Nat.mul_assoc], show q * (2 * X') = 2 * (X' * q) by rw [Nat.mul_left_comm, Nat.mul_comm q X']]
 exact h1
theorem cross_gt {X q X' q' v : Nat} (hq : 0 < q) (hq' : 0 < q') (h : X * q' = X' * q) (hv : 2 * X < q * v) : 2 * X' < q' * v := by
 have h1 := Nat.mul_lt_mul_of_pos_right hv hq'
 rw [Nat.mul_assoc 2, h] at h1
 apply Nat.lt_of_mul_lt_mul_left (a := q)
 rw [show q * (q' * v) = q * v * q' by rw [Nat.mul_comm q' v, Nat.mul_assoc], show q * (2 * X') = 2 * (X' * q) by rw [Nat.mul_left_comm, Nat.mul_comm q X']]
 exact h1
theorem cross_eq {X q X' q' v : Nat} (hq : 0 < q) (hq' : 0 < q') (h : X * q' = X' * q) (hv : q * v = 2 * X) : q' * v = 2 * X' := by
 rcases Nat.lt_trichotomy (q' * v) (2 * X') with g | g | g
 · have := cross_lt hq' hq h.symm g; omega
 · exact g
 · have := cross_gt hq' hq h.symm g; omega
theorem isRN_scale {X q X' q' a : Nat} (hq : 0 < q) (hq' : 0 < q') (h : X * q' = X' * q) (ha : isRN X q a) : isRN X' q' a := by
 obtain ⟨a1, a2, a3⟩ := ha
 refine ⟨a1, ?_, ?_⟩
 · rcases a2 with g | g | ⟨g, e⟩
   · exact .inl g
   · exact .inr (.inl (cross_lt hq hq' h g))
   · exact .inr (.inr ⟨cross_eq hq hq' h g, e⟩)
 · rcases a3 with g | g | ⟨g, e⟩
   · exact .inl g
   · exact .inr (.inl (cross_gt hq hq' h g))
   · exact .inr (.inr ⟨(cross_eq hq hq' h g.symm).symm, e⟩)
theorem isRN_between {X q a : Nat} (hq : 0 < q) (ha : a < 9218868437227405312) (h1 : q * valF a ≤ X) (h2 : X < q * valF (a + 1)) :
   isRN X q (if q * (valF a + valF (a + 1)) < 2 * X ∨ (q * (valF a + valF (a + 1)) = 2 * X ∧ a % 2 = 1) then a + 1 else a) := by
 have e : q * (valF a + valF (a + 1)) = q * valF a + q * valF (a + 1) := Nat.mul_add ..
 split
 · next g =>
   refine ⟨by omega, .inr ?_, ?_⟩
   · rw [Nat.add_sub_cancel]
     rcases g with g | ⟨g, o⟩
     · exact .inl g
     · exact .inr ⟨g, by omega⟩
   · by_cases hi : a + 1 = 9218868437227405312
     · exact .inl hi
     · have h3 : q * valF (a + 1) < q * valF (a + 1 + 1) := Nat.mul_lt_mul_of_pos_left (valF_lt _) hq
       refine .inr (.inl ?_)
       rw [Nat.mul_add]; omega
 · next g =>
   refine ⟨by omega, ?_, .inr ?_⟩
   · by_cases h0 : a = 0
     · exact .inl h0
     · have h3 : q * valF (a - 1) < q * valF a := Nat.mul_lt_mul_of_pos_left (valF_mono_lt (by omega)) hq
       refine .inr (.inl ?_)
       rw [Nat.mul_add]; omega
   · have g1 : ¬ q * (valF a + valF (a + 1)) < 2 * X := fun h => g (.inl h)
     have g2 : ¬ (q * (valF a + valF (a + 1)) = 2 * X ∧ a % 2 = 1) := fun h => g (.inr h)
     by_cases e2 : 2 * X = q * (valF a + valF (a + 1))
     · exact .inr ⟨e2, by omega⟩
     · exact .inl (by omega)
theorem isRN_inf {X q : Nat} (hq : 0 < q) (h : q * valF 9218868437227405312 ≤ X) : isRN X q 9218868437227405312 := by
 refine ⟨Nat.le_refl _, .inr (.inl ?_), .inl rfl⟩
 have h3 : q * valF (9218868437227405312 - 1) < q * valF 9218868437227405312 := Nat.mul_lt_mul_of_pos_left (valF_mono_lt (by decide)) hq
 rw [Nat.mul_add]; omega
theorem isRN_none {X q : Nat} (h : 2 * X < q) : isRN X q 0 := by
 refine ⟨by decide, .inl rfl, .inr (.inl ?_)⟩
 rw [valF_zero, valF_one]; omega
theorem pow_cmp {A B x y x' y' : Nat} (h : x + y' = x' + y) : A * 2 ^ x < B * 2 ^ y ↔ A * 2 ^ x' < B * 2 ^ y' := by
 have p1 := Nat.two_pow_pos y'
 have p2 := Nat.two_pow_pos y
 rw [← Nat.mul_lt_mul_right (a0 := p1), ← Nat.mul_lt_mul_right (a0 := p2) (b := A * 2 ^ x')]
 rw [Nat.mul_assoc A, ← Nat.pow_add, h, Nat.mul_assoc A, ← Nat.pow_add, Nat.mul_assoc B, ← Nat.pow_add, Nat.mul_assoc B, ← Nat.pow_add, Nat.add_comm y y']
theorem pow_cmp_eq {A B x y x' y' : Nat} (h : x + y' = x' + y) : A * 2 ^ x = B * 2 ^ y ↔ A * 2 ^ x' = B * 2 ^ y' := by
 have h1 := pow_cmp (A := A) (B := B) h
 have h2 := pow_cmp (A := B) (B := A) (x := y) (y := x) (x' := y') (y' := x') (by omega)
 omega
def Stands (X q : Nat) (m : Nat) (E : Int) (half : Bool) : Prop := ∀ f : Nat,
 (X * 2 ^ (-E).toNat < (2 * f * q) * 2 ^ E.toNat ↔ m < 2 * f) ∧ (X * 2 ^ (-E).toNat = (2 * f * q) * 2 ^ E.toNat ↔ m = 2 * f ∧ half = false)
theorem Stands.at {X q m : Nat} {E : Int} {half : Bool} (h : Stands X q m E half) {g s K j : Nat} (hs : 0 < s) (hE : E = (K : Int) - s - j) :
   (X * 2 ^ j < g * q * 2 ^ K ↔ m < g * 2 ^ s) ∧ (X * 2 ^ j = g * q * 2 ^ K ↔ m = g * 2 ^ s ∧ half = false) := by
 obtain ⟨t, rfl⟩ : ∃ t, s = t + 1 := ⟨s - 1, by omega⟩
 have h1 := h (g * 2 ^ t)
 have e : 2 * (g * 2 ^ t) = g * 2 ^ (t + 1) := by rw [Nat.pow_succ, Nat.mul_comm 2, Nat.mul_assoc]
 rw [e] at h1
 have e2 : g * 2 ^ (t + 1) * q * 2 ^ E.toNat = g * q * 2 ^ (t + 1 + E.toNat) := by rw [Nat.mul_right_comm g (2 ^ (t + 1)) q, Nat.mul_assoc (g * q), ← Nat.pow_add]
 rw [e2, pow_cmp (x := (-E).toNat) (y := t + 1 + E.toNat) (x' := j) (y' := K) (by omega), pow_cmp_eq (x := (-E).toNat) (y := t + 1 + E.toNat) (x' := j) (y' := K) (by omega)] at h1
 exact h1
theorem rest_cmp {r k : Nat} (hk : k ≤ 64) (hk0 : 0 < k) (hr : r < 2 ^ k) : (r * 2 ^ (64 - k) > 9223372036854775808 ↔ r > 2 ^ (k - 1)) ∧ (r * 2 ^ (64 - k) = 9223372036854775808 ↔ r = 2 ^ (k - 1)) := by
 have e : (9223372036854775808 : Nat) = 2 ^ (k - 1) * 2 ^ (64 - k) := by rw [← Nat.pow_add, show k - 1 + (64 - k) = 63 by omega]
 have p := Nat.two_pow_pos (64 - k)
 rw [e]
 constructor
 · exact Nat.mul_lt_mul_right p
 · constructor
   · exact Nat.eq_of_mul_eq_mul_right p
   · intro h; rw [h]
theorem rest_mod {m k : Nat} (hk : k ≤ 64) : m * 2 ^ (64 - k) % 18446744073709551616 = m % 2 ^ k * 2 ^ (64 - k) := by
 rw [show (18446744073709551616 : Nat) = 2 ^ k * 2 ^ (64 - k) by rw [← Nat.pow_add, show k + (64 - k) = 64 by omega], Nat.mul_mod_mul_right]
theorem form_spec {X q m : Nat} {e : Int} {half : Bool} (hq : 0 < q) (hm : 9223372036854775808 ≤ m) (hm2 : m < 18446744073709551616) (h : Stands X q m (e + 1074) half) : isRN X q (formNear m e half) := by
 unfold formNear
 by_cases h1 : e + 63 > 1023
 · rw [if_pos h1]
   apply isRN_inf hq
   obtain ⟨k, hk, hv⟩ := valF_inf
   rw [hv]
   have h2 := h 4611686018427387904
   have h3 : ¬ X * 2 ^ (-(e + 1074)).toNat < 2 * 4611686018427387904 * q * 2 ^ (e + 1074).toNat := by rw [h2.1]; omega
   rw [show (-(e + 1074)).toNat = 0 by omega, Nat.pow_zero, Nat.mul_one] at h3
   refine Nat.le_trans ?_ (Nat.le_of_not_lt h3)
   rw [show 2 * 4611686018427387904 = 2 ^ 63 from rfl, Nat.mul_comm (2 ^ 63) q, Nat.mul_assoc, ← Nat.pow_add]
   exact Nat.mul_le_mul_left _ (Nat.pow_le_pow_right (by decide) (by omega))
 · rw [if_neg h1]
   simp only []
   obtain ⟨s, K, hs, hs0, hK, hE, hKm⟩ : ∃ s K : Nat, (if e + 63 + 1023 < 1 then 12 - (e + 63 + 1023) else 11) = (s : Int) ∧ 11 ≤ s ∧ ((if e + 63 + 1023 < 1 then 1 else e + 63 + 1023) - 1).toNat = K ∧ e + 1074 = (K : Int) - s ∧ (K ≤ 2045 ∧ (K = 0 ∨ s = 11) ) := by
     by_cases h2 : e + 63 + 1023 < 1
     · exact ⟨(12 - (e + 63 + 1023)).toNat, 0, by rw [if_pos h2]; omega, by omega, by rw [if_pos h2]; rfl, by omega, by omega, .inl rfl⟩
     · exact ⟨11, (e + 63 + 1023 - 1).toNat, by rw [if_neg h2]; rfl, by omega, by rw [if_neg h2], by omega, by omega, .inr rfl⟩
   rw [hs, hK]
   by_cases h3 : (s : Int) > 64
   · rw [if_pos h3]
     apply isRN_none
     have hK0 : K = 0 := by omega
     subst hK0
     have h4 := (h.at (g := 1) (s := s - 1) (K := 0) (j := 1) (by omega) (by omega)).1
     have h5 : (2 : Nat) ^ 64 ≤ 2 ^ (s - 1) := Nat.pow_le_pow_right (by decide) (by omega)
     have h6 := h4.2 (by rw [Nat.one_mul]; exact Nat.lt_of_lt_of_le hm2 h5)
     simp only [Nat.one_mul, Nat.pow_zero, Nat.mul_one, Nat.pow_one] at h6
     omega
   · rw [if_neg h3, Int.toNat_natCast]
     have hs64 : s ≤ 64 := by omega
     obtain ⟨M, hM⟩ : ∃ M, m / 2 ^ s = M := ⟨_, rfl⟩
     obtain ⟨r, hr⟩ : ∃ r, m % 2 ^ s = r := ⟨_, rfl⟩
     have p := Nat.two_pow_pos s
     have hmr : M * 2 ^ s + r = m := by rw [← hM, ← hr, Nat.mul_comm]; exact Nat.div_add_mod m (2 ^ s)
     have hrl : r < 2 ^ s := by rw [← hr]; exact Nat.mod_lt _ p
     have hM53 : M < 9007199254740992 := by rw [← hM]; exact div_pow_lt hm2 hs0
     have hMK : K = 0 ∨ 4503599627370496 ≤ M := by
       rcases hKm.2 with q0 | q0
       · exact .inl q0
       · right; rw [← hM, q0]; omega
     rw [rest_mod hs64, hr, hM]
     have hc := rest_cmp hs64 (by omega) hrl
     have e0 : valF (K * 4503599627370496 + M) = M * 2 ^ K := valF_mk (by omega) hMK
     have e1 : valF (K * 4503599627370496 + M + 1) = (M + 1) * 2 ^ K := by rw [Nat.add_assoc]; exact valF_mk (by omega) (by omega)
     have c0 := (h.at (g := M) (s := s) (K := K) (j := 0) (by omega) (by omega)).1
     have c1 := (h.at (g := M + 1) (s := s) (K := K) (j := 0) (by omega) (by omega)).1
     have c2 := h.at (g := 2 * M + 1) (s := s - 1) (K := K) (j := 1) (by omega) (by omega)
     rw [Nat.pow_zero, Nat.mul_one] at c0 c1
     have d1 : (M + 1) * 2 ^ s = M * 2 ^ s + 2 ^ s := Nat.succ_mul ..
     have d2 : (2 * M + 1) * 2 ^ (s - 1) = M * 2 ^ s + 2 ^ (s - 1) := by
       rw [Nat.succ_mul, show s = (s - 1) + 1 by omega, Nat.pow_succ, Nat.add_sub_cancel, Nat.mul_comm 2 M, Nat.mul_assoc, Nat.mul_comm 2]
     rw [d2] at c2
     rw [d1] at c1
     have b := isRN_between (X := X) hq (a := K * 4503599627370496 + M) (by omega)
       (by rw [e0, show q * (M * 2 ^ K) = M * q * 2 ^ K by rw [← Nat.mul_assoc, Nat.mul_comm q]]; exact Nat.le_of_not_lt fun z => absurd (c0.1 z) (by omega))
       (by rw [e1, show q * ((M + 1) * 2 ^ K) = (M + 1) * q * 2 ^ K by rw [← Nat.mul_assoc, Nat.mul_comm q]]; exact c1.2 (by omega))
     rw [e0, e1, show q * (M * 2 ^ K + (M + 1) * 2 ^ K) = (2 * M + 1) * q * 2 ^ K by rw [← Nat.add_mul, ← Nat.mul_assoc, Nat.mul_comm q, show M + (M + 1) = 2 * M + 1 by omega]] at b
     rw [Nat.pow_one, Nat.mul_comm X 2] at c2
     have pe : (K * 4503599627370496 + M) % 2 = M % 2 := by omega
     rw [pe] at b
     have hiff : (r * 2 ^ (64 - s) > 9223372036854775808 ∨ r * 2 ^ (64 - s) = 9223372036854775808 ∧ (half = true ∨ M % 2 = 1)) ↔ ((2 * M + 1) * q * 2 ^ K < 2 * X ∨ (2 * M + 1) * q * 2 ^ K = 2 * X ∧ M % 2 = 1) := by
       rw [hc.1, hc.2]
       have lt := c2.1
       have eq := c2.2
       generalize (2 * M + 1) * q * 2 ^ K = Z at *
       generalize 2 ^ (s - 1) = H at *
       generalize M * 2 ^ s = B at *
       cases half
       · simp only [Bool.false_eq_true, and_true, false_or] at eq ⊢
         omega
       · simp only [Bool.true_eq_false, and_false, iff_false, true_or, and_true] at eq ⊢
         omega
     by_cases hu : r * 2 ^ (64 - s) > 9223372036854775808 ∨ r * 2 ^ (64 - s) = 9223372036854775808 ∧ (half = true ∨ M % 2 = 1)
     · rw [if_pos hu]
       rw [if_pos (hiff.1 hu)] at b
       rw [← Nat.add_assoc]
       exact b
     · rw [if_neg hu]
       rw [if_neg fun z => hu (hiff.2 z)] at b
       exact b
theorem div_spec {Q : Nat} (hQ : 0 < Q) : ∀ (k p man : Nat), p < Q * 2 ^ k → man * 2 ^ k + (2 ^ k - 1) < 18446744073709551616 → ∀ t, (0 < k → t = Q * 2 ^ (k - 1)) → divN k p t man = (p % Q, man * 2 ^ k + p / Q)
 | 0, p, man, hp, hm, t, ht => by
   rw [Nat.pow_zero, Nat.mul_one] at hp
   rw [divN, Nat.mod_eq_of_lt hp, Nat.div_eq_of_lt hp, Nat.pow_zero, Nat.mul_one, Nat.add_zero]
 | k + 1, p, man, hp, hm, t, ht => by
   have ht' := ht (by omega)
   rw [Nat.add_sub_cancel] at ht'
   have hp2 : Q * 2 ^ (k + 1) = Q * 2 ^ k + Q * 2 ^ k := by rw [Nat.pow_succ, Nat.mul_two, Nat.mul_add]
   have hm2 : man * 2 ^ (k + 1) = 2 * (man * 2 ^ k) := by rw [Nat.pow_succ, ← Nat.mul_assoc, Nat.mul_comm]
   have hm3 : man ≤ man * 2 ^ k := Nat.le_mul_of_pos_right _ (Nat.two_pow_pos k)
   have hp3 : 2 ^ (k + 1) = 2 ^ k + 2 ^ k := by rw [Nat.pow_succ]; omega
   have hp4 := Nat.two_pow_pos k
   have hmm : man * 2 % 18446744073709551616 = man * 2 := Nat.mod_eq_of_lt (by omega)
   have hnext : 0 < k → t / 2 = Q * 2 ^ (k - 1) := fun h => by
     rw [ht', show k = (k - 1) + 1 by omega, Nat.pow_succ, ← Nat.mul_assoc, Nat.mul_div_cancel _ (by decide), Nat.add_sub_cancel]
   by_cases h : t ≤ p
   · rw [divN_step1 h, hmm, div_spec hQ k _ _ (by omega) (by rw [Nat.succ_mul, Nat.mul_right_comm]; omega) _ hnext]
     have e : p = (p - t) + Q * 2 ^ k := by omega
     refine Prod.ext ?_ ?_
     · show (p - t) % Q = p % Q
       conv => rhs; rw [e, Nat.add_mul_mod_self_left]
     · show (man * 2 + 1) * 2 ^ k + (p - t) / Q = man * 2 ^ (k + 1) + p / Q
       conv => rhs; rw [e, Nat.add_mul_div_left _ _ hQ]
       rw [Nat.succ_mul, Nat.mul_right_comm]; omega
   · rw [divN_step0 h, hmm, div_spec hQ k _ _ (by omega) (by rw [Nat.mul_right_comm]; omega) _ hnext]
     rw [Nat.mul_right_comm]
     refine Prod.ext rfl ?_
     show man * 2 ^ k * 2 + p / Q = man * 2 ^ (k + 1) + p / Q
     omega
def StandsA (X q : Nat) (m : Nat) (E : Int) (half : Bool) : Prop := ∀ f : Nat,
 (X * 2 ^ (-E).toNat < (f * q) * 2 ^ E.toNat ↔ m < f) ∧ (X * 2 ^ (-E).toNat = (f * q) * 2 ^ E.toNat ↔ m = f ∧ half = false)
theorem near_spec {X q man : Nat} {e : Int} {half : Bool} (hq : 0 < q) (hm : 4611686018427387904 ≤ man) (hm2 : man < 18446744073709551616) (he : -5000 ≤ e ∧ e ≤ 5000) (h : StandsA X q man (e + 1074) half) : isRN X q (nearN man e half) := by
 unfold nearN
 simp only []
 rw [if_neg (by omega), if_neg (by omega), show min (max e (-5000)) 5000 = e by omega]
 have hb : bitsN man = 63 ∨ bitsN man = 64 := by
   by_cases h63 : man < 9223372036854775808
   · exact .inl (bitsN_iff (k := 62) (by omega) (by omega))
   · exact .inr (bitsN_iff (k := 63) (by omega) (by omega))
 rcases hb with hb | hb
 · have hlt : man < 9223372036854775808 := by have := bitsN_lt man; rw [hb] at this; exact this
   rw [hb]
   have hE : ∀ f : Nat, (X * 2 ^ (-(e - 1 + 1074)).toNat < (2 * f * q) * 2 ^ (e - 1 + 1074).toNat ↔ man < f) ∧ (X * 2 ^ (-(e - 1 + 1074)).toNat = (2 * f * q) * 2 ^ (e - 1 + 1074).toNat ↔ man = f ∧ half = false) := by
     intro f
     rw [show 2 * f * q * 2 ^ (e - 1 + 1074).toNat = f * q * 2 ^ (1 + (e - 1 + 1074).toNat) by rw [Nat.pow_add, Nat.pow_one, ← Nat.mul_assoc, Nat.mul_comm (f * q) 2, Nat.mul_assoc 2]]
     have h1 := h f
     exact ⟨Iff.trans (pow_cmp (by omega)) h1.1, Iff.trans (pow_cmp_eq (by omega)) h1.2⟩
   cases half
   · rw [if_neg (by simp)]
     refine form_spec hq (by omega) (by omega) fun f => ?_
     rw [show e - ((64 - 63 : Nat) : Int) + 1074 = e - 1 + 1074 by omega, (hE f).1, (hE f).2]
     simp only [and_true]
     omega
   · rw [if_pos (by simp)]
     refine form_spec hq (by omega) (by omega) fun f => ?_
     rw [show e - ((64 - 63 : Nat) : Int) + 1074 = e - 1 + 1074 by omega, (hE f).1, (hE f).2]
     simp only [and_true, Bool.true_eq_false, and_false, false_iff]
     omega
 · have hge : 9223372036854775808 ≤ man := by have := bitsN_ge man (by omega); rw [hb] at this; exact this
   rw [hb, if_neg (by simp)]
   rw [show man * 2 ^ (64 - 64) = man by simp, show e - ((64 - 64 : Nat) : Int) = e by omega]
   exact form_spec hq hge hm2 fun f => h (2 * f)
theorem round_spec {p q S : Nat} (hp : 0 < p) (hq : 0 < q) (hS : S = 1074) (hb : bitsN p ≤ 4900) (hb2 : bitsN q ≤ 4900) : isRN (p * 2 ^ S) q (roundN p q) := by
 unfold roundN
 simp only []
 obtain ⟨up, hup⟩ : ∃ up : Int, up = 63 - bitsN p + bitsN q := ⟨_, rfl⟩
 rw [← hup]
 obtain ⟨P, hP⟩ : ∃ P, P = p * 2 ^ up.toNat := ⟨_, rfl⟩
 obtain ⟨Q, hQ⟩ : ∃ Q, Q = q * 2 ^ (-up).toNat := ⟨_, rfl⟩
 rw [← hP, ← hQ]
 have hQ0 : 0 < Q := by rw [hQ]; exact Nat.mul_pos hq (Nat.two_pow_pos _)
 have bp0 : 0 < bitsN p := by rw [bitsN_pos (by omega)]; omega
 have bq0 : 0 < bitsN q := by rw [bitsN_pos (by omega)]; omega
 have p1 := bitsN_ge p (by omega)
 have p2 := bitsN_lt p
 have q1 := bitsN_ge q (by omega)
 have q2 := bitsN_lt q
 have e1 : (bitsN p - 1) + up.toNat = 62 + (bitsN q + (-up).toNat) := by omega
 have lo : Q * 2 ^ 62 ≤ P := by
   have a1 : Q ≤ 2 ^ (bitsN q + (-up).toNat) := by rw [hQ, Nat.pow_add]; exact Nat.mul_le_mul_right _ (Nat.le_of_lt q2)
   have a2 : 2 ^ (bitsN p - 1 + up.toNat) ≤ P := by rw [hP, Nat.pow_add]; exact Nat.mul_le_mul_right _ p1
   rw [e1, Nat.pow_add, Nat.mul_comm] at a2
   exact Nat.le_trans (Nat.mul_le_mul_right _ a1) a2
 have hi : P < Q * 2 ^ 64 := by
   have a1 : 2 ^ (bitsN q - 1 + (-up).toNat) ≤ Q := by rw [hQ, Nat.pow_add]; exact Nat.mul_le_mul_right _ q1
   have a2 : P < 2 ^ (bitsN p + up.toNat) := by rw [hP, Nat.pow_add]; exact Nat.mul_lt_mul_of_pos_right p2 (Nat.two_pow_pos _)
   rw [show bitsN p + up.toNat = (bitsN q - 1 + (-up).toNat) + 64 by omega, Nat.pow_add] at a2
   exact Nat.lt_of_lt_of_le a2 (Nat.mul_le_mul_right _ a1)
 rw [div_spec hQ0 64 P 0 hi (by decide) (Q * 2 ^ 63) (fun _ => rfl)]
 simp only [Nat.zero_mul, Nat.zero_add]
 refine near_spec hq ?_ ?_ (by omega) fun f => ?_
 · rw [show 4611686018427387904 = 2 ^ 62 from rfl, Nat.le_div_iff_mul_le hQ0, Nat.mul_comm]; exact lo
 · rw [show 18446744073709551616 = 2 ^ 64 from rfl, Nat.div_lt_iff_lt_mul hQ0, Nat.mul_comm]; exact hi
 · have hx : ∀ x y : Nat, x = S + (-(-up + 1074)).toNat → y = (-up + 1074).toNat → (p * 2 ^ x < f * q * 2 ^ y ↔ P < f * Q) ∧ (p * 2 ^ x = f * q * 2 ^ y ↔ P = f * Q) := by
     intro x y hx hy
     rw [hP, hQ, ← Nat.mul_assoc]
     exact ⟨pow_cmp (by omega), pow_cmp_eq (by omega)⟩
   have h1 := hx _ _ rfl rfl
   rw [Nat.mul_assoc p, ← Nat.pow_add, h1.1, h1.2, Nat.div_lt_iff_lt_mul hQ0]
   refine ⟨Iff.rfl, ?_⟩
   have hl : decide (0 < (lim (P % Q)).length) = false ↔ P % Q = 0 := by
     rw [decide_eq_false_iff_not, ← lim_len_eq]; omega
   rw [hl]
   have hdm := Nat.div_add_mod P Q
   constructor
   · intro h
     subst h
     exact ⟨Nat.mul_div_cancel _ hQ0, Nat.mul_mod_left ..⟩
   · rintro ⟨h, h0⟩
     rw [h0, h, Nat.mul_comm] at hdm
     omega
end Go.Proofs.YtnhmmjogfkjceaaGreatDoor
