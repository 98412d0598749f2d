/-
  One token: names, numbers, strings, signs, as the program reads them, in plain Lean. Conditions: those that each theorem names.
-/
import Derived.Test.YtnhmmjogfkjceaaGreatDoorM1
import Derived.Laws.StructEq
import Derived.Laws.Tables
import Derived.Laws.Cover2
import Derived.Test.YtnhmmjogfkjceaaGreatDoorProg
set_option linter.unusedVariables false
set_option linter.unusedSimpArgs false
set_option maxRecDepth 100000
set_option maxHeartbeats 4000000
namespace Go.Proofs.YtnhmmjogfkjceaaGreatDoor
open Go.Sl
abbrev u8V (c : UInt8) : Value := .int .u8 c.toNat
def nameT (X : Bytes) (a : Nat) : Bytes := (X.take (runL isSm X a)).drop a
def nameR (X : Bytes) (a : Nat) : TokR := if (nameT X a).length > 32 then .bad 53 else .tok (if Lib.contains wordsB ([32] ++ nameT X a ++ [32]) = true then 2 else 1) (nameT X a) 0 (runL isSm X a)
def numFr (X : Bytes) (t : Nat) : Nat := if t + 1 < X.length ∧ (atB X t).toNat = 46 ∧ isDig (atB X (t + 1)) = true then runL isDig X (t + 1) else t
def numSg (X : Bytes) (t : Nat) : Nat := if t < X.length ∧ ((atB X t).toNat = 43 ∨ (atB X t).toNat = 45) then t + 1 else t
def numEx (X : Bytes) (t : Nat) : Nat := if t < X.length ∧ (atB X t ||| 32).toNat = 101 then runL isDig X (numSg X (t + 1)) else t
def numE (X : Bytes) (a : Nat) : Nat := if (atB X a).toNat = 48 ∧ (atB X (a + 1)).toNat = 120 then runL isHx X (a + 2) else numEx X (numFr X (runL isDig X a))
def numR (X : Bytes) (a : Nat) : TokR :=
 let e := numE X a
 let r := litP ((X.take e).drop a)
 if r.2 = false ∨ (e < X.length ∧ isSm (atB X e) = true) then .bad 54 else .tok 3 [] r.1 e
theorem numFr_le {X : Bytes} {t : Nat} (h : t ≤ X.length) : numFr X t ≤ X.length := by
 unfold numFr; split
 · exact runL_le (by omega)
 · exact h
theorem numFr_ge (X : Bytes) (t : Nat) : t ≤ numFr X t := by
 unfold numFr; split
 · have := runL_ge isDig X (t + 1); omega
 · exact Nat.le_refl _
theorem numSg_le {X : Bytes} {t : Nat} (h : t ≤ X.length) : numSg X t ≤ X.length := by
 unfold numSg; split <;> omega
theorem numSg_ge (X : Bytes) (t : Nat) : t ≤ numSg X t := by unfold numSg; split <;> omega
theorem numEx_le {X : Bytes} {t : Nat} (h : t ≤ X.length) : numEx X t ≤ X.length := by
 unfold numEx; split
 · exact runL_le (numSg_le (by omega))
 · exact h
theorem numEx_ge (X : Bytes) (t : Nat) : t ≤ numEx X t := by
 unfold numEx; split
 · have := runL_ge isDig X (numSg X (t + 1)); have := numSg_ge X (t + 1); omega
 · exact Nat.le_refl _
theorem numE_le {X : Bytes} {a : Nat} (h : a ≤ X.length) : numE X a ≤ X.length := by
 unfold numE; split
 · rename_i hc
   have := atB_lt (X := X) (n := a + 1) (by omega)
   exact runL_le (by omega)
 · exact numEx_le (numFr_le (runL_le h))
theorem numE_ge (X : Bytes) (a : Nat) : a ≤ numE X a := by
 unfold numE; split
 · have := runL_ge isHx X (a + 2); omega
 · have h1 := runL_ge isDig X a
   have h2 := numFr_ge X (runL isDig X a)
   have h3 := numEx_ge X (numFr X (runL isDig X a))
   omega
section
variable {X : Bytes} {t : Nat} {e d : UInt8}
theorem numFr_yes (h1 : X[t]? = some e) (h2 : X[t + 1]? = some d) (he : (e.toNat : Int) = 46) (hd : 48 ≤ (d.toNat : Int) ∧ (d.toNat : Int) ≤ 57) : numFr X t = runL isDig X (t + 1) := by
 unfold numFr
 rw [atB_some h1, atB_some h2, if_pos ⟨(List.getElem?_eq_some_iff.1 h2).1, by omega, by unfold isDig; exact decide_eq_true (by omega)⟩]
theorem numFr_no1 (h : ¬ t + 1 < X.length) : numFr X t = t := by unfold numFr; rw [if_neg fun q => h q.1]
theorem numFr_no2 (h1 : X[t]? = some e) (he : ¬ (e.toNat : Int) = 46) : numFr X t = t := by unfold numFr; rw [atB_some h1, if_neg fun q => he (by omega)]
theorem numFr_no3 (h2 : X[t + 1]? = some d) (hd : ¬ (48 ≤ (d.toNat : Int) ∧ (d.toNat : Int) ≤ 57)) : numFr X t = t := by
 unfold numFr
 rw [atB_some h2, if_neg]
 rintro ⟨_, _, q⟩
 unfold isDig at q
 have := of_decide_eq_true q
 omega
theorem numSg_yes (h1 : X[t]? = some e) (he : (e.toNat : Int) = 43 ∨ (e.toNat : Int) = 45) : numSg X t = t + 1 := by
 unfold numSg
 rw [atB_some h1, if_pos ⟨(List.getElem?_eq_some_iff.1 h1).1, by omega⟩]
theorem numSg_no1 (h : ¬ t < X.length) : numSg X t = t := by unfold numSg; rw [if_neg fun q => h q.1]
theorem numSg_no2 (h1 : X[t]? = some e) (he : ¬ ((e.toNat : Int) = 43 ∨ (e.toNat : Int) = 45)) : numSg X t = t := by unfold numSg; rw [atB_some h1, if_neg fun q => he (by omega)]
theorem numEx_yes (h1 : X[t]? = some e) (he : ((e ||| 32).toNat : Int) = 101) : numEx X t = runL isDig X (numSg X (t + 1)) := by
 unfold numEx
 rw [atB_some h1, if_pos ⟨(List.getElem?_eq_some_iff.1 h1).1, by omega⟩]
theorem numEx_no1 (h : ¬ t < X.length) : numEx X t = t := by unfold numEx; rw [if_neg fun q => h q.1]
theorem numEx_no2 (h1 : X[t]? = some e) (he : ¬ ((e ||| 32).toNat : Int) = 101) : numEx X t = t := by unfold numEx; rw [atB_some h1, if_neg fun q => he (by omega)]
end
section
variable {X : Bytes} {a : Nat}
theorem numE_hex (h : (atB X a).toNat = 48 ∧ (atB X (a + 1)).toNat = 120) : numE X a = runL isHx X (a + 2) := by unfold numE; rw [if_pos h]
theorem numE_dec (h : ¬ ((atB X a).toNat = 48 ∧ (atB X (a + 1)).toNat = 120)) : numE X a = numEx X (numFr X (runL isDig X a)) := by unfold numE; rw [if_neg h]
theorem numR_bad1 (h : (litP ((X.take (numE X a)).drop a)).2 = false) : numR X a = .bad 54 := by unfold numR; simp only []; rw [if_pos (.inl h)]
theorem numR_bad2 {e : UInt8} (h : X[numE X a]? = some e) (he : isSm e = true) : numR X a = .bad 54 := by unfold numR; simp only []; rw [if_pos (.inr ⟨(List.getElem?_eq_some_iff.1 h).1, by rw [atB_some h]; exact he⟩)]
theorem numR_ok1 (h : (litP ((X.take (numE X a)).drop a)).2 = true) (h1 : ¬ numE X a < X.length) : numR X a = .tok 3 [] (litP ((X.take (numE X a)).drop a)).1 (numE X a) := by
 unfold numR; simp only []; rw [if_neg]; rintro (q | q)
 · rw [h] at q; cases q
 · exact h1 q.1
theorem numR_ok2 {e : UInt8} (h : (litP ((X.take (numE X a)).drop a)).2 = true) (h1 : X[numE X a]? = some e) (he : isSm e = false) : numR X a = .tok 3 [] (litP ((X.take (numE X a)).drop a)).1 (numE X a) := by
 unfold numR; simp only []; rw [if_neg]; rintro (q | q)
 · rw [h] at q; cases q
 · rw [atB_some h1, he] at q; cases q.2
theorem nameR_bad (h : (nameT X a).length > 32) : nameR X a = .bad 53 := by unfold nameR; rw [if_pos h]
theorem nameR_word (h : ¬ (nameT X a).length > 32) (h1 : Lib.contains wordsB ([32] ++ nameT X a ++ [32]) = true) : nameR X a = .tok 2 (nameT X a) 0 (runL isSm X a) := by unfold nameR; rw [if_neg h, if_pos h1]
theorem nameR_name (h : ¬ (nameT X a).length > 32) (h1 : Lib.contains wordsB ([32] ++ nameT X a ++ [32]) = false) : nameR X a = .tok 1 (nameT X a) 0 (runL isSm X a) := by unfold nameR; rw [if_neg h, if_neg (by rw [h1]; decide)]
end
def nib16 (a b : UInt8) : UInt8 := UInt8.ofNat (nibV a * 16 + nibV b)
def escP (Y : Bytes) : UInt8 × Nat :=
 if Y.length > 3 ∧ (atB Y 1).toNat = 120 ∧ isHx (atB Y 2) = true ∧ isHx (atB Y 3) = true then (nib16 (atB Y 2) (atB Y 3), 4)
 else if Y.length < 2 then (0, 0)
 else if Lib.indexByte [110, 116, 92, 39, 34] (atB Y 1) < 0 then (0, 0)
 else (atB [10, 9, 92, 39, 34] (Lib.indexByte [110, 116, 92, 39, 34] (atB Y 1)).toNat, 2)
theorem nibV_lt {c : UInt8} (h : isHx c = true) : nibV c < 16 := by
 have ho := or32 c
 have hc : (48 ≤ c.toNat ∧ c.toNat ≤ 57) ∨ (97 ≤ c.toNat ∧ c.toNat ≤ 102) ∨ (65 ≤ c.toNat ∧ c.toNat ≤ 70) := by simpa [isHx] using h
 unfold nibV
 split
 · omega
 · split at ho <;> omega
theorem nib16_at {a b : UInt8} (ha : nibV a < 16) (hb : nibV b < 16) : (nib16 a b).toNat = nibV a * 16 + nibV b := by
 unfold nib16; rw [UInt8.toNat_ofNat']; omega
theorem or_nib8 {m d : Nat} (hm : m < 16) (hd : d < 16) : IntKind.wrap .u8 ((BitVec.ofInt 8 ((m : Int) * 16) ||| BitVec.ofInt 8 (d : Int)).toNat) = ((m * 16 + d : Nat) : Int) := by
 have e : ((m : Int) * 16) = ((m * 2 ^ 4 : Nat) : Int) := by omega
 rw [e, BitVec.or_comm]
 have h : ∀ x y : Fin 16, IntKind.wrap .u8 ((BitVec.ofInt 8 ((y.val : Nat) : Int) ||| BitVec.ofInt 8 ((x.val * 2 ^ 4 : Nat) : Int)).toNat) = ((x.val * 16 + y.val : Nat) : Int) := by decide
 exact h ⟨m, hm⟩ ⟨d, hd⟩
abbrev escB : Bytes := [10, 9, 92, 39, 34]
theorem idx_lt (c : UInt8) : (Lib.indexByte [110, 116, 92, 39, 34] c).toNat < [10, 9, 92, 39, 34].length := by
 have h : ∀ n : Fin 256, (Lib.indexByte [110, 116, 92, 39, 34] (UInt8.ofNat n)).toNat < [10, 9, 92, 39, 34].length := by decide
 have := h ⟨c.toNat, c.toNat_lt⟩
 simpa using this
theorem escP_hex {Y : Bytes} (h1 : Y.length > 3) (h2 : (atB Y 1).toNat = 120) (h3 : isHx (atB Y 2) = true) (h4 : isHx (atB Y 3) = true) : escP Y = (nib16 (atB Y 2) (atB Y 3), 4) := by unfold escP; rw [if_pos ⟨h1, h2, h3, h4⟩]
theorem escP_short {Y : Bytes} (h : ¬ (Y.length > 3 ∧ (atB Y 1).toNat = 120 ∧ isHx (atB Y 2) = true ∧ isHx (atB Y 3) = true)) (h1 : Y.length < 2) : escP Y = (0, 0) := by unfold escP; rw [if_neg h, if_pos h1]
theorem escP_none {Y : Bytes} (h : ¬ (Y.length > 3 ∧ (atB Y 1).toNat = 120 ∧ isHx (atB Y 2) = true ∧ isHx (atB Y 3) = true)) (h1 : ¬ Y.length < 2) (h2 : Lib.indexByte [110, 116, 92, 39, 34] (atB Y 1) < 0) : escP Y = (0, 0) := by unfold escP; rw [if_neg h, if_neg h1, if_pos h2]
theorem escP_one {Y : Bytes} (h : ¬ (Y.length > 3 ∧ (atB Y 1).toNat = 120 ∧ isHx (atB Y 2) = true ∧ isHx (atB Y 3) = true)) (h1 : ¬ Y.length < 2) (h2 : ¬ Lib.indexByte [110, 116, 92, 39, 34] (atB Y 1) < 0) : escP Y = (atB [10, 9, 92, 39, 34] (Lib.indexByte [110, 116, 92, 39, 34] (atB Y 1)).toNat, 2) := by unfold escP; rw [if_neg h, if_neg h1, if_neg h2]
theorem escP_in (Y : Bytes) : ((escP Y).2 = 0 ∨ 2 ≤ (escP Y).2) ∧ (escP Y).2 ≤ Y.length := by
 unfold escP
 repeat' split
 all_goals first | exact ⟨.inl rfl, Nat.zero_le _⟩ | exact ⟨.inr (by dsimp only; omega), by dsimp only; omega⟩
def strE : Nat → Bytes → UInt8 → Nat → Bytes → Option (Bytes × Nat)
 | 0, _, _, _, _ => none
 | f + 1, X, q, t, m =>
   if X.length ≤ t then none
   else if atB X t = q then some (m, t)
   else if (atB X t).toNat = 10 then none
   else if (atB X t).toNat = 92 then (if (escP (X.drop t)).2 = 0 then none else strE f X q (t + (escP (X.drop t)).2) (m ++ [(escP (X.drop t)).1]))
   else strE f X q (t + 1) (m ++ [atB X t])
def strP (X : Bytes) (a : Nat) : Option (Bytes × Nat) := strE (X.length + 1) X (atB X a) (a + 1) []
def textR (X : Bytes) (a : Nat) : TokR := match strP X a with
 | none => .bad 55
 | some (m, t) => if m.length > 4096 then .bad 56 else .tok 4 m 0 (t + 1)
section
variable {f : Nat} {X m : Bytes} {q : UInt8} {t : Nat}
theorem strE_end (h : X.length ≤ t) : strE f X q t m = none := by cases f <;> unfold strE; rfl; rw [if_pos h]
theorem strE_close (h : t < X.length) (h1 : atB X t = q) : strE (f + 1) X q t m = some (m, t) := by unfold strE; rw [if_neg (by omega), if_pos h1]
theorem strE_nl (h : t < X.length) (h1 : atB X t ≠ q) (h2 : (atB X t).toNat = 10) : strE (f + 1) X q t m = none := by unfold strE; rw [if_neg (by omega), if_neg h1, if_pos h2]
theorem strE_no (h : t < X.length) (h1 : atB X t ≠ q) (h2 : (atB X t).toNat = 92) (h3 : (escP (X.drop t)).2 = 0) : strE (f + 1) X q t m = none := by unfold strE; rw [if_neg (by omega), if_neg h1, if_neg (by omega), if_pos h2, if_pos h3]
theorem strE_esc (h : t < X.length) (h1 : atB X t ≠ q) (h2 : (atB X t).toNat = 92) (h3 : ¬ (escP (X.drop t)).2 = 0) : strE (f + 1) X q t m = strE f X q (t + (escP (X.drop t)).2) (m ++ [(escP (X.drop t)).1]) := by
 conv => lhs; unfold strE
 rw [if_neg (by omega), if_neg h1, if_neg (by omega), if_pos h2, if_neg h3]
theorem strE_one (h : t < X.length) (h1 : atB X t ≠ q) (h2 : ¬ (atB X t).toNat = 10) (h3 : ¬ (atB X t).toNat = 92) : strE (f + 1) X q t m = strE f X q (t + 1) (m ++ [atB X t]) := by
 conv => lhs; unfold strE
 rw [if_neg (by omega), if_neg h1, if_neg h2, if_neg h3]
end
theorem textR_none {X : Bytes} {a : Nat} (h : strP X a = none) : textR X a = .bad 55 := by unfold textR; rw [h]
theorem textR_long {X m : Bytes} {a t : Nat} (h : strP X a = some (m, t)) (h1 : m.length > 4096) : textR X a = .bad 56 := by unfold textR; rw [h]; exact if_pos h1
theorem textR_some {X m : Bytes} {a t : Nat} (h : strP X a = some (m, t)) (h1 : ¬ m.length > 4096) : textR X a = .tok 4 m 0 (t + 1) := by unfold textR; rw [h]; exact if_neg h1
def signR (X : Bytes) (a : Nat) : TokR := match signsL.find? (fun s => Lib.hasPrefix (X.drop a) s) with
 | none => .bad 57
 | some s => .tok 5 s 0 (a + s.length)
def tokR (X : Bytes) (a : Nat) : TokR :=
 if isDig (atB X a) = true then numR X a else if isSm (atB X a) = true then nameR X a
 else if (atB X a).toNat = 34 ∨ (atB X a).toNat = 39 then textR X a else signR X a
end Go.Proofs.YtnhmmjogfkjceaaGreatDoor
namespace Go.Proofs.YtnhmmjogfkjceaaGreatDoor
open Go.Sl
theorem atB_drop (X : Bytes) (a i : Nat) : atB (X.drop a) i = atB X (a + i) := by unfold atB; rw [List.getElem?_drop]
theorem runL_drop (p : UInt8 → Bool) (X : Bytes) (a n : Nat) : runL p X (a + n) = a + runL p (X.drop a) n := by unfold runL; rw [List.drop_drop]; omega
def TokR.shift (a : Nat) : TokR → TokR
 | .bad e => .bad e
 | .tok k t n tz => .tok k t n (a + tz)
theorem nameT_drop (X : Bytes) (a : Nat) : nameT X a = nameT (X.drop a) 0 := by
 unfold nameT
 rw [show runL isSm X a = a + runL isSm (X.drop a) 0 from runL_drop isSm X a 0, List.drop_zero, List.drop_take]
 simp
theorem nameR_drop (X : Bytes) (a : Nat) : nameR X a = (nameR (X.drop a) 0).shift a := by
 unfold nameR
 rw [← nameT_drop, show runL isSm X a = a + runL isSm (X.drop a) 0 from runL_drop isSm X a 0]
 split <;> rfl
theorem numFr_drop (X : Bytes) (a t : Nat) : numFr X (a + t) = a + numFr (X.drop a) t := by
 unfold numFr
 rw [atB_drop, atB_drop, List.length_drop, ← Nat.add_assoc, show a + t + 1 = a + (t + 1) by omega, runL_drop]
 by_cases h : a + (t + 1) < X.length ∧ (atB X (a + t)).toNat = 46 ∧ isDig (atB X (a + (t + 1))) = true
 · rw [if_pos h, if_pos ⟨by omega, h.2⟩]
 · rw [if_neg h, if_neg fun q => h ⟨by omega, q.2⟩]
theorem numSg_drop (X : Bytes) (a t : Nat) : numSg X (a + t) = a + numSg (X.drop a) t := by
 unfold numSg
 rw [atB_drop, List.length_drop]
 by_cases h : a + t < X.length ∧ ((atB X (a + t)).toNat = 43 ∨ (atB X (a + t)).toNat = 45)
 · rw [if_pos h, if_pos ⟨by omega, h.2⟩, Nat.add_assoc]
 · rw [if_neg h, if_neg fun q => h ⟨by omega, q.2⟩]
theorem numEx_drop (X : Bytes) (a t : Nat) : numEx X (a + t) = a + numEx (X.drop a) t := by
 unfold numEx
 rw [atB_drop, List.length_drop, show a + t + 1 = a + (t + 1) by omega, numSg_drop, runL_drop]
 by_cases h : a + t < X.length ∧ (atB X (a + t) ||| 32).toNat = 101
 · rw [if_pos h, if_pos ⟨by omega, h.2⟩]
 · rw [if_neg h, if_neg fun q => h ⟨by omega, q.2⟩]
theorem numE_drop (X : Bytes) (a : Nat) : numE X a = a + numE (X.drop a) 0 := by
 unfold numE
 rw [show atB (X.drop a) 0 = atB X a from atB_drop X a 0, show atB (X.drop a) (0 + 1) = atB X (a + 1) from atB_drop X a 1, show runL isDig X a = a + runL isDig (X.drop a) 0 from runL_drop isDig X a 0, numFr_drop, numEx_drop, runL_drop]
 by_cases h : (atB X a).toNat = 48 ∧ (atB X (a + 1)).toNat = 120
 · rw [if_pos h, if_pos h]
 · rw [if_neg h, if_neg h]
theorem numR_drop (X : Bytes) (a : Nat) : numR X a = (numR (X.drop a) 0).shift a := by
 unfold numR
 simp only []
 rw [numE_drop X a, atB_drop, List.length_drop, List.drop_zero, List.drop_take, show a + numE (X.drop a) 0 - a = numE (X.drop a) 0 by omega]
 by_cases h : (litP ((X.drop a).take (numE (X.drop a) 0))).2 = false ∨ (a + numE (X.drop a) 0 < X.length ∧ isSm (atB X (a + numE (X.drop a) 0)) = true)
 · rw [if_pos h, if_pos (h.imp_right fun q => ⟨by omega, q.2⟩)]; rfl
 · rw [if_neg h, if_neg fun q => h (q.imp_right fun q => ⟨by omega, q.2⟩)]; rfl
theorem strE_drop (X : Bytes) (q : UInt8) (a : Nat) : ∀ (f t : Nat) (m : Bytes), strE f X q (a + t) m = (strE f (X.drop a) q t m).map fun r => (r.1, a + r.2)
 | 0, _, _ => rfl
 | f + 1, t, m => by
   unfold strE
   rw [atB_drop, List.length_drop, List.drop_drop, show a + t + 1 = a + (t + 1) by omega, strE_drop X q a f, show a + t + (escP (X.drop (a + t))).2 = a + (t + (escP (X.drop (a + t))).2) by omega, strE_drop X q a f]
   by_cases h : X.length ≤ a + t
   · rw [if_pos h, if_pos (by omega)]; rfl
   · rw [if_neg h, if_neg (show ¬ X.length - a ≤ t by omega)]
     by_cases h1 : atB X (a + t) = q
     · rw [if_pos h1, if_pos h1]; rfl
     · rw [if_neg h1, if_neg h1]
       by_cases h2 : (atB X (a + t)).toNat = 10
       · rw [if_pos h2, if_pos h2]; rfl
       · rw [if_neg h2, if_neg h2]
         by_cases h3 : (atB X (a + t)).toNat = 92
         · rw [if_pos h3, if_pos h3]
           by_cases h4 : (escP (X.drop (a + t))).2 = 0
           · rw [if_pos h4, if_pos h4]; rfl
           · rw [if_neg h4, if_neg h4]
         · rw [if_neg h3, if_neg h3]
theorem strE_fuel {X : Bytes} {q : UInt8} : ∀ (f g t : Nat) (m : Bytes), X.length - t < f → X.length - t < g → strE f X q t m = strE g X q t m
 | 0, _, _, _, h, _ => absurd h (Nat.not_lt_zero _)
 | _ + 1, 0, _, _, _, h => absurd h (Nat.not_lt_zero _)
 | f + 1, g + 1, t, m, hf, hg => by
   by_cases h : X.length ≤ t
   · rw [strE_end h, strE_end h]
   · have hl : t < X.length := by omega
     by_cases h1 : atB X t = q
     · rw [strE_close hl h1, strE_close hl h1]
     · by_cases h2 : (atB X t).toNat = 10
       · rw [strE_nl hl h1 h2, strE_nl hl h1 h2]
       · by_cases h3 : (atB X t).toNat = 92
         · by_cases h4 : (escP (X.drop t)).2 = 0
           · rw [strE_no hl h1 h3 h4, strE_no hl h1 h3 h4]
           · rw [strE_esc hl h1 h3 h4, strE_esc hl h1 h3 h4]
             exact strE_fuel f g _ _ (by omega) (by omega)
         · rw [strE_one hl h1 h2 h3, strE_one hl h1 h2 h3]
           exact strE_fuel f g _ _ (by omega) (by omega)
theorem strP_drop {X : Bytes} {a : Nat} (ha : a < X.length) : strP X a = (strP (X.drop a) 0).map fun r => (r.1, a + r.2) := by
 unfold strP
 rw [show atB (X.drop a) 0 = atB X a from atB_drop X a 0, strE_drop X _ a, Nat.zero_add, strE_fuel (X := X.drop a) (X.length + 1) ((X.drop a).length + 1) 1 [] (by rw [List.length_drop]; omega) (by omega)]
theorem textR_drop {X : Bytes} {a : Nat} (ha : a < X.length) : textR X a = (textR (X.drop a) 0).shift a := by
 cases h : strP (X.drop a) 0 with
 | none => rw [textR_none h, textR_none (show strP X a = none by rw [strP_drop ha, h]; rfl)]; rfl
 | some r =>
   have h1 : strP X a = some (r.1, a + r.2) := by rw [strP_drop ha, h]; rfl
   by_cases hm : r.1.length > 4096
   · rw [textR_long h hm, textR_long h1 hm]; rfl
   · rw [textR_some h hm, textR_some h1 hm, Nat.add_assoc]; rfl
theorem signR_drop (X : Bytes) (a : Nat) : signR X a = (signR (X.drop a) 0).shift a := by
 unfold signR
 rw [List.drop_zero]
 cases signsL.find? (fun s => Lib.hasPrefix (X.drop a) s) with
 | none => rfl
 | some s => simp only [Nat.zero_add]; rfl
theorem tokR_drop {X : Bytes} {a : Nat} (ha : a < X.length) : tokR X a = (tokR (X.drop a) 0).shift a := by
 unfold tokR
 rw [atB_drop, Nat.add_zero]
 by_cases h1 : isDig (atB X a) = true
 · rw [if_pos h1, if_pos h1, numR_drop]
 · rw [if_neg h1, if_neg h1]
   by_cases h2 : isSm (atB X a) = true
   · rw [if_pos h2, if_pos h2, nameR_drop]
   · rw [if_neg h2, if_neg h2]
     by_cases h3 : (atB X a).toNat = 34 ∨ (atB X a).toNat = 39
     · rw [if_pos h3, if_pos h3, textR_drop ha]
     · rw [if_neg h3, if_neg h3, signR_drop]
def sepC (c : UInt8) : Bool := decide (c.toNat = 9 ∨ c.toNat = 10 ∨ c.toNat = 32 ∨ c.toNat = 47)
section
variable {X r : Bytes} {c : UInt8}
variable (hs : sepC c = true)
include hs
end
section
variable {P R : Bytes}
theorem strE_ge {X : Bytes} {q : UInt8} : ∀ (f t : Nat) (m : Bytes) {r : Bytes × Nat}, strE f X q t m = some r → t ≤ r.2 ∧ r.2 < X.length
 | 0, _, _, _, h => by cases h
 | f + 1, t, m, r, h => by
   by_cases h0 : X.length ≤ t
   · rw [strE_end h0] at h; cases h
   · have hl : t < X.length := by omega
     by_cases h1 : atB X t = q
     · rw [strE_close hl h1] at h; cases h; exact ⟨Nat.le_refl _, hl⟩
     · by_cases h2 : (atB X t).toNat = 10
       · rw [strE_nl hl h1 h2] at h; cases h
       · by_cases h3 : (atB X t).toNat = 92
         · by_cases h4 : (escP (X.drop t)).2 = 0
           · rw [strE_no hl h1 h3 h4] at h; cases h
           · rw [strE_esc hl h1 h3 h4] at h
             have := strE_ge f _ _ h
             omega
         · rw [strE_one hl h1 h2 h3] at h
           have := strE_ge f _ _ h
           omega
end
end Go.Proofs.YtnhmmjogfkjceaaGreatDoor
namespace Go.Proofs.YtnhmmjogfkjceaaGreatDoor
open Go.Sl
inductive ScanR where
  | bad (i : Nat) (e : Int)
  | good (l : List Tok)
def ScanR.toks : ScanR → List Tok
 | .bad _ _ => []
 | .good l => l
def ScanR.place : ScanR → Nat
 | .bad a _ => a
 | .good _ => 0
def ScanR.err : ScanR → Int
 | .bad _ e => e
 | .good _ => 0
def scanE : Nat → Bytes → Nat → List Tok → ScanR
 | 0, _, _, _ => .bad 0 0
 | f + 1, X, a, l =>
   if (blP X a).2 = false then .bad (blP X a).1 52
   else if (blP X a).1 < X.length then
     (if (tokR X (blP X a).1).err ≠ 0 then .bad (blP X a).1 (tokR X (blP X a).1).err
      else scanE f X ((tokR X (blP X a).1).past (blP X a).1) ((tokR X (blP X a).1).toks (blP X a).1 l))
   else .good (l ++ [⟨0, (blP X a).1, [], 0⟩])
def badAt (X : Bytes) : Option Nat := X.findIdx? fun c => !okR (c.toNat : Int)
def scanP (X : Bytes) : ScanR :=
 if X.length > 65536 then .bad 0 50
 else match badAt X with
   | some i => .bad i 51
   | none => scanE (X.length + 1) X 0 []
section
variable {f a : Nat} {X : Bytes} {l : List Tok} {m : Nat}
theorem scanE_bl (h : (blP X a).2 = false) : scanE (f + 1) X a l = .bad (blP X a).1 52 := by unfold scanE; rw [if_pos h]
theorem scanE_bad (h : (blP X a).2 = true) (h1 : (blP X a).1 < X.length) (h2 : (tokR X (blP X a).1).err ≠ 0) : scanE (f + 1) X a l = .bad (blP X a).1 (tokR X (blP X a).1).err := by
 unfold scanE; rw [if_neg (by rw [h]; decide), if_pos h1, if_pos h2]
theorem scanE_tok (h : (blP X a).2 = true) (h1 : (blP X a).1 < X.length) (h2 : (tokR X (blP X a).1).err = 0) : scanE (f + 1) X a l = scanE f X ((tokR X (blP X a).1).past (blP X a).1) ((tokR X (blP X a).1).toks (blP X a).1 l) := by
 conv => lhs; unfold scanE
 rw [if_neg (by rw [h]; decide), if_pos h1, if_neg (by simpa using h2)]
theorem scanE_end (h : (blP X a).2 = true) (h1 : ¬ (blP X a).1 < X.length) : scanE (f + 1) X a l = .good (l ++ [⟨0, (blP X a).1, [], 0⟩]) := by
 unfold scanE; rw [if_neg (by rw [h]; decide), if_neg h1]
end
theorem badAt_some {X : Bytes} {n : Nat} {e : UInt8} (h : ∀ c ∈ X.take n, okR (c.toNat : Int) = true) (he : X[n]? = some e) (hb : okR (e.toNat : Int) = false) : badAt X = some n := by
 unfold badAt
 rw [List.findIdx?_eq_some_iff_getElem]
 have hn := (List.getElem?_eq_some_iff.1 he)
 refine ⟨hn.1, by rw [hn.2, hb]; rfl, fun j hj => ?_⟩
 have hj' : j < X.length := Nat.lt_trans hj hn.1
 have : okR ((X[j]'hj').toNat : Int) = true := h _ (List.mem_take_iff_getElem.2 ⟨j, by omega, rfl⟩)
 rw [this]; decide
theorem badAt_none {X : Bytes} (h : ∀ c ∈ X, okR (c.toNat : Int) = true) : badAt X = none := by
 unfold badAt
 rw [List.findIdx?_eq_none_iff]
 intro c hc
 rw [h c hc]; rfl
theorem ok_step {X : Bytes} {n : Nat} {e : UInt8} (h : ∀ c ∈ X.take n, okR (c.toNat : Int) = true) (he : X[n]? = some e) (hb : okR (e.toNat : Int) = true) : ∀ c ∈ X.take (n + 1), okR (c.toNat : Int) = true := by
 intro c hc
 rw [List.take_add_one, he] at hc
 rcases List.mem_append.1 hc with q | q
 · exact h c q
 · rw [show c = e by simpa using q]; exact hb
theorem ok_low {e : UInt8} (h : ¬ e.toNat < 128) : okR (e.toNat : Int) = false := by unfold okR; exact decide_eq_false (by omega)
theorem ok_hi {z : Int} (h : 128 ≤ z) : okR z = false := by unfold okR; exact decide_eq_false (by omega)
theorem runL_gt {p : UInt8 → Bool} {X : Bytes} {a : Nat} (ha : a < X.length) (hp : p (atB X a) = true) : a + 1 ≤ runL p X a := by
 obtain ⟨c, hc⟩ : ∃ c, X[a]? = some c := ⟨_, List.getElem?_eq_getElem ha⟩
 rw [atB_some hc] at hp
 rw [runL_step hc hp]
 exact runL_ge ..
theorem signs_pos : ∀ s ∈ signsL, s ≠ [] := by decide +kernel
theorem tok_num {X : Bytes} {a : Nat} (h : isDig (atB X a) = true) : tokR X a = numR X a := by unfold tokR; rw [if_pos h]
theorem tok_name {X : Bytes} {a : Nat} (h : isDig (atB X a) = false) (h1 : isSm (atB X a) = true) : tokR X a = nameR X a := by unfold tokR; rw [if_neg (by rw [h]; decide), if_pos h1]
theorem tok_text {X : Bytes} {a : Nat} (h : isDig (atB X a) = false) (h1 : isSm (atB X a) = false) (h2 : (atB X a).toNat = 34 ∨ (atB X a).toNat = 39) : tokR X a = textR X a := by unfold tokR; rw [if_neg (by rw [h]; decide), if_neg (by rw [h1]; decide), if_pos h2]
theorem tok_sign {X : Bytes} {a : Nat} (h : isDig (atB X a) = false) (h1 : isSm (atB X a) = false) (h2 : ¬ ((atB X a).toNat = 34 ∨ (atB X a).toNat = 39)) : tokR X a = signR X a := by unfold tokR; rw [if_neg (by rw [h]; decide), if_neg (by rw [h1]; decide), if_neg h2]
theorem nameR_cases (X : Bytes) (a : Nat) : nameR X a = .bad 53 ∨ ∃ k, (k = 1 ∨ k = 2) ∧ nameR X a = .tok k (nameT X a) 0 (runL isSm X a) := by
 unfold nameR
 split
 · exact .inl rfl
 · refine .inr ⟨_, ?_, rfl⟩
   split
   · exact .inr rfl
   · exact .inl rfl
theorem numR_cases (X : Bytes) (a : Nat) : numR X a = .bad 54 ∨ ∃ n, numR X a = .tok 3 [] n (numE X a) := by
 unfold numR
 simp only []
 split
 · exact .inl rfl
 · exact .inr ⟨_, rfl⟩
theorem textR_cases {X : Bytes} {a : Nat} (ha : a < X.length) : (∃ e, (e = 55 ∨ e = 56) ∧ textR X a = .bad e) ∨ ∃ m t, textR X a = .tok 4 m 0 (t + 1) ∧ a + 1 ≤ t ∧ t < X.length := by
 cases h : strP X a with
 | none => exact .inl ⟨55, .inl rfl, textR_none h⟩
 | some r =>
   by_cases hm : r.1.length > 4096
   · exact .inl ⟨56, .inr rfl, textR_long h hm⟩
   · have := strE_ge _ _ _ h
     exact .inr ⟨r.1, r.2, textR_some h hm, this.1, this.2⟩
theorem signR_cases (X : Bytes) (a : Nat) : signR X a = .bad 57 ∨ ∃ s, s ∈ signsL ∧ s <+: X.drop a ∧ signR X a = .tok 5 s 0 (a + s.length) := by
 unfold signR
 cases h : signsL.find? (fun s => Lib.hasPrefix (X.drop a) s) with
 | none => exact .inl rfl
 | some s => exact .inr ⟨s, List.mem_of_find?_eq_some h, List.isPrefixOf_iff_prefix.1 (List.find?_some (p := fun s => Lib.hasPrefix (X.drop a) s) h), rfl⟩
theorem tokR_cases {X : Bytes} {a : Nat} (ha : a < X.length) : (∃ e, tokR X a = .bad e ∧ 53 ≤ e ∧ e ≤ 57) ∨ ∃ k t n tz, tokR X a = .tok k t n tz ∧ a < tz ∧ tz ≤ X.length ∧ 1 ≤ k ∧ k ≤ 5 ∧ (k ≠ 3 → k ≠ 4 → t = (X.take tz).drop a) := by
 by_cases h1 : isDig (atB X a) = true
 · rw [tok_num h1]
   rcases numR_cases X a with h | ⟨n, h⟩
   · exact .inl ⟨54, h, by decide, by decide⟩
   · refine .inr ⟨3, [], n, _, h, ?_, numE_le (Nat.le_of_lt ha), by decide, by decide, fun q => absurd rfl q⟩
     unfold numE
     split
     · have := runL_ge isHx X (a + 2); omega
     · have h2 := runL_gt ha h1
       have h3 := numFr_ge X (runL isDig X a)
       have h4 := numEx_ge X (numFr X (runL isDig X a))
       omega
 · have h1 := Bool.eq_false_iff.2 h1
   by_cases h2 : isSm (atB X a) = true
   · rw [tok_name h1 h2]
     rcases nameR_cases X a with h | ⟨k, hk, h⟩
     · exact .inl ⟨53, h, by decide, by decide⟩
     · have := runL_gt ha h2
       exact .inr ⟨k, _, 0, _, h, by omega, runL_le (Nat.le_of_lt ha), by omega, by omega, fun _ _ => rfl⟩
   · have h2 := Bool.eq_false_iff.2 h2
     by_cases h3 : (atB X a).toNat = 34 ∨ (atB X a).toNat = 39
     · rw [tok_text h1 h2 h3]
       rcases textR_cases ha with ⟨e, he, h⟩ | ⟨m, t, h, g1, g2⟩
       · exact .inl ⟨e, h, by omega, by omega⟩
       · exact .inr ⟨4, m, 0, t + 1, h, by omega, by omega, by decide, by decide, fun _ q => absurd rfl q⟩
     · rw [tok_sign h1 h2 h3]
       rcases signR_cases X a with h | ⟨s, hs, hp, h⟩
       · exact .inl ⟨57, h, by decide, by decide⟩
       · have hl := hp.length_le
         rw [List.length_drop] at hl
         have h0 := List.length_pos_iff.2 (signs_pos s hs)
         refine .inr ⟨5, s, 0, _, h, by omega, by omega, by decide, by decide, fun _ _ => ?_⟩
         rw [List.drop_take, show a + s.length - a = s.length by omega]
         exact List.prefix_iff_eq_take.1 hp
theorem tok_err {X : Bytes} {a : Nat} (ha : a < X.length) (h : (tokR X a).err ≠ 0) : (tokR X a).past a = a ∧ ∀ l, (tokR X a).toks a l = l := by
 rcases tokR_cases ha with ⟨e, he, _⟩ | ⟨k, t, n, tz, ht, _⟩
 · rw [he]; exact ⟨rfl, fun _ => rfl⟩
 · rw [ht] at h; exact absurd rfl h
theorem tok_good {X : Bytes} {a : Nat} (ha : a < X.length) (h : (tokR X a).err = 0) : a < (tokR X a).past a ∧ (tokR X a).past a ≤ X.length ∧ ∀ l, ((tokR X a).toks a l).length = l.length + 1 := by
 rcases tokR_cases ha with ⟨e, he, h1, _⟩ | ⟨k, t, n, tz, ht, h1, h2, _⟩
 · rw [he] at h; exact absurd (show e = 0 from h) (by omega)
 · rw [ht]; exact ⟨h1, h2, fun l => by simp [TokR.toks]⟩
theorem blE_ge {X : Bytes} : ∀ (f a : Nat), a ≤ (blE f X a).1
 | 0, a => Nat.le_refl _
 | f + 1, a => by
   by_cases h0 : X.length ≤ a
   · rw [blE_end h0]; exact Nat.le_refl _
   · have hl : a < X.length := by omega
     by_cases h1 : (atB X a).toNat = 32 ∨ (atB X a).toNat = 10 ∨ (atB X a).toNat = 9
     · rw [blE_sp hl h1]; exact Nat.le_trans (Nat.le_succ a) (blE_ge f _)
     · by_cases h2 : (atB X a).toNat = 47 ∧ (atB X (a + 1)).toNat = 47
       · rw [blE_line hl h2.1 h2.2]; exact Nat.le_trans (runL_ge ..) (blE_ge f _)
       · by_cases h3 : (atB X a).toNat = 47 ∧ (atB X (a + 1)).toNat = 42
         · by_cases h4 : Lib.index (X.drop (a + 2)) [42, 47] < 0
           · rw [blE_bad hl h3.1 h3.2 h4]; exact Nat.le_refl _
           · rw [blE_rem hl h3.1 h3.2 h4]
             exact Nat.le_trans (Nat.le_add_right ..) (blE_ge f _)
         · rw [blE_other hl h1 h2 h3]; exact Nat.le_refl _
theorem blP_ge (X : Bytes) (a : Nat) : a ≤ (blP X a).1 := blE_ge _ _
theorem blP_le {X : Bytes} {a : Nat} (h : a ≤ X.length) : (blP X a).1 ≤ X.length := blE_le _ _ h
theorem find_at {α : Type} {p : α → Bool} {x : α} : ∀ {l : List α} {i : Nat}, (∀ y ∈ l.take i, p y = false) → l[i]? = some x → p x = true → l.find? p = some x
 | [], _, _, h, _ => by simp at h
 | y :: l, 0, _, h, hp => by simp at h; subst h; rw [List.find?_cons, hp]
 | y :: l, i + 1, h, h1, hp => by
   rw [List.find?_cons, h y (by simp)]
   exact find_at (i := i) (fun z hz => h z (by rw [List.take_succ_cons]; exact List.mem_cons_of_mem _ hz)) (by simpa using h1) hp
theorem find_no {α : Type} {p : α → Bool} {l : List α} (h : ∀ y ∈ l, p y = false) : l.find? p = none := by
 rw [List.find?_eq_none]; intro y hy; rw [h y hy]; decide
theorem signs_n : signsL.length = 48 := by decide +kernel
theorem strs_at {L : List Bytes} {i : Nat} {x : Bytes} (h : L[i]? = some x) : (L.map fun q => Value.string (bS q))[i]? = some (.string (bS x)) := by rw [List.getElem?_map, h]; rfl
theorem signs_le : ∀ s ∈ signsL, s.length ≤ 4 := by decide +kernel
theorem sign_step {X : Bytes} {a i : Nat} {s : Bytes} (h : ∀ y ∈ signsL.take i, Lib.hasPrefix (X.drop a) y = false) (hs : signsL[i]? = some s) (hp : Lib.hasPrefix (X.drop a) s = false) : ∀ y ∈ signsL.take (i + 1), Lib.hasPrefix (X.drop a) y = false := by
 intro y hy
 rw [List.take_add_one, hs] at hy
 rcases List.mem_append.1 hy with q | q
 · exact h y q
 · rw [show y = s by simpa using q]; exact hp
theorem signR_at {X : Bytes} {a i : Nat} {s : Bytes} (h : ∀ y ∈ signsL.take i, Lib.hasPrefix (X.drop a) y = false) (hs : signsL[i]? = some s) (hp : Lib.hasPrefix (X.drop a) s = true) : signR X a = .tok 5 s 0 (a + s.length) := by
 unfold signR; rw [find_at (p := fun s => Lib.hasPrefix (X.drop a) s) h hs hp]
theorem signR_no {X : Bytes} {a i : Nat} (hi : ¬ i < 48) (h : ∀ y ∈ signsL.take i, Lib.hasPrefix (X.drop a) y = false) : signR X a = .bad 57 := by
 unfold signR; rw [find_no]; intro y hy; exact h y (by rw [List.take_of_length_le (by rw [signs_n]; omega)]; exact hy)
end Go.Proofs.YtnhmmjogfkjceaaGreatDoor
namespace Go.Proofs.YtnhmmjogfkjceaaGreatDoor
open Go.Sl
theorem prefix_cut {p s r : Bytes} (h : p.isPrefixOf (s ++ r) = true) (hl : p.length ≤ s.length) : p.isPrefixOf s = true := by
 have h5 := List.isPrefixOf_iff_prefix.1 h
 exact List.isPrefixOf_iff_prefix.2 (List.prefix_of_prefix_length_le h5 (List.prefix_append _ _) hl)
theorem index_more {p r : Bytes} : ∀ {s : Bytes} {i : Nat}, Lib.index s p = (i : Int) → Lib.index (s ++ r) p = (i : Int)
 | [], i, h => by
   unfold Lib.index at h
   split at h
   · rename_i hp
     have : p = [] := by simpa using hp
     subst this
     rw [Lib.index_empty]; exact h
   · omega
 | b :: l, i, h => by
   have hroom := index_room h
   unfold Lib.index at h
   rw [List.cons_append]
   unfold Lib.index
   by_cases hp : p.isPrefixOf (b :: l) = true
   · rw [if_pos hp] at h
     rw [if_pos]
     · exact h
     · have := List.isPrefixOf_iff_prefix.1 hp
       exact List.isPrefixOf_iff_prefix.2 (this.trans (by rw [← List.cons_append]; exact List.prefix_append _ _))
   · rw [if_neg hp] at h
     split at h
     · omega
     · rename_i hne
       have hge := Lib.index_ge l p
       obtain ⟨j, hj⟩ : ∃ j : Nat, Lib.index l p = (j : Int) := Int.eq_ofNat_of_zero_le (by simp at hne; omega)
       have ih := index_more (r := r) hj
       rw [if_neg, ih, if_neg]
       · omega
       · simp
       · intro q
         exact hp (prefix_cut (s := b :: l) (by rw [List.cons_append]; exact q) (by omega))
theorem occ_split {s p : Bytes} {i : Nat} (h : Lib.index s p = (i : Int)) : s = s.take i ++ (p ++ s.drop (i + p.length)) := by
 rcases Lib.index_spec s p with ⟨h1, _⟩ | ⟨j, h1, h2, h3, _⟩
 · omega
 · have : j = i := by omega
   subst this
   have hp := List.isPrefixOf_iff_prefix.1 h3
   obtain ⟨t, ht⟩ := hp
   have h4 : s.drop (j + p.length) = t := by rw [← List.drop_drop, ← ht, List.drop_left']; rfl
   rw [h4, ht, List.take_append_drop]
theorem blE_fuel {X : Bytes} : ∀ (f g a : Nat), X.length - a < f → X.length - a < g → blE f X a = blE g X a
 | 0, _, _, h, _ => absurd h (Nat.not_lt_zero _)
 | _ + 1, 0, _, _, h => absurd h (Nat.not_lt_zero _)
 | f + 1, g + 1, a, hf, hg => by
   by_cases h0 : X.length ≤ a
   · rw [blE_end h0, blE_end h0]
   · have hl : a < X.length := by omega
     by_cases h1 : (atB X a).toNat = 32 ∨ (atB X a).toNat = 10 ∨ (atB X a).toNat = 9
     · rw [blE_sp hl h1, blE_sp hl h1]; exact blE_fuel f g _ (by omega) (by omega)
     · by_cases h2 : (atB X a).toNat = 47 ∧ (atB X (a + 1)).toNat = 47
       · have := line_gt hl h2.1
         rw [blE_line hl h2.1 h2.2, blE_line hl h2.1 h2.2]; exact blE_fuel f g _ (by omega) (by omega)
       · by_cases h3 : (atB X a).toNat = 47 ∧ (atB X (a + 1)).toNat = 42
         · by_cases h4 : Lib.index (X.drop (a + 2)) [42, 47] < 0
           · rw [blE_bad hl h3.1 h3.2 h4, blE_bad hl h3.1 h3.2 h4]
           · rw [blE_rem hl h3.1 h3.2 h4, blE_rem hl h3.1 h3.2 h4]; exact blE_fuel f g _ (by omega) (by omega)
         · rw [blE_other hl h1 h2 h3, blE_other hl h1 h2 h3]
theorem blE_drop (X : Bytes) (a : Nat) : ∀ (f t : Nat), blE f X (a + t) = (a + (blE f (X.drop a) t).1, (blE f (X.drop a) t).2)
 | 0, t => rfl
 | f + 1, t => by
   by_cases h0 : X.length ≤ a + t
   · rw [blE_end h0, blE_end (by rw [List.length_drop]; omega)]
   · have hl : a + t < X.length := by omega
     have hl' : t < (X.drop a).length := by rw [List.length_drop]; omega
     have e0 : atB (X.drop a) t = atB X (a + t) := atB_drop X a t
     have e1 : atB (X.drop a) (t + 1) = atB X (a + t + 1) := atB_drop X a (t + 1)
     have e2 : (X.drop a).drop (t + 2) = X.drop (a + t + 2) := by rw [List.drop_drop]; congr 1
     by_cases h1 : (atB X (a + t)).toNat = 32 ∨ (atB X (a + t)).toNat = 10 ∨ (atB X (a + t)).toNat = 9
     · rw [blE_sp hl h1, blE_sp hl' (by rw [e0]; exact h1), Nat.add_assoc, blE_drop X a f]
     · by_cases h2 : (atB X (a + t)).toNat = 47 ∧ (atB X (a + t + 1)).toNat = 47
       · rw [blE_line hl h2.1 h2.2, blE_line hl' (by rw [e0]; exact h2.1) (by rw [e1]; exact h2.2), runL_drop, blE_drop X a f]
       · by_cases h3 : (atB X (a + t)).toNat = 47 ∧ (atB X (a + t + 1)).toNat = 42
         · by_cases h4 : Lib.index (X.drop (a + t + 2)) [42, 47] < 0
           · rw [blE_bad hl h3.1 h3.2 h4, blE_bad hl' (by rw [e0]; exact h3.1) (by rw [e1]; exact h3.2) (by rw [e2]; exact h4)]
           · rw [blE_rem hl h3.1 h3.2 h4, blE_rem hl' (by rw [e0]; exact h3.1) (by rw [e1]; exact h3.2) (by rw [e2]; exact h4), e2, Nat.add_assoc a t, blE_drop X a f]
         · rw [blE_other hl h1 h2 h3, blE_other hl' (by rw [e0]; exact h1) (by rw [e0, e1]; exact h2) (by rw [e0, e1]; exact h3)]
theorem blP_drop (X : Bytes) (a : Nat) : blP X a = (a + (blP (X.drop a) 0).1, (blP (X.drop a) 0).2) := by
 unfold blP
 have := blE_drop X a (X.length + 1) 0
 rw [show blE (X.length + 1) X a = blE (X.length + 1) X (a + 0) from rfl, this, blE_fuel (X := X.drop a) (X.length + 1) ((X.drop a).length + 1) 0 (by rw [List.length_drop]; omega) (by omega)]
theorem blP_app (B R : Bytes) : blP (B ++ R) B.length = (B.length + (blP R 0).1, (blP R 0).2) := by
 rw [blP_drop, List.drop_left' rfl]
theorem runL_line {L Y : Bytes} (hL : ∀ x ∈ L, x ≠ 10) (hY : Y = [] ∨ ∃ r, Y = 10 :: r) : runL notNl (47 :: 47 :: (L ++ Y)) 0 = L.length + 2 := by
 unfold runL
 have h : ∀ L : Bytes, (∀ x ∈ L, x ≠ 10) → ((L ++ Y).takeWhile notNl) = L := by
   intro L
   induction L with
   | nil =>
     intro _
     rcases hY with rfl | ⟨r, rfl⟩
     · rfl
     · rfl
   | cons x L ih =>
     intro hx
     have hx0 : notNl x = true := by
       unfold notNl
       refine decide_eq_true fun q => hx x (List.mem_cons_self ..) ?_
       exact UInt8.toNat_inj.1 q
     rw [List.cons_append, List.takeWhile_cons, if_pos hx0, ih fun y hy => hx y (List.mem_cons_of_mem _ hy)]
 have := h L hL
 show 0 + ((47 :: 47 :: (L ++ Y)).takeWhile notNl).length = _
 rw [List.takeWhile_cons, if_pos (by decide), List.takeWhile_cons, if_pos (by decide), this]
 simp
theorem bl_nil : blP [] 0 = (0, true) := blE_end (Nat.le_refl _)
theorem bl_sp {c : UInt8} {r : Bytes} (hc : c.toNat = 32 ∨ c.toNat = 10 ∨ c.toNat = 9) : blP (c :: r) 0 = ((blP r 0).1 + 1, (blP r 0).2) := by
 have h : blP (c :: r) 0 = blP (c :: r) 1 := by
   unfold blP
   rw [blE_sp (X := c :: r) (a := 0) (by simp) (show (atB (c :: r) 0).toNat = 32 ∨ (atB (c :: r) 0).toNat = 10 ∨ (atB (c :: r) 0).toNat = 9 from hc)]
   exact blE_fuel _ _ _ (by simp) (by simp; omega)
 rw [h, blP_drop, List.drop_one, List.tail_cons, Nat.add_comm]
theorem bl_line {L r : Bytes} (hL : ∀ x ∈ L, x ≠ 10) : blP (47 :: 47 :: (L ++ 10 :: r)) 0 = ((blP r 0).1 + (L.length + 3), (blP r 0).2) := by
 have h : blP (47 :: 47 :: (L ++ 10 :: r)) 0 = blP (47 :: 47 :: (L ++ 10 :: r)) (L.length + 2) := by
   unfold blP
   rw [blE_line (by simp) rfl rfl, runL_line hL (.inr ⟨r, rfl⟩)]
   exact blE_fuel _ _ _ (by simp; omega) (by simp; omega)
 have hd : (47 :: 47 :: (L ++ 10 :: r) : Bytes).drop (L.length + 2) = 10 :: r := by
   rw [List.drop_succ_cons, List.drop_succ_cons, List.drop_left' rfl]
 rw [h, blP_drop, hd, bl_sp (by decide)]
 simp only [Prod.mk.injEq, and_true]; omega
theorem bl_open {L : Bytes} (hL : ∀ x ∈ L, x ≠ 10) : blP (47 :: 47 :: L) 0 = ((47 :: 47 :: L : Bytes).length, true) := by
 unfold blP
 have := runL_line (L := L) (Y := []) hL (.inl rfl)
 rw [List.append_nil] at this
 rw [blE_line (by simp) rfl rfl, this, blE_end (by simp)]
 simp
theorem bl_rem {M r : Bytes} (hM : Lib.index (M ++ [42, 47]) [42, 47] = (M.length : Int)) : blP (47 :: 42 :: (M ++ 42 :: 47 :: r)) 0 = ((blP r 0).1 + (M.length + 4), (blP r 0).2) := by
 have hi : Lib.index ((47 :: 42 :: (M ++ 42 :: 47 :: r) : Bytes).drop (0 + 2)) [42, 47] = (M.length : Int) := by
   have := index_more (r := r) hM
   rw [List.append_assoc] at this
   exact this
 have h : blP (47 :: 42 :: (M ++ 42 :: 47 :: r)) 0 = blP (47 :: 42 :: (M ++ 42 :: 47 :: r)) (M.length + 4) := by
   unfold blP
   rw [blE_rem (by simp) rfl rfl (by omega), hi, Int.toNat_natCast, Nat.zero_add]
   exact blE_fuel _ _ _ (by simp; omega) (by simp; omega)
 have hd : (47 :: 42 :: (M ++ 42 :: 47 :: r) : Bytes).drop (M.length + 4) = r := by
   rw [List.drop_succ_cons, List.drop_succ_cons, show M ++ 42 :: 47 :: r = (M ++ [42, 47]) ++ r by simp, List.drop_left' (by simp)]
 rw [h, blP_drop, hd]
 simp only [Prod.mk.injEq, and_true]; omega
def Starts (X : Bytes) : Prop := X ≠ [] ∧ ¬ ((atB X 0).toNat = 32 ∨ (atB X 0).toNat = 10 ∨ (atB X 0).toNat = 9) ∧ ¬ ((atB X 0).toNat = 47 ∧ ((atB X 1).toNat = 47 ∨ (atB X 1).toNat = 42))
theorem Starts.bl {X : Bytes} (h : Starts X) : blP X 0 = (0, true) := by
 obtain ⟨h0, h1, h2⟩ := h
 unfold blP
 exact blE_other (List.length_pos_iff.2 h0) h1 (fun q => h2 ⟨q.1, .inl q.2⟩) (fun q => h2 ⟨q.1, .inr q.2⟩)
inductive BlC : Bytes → Prop
  | nil : BlC []
  | sp {c : UInt8} {B : Bytes} (hc : c.toNat = 32 ∨ c.toNat = 10 ∨ c.toNat = 9) (h : BlC B) : BlC (c :: B)
  | line {L B : Bytes} (hL : ∀ x ∈ L, x ≠ 10) (h : BlC B) : BlC (47 :: 47 :: (L ++ 10 :: B))
  | rem {M B : Bytes} (hM : Lib.index (M ++ [42, 47]) [42, 47] = (M.length : Int)) (h : BlC B) : BlC (47 :: 42 :: (M ++ 42 :: 47 :: B))
def BlO (B : Bytes) : Prop := BlC B ∨ ∃ C L, BlC C ∧ B = C ++ 47 :: 47 :: L ∧ ∀ x ∈ L, x ≠ 10
theorem BlC.skip {B : Bytes} (h : BlC B) (R : Bytes) : blP (B ++ R) 0 = (B.length + (blP R 0).1, (blP R 0).2) := by
 induction h with
 | nil => rw [List.nil_append, List.length_nil, Nat.zero_add]
 | sp hc _ ih => rw [List.cons_append, bl_sp hc, ih, List.length_cons]; simp only [Prod.mk.injEq, and_true]; omega
 | line hL _ ih =>
   rename_i L B _
   rw [show (47 :: 47 :: (L ++ 10 :: B)) ++ R = 47 :: 47 :: (L ++ 10 :: (B ++ R)) by simp, bl_line hL, ih]
   simp only [Prod.mk.injEq, and_true, List.length_cons, List.length_append]; omega
 | rem hM _ ih =>
   rename_i M B _
   rw [show (47 :: 42 :: (M ++ 42 :: 47 :: B)) ++ R = 47 :: 42 :: (M ++ 42 :: 47 :: (B ++ R)) by simp, bl_rem hM, ih]
   simp only [Prod.mk.injEq, and_true, List.length_cons, List.length_append]; omega
theorem BlC.all {B : Bytes} (h : BlC B) : blP B 0 = (B.length, true) := by
 have := h.skip []
 rw [List.append_nil, bl_nil] at this
 exact this
theorem BlC.app {B C : Bytes} (h : BlC B) (k : BlC C) : BlC (B ++ C) := by
 induction h with
 | nil => exact k
 | sp hc _ ih => exact .sp hc ih
 | line hL _ ih => rename_i L B _; rw [show (47 :: 47 :: (L ++ 10 :: B)) ++ C = 47 :: 47 :: (L ++ 10 :: (B ++ C)) by simp]; exact .line hL ih
 | rem hM _ ih => rename_i M B _; rw [show (47 :: 42 :: (M ++ 42 :: 47 :: B)) ++ C = 47 :: 42 :: (M ++ 42 :: 47 :: (B ++ C)) by simp]; exact .rem hM ih
theorem BlO.all {B : Bytes} (h : BlO B) : blP B 0 = (B.length, true) := by
 rcases h with h | ⟨C, L, hC, rfl, hL⟩
 · exact h.all
 · rw [hC.skip, bl_open hL, List.length_append]
inductive Toks (X : Bytes) : Nat → List Tok → Prop
  | fin {a : Nat} (h : blP X a = (X.length, true)) : Toks X a [⟨0, X.length, [], 0⟩]
  | tok {a b tz n : Nat} {k : Int} {t : Bytes} {m : List Tok} (h : blP X a = (b, true)) (hb : b < X.length) (ht : tokR X b = .tok k t n tz) (hm : Toks X tz m) : Toks X a (⟨k, b, t, n⟩ :: m)
inductive Bad (X : Bytes) : Nat → Nat → Int → Prop
  | bl {a b : Nat} (h : blP X a = (b, false)) : Bad X a b 52
  | here {a b : Nat} {e : Int} (h : blP X a = (b, true)) (hb : b < X.length) (ht : tokR X b = .bad e) : Bad X a b e
  | tok {a b tz n p : Nat} {k e : Int} {t : Bytes} (h : blP X a = (b, true)) (hb : b < X.length) (ht : tokR X b = .tok k t n tz) (hm : Bad X tz p e) : Bad X a p e
theorem tok_det {k k' : Int} {t t' : Bytes} {n n' a b : Nat} (h : TokR.tok k t n a = .tok k' t' n' b) : k = k' ∧ t = t' ∧ n = n' ∧ a = b := by injection h with h1 h2 h3 h4; exact ⟨h1, h2, h3, h4⟩
end Go.Proofs.YtnhmmjogfkjceaaGreatDoor
namespace Go.Proofs.YtnhmmjogfkjceaaGreatDoor
open Go.Sl
def Tok.mv (a : Nat) (t : Tok) : Tok := ⟨t.kind, a + t.pos, t.text, t.num⟩
theorem TokR.shift_shift (a b : Nat) (r : TokR) : (r.shift b).shift a = r.shift (a + b) := by cases r with | bad => rfl | tok => simp [TokR.shift, Nat.add_assoc]
theorem tokR_shift {Y : Bytes} {a p : Nat} (h : a + p < Y.length) : tokR Y (a + p) = (tokR (Y.drop a) p).shift a := by
 rw [tokR_drop h, tokR_drop (X := Y.drop a) (a := p) (by rw [List.length_drop]; omega), List.drop_drop, TokR.shift_shift]
theorem blP_shift (Y : Bytes) (a p : Nat) : blP Y (a + p) = (a + (blP (Y.drop a) p).1, (blP (Y.drop a) p).2) := by
 rw [blP_drop Y (a + p), blP_drop (Y.drop a) p, List.drop_drop]; simp only [Prod.mk.injEq, and_true]; omega
theorem Toks.mv {Y : Bytes} {a p : Nat} {m : List Tok} (ha : a ≤ Y.length) (h : Toks (Y.drop a) p m) : Toks Y (a + p) (m.map (Tok.mv a)) := by
 induction h with
 | fin h =>
   have e : Tok.mv a ⟨0, (Y.drop a).length, [], 0⟩ = ⟨0, Y.length, [], 0⟩ := by unfold Tok.mv; rw [List.length_drop, show a + (Y.length - a) = Y.length by omega]
   rw [List.map_cons, List.map_nil, e]
   refine .fin ?_
   rw [blP_shift, h, List.length_drop, show a + (Y.length - a) = Y.length by omega]
 | @tok p b tz n k t m h hb ht _ ih =>
   rw [List.length_drop] at hb
   refine .tok (b := a + b) (tz := a + tz) (by rw [blP_shift, h]) (by omega) ?_ ih
   rw [tokR_shift (by omega), ht]; rfl
theorem Bad.mv {Y : Bytes} {a p q : Nat} {e : Int} (ha : a ≤ Y.length) (h : Bad (Y.drop a) p q e) : Bad Y (a + p) (a + q) e := by
 induction h with
 | bl h => exact .bl (by rw [blP_shift, h])
 | here h hb ht =>
   rw [List.length_drop] at hb
   exact .here (by rw [blP_shift, h]) (by omega) (by rw [tokR_shift (by omega), ht]; rfl)
 | @tok p b tz n q k e t h hb ht _ ih =>
   rw [List.length_drop] at hb
   exact .tok (b := a + b) (tz := a + tz) (by rw [blP_shift, h]) (by omega) (by rw [tokR_shift (by omega), ht]; rfl) ih
theorem Toks.start {X : Bytes} {a b : Nat} {m : List Tok} (h : Toks X a m) (e : blP X b = blP X a) : Toks X b m := by
 cases h with
 | fin h => exact .fin (e.trans h)
 | tok h hb ht hm => exact .tok (e.trans h) hb ht hm
theorem Bad.start {X : Bytes} {a b p : Nat} {d : Int} (h : Bad X a p d) (e : blP X b = blP X a) : Bad X b p d := by
 cases h with
 | bl h => exact .bl (e.trans h)
 | here h hb ht => exact .here (e.trans h) hb ht
 | tok h hb ht hm => exact .tok (e.trans h) hb ht hm
theorem Toks.head {X : Bytes} {a : Nat} {m : List Tok} (h : Toks X a m) : ∃ u r, m = u :: r ∧ blP X a = (u.pos, true) := by
 cases h with
 | fin h => exact ⟨_, _, rfl, h⟩
 | tok h hb ht hm => exact ⟨_, _, rfl, h⟩
theorem Toks.skip {B W : Bytes} {m : List Tok} (hB : BlC B) (h : Toks W 0 m) : ∃ m', Toks (B ++ W) 0 (m.map (Tok.mv B.length)) ∧ m' = m := by
 refine ⟨m, ?_, rfl⟩
 have h1 := Toks.mv (Y := B ++ W) (a := B.length) (p := 0) (by simp) (by rw [List.drop_left' rfl]; exact h)
 rw [Nat.add_zero] at h1
 refine h1.start ?_
 rw [hB.skip, blP_app]
theorem tok_le {X t : Bytes} {b tz n : Nat} {k : Int} (hb : b < X.length) (ht : tokR X b = .tok k t n tz) : tz ≤ X.length := by
 rcases tokR_cases hb with ⟨e, he, _⟩ | ⟨_, _, _, _, he, _, h1, _⟩
 · rw [ht] at he; cases he
 · rw [ht] at he; obtain ⟨_, _, _, rfl⟩ := tok_det he; exact h1
theorem Toks.last {X : Bytes} {a : Nat} {l : List Tok} (h : Toks X a l) : ∃ n, l.length = n + 1 ∧ l[n]? = some ⟨0, X.length, [], 0⟩ := by
 induction h with
 | fin h => exact ⟨0, rfl, rfl⟩
 | tok h hb ht _ ih => obtain ⟨n, h1, h2⟩ := ih; exact ⟨n + 1, by rw [List.length_cons, h1], h2⟩
structure Tiles (X : Bytes) (t u : Tok) : Prop where
  kind : 1 ≤ t.kind ∧ t.kind ≤ 5
  pos : t.pos < u.pos
  inn : u.pos ≤ X.length
  fits : t.kind ≠ 3 → t.kind ≠ 4 → t.pos + t.text.length ≤ u.pos
  said : t.kind ≠ 3 → t.kind ≠ 4 → (X.take (t.pos + t.text.length)).drop t.pos = t.text
  gap : t.kind ≠ 3 → t.kind ≠ 4 → BlO ((X.take u.pos).drop (t.pos + t.text.length))
end Go.Proofs.YtnhmmjogfkjceaaGreatDoor
namespace Go.Proofs.YtnhmmjogfkjceaaGreatDoor
open Go.Sl
theorem words_join : wordsB = wordsL.flatMap (fun w => 32 :: w) ++ [32] := by decide +kernel
theorem words_plain : ∀ w ∈ wordsL, ∀ c ∈ w, c ≠ 32 := by decide +kernel
theorem split_uniq {c : UInt8} : ∀ {s t a b : Bytes}, (∀ x ∈ s, x ≠ c) → (∀ x ∈ t, x ≠ c) → s ++ c :: a = t ++ c :: b → s = t
 | [], [], _, _, _, _, _ => rfl
 | [], y :: t, _, _, _, h2, h => by
   rw [List.nil_append, List.cons_append] at h
   injection h with h3
   exact absurd h3.symm (h2 y (List.mem_cons_self ..))
 | x :: s, [], _, _, h1, _, h => by
   rw [List.nil_append, List.cons_append] at h
   injection h with h3
   exact absurd h3 (h1 x (List.mem_cons_self ..))
 | x :: s, y :: t, _, _, h1, h2, h => by
   rw [List.cons_append, List.cons_append] at h
   injection h with h3 h4
   rw [h3, split_uniq (fun z hz => h1 z (List.mem_cons_of_mem _ hz)) (fun z hz => h2 z (List.mem_cons_of_mem _ hz)) h4]
theorem join_mem {t : Bytes} (ht : ∀ c ∈ t, c ≠ 32) : ∀ {ws : List Bytes} {a b : Bytes}, (∀ w ∈ ws, ∀ c ∈ w, c ≠ 32) → ws.flatMap (fun w => 32 :: w) ++ [32] = a ++ (32 :: (t ++ 32 :: b)) → t ∈ ws
 | [], a, b, _, h => by
   have := congrArg List.length h
   simp at this
   omega
 | w :: ws, a, b, hw, h => by
   obtain ⟨J, hJ⟩ : ∃ J, ws.flatMap (fun w => 32 :: w) ++ [32] = 32 :: J := by
     cases ws with
     | nil => exact ⟨[], rfl⟩
     | cons v ws => exact ⟨v ++ (ws.flatMap (fun w => 32 :: w) ++ [32]), by simp⟩
   have e : (w :: ws).flatMap (fun w => 32 :: w) ++ [32] = 32 :: (w ++ 32 :: J) := by
     rw [List.flatMap_cons, List.append_assoc, hJ]; rfl
   rw [e] at h
   cases a with
   | nil =>
     rw [List.nil_append] at h
     injection h with _ h2
     rw [split_uniq (hw w (List.mem_cons_self ..)) ht h2]
     exact List.mem_cons_self ..
   | cons x a =>
     rw [List.cons_append] at h
     injection h with _ h2
     rcases List.append_eq_append_iff.1 h2 with ⟨c, h3, h4⟩ | ⟨c, h3, h4⟩
     · refine List.mem_cons_of_mem _ (join_mem ht (a := c) (b := b) (fun v hv => hw v (List.mem_cons_of_mem _ hv)) ?_)
       rw [hJ]; exact h4
     · cases c with
       | nil =>
         refine List.mem_cons_of_mem _ (join_mem ht (a := []) (b := b) (fun v hv => hw v (List.mem_cons_of_mem _ hv)) ?_)
         rw [hJ]; exact h4.symm
       | cons y c =>
         rw [List.cons_append] at h4
         injection h4 with h5 _
         exact absurd h5.symm (hw w (List.mem_cons_self ..) y (by rw [h3]; simp))
theorem kept_mem {t : Bytes} (ht : ∀ c ∈ t, c ≠ 32) (h : Lib.contains wordsB ([32] ++ t ++ [32]) = true) : t ∈ wordsL := by
 have h1 : 0 ≤ Lib.index wordsB ([32] ++ t ++ [32]) := of_decide_eq_true h
 obtain ⟨j, hj⟩ := Int.eq_ofNat_of_zero_le h1
 have h2 := occ_split hj
 refine join_mem ht (ws := wordsL) (a := wordsB.take j) (b := wordsB.drop (j + ([32] ++ t ++ [32]).length)) words_plain ?_
 rw [← words_join]
 refine h2.trans ?_
 simp
abbrev aliveA : Bytes := [97, 62, 62, 62, 61, 48, 120, 49, 70, 59]
abbrev aliveB : Bytes := [97, 32, 47, 42, 32, 98]
theorem alive_A : scanP aliveA = .good [⟨1, 0, [97], 0⟩, ⟨5, 1, [62, 62, 62, 61], 0⟩, ⟨3, 5, [], 4629418941960159232⟩, ⟨5, 9, [59], 0⟩, ⟨0, 10, [], 0⟩] := by kernel_rfl
theorem alive_B : scanP aliveB = .bad 2 52 := by kernel_rfl
end Go.Proofs.YtnhmmjogfkjceaaGreatDoor
namespace Go.Proofs.YtnhmmjogfkjceaaGreatDoor
open Go.Sl
def eqT (k k' a a' : Int) (s s' : Bytes) (m m' : Int) : Bool := k == k' && (a == a' && (decide (s = s') && m == m'))
theorem eqTok (k k' a a' : Int) (s s' : Bytes) (m m' : Int) (w : World) : (Op.equalIn 10000 46 (.agg #[.int .i64 k, .int .i64 a, .string (bS s), .int .u64 m]) (.agg #[.int .i64 k', .int .i64 a', .string (bS s'), .int .u64 m'])).run Tryz.prog w = .ok (eqT k k' a a' s s' m m') w := by
 have u1 := Tryz.underlying3
 have a1 := Tryz.isAgg3
 have z1 := Tryz.sizeOf3
 have u2 := Tryz.underlying9
 have a2 := Tryz.isAgg9
 have z2 := Tryz.sizeOf9
 have u3 := Tryz.underlying29
 have a3 := Tryz.isAgg29
 have z3 := Tryz.sizeOf29
 rw [show (10000 : Nat) = 9999 + 1 from rfl, run_equalIn_agg w 9999 46 _ _ (by kernel_rfl) (by kernel_rfl)]
 simp only [Program.fieldsOf, Tryz.underlying46]
 go_simp
 unfold eqT
 have hs : ((bS s).toList == (bS s').toList) = decide (s = s') := strB_eq s s'
 by_cases h1 : k = k' <;> by_cases h2 : a = a' <;> by_cases h3 : s = s' <;> by_cases h4 : m = m' <;> simp [h1, h2, h3, h4, hs] <;> first | exact h3 | (simp at hs; simp_all)
theorem neqT {ρ : Fr} {x y : Operand} {dst : Option Tmp} {t2 ty : TypeId} {pos : String} {after : Array Edge} {gd : Option (Nat × Bool)} {k k' a a' m m' : Int} {s s' : Bytes} (hx : ∀ δ, ev δ ρ x = .agg #[.int .i64 k, .int .i64 a, .string (bS s), .int .u64 m] := by exact fun _ => rfl) (hy : ∀ δ, ev δ ρ y = .agg #[.int .i64 k', .int .i64 a', .string (bS s'), .int .u64 m'] := by exact fun _ => rfl) :
   ∀ δ w, (execOp (ev δ ρ) ⟨dst, .binOp .neq 46 x y t2, ty, pos, after, gd⟩).run Tryz.prog w = .ok (.value (.bool (!eqT k k' a a' s s' m m'))) w := by
 intro δ w
 simp only [execOp, hx, hy]
 rw [Sem.run_bind, Sem.run_bind, run_eqGuard_agg _ _ _ _ _ _ _ (by kernel_rfl), Result.andThen_ok, run_neq_struct, eqTok]
 rfl
theorem eqlT {ρ : Fr} {x y : Operand} {dst : Option Tmp} {t2 ty : TypeId} {pos : String} {after : Array Edge} {gd : Option (Nat × Bool)} {k k' a a' m m' : Int} {s s' : Bytes} (hx : ∀ δ, ev δ ρ x = .agg #[.int .i64 k, .int .i64 a, .string (bS s), .int .u64 m] := by exact fun _ => rfl) (hy : ∀ δ, ev δ ρ y = .agg #[.int .i64 k', .int .i64 a', .string (bS s'), .int .u64 m'] := by exact fun _ => rfl) :
   ∀ δ w, (execOp (ev δ ρ) ⟨dst, .binOp .eql 46 x y t2, ty, pos, after, gd⟩).run Tryz.prog w = .ok (.value (.bool (eqT k k' a a' s s' m m'))) w := by
 intro δ w
 simp only [execOp, hx, hy]
 rw [Sem.run_bind, Sem.run_bind, run_eqGuard_agg _ _ _ _ _ _ _ (by kernel_rfl), Result.andThen_ok, run_eql_struct, eqTok]
 rfl
theorem eqT_same (k a m : Int) (s : Bytes) : eqT k k a a s s m m = true := by unfold eqT; simp
theorem strNums (m : Bytes) : strOfNums (m.map fun c => (c.toNat : Int)) = bS m := by
 have h : (m.map fun c : UInt8 => (c.toNat : Int)).map (fun n => UInt8.ofNat n.toNat) = m := by
   rw [List.map_map]
   conv => rhs; rw [← List.map_id m]
   refine List.map_congr_left fun c _ => ?_
   show UInt8.ofNat ((c.toNat : Int).toNat) = c
   rw [Int.toNat_natCast, UInt8.ofNat_toNat]
 unfold strOfNums
 rw [h]
theorem O_bytesG {P : Program} {W0 : World} {n : Nat} {Q : SQ} {ρ : Fr} {σ : Heaplet} {K : Fr → Heaplet → Prop} (g : Gs) (m : Bytes) {dst : Option Tmp} {src dt ty e : TypeId} {x : Operand} {pos : String} {after : Array Edge} {gd : Option (Nat × Bool)}
   (hk : g.ok 1 m.length (m.map u8V)) (hm : m ≠ []) (hin : ∀ z ∈ g.ent e 1 (m.map u8V), z ∈ σ)
   (hs : P.underlying src = some (.slice e)) (he : P.underlying e = some (.int .u8)) (hd : P.underlying dt = some .string)
   (hx : ∀ δ, ev δ ρ x = g.val m.length) (hdst : dstOk n dst = true) (h : K (putF ρ dst (.string (bS m))) σ) : SO P W0 n Q ⟨dst, .convert src dt x, ty, pos, after, gd⟩ ρ σ K := by
 have hl := List.length_pos_iff.2 hm
 have hsrc := (Gs.src (W0 := W0) hk hin).resolve_left (by omega)
 obtain ⟨b, off, ha, hc⟩ := hsrc
 rw [← strNums] at h
 refine O_bytes (m.map fun c => (c.toNat : Int)) b off g.cap hs he hd ?_ (fun δ => ?_) hdst h
 · rw [List.map_map]; exact hc
 · rw [hx, List.length_map]; unfold Gs.val; rw [ha]
section
variable {q : UInt8} {s m : Bytes} {how : List Bool} {i : Nat} {e d1 d2 : UInt8}
end
theorem Toks.len {X : Bytes} {a : Nat} {l : List Tok} (h : Toks X a l) (ha : a ≤ X.length) : l.length + a ≤ X.length + 1 := by
 induction h with
 | fin h => simp; omega
 | @tok a b z n k t m h hb ht _ ih =>
   have h1 := ih (tok_le hb ht)
   have g2 := blP_ge X a
   rw [h] at g2
   simp only [] at g2
   rcases tokR_cases hb with ⟨e, he, _⟩ | ⟨_, _, _, _, he, g1, _⟩
   · rw [ht] at he; cases he
   · rw [ht] at he
     obtain ⟨_, _, _, rfl⟩ := tok_det he
     rw [List.length_cons]; omega
abbrev aliveL : List Tok := [⟨1, 0, [97], 0⟩, ⟨5, 1, [62, 62, 62, 61], 0⟩, ⟨3, 5, [], 4629418941960159232⟩, ⟨5, 9, [59], 0⟩, ⟨0, 10, [], 0⟩]
theorem cell_own {W0 : World} {σ : Heaplet} {b off : Nat} {v : Value} {e : TypeId} {N : Nat} {cs : List Value} (h : (b, Blk.cells e N cs) ∈ σ) (hv : cs[off]? = some v) : Cell W0 σ b off v := Cell.own h hv
theorem words_n : wordsL.length = 26 := by decide +kernel
theorem kept_step {X x : Bytes} {i : Nat} (h : ∀ y ∈ wordsL.take i, y ≠ X) (hx : wordsL[i]? = some x) (hn : ¬ x = X) : ∀ y ∈ wordsL.take (i + 1), y ≠ X := by
 intro y hy
 rw [List.take_add_one, hx] at hy
 rcases List.mem_append.1 hy with q | q
 · exact h y q
 · rw [show y = x by simpa using q]; exact hn
theorem kept_no {X : Bytes} {i : Nat} (hi : ¬ i < 26) (h : ∀ y ∈ wordsL.take i, y ≠ X) : ¬ X ∈ wordsL := fun q => h X (by rw [List.take_of_length_le (by rw [words_n]; omega)]; exact q) rfl
section
variable {X bs x N : Bytes} {l : List Tok} {i : Nat} {t u : Tok}
end
end Go.Proofs.YtnhmmjogfkjceaaGreatDoor
namespace Go.Proofs.YtnhmmjogfkjceaaGreatDoor
open Go.Sl Go.ChangeShapes Go.WideShapes Go.ChangeAt Go.RowKit Go.Deep
abbrev laidLex : List (String × DataW Unit) := [("unicode/utf8.acceptRanges", Rows.laid_unicode_utf8_acceptRanges), ("unicode.White_Space", Rows.laid_unicode_White_Space), ("strings.asciiSpace", Rows.laid_strings_asciiSpace), ("unicode/utf8.first", Rows.laid_unicode_utf8_first)]
theorem laid_lex {W : World} (h : laidMet Tryz.prog laidLex W) (hs : W.ShapedOpen Tryz.prog) : LaidL W := by
 obtain ⟨ps, h, _⟩ := h
 obtain ⟨q1, h1⟩ := laidVars_drop (l1 := [("unicode/utf8.acceptRanges", Rows.laid_unicode_utf8_acceptRanges), ("unicode.White_Space", Rows.laid_unicode_White_Space)]) (l2 := [("strings.asciiSpace", Rows.laid_strings_asciiSpace), ("unicode/utf8.first", Rows.laid_unicode_utf8_first)]) h
 have ht : Lib.TabIs Tryz.prog W "strings.asciiSpace" .u8 Lib.asciiSpaceTab := laid_tab (g := 3) (t := 164) (by kernel_rfl) (by kernel_rfl) Tryz.underlying164 Tryz.underlying5 (by kernel_rfl) (by kernel_rfl) h1
 obtain ⟨m, hm⟩ := Tryz.laysM143.s1_3 W hs
 exact ⟨⟨m, fun w hb => cell_below hb hm⟩, fun w hb => var_below hb ht⟩
noncomputable def laidWorld (os : Os) : World :=
  let w0 := World.holding Tryz.prog os ⟨#[.cells #[.slice (some ⟨lowW + 1, 0, none⟩) 7 7, .slice none 0 0, .int .i64 2] 203, .cells ((spaceRows Rows.laid_unicode_White_Space).flatMap flatCells).toArray 206], #[], []⟩
  { w0 with heap := putG (putG (putG (putG w0.heap 8 (flatCells Rows.laid_unicode_utf8_acceptRanges).toArray) 3 (flatCells Rows.laid_strings_asciiSpace).toArray) 7 (flatCells Rows.laid_unicode_utf8_first).toArray) 6 #[.pointer (some ⟨lowW, 0, none⟩)] }
theorem laid_met (os : Os) (args : Array Value) : laidMet Tryz.prog laidLex ((laidWorld os).forCall (fun _ _ => 0) ⟨#[], args, []⟩).memory :=
 laidMet_of_run' 8 (by kernel_rfl) (by kernel_rfl)
end Go.Proofs.YtnhmmjogfkjceaaGreatDoor
namespace Go.Proofs.YtnhmmjogfkjceaaGreatDoor
open Go.Sl

theorem num_trim {W0 : World} {a : Gs} {l : List Int} (hl : LimOk l) (hk : Gs.ok 1 l.length a (l.map encP)) : SC Tryz.prog W0 121 #[a.val l.length] (Gs.ent 87 1 a (l.map encP)) (Ret (fun _ : Unit => Gs.ent 87 1 a ((lim (limV l)).map encP)) (fun v _ => v = a.val (lim (limV l)).length ∧ Gs.ok 1 (lim (limV l)).length a ((lim (limV l)).map encP))) := by
 refine SC_body (fn := Tryz.f121) (n := 21) Tryz.func121 rfl (by kernel_rfl) (ρ := [(0, Gs.val a l.length)]) rfl ?_
 refine SW_sig ((Gs.ent 87 1 a (l.map encP)) ++ ([])) (by simp only [List.append_nil, List.append_assoc]) ?_
 have hll_ : l.length ≤ maxLen := Nat.le_trans (Gs.ok.cap_le hk) (Gs.ok.cap_max hk)
 unfold maxLen at hll_
 have hcp_ : l.length ≤ a.cap := Gs.ok.cap_le hk
 refine sr ?_
 refine os 1 ?_
 refine nq ?_
 refine SW_block ?_
 refine SW_loop (α := Nat) (fun z_ ρ_ σ_ => Fits ρ_ σ_ [(0, Gs.val a z_)] ((Gs.ent 87 1 a (l.map encP)) ++ ([])) ∧ z_ ≤ l.length ∧ limV (l.take z_) = limV l) (fun z_ => z_) l.length ⟨⟨fun _ => rfl, ow⟩, Nat.le_refl _, by rw [List.take_length]⟩ ?_
 rintro j ρ_ σ_ ⟨hfit, hi0, hi1⟩
 refine SW_fits hfit ?_
 clear hfit
 refine SW_seq ?_
 refine sr ?_
 refine os 4 ?_
 refine tbp 6 (fun hg1 => ?_) (fun hg1 => ?_)
 ·replace hg1 : (j : Int) > 0 := hg1
  refine os 4 ?_
  refine L (ixg ((j : Int) - 1) (j - 1) hk Tryz.underlying82 ?_)
  obtain ⟨e1, he1⟩ : ∃ y_, l[j - 1]? = some y_ := ⟨_, List.getElem?_eq_getElem (by omega)⟩
  refine L (ld ?_ (hc := Gs.cell hk (fun e he => (mem_h he)) (map_cell he1 rfl)))
  refine os 2 ?_
  refine kp [14, 0] ?_
  refine nt ?_
  refine cd (fun hc2 : (e1 == 0) = true => ?_) (fun hc2 => ?_)
  ·have hz0_ : l[j - 1]? = some 0 := by rw [show (0 : Int) = e1 from (by simpa using hc2 : e1 = 0).symm]; exact he1
   refine SW_skip (n_then ?_)
   refine SW_block ?_
   refine SW_region ?_
   refine os 4 ?_
   refine L (O_val (.slice (Gs.addr a) ((j : Int) - 1).toNat (Gs.cap a)) rfl (fun δ w _ => run_slice_to ((j : Int) - 1) (Gs.addr a) j (Gs.cap a) .i64 Tryz.underlying82 (by kernel_rfl) rfl rfl (by omega) (by omega)) ?_)
   rw [show ((j : Int) - 1).toNat = j - 1 from by omega]
   refine os 1 ?_
   refine kp [0, 14] ?_
   refine SL_nil (n_in (n_then ?_))
   exact ⟨j - 1, by omega, ⟨fun _ => rfl, ow⟩, by omega, by rw [← limV_take (n := j - 1) (by omega) (by rw [show j - 1 = j - 1 from rfl]; exact hz0_), show j - 1 + 1 = j by omega]; exact hi1⟩
  refine SW_exit (x_then (x_then (x_in (n_then ?_))))
  refine sr ?_
  refine os 2 ?_
  refine nt ?_
  have htk_ : l.take j = lim (limV l) := lim_take hl hi0 hi1 (by first | (left; omega) | (right; exact ⟨_, he1, by simpa using hc2⟩))
  have hjl_ : (lim (limV l)).length = j := by rw [← htk_, List.length_take]; omega
  have hkn_ : Gs.ok 1 (lim (limV l)).length a ((lim (limV l)).map encP) := Gs.ok_less hk (by simp) (by omega)
  refine SW_sig (Gs.ent 87 1 a ((l.take j).map encP ++ (l.drop j).map encP) ++ ([])) (by rw [← List.map_append, List.take_append_drop]) ?_
  refine SW_weakG ?_
  rw [htk_]
  refine SW_ret ?_
  refine body_end (Gs.val a j) (fun _ => rfl) ?_
  exact ⟨(), ow, by rw [hjl_], hkn_⟩
 replace hg1 : ¬ ((j : Int) > 0) := hg1
 refine os 8 ?_
 refine kp [14, 0] ?_
 refine nt ?_
 refine cf ?_
 refine SW_exit (x_then (x_then (x_in (n_then ?_))))
 refine sr ?_
 refine os 2 ?_
 refine nt ?_
 have htk_ : l.take j = lim (limV l) := lim_take hl hi0 hi1 (.inl (by omega))
 have hjl_ : (lim (limV l)).length = j := by rw [← htk_, List.length_take]; omega
 have hkn_ : Gs.ok 1 (lim (limV l)).length a ((lim (limV l)).map encP) := Gs.ok_less hk (by simp) (by omega)
 refine SW_sig (Gs.ent 87 1 a ((l.take j).map encP ++ (l.drop j).map encP) ++ ([])) (by rw [← List.map_append, List.take_append_drop]) ?_
 refine SW_weakG ?_
 rw [htk_]
 refine SW_ret ?_
 refine body_end (Gs.val a j) (fun _ => rfl) ?_
 exact ⟨(), ow, by rw [hjl_], hkn_⟩

theorem num_times {W0 : World} {a : Gs} {a0 n more : Nat} (hk : Gs.ok 1 (lim a0).length a ((lim a0).map encP)) (hs : (lim a0).length ≤ 1048576) (hn : n < 4294967296) (hm : more < 4294967296) : SC Tryz.prog W0 72 #[a.val (lim a0).length, .int .u32 (n : Int), .int .u32 (more : Int)] (Gs.ent 87 1 a ((lim a0).map encP)) (Ret (fun g : Gs => Gs.ent 87 1 g ((lim (a0 * n + more)).map encP) ++ Gs.ent 87 1 a ((lim a0).map encP)) (fun v g => v = g.val (lim (a0 * n + more)).length ∧ Gs.ok 1 (lim (a0 * n + more)).length g ((lim (a0 * n + more)).map encP))) := by
 refine SC_body (fn := Tryz.f72) (n := 44) Tryz.func72 rfl (by kernel_rfl) (ρ := [(0, Gs.val a ((lim a0).length)), (1, .int .u32 (n : Int)), (2, .int .u32 (more : Int))]) rfl ?_
 refine SW_sig ((Gs.ent 87 1 a ((lim a0).map encP)) ++ ([])) (by simp only [List.append_nil, List.append_assoc]) ?_
 refine sr ?_
 refine os 1 ?_
 refine nsr ?_
 refine os 3 ?_
 refine L (O_make2 (bytes := 4) 0 ((((((lim a0).length : Nat)) : Int) + 1).toNat) (.int .u32 0) (fun _ => rfl) (fun _ => rfl) Tryz.underlying82 (by kernel_rfl) rfl (by omega) (by omega) (by omega) rfl ?_)
 intro b1 hlb1 hnb1
 refine SL_weakG ?_
 have hmkb1 : Gs.ok 1 0 (Gs.at b1 ((((((lim a0).length : Nat)) : Int) + 1).toNat)) (([] : List Int).map encP) := Gs.ok_cap (by simp) (by omega) (by unfold maxLen; omega)
 refine SL_sig ((Gs.ent 87 1 (Gs.at b1 ((((((lim a0).length : Nat)) : Int) + 1).toNat)) (([] : List Int).map encP)) ++ ((Gs.ent 87 1 a ((lim a0).map encP)) ++ ([]))) (by rw [show (([] : List Int).map encP) = List.replicate 0 (.int .u32 0) from by simp]) ?_
 refine os 1 ?_
 refine kp [7, 6, 0, 1, 2] ?_
 refine nsr ?_
 refine os 3 ?_
 refine nq ?_
 refine sr ?_
 refine os 3 ?_
 refine nt ?_
 refine SW_block ?_
 refine SW_loop (α := Nat × Gs × List Int × Int) (fun z_ ρ_ σ_ => Fits ρ_ σ_ [(1, .int .u32 (n : Int)), (17, Gs.val a ((lim a0).length)), (18, .int .i64 ((((lim a0).length : Nat)) : Int)), (7, Gs.val z_.2.1 z_.2.2.1.length), (8, .int .u64 z_.2.2.2), (19, .int .i64 (z_.1 : Int))] ((Gs.ent 87 1 z_.2.1 (z_.2.2.1.map encP)) ++ ((Gs.ent 87 1 a ((lim a0).map encP)) ++ ([]))) ∧ z_.1 ≤ (lim a0).length ∧ Gs.ok 1 z_.2.2.1.length z_.2.1 (z_.2.2.1.map encP) ∧ (z_.2.2.1.length = z_.1 ∧ LimOk z_.2.2.1 ∧ (0 ≤ z_.2.2.2 ∧ z_.2.2.2 < 4294967296)) ∧ limV z_.2.2.1 + 4294967296 ^ z_.1 * z_.2.2.2.toNat = limV ((lim a0).take z_.1) * n + more) (fun z_ => (lim a0).length - z_.1) (0, (Gs.at b1 ((((((lim a0).length : Nat)) : Int) + 1).toNat)), ([] : List Int), (more : Int)) ⟨⟨fun _ => rfl, ow⟩, Nat.zero_le _, hmkb1, ⟨rfl, (fun x hx => by cases hx), (show 0 ≤ (more : Int) ∧ (more : Int) < 4294967296 from by omega)⟩, by simp [limV]⟩ ?_
 rintro ⟨i, b, ys, c⟩ ρ_ σ_ ⟨hfit, hi0, hi1, hi2, hi3⟩
 refine SW_fits hfit ?_
 clear hfit
 simp only [] at hi0 hi1 hi2 hi3 ⊢
 obtain ⟨hyl, hyo, hc⟩ := hi2
 refine sr ?_
 refine os 1 ?_
 refine nq ?_
 refine cdp (fun hc2 : (i : Int) < ((((lim a0).length : Nat)) : Int) => ?_) (fun hc2 => ?_)
 ·refine SW_skip (n_then ?_)
  refine SW_seq ?_
  refine SW_block ?_
  refine sr ?_
  refine L (ixg (i : Int) (i) hk Tryz.underlying82 ?_)
  obtain ⟨e1, he1⟩ : ∃ y_, (lim a0)[i]? = some y_ := ⟨_, List.getElem?_eq_getElem (by omega)⟩
  refine L (ld ?_ (hc := Gs.cell hk (fun e he => (mem_a (mem_h he))) (map_cell he1 rfl)))
  refine os 1 ?_
  refine nq ?_
  have heo_ := lim_ok a0 _ (List.mem_of_getElem? he1)
  have hmu_ := times_mul heo_ hn
  refine SW_region ?_
  refine os 8 ?_
  refine kp [8, 10, 20, 1, 17, 18, 7, 19] ?_
  refine nsr ?_
  refine os 2 ?_
  refine oV (.int .u32 (IntKind.wrap .u32 (c + (e1 * (n : Int))))) ?_
  refine L (nws 87 1 1 [.int .u32 (IntKind.wrap .u32 (c + (e1 * (n : Int))))] ?_)
  intro b3
  refine SL_perm _ (perm_cc perm_cz) ?_
  refine L (O_append (size := 1) (bytes := 4) (z := .int .u32 0) b ys.length 1 (some ⟨b3, 0, none⟩) 1 (ys.map encP) ([.int .u32 (IntKind.wrap .u32 (c + (e1 * (n : Int))))]) ((ys ++ [IntKind.wrap .u32 (c + (e1 * (n : Int)))]).map encP) (map_snoc _ (IntKind.wrap .u32 (c + (e1 * (n : Int)))) rfl) (fun _ => rfl) (fun _ => rfl) Tryz.underlying82 (by kernel_rfl) rfl (by decide) hi1 rfl (.inr ⟨b3, 0, rfl, Cells.own (mem_a mem_z) rfl⟩) rfl (by omega) (by decide) rfl ?_)
  intro s4 hks4 hfs4
  rw [show ys.length + 1 = (ys ++ [IntKind.wrap .u32 (c + (e1 * (n : Int)))]).length from by first | (simp; done) | (simp; omega)]
  rw [show ys.length + 1 = (ys ++ [IntKind.wrap .u32 (c + (e1 * (n : Int)))]).length from by first | (simp; done) | (simp; omega)] at hks4
  have hls4 : (ys ++ [IntKind.wrap .u32 (c + (e1 * (n : Int)))]).length = ys.length + 1 := by first | (simp; done) | (simp; omega)
  refine os 1 ?_
  refine kp [7, 8, 10, 20, 1, 17, 18, 19] ?_
  refine nr ?_
  refine os 1 ?_
  refine oX (.int .u64 (Int.fdiv (c + (e1 * (n : Int))) 4294967296)) (.int .u64 ((c + (e1 * (n : Int))) / 4294967296)) (congrArg (Value.int .u64) (Int.fdiv_eq_ediv_of_nonneg _ (by omega))) ?_
  refine os 1 ?_
  refine SL_nil (n_in (n_then ?_))
  refine SW_region ?_
  refine os 2 ?_
  refine kp [19, 8, 7, 10, 20, 1, 17, 18] ?_
  refine nt ?_
  obtain ⟨q1_, q2_, q3_, q4_⟩ := times_body hyl hyo he1 heo_ hc hn hi3
  refine ⟨(i + 1, s4, (ys ++ [IntKind.wrap .u32 (c + (e1 * (n : Int)))]), (c + (e1 * (n : Int))) / 4294967296), by simp only []; omega, ?_⟩
  simp only []
  exact ⟨⟨fun _ => rfl, ow⟩, by omega, hks4, ⟨q1_, q2_, q3_⟩, q4_⟩
 refine SW_exit (x_then (x_then (x_in (n_then ?_))))
 refine sr ?_
 refine os 3 ?_
 refine L (nws 87 1 1 [.int .u32 c] ?_)
 intro b5
 refine SL_perm _ (perm_cc perm_cz) ?_
 refine L (O_append (size := 1) (bytes := 4) (z := .int .u32 0) b ys.length 1 (some ⟨b5, 0, none⟩) 1 (ys.map encP) ([.int .u32 c]) ((ys ++ [c]).map encP) (map_snoc _ c rfl) (fun _ => rfl) (fun _ => rfl) Tryz.underlying82 (by kernel_rfl) rfl (by decide) hi1 rfl (.inr ⟨b5, 0, rfl, Cells.own (mem_a mem_z) rfl⟩) rfl (by omega) (by decide) rfl ?_)
 intro s6 hks6 hfs6
 rw [show ys.length + 1 = (ys ++ [c]).length from by first | (simp; done) | (simp; omega)]
 rw [show ys.length + 1 = (ys ++ [c]).length from by first | (simp; done) | (simp; omega)] at hks6
 have hls6 : (ys ++ [c]).length = ys.length + 1 := by first | (simp; done) | (simp; omega)
 have hie_ : i = (lim a0).length := by omega
 rw [hie_] at hyl hi3
 obtain ⟨hto_, htv_⟩ := times_end (l := lim a0) hyl hyo hc hi3
 rw [lim_val] at htv_
 have hq_ := num_trim (W0 := W0) (l := (ys ++ [c])) hto_ hks6
 rw [htv_] at hq_
 refine L (cl (hq_) ?_)
 rintro _ _ ⟨rfl, hkt_⟩
 refine os 1 ?_
 refine kp [6, 20, 1, 17, 18, 7, 8, 19] ?_
 refine nt ?_
 refine SW_ret ?_
 refine body_end (Gs.val s6 ((lim (a0 * n + more)).length)) (fun _ => rfl) ?_
 exact ⟨s6, ow, rfl, hkt_⟩

end Go.Proofs.YtnhmmjogfkjceaaGreatDoor
namespace Go.Proofs.YtnhmmjogfkjceaaGreatDoor
open Go.Sl

theorem num_small {W0 : World} {n : Nat} (hn : n < 18446744073709551616) : SC Tryz.prog W0 93 #[.int .u64 (n : Int)] [] (Ret (fun g : Gs => Gs.ent 87 1 g ((lim n).map encP)) (fun v g => v = g.val (lim n).length ∧ Gs.ok 1 (lim n).length g ((lim n).map encP))) := by
 refine SC_body (fn := Tryz.f93) (n := 10) Tryz.func93 rfl (by kernel_rfl) (ρ := [(0, .int .u64 (n : Int))]) rfl ?_
 refine sr ?_
 refine os 1 ?_
 refine nsr ?_
 refine os 1 ?_
 refine oV (.int .u32 (IntKind.wrap .u32 ((n : Int)))) ?_
 refine os 1 ?_
 refine oX (.int .u64 (Int.fdiv (n : Int) 4294967296)) (.int .u64 ((n : Int) / 4294967296)) (congrArg (Value.int .u64) (Int.fdiv_eq_ediv_of_nonneg _ (by omega))) ?_
 refine oV (.int .u32 (IntKind.wrap .u32 ((n : Int) / 4294967296))) ?_
 refine L (nws 87 2 2 [.int .u32 (IntKind.wrap .u32 ((n : Int))), .int .u32 (IntKind.wrap .u32 ((n : Int) / 4294967296))] ?_)
 intro b1
 refine SL_sig ((Gs.ent 87 1 (Gs.at b1 2) (([IntKind.wrap .u32 ((n : Int)), IntKind.wrap .u32 ((n : Int) / 4294967296)]).map encP)) ++ ([])) rfl ?_
 have hv_ : limV ([IntKind.wrap .u32 ((n : Int)), IntKind.wrap .u32 ((n : Int) / 4294967296)]) = n := small_val hn
 have hq_ := num_trim (W0 := W0) (l := [IntKind.wrap .u32 ((n : Int)), IntKind.wrap .u32 ((n : Int) / 4294967296)]) (small_ok hn) (show Gs.ok 1 ([IntKind.wrap .u32 ((n : Int)), IntKind.wrap .u32 ((n : Int) / 4294967296)]).length (Gs.at b1 2) (([IntKind.wrap .u32 ((n : Int)), IntKind.wrap .u32 ((n : Int) / 4294967296)]).map encP) from ⟨Nat.le_refl _, by unfold maxLen; omega, rfl⟩)
 rw [hv_] at hq_
 refine L (cl (hq_) ?_)
 rintro _ _ ⟨rfl, hkt_⟩
 refine os 1 ?_
 refine kp [2, 0] ?_
 refine nt ?_
 refine SW_ret ?_
 refine body_end (Gs.val (Gs.at b1 2) ((lim n).length)) (fun _ => rfl) ?_
 exact ⟨(Gs.at b1 2), ow, rfl, hkt_⟩

theorem num_size {W0 : World} {a : Gs} {a0 : Nat} (hk : Gs.ok 1 (lim a0).length a ((lim a0).map encP)) (hs : (lim a0).length ≤ 1048576) : SC Tryz.prog W0 130 #[a.val (lim a0).length] (Gs.ent 87 1 a ((lim a0).map encP)) (Ret (fun _ : Unit => Gs.ent 87 1 a ((lim a0).map encP)) (fun v _ => v = .int .i64 (bitsN a0 : Int))) := by
 refine SC_body (fn := Tryz.f130) (n := 17) Tryz.func130 rfl (by kernel_rfl) (ρ := [(0, Gs.val a ((lim a0).length))]) rfl ?_
 refine SW_sig ((Gs.ent 87 1 a ((lim a0).map encP)) ++ ([])) (by simp only [List.append_nil, List.append_assoc]) ?_
 refine sr ?_
 refine os 1 ?_
 refine nq ?_
 refine sr ?_
 refine os 3 ?_
 refine nt ?_
 refine cd (fun hc1 : (((((lim a0).length : Nat)) : Int) == 0) = true => ?_) (fun hc1 => ?_)
 ·simp only [beq_iff_eq, bne_iff_ne, ne_eq, beq_eq_false_iff_ne, bne_eq_false_iff_eq, Classical.not_not] at hc1
  refine sr ?_
  refine os 1 ?_
  refine nt ?_
  refine SW_ret (r_then ?_)
  refine body_end (.int .i64 0) (fun _ => rfl) ?_
  exact ⟨(), ow, by rw [size_zero (n := a0) (by omega)]⟩
 simp only [beq_iff_eq, bne_iff_ne, ne_eq, beq_eq_false_iff_ne, bne_eq_false_iff_eq, Classical.not_not] at hc1
 refine SW_skip (n_then ?_)
 refine sr ?_
 refine os 7 ?_
 refine kp [12, 9, 8, 5, 2, 0] ?_
 refine L (ixg (((((lim a0).length : Nat)) : Int) - 1) (((lim a0).length - 1)) hk Tryz.underlying82 ?_)
 obtain ⟨e1, he1⟩ : ∃ y_, (lim a0)[((lim a0).length - 1)]? = some y_ := ⟨_, List.getElem?_eq_getElem (by omega)⟩
 refine L (ld ?_ (hc := Gs.cell hk (fun e he => (mem_h he)) (map_cell he1 rfl)))
 have heo_ := lim_ok a0 _ (List.mem_of_getElem? he1)
 have hbl_ := Any.bitLen_le32 e1 heo_.1 (by omega)
 refine L (cl (str_lz32 e1 heo_) ?_)
 rintro _ _ rfl
 refine un ?_
 refine os 2 ?_
 refine kp [2, 5, 0] ?_
 refine nt ?_
 refine SW_ret ?_
 refine body_end (.int .i64 ((32 * ((((lim a0).length : Nat)) : Int)) - (32 - (Lib.bitLen e1.toNat : Int)))) (fun _ => rfl) ?_
 exact ⟨(), ow, congrArg (Value.int .i64) (size_top (by omega) he1)⟩

theorem num_order {W0 : World} {a b : Gs} {a0 b0 : Nat} (hka : Gs.ok 1 (lim a0).length a ((lim a0).map encP)) (hkb : Gs.ok 1 (lim b0).length b ((lim b0).map encP)) (hsa : (lim a0).length ≤ 1048576) : SC Tryz.prog W0 75 #[a.val (lim a0).length, b.val (lim b0).length] (Gs.ent 87 1 a ((lim a0).map encP) ++ Gs.ent 87 1 b ((lim b0).map encP)) (Ret (fun _ : Unit => Gs.ent 87 1 a ((lim a0).map encP) ++ Gs.ent 87 1 b ((lim b0).map encP)) (fun v _ => v = .int .i64 (cmpN a0 b0))) := by
 refine SC_body (fn := Tryz.f75) (n := 41) Tryz.func75 rfl (by kernel_rfl) (ρ := [(0, Gs.val a ((lim a0).length)), (1, Gs.val b ((lim b0).length))]) rfl ?_
 refine SW_sig ((Gs.ent 87 1 a ((lim a0).map encP)) ++ ((Gs.ent 87 1 b ((lim b0).map encP)) ++ ([]))) (by simp only [List.append_nil, List.append_assoc]) ?_
 refine sr ?_
 refine os 1 ?_
 refine nq ?_
 refine sr ?_
 refine os 5 ?_
 refine kp [10, 4, 0, 1] ?_
 refine nt ?_
 refine cd (fun hc1 : (((((lim a0).length : Nat)) : Int) != ((((lim b0).length : Nat)) : Int)) = true => ?_) (fun hc1 => ?_)
 ·simp only [beq_iff_eq, bne_iff_ne, ne_eq, beq_eq_false_iff_ne, bne_eq_false_iff_eq, Classical.not_not] at hc1
  refine SW_seq ?_
  refine sr ?_
  refine os 5 ?_
  refine kp [15, 10, 4, 0, 1] ?_
  refine nt ?_
  refine cdp (fun hc2 : ((((lim a0).length : Nat)) : Int) < ((((lim b0).length : Nat)) : Int) => ?_) (fun hc2 => ?_)
  ·refine sr ?_
   refine os 1 ?_
   refine nt ?_
   refine SW_ret (r_then (r_then ?_))
   refine body_end (.int .i64 (-1)) (fun _ => rfl) ?_
   exact ⟨(), ow, by rw [cmp_lt (order_len (by omega))]⟩
  refine SW_skip (n_then ?_)
  refine sr ?_
  refine os 1 ?_
  refine nt ?_
  refine SW_ret (r_then ?_)
  refine body_end (.int .i64 1) (fun _ => rfl) ?_
  exact ⟨(), ow, by rw [cmp_gt (order_len (by omega))]⟩
 simp only [beq_iff_eq, bne_iff_ne, ne_eq, beq_eq_false_iff_ne, bne_eq_false_iff_eq, Classical.not_not] at hc1
 refine SW_skip (n_then ?_)
 refine SW_seq ?_
 refine sr ?_
 refine os 4 ?_
 refine kp [5, 10, 4, 0, 1] ?_
 refine nt ?_
 refine SW_block ?_
 have hle_ : (lim a0).length = (lim b0).length := by omega
 refine SW_loop (α := Nat) (fun z_ ρ_ σ_ => Fits ρ_ σ_ [(0, Gs.val a ((lim a0).length)), (1, Gs.val b ((lim b0).length)), (5, .int .i64 ((z_ : Int) - 1))] ((Gs.ent 87 1 a ((lim a0).map encP)) ++ ((Gs.ent 87 1 b ((lim b0).map encP)) ++ ([]))) ∧ z_ ≤ (lim a0).length ∧ (lim a0).drop z_ = (lim b0).drop z_) (fun z_ => z_) ((lim a0).length) ⟨⟨fun _ => rfl, ow⟩, Nat.le_refl _, by rw [List.drop_length, hle_, List.drop_length]⟩ ?_
 rintro j ρ_ σ_ ⟨hfit, hi0, hi1⟩
 refine SW_fits hfit ?_
 clear hfit
 refine SW_seq ?_
 refine sr ?_
 refine os 2 ?_
 refine nt ?_
 refine cdp (fun hc3 : ((j : Int) - 1) ≥ 0 => ?_) (fun hc3 => ?_)
 ·refine SW_skip (n_then ?_)
  refine SW_seq ?_
  refine SW_block ?_
  refine SW_seq ?_
  obtain ⟨e1, he1⟩ : ∃ y_, (lim a0)[j - 1]? = some y_ := ⟨_, List.getElem?_eq_getElem (by omega)⟩
  obtain ⟨e2, he2⟩ : ∃ y_, (lim b0)[j - 1]? = some y_ := ⟨_, List.getElem?_eq_getElem (by omega)⟩
  refine SW_draw [((Gs.blk a), j - 1, .int .u32 e1), ((Gs.blk b), j - 1, .int .u32 e2)] [0, 1, 2, 3, 4, 5, 6, 7] (by kernel_rfl) (rd_cons (Gs.cell hka (fun e he => (mem_h he)) (map_cell he1 rfl)) (rd_cons (Gs.cell hkb (fun e he => (mem_a (mem_h he))) (map_cell he2 rfl)) rd_nil)) ?_
  refine aS 0 ?_
  refine aS 1 ?_
  refine aI 2 ((j : Int) - 1) (j - 1) hka Tryz.underlying82 ?_
  refine aL 3 ?_
  refine aS 4 ?_
  refine aS 5 ?_
  refine aI 6 ((j : Int) - 1) (j - 1) hkb Tryz.underlying82 ?_
  refine aL 7 ?_
  refine aS 8 ?_
  refine kpA [31, 20, 0, 1, 5] ?_
  refine SA_done (by kernel_rfl) (n_then ?_)
  refine cd (fun hc4 : (e1 != e2) = true => ?_) (fun hc4 => ?_)
  ·simp only [beq_iff_eq, bne_iff_ne, ne_eq, beq_eq_false_iff_ne, bne_eq_false_iff_eq, Classical.not_not] at hc4
   refine SW_seq ?_
   refine SW_seq ?_
   refine SW_draw [((Gs.blk a), j - 1, .int .u32 e1), ((Gs.blk b), j - 1, .int .u32 e2)] [0, 1, 2, 3, 4, 5, 6, 7] (by kernel_rfl) (rd_cons (Gs.cell hka (fun e he => (mem_h he)) (map_cell he1 rfl)) (rd_cons (Gs.cell hkb (fun e he => (mem_a (mem_h he))) (map_cell he2 rfl)) rd_nil)) ?_
   refine aS 0 ?_
   refine aS 1 ?_
   refine aI 2 ((j : Int) - 1) (j - 1) hka Tryz.underlying82 ?_
   refine aL 3 ?_
   refine aS 4 ?_
   refine aS 5 ?_
   refine aI 6 ((j : Int) - 1) (j - 1) hkb Tryz.underlying82 ?_
   refine aL 7 ?_
   refine aS 8 ?_
   refine kpA [40, 31, 20, 0, 1, 5] ?_
   refine SA_done (by kernel_rfl) (n_then ?_)
   refine cdp (fun hc5 : e1 < e2 => ?_) (fun hc5 => ?_)
   ·refine sr ?_
    refine os 1 ?_
    refine nt ?_
    refine SW_ret (r_then (r_in (r_then (r_then (r_in (r_then ?_))))))
    refine body_end (.int .i64 (-1)) (fun _ => rfl) ?_
    exact ⟨(), ow, by rw [cmp_lt (order_top hle_ (by omega) hi1 he1 he2 (by omega))]⟩
   refine SW_skip (n_then ?_)
   refine sr ?_
   refine os 1 ?_
   refine nt ?_
   refine SW_ret (r_in (r_then (r_then (r_in (r_then ?_)))))
   refine body_end (.int .i64 1) (fun _ => rfl) ?_
   exact ⟨(), ow, by rw [cmp_gt (order_top hle_.symm (by omega) hi1.symm he2 he1 (by omega))]⟩
  simp only [beq_iff_eq, bne_iff_ne, ne_eq, beq_eq_false_iff_ne, bne_eq_false_iff_eq, Classical.not_not] at hc4
  refine SW_skip (n_in (n_then ?_))
  refine SW_region ?_
  refine os 3 ?_
  refine nt ?_
  rw [show (j : Int) - 1 - 1 = ((j - 1 : Nat) : Int) - 1 from by omega]
  exact ⟨j - 1, by omega, ⟨fun _ => rfl, ow⟩, by omega, order_next (by omega) he1 he2 (by omega) hi1⟩
 refine SW_exit (x_then (x_then (x_in (n_then ?_))))
 refine sr ?_
 refine os 1 ?_
 refine nt ?_
 refine SW_ret ?_
 refine body_end (.int .i64 0) (fun _ => rfl) ?_
 exact ⟨(), ow, by rw [cmp_eq (by rw [show j = 0 from by omega] at hi1; exact order_same hi1)]⟩

end Go.Proofs.YtnhmmjogfkjceaaGreatDoor
namespace Go.Proofs.YtnhmmjogfkjceaaGreatDoor
open Go.Sl

theorem num_up {W0 : World} {a : Gs} {a0 k s : Nat} (hk : Gs.ok 1 (lim a0).length a ((lim a0).map encP)) (hs0 : (lim a0).length ≤ 1048576) (hs : s < 32) (hkk : k ≤ 1048576) : SC Tryz.prog W0 120 #[a.val (lim a0).length, .int .i64 ((32 * k + s : Nat) : Int)] (Gs.ent 87 1 a ((lim a0).map encP)) (Ret (fun g : Gs => Gs.ent 87 1 g ((lim (a0 * 2 ^ (32 * k + s))).map encP) ++ Gs.ent 87 1 a ((lim a0).map encP)) (fun v g => v = g.val (lim (a0 * 2 ^ (32 * k + s))).length ∧ Gs.ok 1 (lim (a0 * 2 ^ (32 * k + s))).length g ((lim (a0 * 2 ^ (32 * k + s))).map encP))) := by
 refine SC_body (fn := Tryz.f120) (n := 48) Tryz.func120 rfl (by kernel_rfl) (ρ := [(0, Gs.val a ((lim a0).length)), (1, .int .i64 ((32 * k + s : Nat) : Int))]) rfl ?_
 refine SW_sig ((Gs.ent 87 1 a ((lim a0).map encP)) ++ ([])) (by simp only [List.append_nil, List.append_assoc]) ?_
 have hp0_ : (0 : Int) < ((2 ^ s : Nat) : Int) := by have := Nat.two_pow_pos s; omega
 have hp31_ : ((2 ^ s : Nat) : Int) ≤ 2147483648 := by have := Nat.pow_le_pow_right (show 0 < 2 by decide) (show s ≤ 31 by omega); omega
 refine sr ?_
 refine os 1 ?_
 refine nq ?_
 refine sr ?_
 refine os 3 ?_
 refine nt ?_
 refine cd (fun hc1 : (((((lim a0).length : Nat)) : Int) == 0) = true => ?_) (fun hc1 => ?_)
 ·simp only [beq_iff_eq, bne_iff_ne, ne_eq, beq_eq_false_iff_ne, bne_eq_false_iff_eq, Classical.not_not] at hc1
  refine sr ?_
  refine os 1 ?_
  refine nt ?_
  refine SW_ret (r_then ?_)
  refine body_end (.slice none 0 0) (fun _ => rfl) ?_
  have hl0_ : lim (a0 * 2 ^ (32 * k + s)) = [] := by rw [(lim_len_eq (n := a0)).1 (by omega), Nat.zero_mul, lim_zero]
  rw [hl0_]
  exact ⟨.nil, Own.of_perm (List.Perm.of_eq (by simp [Gs.ent])), rfl, rfl, rfl⟩
 simp only [beq_iff_eq, bne_iff_ne, ne_eq, beq_eq_false_iff_ne, bne_eq_false_iff_eq, Classical.not_not] at hc1
 refine SW_skip (n_then ?_)
 refine sr ?_
 refine os 1 ?_
 refine oX (.int .i64 (IntKind.wrap .i64 (Int.tdiv ((32 * k + s : Nat) : Int) 32))) (.int .i64 (((32 * k + s : Nat) : Int) / 32)) (congrArg (Value.int .i64) (IntWalk.i64_quo _ _ (by omega))) ?_
 refine os 1 ?_
 refine oX (.int .i64 (IntKind.wrap .i64 (Int.tdiv ((32 * k + s : Nat) : Int) 32))) (.int .i64 (((32 * k + s : Nat) : Int) / 32)) (congrArg (Value.int .i64) (IntWalk.i64_quo _ _ (by omega))) ?_
 refine os 4 ?_
 refine kp [19, 13, 11, 4, 0, 1] ?_
 rw [show ((32 * k + s : Nat) : Int) / 32 = (k : Int) from by omega]
 refine L (O_make2 (bytes := 4) k (k + (lim a0).length + 1) (.int .u32 0) (fun _ => rfl) (fun _ => rfl) Tryz.underlying82 (by kernel_rfl) rfl (by omega) (by omega) (by omega) rfl ?_)
 intro b2 hlb2 hnb2
 refine SL_weakG ?_
 have hmkb2 : Gs.ok 1 k (Gs.at b2 (k + (lim a0).length + 1)) ((List.replicate k 0).map encP) := Gs.ok_cap (by simp) (by omega) (by unfold maxLen; omega)
 refine SL_sig ((Gs.ent 87 1 (Gs.at b2 (k + (lim a0).length + 1)) ((List.replicate k 0).map encP)) ++ ((Gs.ent 87 1 a ((lim a0).map encP)) ++ ([]))) (by rw [show ((List.replicate k 0).map encP) = List.replicate k (.int .u32 0) from by simp]) ?_
 refine os 1 ?_
 refine kp [5, 11, 4, 0, 1] ?_
 refine nsr ?_
 refine os 1 ?_
 refine nq ?_
 refine sr ?_
 refine os 3 ?_
 refine nt ?_
 refine SW_block ?_
 rw [show (List.replicate k 0 : List Int) = List.replicate k 0 ++ [] from (List.append_nil _).symm] at hmkb2 ⊢
 refine SW_loop (α := Nat × Gs × List Int × Int) (fun z_ ρ_ σ_ => Fits ρ_ σ_ [(1, .int .i64 ((32 * k + s : Nat) : Int)), (21, Gs.val a ((lim a0).length)), (22, .int .i64 ((((lim a0).length : Nat)) : Int)), (5, Gs.val z_.2.1 (k + z_.2.2.1.length)), (6, .int .u64 z_.2.2.2), (23, .int .i64 (z_.1 : Int))] ((Gs.ent 87 1 z_.2.1 ((List.replicate k 0 ++ z_.2.2.1).map encP)) ++ ((Gs.ent 87 1 a ((lim a0).map encP)) ++ ([]))) ∧ z_.1 ≤ (lim a0).length ∧ Gs.ok 1 (k + z_.2.2.1.length) z_.2.1 ((List.replicate k 0 ++ z_.2.2.1).map encP) ∧ (z_.2.2.1.length = z_.1 ∧ LimOk z_.2.2.1 ∧ (0 ≤ z_.2.2.2 ∧ z_.2.2.2 < ((2 ^ s : Nat) : Int))) ∧ limV z_.2.2.1 + 4294967296 ^ z_.1 * z_.2.2.2.toNat = limV ((lim a0).take z_.1) * 2 ^ s) (fun z_ => (lim a0).length - z_.1) (0, (Gs.at b2 (k + (lim a0).length + 1)), [], 0) ⟨⟨fun _ => rfl, ow⟩, Nat.zero_le _, hmkb2, ⟨rfl, (fun x hx => by cases hx), (show 0 ≤ (0 : Int) ∧ (0 : Int) < ((2 ^ s : Nat) : Int) from ⟨Int.le_refl _, hp0_⟩)⟩, by simp [limV]⟩ ?_
 rintro ⟨i, b, ys, c⟩ ρ_ σ_ ⟨hfit, hi0, hi1, hi2, hi3⟩
 refine SW_fits hfit ?_
 clear hfit
 simp only [] at hi0 hi1 hi2 hi3 ⊢
 obtain ⟨hyl, hyo, hc⟩ := hi2
 refine sr ?_
 refine os 1 ?_
 refine nq ?_
 refine cdp (fun hc3 : (i : Int) < ((((lim a0).length : Nat)) : Int) => ?_) (fun hc3 => ?_)
 ·refine SW_skip (n_then ?_)
  refine SW_seq ?_
  refine SW_block ?_
  refine sr ?_
  refine L (ixg (i : Int) (i) hk Tryz.underlying82 ?_)
  obtain ⟨e1, he1⟩ : ∃ y_, (lim a0)[i]? = some y_ := ⟨_, List.getElem?_eq_getElem (by omega)⟩
  refine L (ld ?_ (hc := Gs.cell hk (fun e he => (mem_a (mem_h he))) (map_cell he1 rfl)))
  refine os 1 ?_
  refine nq ?_
  have heo_ := lim_ok a0 _ (List.mem_of_getElem? he1)
  have hup_ := up_body hyl hyo he1 heo_ hs hc hi3
  refine SW_region ?_
  refine os 4 ?_
  refine oX (.int .i64 (Int.tmod ((32 * k + s : Nat) : Int) 32)) (.int .i64 (((32 * k + s : Nat) : Int) % 32)) (congrArg (Value.int .i64) (rem_nn (by first | omega | exact Int.natCast_nonneg _))) ?_
  refine oV (.int .u64 (e1 * ((2 ^ s : Nat) : Int))) ?_ (hs := shlR (e1 * ((2 ^ s : Nat) : Int)) (by omega) (up_shl (k := k) hs heo_))
  refine oV (.int .u64 ((e1 * ((2 ^ s : Nat) : Int)) + c)) ?_ (hs := orR _ (up_or heo_ hc hup_.2.1))
  refine os 1 ?_
  refine kp [6, 8, 24, 1, 21, 22, 5, 23] ?_
  refine nsr ?_
  refine os 2 ?_
  refine oV (.int .u32 (IntKind.wrap .u32 (((e1 * ((2 ^ s : Nat) : Int)) + c)))) ?_
  refine L (nws 87 1 1 [.int .u32 (IntKind.wrap .u32 (((e1 * ((2 ^ s : Nat) : Int)) + c)))] ?_)
  intro b4
  refine SL_perm _ (perm_cc perm_cz) ?_
  refine L (O_append (size := 1) (bytes := 4) (z := .int .u32 0) b (k + ys.length) 1 (some ⟨b4, 0, none⟩) 1 ((List.replicate k 0 ++ ys).map encP) ([.int .u32 (IntKind.wrap .u32 (((e1 * ((2 ^ s : Nat) : Int)) + c)))]) (((List.replicate k 0 ++ ys) ++ [IntKind.wrap .u32 (((e1 * ((2 ^ s : Nat) : Int)) + c))]).map encP) (map_snoc _ (IntKind.wrap .u32 (((e1 * ((2 ^ s : Nat) : Int)) + c))) rfl) (fun _ => rfl) (fun _ => rfl) Tryz.underlying82 (by kernel_rfl) rfl (by decide) hi1 rfl (.inr ⟨b4, 0, rfl, Cells.own (mem_a mem_z) rfl⟩) rfl (by omega) (by decide) rfl ?_)
  intro s5 hks5 hfs5
  rw [show k + ys.length + 1 = ((List.replicate k 0 ++ ys) ++ [IntKind.wrap .u32 (((e1 * ((2 ^ s : Nat) : Int)) + c))]).length from by first | (simp; done) | (simp; omega)]
  rw [show k + ys.length + 1 = ((List.replicate k 0 ++ ys) ++ [IntKind.wrap .u32 (((e1 * ((2 ^ s : Nat) : Int)) + c))]).length from by first | (simp; done) | (simp; omega)] at hks5
  have hls5 : ((List.replicate k 0 ++ ys) ++ [IntKind.wrap .u32 (((e1 * ((2 ^ s : Nat) : Int)) + c))]).length = (List.replicate k 0 ++ ys).length + 1 := by first | (simp; done) | (simp; omega)
  refine os 1 ?_
  refine kp [5, 6, 8, 24, 1, 21, 22, 23] ?_
  refine nr ?_
  refine os 1 ?_
  refine oX (.int .u64 (Int.fdiv ((e1 * ((2 ^ s : Nat) : Int)) + c) 4294967296)) (.int .u64 (((e1 * ((2 ^ s : Nat) : Int)) + c) / 4294967296)) (congrArg (Value.int .u64) (Int.fdiv_eq_ediv_of_nonneg _ (by omega))) ?_
  refine os 1 ?_
  refine SL_nil (n_in (n_then ?_))
  refine SW_region ?_
  refine os 2 ?_
  refine kp [23, 6, 5, 8, 24, 1, 21, 22] ?_
  refine nt ?_
  have hap_ : (List.replicate k 0 ++ ys : List Int) ++ [IntKind.wrap .u32 (e1 * ((2 ^ s : Nat) : Int) + c)] = List.replicate k 0 ++ (ys ++ [IntKind.wrap .u32 (e1 * ((2 ^ s : Nat) : Int) + c)]) := List.append_assoc _ _ _
  have hkq_ := hks5
  rw [hap_] at hkq_ ⊢
  rw [show (List.replicate k 0 ++ (ys ++ [IntKind.wrap .u32 (e1 * ((2 ^ s : Nat) : Int) + c)]) : List Int).length = k + (ys ++ [IntKind.wrap .u32 (e1 * ((2 ^ s : Nat) : Int) + c)]).length from by simp] at hkq_ ⊢
  refine ⟨(i + 1, s5, (ys ++ [IntKind.wrap .u32 (e1 * ((2 ^ s : Nat) : Int) + c)]), ((e1 * ((2 ^ s : Nat) : Int)) + c) / 4294967296), by simp only []; omega, ?_⟩
  simp only []
  exact ⟨⟨fun _ => rfl, ow⟩, by omega, hkq_, ⟨hup_.2.2.1, hup_.2.2.2.1, hup_.2.2.2.2.1⟩, hup_.2.2.2.2.2⟩
 refine SW_exit (x_then (x_then (x_in (n_then ?_))))
 refine sr ?_
 refine os 3 ?_
 refine L (nws 87 1 1 [.int .u32 c] ?_)
 intro b6
 refine SL_perm _ (perm_cc perm_cz) ?_
 refine L (O_append (size := 1) (bytes := 4) (z := .int .u32 0) b (k + ys.length) 1 (some ⟨b6, 0, none⟩) 1 ((List.replicate k 0 ++ ys).map encP) ([.int .u32 c]) (((List.replicate k 0 ++ ys) ++ [c]).map encP) (map_snoc _ c rfl) (fun _ => rfl) (fun _ => rfl) Tryz.underlying82 (by kernel_rfl) rfl (by decide) hi1 rfl (.inr ⟨b6, 0, rfl, Cells.own (mem_a mem_z) rfl⟩) rfl (by omega) (by decide) rfl ?_)
 intro s7 hks7 hfs7
 rw [show k + ys.length + 1 = ((List.replicate k 0 ++ ys) ++ [c]).length from by first | (simp; done) | (simp; omega)]
 rw [show k + ys.length + 1 = ((List.replicate k 0 ++ ys) ++ [c]).length from by first | (simp; done) | (simp; omega)] at hks7
 have hls7 : ((List.replicate k 0 ++ ys) ++ [c]).length = (List.replicate k 0 ++ ys).length + 1 := by first | (simp; done) | (simp; omega)
 have hie_ : i = (lim a0).length := by omega
 rw [hie_] at hyl hi3
 obtain ⟨hto_, htv_⟩ := up_end (l := lim a0) (k := k) hyl hyo ⟨hc.1, by omega⟩ hi3
 rw [lim_val] at htv_
 have hq_ := num_trim (W0 := W0) (l := ((List.replicate k 0 ++ ys) ++ [c])) hto_ hks7
 rw [htv_] at hq_
 refine L (cl (hq_) ?_)
 rintro _ _ ⟨rfl, hkt_⟩
 refine os 1 ?_
 refine kp [4, 24, 1, 21, 22, 5, 6, 23] ?_
 refine nt ?_
 refine SW_ret ?_
 refine body_end (Gs.val s7 ((lim (a0 * 2 ^ (32 * k + s))).length)) (fun _ => rfl) ?_
 exact ⟨s7, ow, rfl, hkt_⟩

end Go.Proofs.YtnhmmjogfkjceaaGreatDoor
namespace Go.Proofs.YtnhmmjogfkjceaaGreatDoor
open Go.Sl

theorem num_Clone_nil {W0 : World}  : SC Tryz.prog W0 122 #[.slice none 0 0] [] (Ret (fun q : Gs => Gs.ent 87 1 q (([] : List Int).map encP)) (fun v q => v = q.val ([] : List Int).length ∧ Gs.ok 1 ([] : List Int).length q (([] : List Int).map encP))) := by
 refine SC_body (fn := Tryz.f122) (n := 8) Tryz.func122 rfl (by kernel_rfl) (ρ := [(0, .slice none 0 0)]) rfl ?_
 refine sr ?_
 refine os 1 ?_
 refine nq ?_
 refine sr ?_
 refine os 1 ?_
 refine oV (.bool true) ?_
 refine nt ?_
 refine ct ?_
 refine sr ?_
 refine os 1 ?_
 refine nt ?_
 refine SW_ret (r_then ?_)
 refine body_end (.slice none 0 0) (fun _ => rfl) ?_
 exact ⟨.nil, (Own.of_perm (List.Perm.of_eq (by simp [Gs.ent]))), rfl, rfl, rfl⟩

theorem num_Clone_at {W0 : World} {g c : Nat} {l : List Int} (hk : Gs.ok 1 l.length (Gs.at g c) (l.map encP)) (hs : l.length ≤ 1048576) : SC Tryz.prog W0 122 #[Gs.val (Gs.at g c) l.length] (Gs.ent 87 1 (Gs.at g c) (l.map encP)) (Ret (fun q : Gs => Gs.ent 87 1 q (l.map encP) ++ Gs.ent 87 1 (Gs.at g c) (l.map encP)) (fun v q => v = q.val l.length ∧ Gs.ok 1 l.length q (l.map encP))) := by
 refine SC_body (fn := Tryz.f122) (n := 8) Tryz.func122 rfl (by kernel_rfl) (ρ := [(0, Gs.val (Gs.at g c) l.length)]) rfl ?_
 refine SW_sig ((Gs.ent 87 1 (Gs.at g c) (l.map encP)) ++ ([])) (by simp only [List.append_nil, List.append_assoc]) ?_
 refine sr ?_
 refine os 1 ?_
 refine nq ?_
 refine sr ?_
 refine os 1 ?_
 refine oV (.bool false) ?_
 refine nt ?_
 refine cf ?_
 refine SW_skip (n_then ?_)
 refine sr ?_
 refine L (nws 87 0 0 [] ?_)
 intro b1
 refine os 1 ?_
 refine SL_sig ((Gs.ent 87 1 (Gs.at b1 0) (([] : List Int).map encP)) ++ ((Gs.ent 87 1 (Gs.at g c) (l.map encP)) ++ ([]))) rfl ?_
 refine L (O_append (size := 1) (bytes := 4) (z := .int .u32 0) (Gs.at b1 0) 0 l.length (Gs.addr (Gs.at g c)) (Gs.cap (Gs.at g c)) (([] : List Int).map encP) (l.map encP) ((([] : List Int) ++ l).map encP) (map_app _ _) (fun _ => rfl) (fun _ => rfl) Tryz.underlying82 (by kernel_rfl) rfl (by decide) ⟨Nat.le_refl _, by unfold maxLen; omega, rfl⟩ (Gs.ok.len hk) (Gs.src hk (fun e he => (mem_a (mem_h he)))) (map_one (fun _ => rfl) _) (by omega) (by decide) rfl ?_)
 intro s2 hks2 hfs2
 rw [show 0 + l.length = (([] : List Int) ++ l).length from by first | (simp; done) | (simp; omega)]
 rw [show 0 + l.length = (([] : List Int) ++ l).length from by first | (simp; done) | (simp; omega)] at hks2
 have hls2 : (([] : List Int) ++ l).length = ([] : List Int).length + l.length := by simp
 refine os 1 ?_
 refine kp [2, 4, 0] ?_
 refine nt ?_
 refine SW_ret ?_
 refine body_end (Gs.val s2 ((([] : List Int) ++ l).length)) (fun _ => rfl) ?_
 have hlq_ : (([] : List Int) ++ l) = l := by simp
 have hkq_ := hks2
 rw [hlq_] at hkq_ ⊢
 exact ⟨s2, ow, rfl, hkq_⟩

theorem num_Clone {W0 : World} {a : Gs} {l : List Int} (hk : Gs.ok 1 l.length a (l.map encP)) (hs : l.length ≤ 1048576) : SC Tryz.prog W0 122 #[a.val l.length] (Gs.ent 87 1 a (l.map encP)) (Ret (fun q : Gs => Gs.ent 87 1 q (l.map encP) ++ Gs.ent 87 1 a (l.map encP)) (fun v q => v = q.val l.length ∧ Gs.ok 1 l.length q (l.map encP))) := by
 cases a with
 | nil =>
   obtain ⟨_, h2⟩ := hk
   obtain rfl : l = [] := by simpa using h2
   exact num_Clone_nil.mono fun v σ ⟨q, ho, h⟩ => ⟨q, by simpa [Gs.ent] using ho, h⟩
 | _ g c => exact num_Clone_at hk hs

theorem num_half {W0 : World} {a : Gs} {a0 : Nat} (hk : Gs.ok 1 (lim a0).length a ((lim a0).map encP)) (hs0 : (lim a0).length ≤ 1048576) : SC Tryz.prog W0 131 #[a.val (lim a0).length] (Gs.ent 87 1 a ((lim a0).map encP)) (Ret (fun g : Gs => Gs.ent 87 1 g ((lim (a0 / 2)).map encP) ++ Gs.ent 87 1 a ((lim a0).map encP)) (fun v g => v = g.val (lim (a0 / 2)).length ∧ Gs.ok 1 (lim (a0 / 2)).length g ((lim (a0 / 2)).map encP))) := by
 refine SC_body (fn := Tryz.f131) (n := 38) Tryz.func131 rfl (by kernel_rfl) (ρ := [(0, Gs.val a ((lim a0).length))]) rfl ?_
 refine SW_sig ((Gs.ent 87 1 a ((lim a0).map encP)) ++ ([])) (by simp only [List.append_nil, List.append_assoc]) ?_
 refine sr ?_
 refine os 1 ?_
 refine nsr ?_
 refine os 1 ?_
 refine L (cl (num_Clone hk hs0) ?_)
 rintro _ q ⟨rfl, hkq⟩
 refine un ?_
 refine os 1 ?_
 refine nq ?_
 refine sr ?_
 refine os 3 ?_
 refine kp [9, 8, 3, 2, 0] ?_
 refine nt ?_
 refine SW_block ?_
 rw [show Gs.ent 87 1 q ((lim a0).map encP) = Gs.ent 87 1 q ((halfM (lim a0) 0).map encP) from by rw [halfM_zero]]
 refine SW_loop (α := Nat) (fun z_ ρ_ σ_ => Fits ρ_ σ_ [(0, Gs.val a ((lim a0).length)), (3, Gs.val q ((lim a0).length)), (8, .int .i64 ((((lim a0).length : Nat)) : Int)), (9, .int .i64 (z_ : Int))] ((Gs.ent 87 1 q ((halfM (lim a0) z_).map encP)) ++ ((Gs.ent 87 1 a ((lim a0).map encP)) ++ ([]))) ∧ z_ ≤ (lim a0).length) (fun z_ => (lim a0).length - z_) 0 ⟨⟨fun _ => rfl, ow⟩, Nat.zero_le _⟩ ?_
 rintro i ρ_ σ_ ⟨hfit, hi0⟩
 refine SW_fits hfit ?_
 clear hfit
 have hml_ := halfM_len (l := lim a0) (i := i) (by omega)
 have hkm_ : Gs.ok 1 (halfM (lim a0) i).length q ((halfM (lim a0) i).map encP) := by rw [hml_]; exact Gs.ok.relen hkq (by simp [hml_])
 refine sr ?_
 refine os 1 ?_
 refine nq ?_
 refine cdp (fun hc1 : (i : Int) < ((((lim a0).length : Nat)) : Int) => ?_) (fun hc1 => ?_)
 ·refine SW_skip (n_then ?_)
  refine SW_seq ?_
  refine SW_block ?_
  refine sr ?_
  refine os 2 ?_
  refine nsr ?_
  refine os 2 ?_
  refine L (ixg (i : Int) (i) hkm_ Tryz.underlying82 ?_)
  obtain ⟨e1, he1⟩ : ∃ y_, (halfM (lim a0) i)[i]? = some y_ := ⟨_, List.getElem?_eq_getElem (by omega)⟩
  refine L (ld ?_ (hc := Gs.cell hkm_ (fun e he => (mem_h he)) (map_cell he1 rfl)))
  refine oX (.int .u32 (Int.fdiv e1 2)) (.int .u32 (e1 / 2)) (congrArg (Value.int .u32) (Int.fdiv_eq_ediv_of_nonneg _ (by omega))) ?_
  refine L (ixg (i : Int) (i) hkm_ Tryz.underlying82 ?_)
  have hok1 := Gs.ok.relen (ys := (((halfM (lim a0) i).set i (e1 / 2)).map encP)) hkm_ (by simp)
  refine L (O_storeG (ys := (((halfM (lim a0) i).set i (e1 / 2)).map encP)) q (i) (.int .u32 (e1 / 2)) [.int .u32 (e1 / 2)] (Gs.ok.ne hkm_ (by first | omega | (simp; omega))) (fun _ => rfl) (fun _ => rfl) rfl (by kernel_rfl) rfl (by simp; omega) (row_lay_map (e1 / 2) (by omega)) rfl ?_)
  refine nq ?_
  have hea_ := (halfM_at (l := lim a0) (i := i) (by omega)).symm.trans he1
  have heo_ := lim_ok a0 _ (List.mem_of_getElem? hea_)
  refine SW_region ?_
  refine os 5 ?_
  refine kp [22, 4, 10, 0, 3, 8, 9] ?_
  refine nt ?_
  refine cdp (fun hc2 : ((i : Int) + 1) < ((((lim a0).length : Nat)) : Int) => ?_) (fun hc2 => ?_)
  ·have hsl_ : ((halfM (lim a0) i).set i (e1 / 2)).length = (lim a0).length := by rw [List.length_set]; exact hml_
   obtain ⟨e2, he2⟩ : ∃ y_, (lim a0)[(i + 1)]? = some y_ := ⟨_, List.getElem?_eq_getElem (by omega)⟩
   refine SW_draw [((Gs.blk q), i, .int .u32 (e1 / 2)), ((Gs.blk a), (i + 1), .int .u32 e2)] [0, 1, 2, 3, 4, 5, 6, 7, 8, 9] (by kernel_rfl) (rd_cons (Gs.cell hok1 (fun e he => (mem_h he)) (map_cell (get_set he1) rfl)) (rd_cons (Gs.cell hk (fun e he => (mem_a (mem_h he))) (map_cell he2 rfl)) rd_nil)) ?_
   refine aS 0 ?_
   refine aS 1 ?_
   refine aI 2 (i : Int) (i) hok1 Tryz.underlying82 ?_
   refine aL 3 ?_
   refine aS 4 ?_
   refine aS 5 ?_
   refine tk 6 (.int .i64 (IntKind.wrap .i64 ((i : Int) + 1))) ?_
   rw [show IntKind.wrap .i64 ((i : Int) + 1) = (i : Int) + 1 from IntWalk.i64_in _ (by omega)]
   refine aI 7 ((i : Int) + 1) ((i + 1)) hk Tryz.underlying82 ?_
   refine aL 8 ?_
   refine tk 9 (.int .u32 (IntKind.wrap .u32 (e2 * 2147483648))) ?_
   refine tk 10 (.int .u32 (e1 / 2 + e2 % 2 * 2147483648)) ?_ (hy := orR32 (m := e1 / 2) (c := IntKind.wrap .u32 (e2 * 2147483648)) _ (by rw [half_shl]; exact half_or heo_))
   refine kpA [33, 24, 23, 22, 4, 10, 0, 3, 8, 9] ?_
   refine aI 11 (i : Int) (i) hok1 Tryz.underlying82 ?_
   have hok3 := Gs.ok.relen (ys := (((halfM (lim a0) i).set i (e1 / 2 + e2 % 2 * 2147483648)).map encP)) hok1 (by simp)
   refine sa1 false 12 (h := O_storeG (ys := (((halfM (lim a0) i).set i (e1 / 2 + e2 % 2 * 2147483648)).map encP)) q (i) (.int .u32 (e1 / 2 + e2 % 2 * 2147483648)) [.int .u32 (e1 / 2 + e2 % 2 * 2147483648)] (Gs.ok.ne hok1 (by first | omega | (simp; omega))) (fun _ => rfl) (fun _ => rfl) rfl (by kernel_rfl) rfl (by simp; omega) ((row_lay_map (e1 / 2 + e2 % 2 * 2147483648) (by omega)).trans (by rw [List.set_set])) rfl ?_)
   refine ⟨fun hnd => (by cases hnd), ?_⟩
   refine SA_done (by kernel_rfl) (n_in (n_then ?_))
   refine SW_region ?_
   refine os 2 ?_
   refine kp [9, 22, 4, 10, 0, 3, 8] ?_
   refine nt ?_
   have hst_ : (halfM (lim a0) i).set i (e1 / 2 + e2 % 2 * 2147483648) = halfM (lim a0) (i + 1) := halfM_step (by rw [halfL_at hea_]; rw [he2])
   refine ⟨i + 1, by omega, ⟨fun _ => rfl, ?_⟩, by omega⟩
   rw [← hst_]
   exact ow
  refine SW_skip (n_in (n_then ?_))
  refine SW_region ?_
  refine os 2 ?_
  refine nt ?_
  have hst_ : (halfM (lim a0) i).set i (e1 / 2) = halfM (lim a0) (i + 1) := halfM_step (by rw [halfL_at hea_]; rw [List.getElem?_eq_none (by omega)]; simp)
  refine ⟨i + 1, by omega, ⟨fun _ => rfl, ?_⟩, by omega⟩
  rw [← hst_]
  exact ow
 refine SW_exit (x_then (x_then (x_in (n_then ?_))))
 refine sr ?_
 refine os 1 ?_
 have hie_ : i = (lim a0).length := by omega
 have hme_ : halfM (lim a0) i = halfL (lim a0) := by rw [hie_]; exact halfM_end
 have hq_ := num_trim (W0 := W0) (l := halfM (lim a0) i) (by rw [hme_]; exact halfL_ok (lim_ok a0)) hkm_
 rw [show limV (halfM (lim a0) i) = a0 / 2 from by rw [hme_, halfL_val (lim_ok a0), lim_val], hml_] at hq_
 refine L (cl (hq_) ?_)
 rintro _ _ ⟨rfl, hkt_⟩
 refine os 1 ?_
 refine nt ?_
 refine SW_ret ?_
 refine body_end (Gs.val q ((lim (a0 / 2)).length)) (fun _ => rfl) ?_
 exact ⟨q, ow, rfl, hkt_⟩

end Go.Proofs.YtnhmmjogfkjceaaGreatDoor
namespace Go.Proofs.YtnhmmjogfkjceaaGreatDoor
open Go.Sl

theorem num_less {W0 : World} {a b : Gs} {a0 b0 : Nat} (hk : Gs.ok 1 (lim a0).length a ((lim a0).map encP)) (hkb : Gs.ok 1 (lim b0).length b ((lim b0).map encP)) (hs0 : (lim a0).length ≤ 1048576) (hle : b0 ≤ a0) : SC Tryz.prog W0 76 #[a.val (lim a0).length, b.val (lim b0).length] (Gs.ent 87 1 a ((lim a0).map encP) ++ Gs.ent 87 1 b ((lim b0).map encP)) (Ret (fun g : Gs => Gs.ent 87 1 g ((lim (a0 - b0)).map encP) ++ (Gs.ent 87 1 a ((lim a0).map encP) ++ (Gs.ent 87 1 b ((lim b0).map encP)))) (fun v g => v = g.val (lim (a0 - b0)).length ∧ Gs.ok 1 (lim (a0 - b0)).length g ((lim (a0 - b0)).map encP))) := by
 refine SC_body (fn := Tryz.f76) (n := 46) Tryz.func76 rfl (by kernel_rfl) (ρ := [(0, Gs.val a ((lim a0).length)), (1, Gs.val b ((lim b0).length))]) rfl ?_
 refine SW_sig ((Gs.ent 87 1 a ((lim a0).map encP)) ++ ((Gs.ent 87 1 b ((lim b0).map encP)) ++ ([]))) (by simp only [List.append_nil, List.append_assoc]) ?_
 refine sr ?_
 refine os 1 ?_
 refine nsr ?_
 refine os 1 ?_
 refine L (cl (num_Clone hk hs0) ?_)
 rintro _ q ⟨rfl, hkq⟩
 refine un ?_
 refine os 1 ?_
 refine nsr ?_
 refine os 1 ?_
 refine nq ?_
 refine sr ?_
 refine os 3 ?_
 refine kp [13, 12, 6, 5, 4, 0, 1] ?_
 refine nt ?_
 refine SW_block ?_
 rw [show Gs.ent 87 1 q ((lim a0).map encP) = Gs.ent 87 1 q ((mixM (lessL (lim a0) (lim b0) 0) (lim a0) 0).map encP) from by rw [mixM_zero]]
 refine SW_loop (α := Nat × Int) (fun z_ ρ_ σ_ => Fits ρ_ σ_ [(0, Gs.val a ((lim a0).length)), (1, Gs.val b ((lim b0).length)), (5, Gs.val q ((lim a0).length)), (12, .int .i64 ((((lim a0).length : Nat)) : Int)), (6, .int .u64 z_.2), (13, .int .i64 (z_.1 : Int))] ((Gs.ent 87 1 q ((mixM (lessL (lim a0) (lim b0) 0) (lim a0) z_.1).map encP)) ++ ((Gs.ent 87 1 a ((lim a0).map encP)) ++ ((Gs.ent 87 1 b ((lim b0).map encP)) ++ ([])))) ∧ z_.1 ≤ (lim a0).length ∧ (0 ≤ z_.2 ∧ z_.2 ≤ 1) ∧ z_.2 = lessB ((lim a0).take z_.1) (lim b0) 0) (fun z_ => (lim a0).length - z_.1) (0, 0) ⟨⟨fun _ => rfl, ow⟩, Nat.zero_le _, ⟨Int.le_refl _, by decide⟩, rfl⟩ ?_
 rintro ⟨i, c⟩ ρ_ σ_ ⟨hfit, hi0, hi1, hi2⟩
 refine SW_fits hfit ?_
 clear hfit
 simp only [] at hi0 hi1 hi2 ⊢
 have hml_ := mixM_len (lessL_len (lim a0) (lim b0) 0) (i := i) (by omega)
 have hkm_ : Gs.ok 1 (mixM (lessL (lim a0) (lim b0) 0) (lim a0) i).length q ((mixM (lessL (lim a0) (lim b0) 0) (lim a0) i).map encP) := by rw [hml_]; exact Gs.ok.relen hkq (by simp [hml_])
 refine sr ?_
 refine os 1 ?_
 refine nq ?_
 refine cdp (fun hc1 : (i : Int) < ((((lim a0).length : Nat)) : Int) => ?_) (fun hc1 => ?_)
 ·refine SW_skip (n_then ?_)
  refine SW_seq ?_
  refine SW_block ?_
  refine sr ?_
  refine os 2 ?_
  refine nsr ?_
  refine os 2 ?_
  refine nq ?_
  refine sr ?_
  refine os 4 ?_
  refine kp [20, 8, 7, 14, 0, 1, 5, 12, 6, 13] ?_
  refine nt ?_
  refine cdp (fun hc2 : (i : Int) < ((((lim b0).length : Nat)) : Int) => ?_) (fun hc2 => ?_)
  ·obtain ⟨e1, he1⟩ : ∃ y_, (lim b0)[i]? = some y_ := ⟨_, List.getElem?_eq_getElem (by omega)⟩
   have hey_ := lim_ok b0 _ (List.mem_of_getElem? he1)
   refine SW_region ?_
   refine os 3 ?_
   refine L (ixg (i : Int) (i) hkb Tryz.underlying82 ?_)
   refine L (ld ?_ (hc := Gs.cell hkb (fun e he => (mem_a (mem_a (mem_h he)))) (map_cell he1 rfl)))
   refine os 3 ?_
   refine kp [8, 20, 7, 14, 0, 1, 5, 12, 6, 13] ?_
   refine nsr ?_
   refine os 1 ?_
   refine nq ?_
   refine SW_seq ?_
   obtain ⟨e2, he2⟩ : ∃ y_, (mixM (lessL (lim a0) (lim b0) 0) (lim a0) i)[i]? = some y_ := ⟨_, List.getElem?_eq_getElem (by omega)⟩
   have hea_ := (mixM_at (lessL_len (lim a0) (lim b0) 0) (i := i) (by omega)).symm.trans he2
   have heo_ := lim_ok a0 _ (List.mem_of_getElem? hea_)
   refine SW_region ?_
   refine os 2 ?_
   refine L (ixg (i : Int) (i) hkm_ Tryz.underlying82 ?_)
   refine L (ld ?_ (hc := Gs.cell hkm_ (fun e he => (mem_h he)) (map_cell he2 rfl)))
   refine os 3 ?_
   refine kp [34, 6, 8, 20, 7, 14, 0, 1, 5, 12, 13] ?_
   refine nt ?_
   refine cdp (fun hc3 : e2 < (c + e1) => ?_) (fun hc3 => ?_)
   ·refine SW_region ?_
    refine os 1 ?_
    refine nr ?_
    refine os 2 ?_
    refine L (ixg (i : Int) (i) hkm_ Tryz.underlying82 ?_)
    refine L (ld ?_ (hc := Gs.cell hkm_ (fun e he => (mem_h he)) (map_cell he2 rfl)))
    refine os 1 ?_
    refine oV (.int .u32 (IntKind.wrap .u32 (c + e1))) ?_
    refine oV (.int .u32 (IntKind.wrap .u32 (e2 - (IntKind.wrap .u32 (c + e1))))) ?_
    refine L (ixg (i : Int) (i) hkm_ Tryz.underlying82 ?_)
    have hok1 := Gs.ok.relen (ys := (((mixM (lessL (lim a0) (lim b0) 0) (lim a0) i).set i (IntKind.wrap .u32 (e2 - (IntKind.wrap .u32 (c + e1))))).map encP)) hkm_ (by simp)
    refine L (O_storeG (ys := (((mixM (lessL (lim a0) (lim b0) 0) (lim a0) i).set i (IntKind.wrap .u32 (e2 - (IntKind.wrap .u32 (c + e1))))).map encP)) q (i) (.int .u32 (IntKind.wrap .u32 (e2 - (IntKind.wrap .u32 (c + e1))))) [.int .u32 (IntKind.wrap .u32 (e2 - (IntKind.wrap .u32 (c + e1))))] (Gs.ok.ne hkm_ (by first | omega | (simp; omega))) (fun _ => rfl) (fun _ => rfl) rfl (by kernel_rfl) rfl (by simp; omega) (row_lay_map (IntKind.wrap .u32 (e2 - (IntKind.wrap .u32 (c + e1)))) (by omega)) rfl ?_)
    refine SL_nil (n_in (n_then ?_))
    refine SW_region ?_
    refine os 2 ?_
    refine kp [13, 6, 34, 8, 20, 7, 14, 0, 1, 5, 12] ?_
    refine nt ?_
    obtain ⟨hst_, hq1_, hq0_⟩ := less_y hea_ he1 hi2
    refine ⟨(i + 1, 1), by simp only []; omega, ?_⟩
    simp only []
    refine ⟨⟨fun _ => rfl, ?_⟩, by omega, by omega, hq1_ hc3⟩
    rw [← hst_]
    exact ow
   refine SW_skip (n_then ?_)
   refine SW_region ?_
   refine os 2 ?_
   refine L (ixg (i : Int) (i) hkm_ Tryz.underlying82 ?_)
   refine L (ld ?_ (hc := Gs.cell hkm_ (fun e he => (mem_h he)) (map_cell he2 rfl)))
   refine os 1 ?_
   refine oV (.int .u32 (IntKind.wrap .u32 (c + e1))) ?_
   refine oV (.int .u32 (IntKind.wrap .u32 (e2 - (IntKind.wrap .u32 (c + e1))))) ?_
   refine L (ixg (i : Int) (i) hkm_ Tryz.underlying82 ?_)
   have hok2 := Gs.ok.relen (ys := (((mixM (lessL (lim a0) (lim b0) 0) (lim a0) i).set i (IntKind.wrap .u32 (e2 - (IntKind.wrap .u32 (c + e1))))).map encP)) hkm_ (by simp)
   refine L (O_storeG (ys := (((mixM (lessL (lim a0) (lim b0) 0) (lim a0) i).set i (IntKind.wrap .u32 (e2 - (IntKind.wrap .u32 (c + e1))))).map encP)) q (i) (.int .u32 (IntKind.wrap .u32 (e2 - (IntKind.wrap .u32 (c + e1))))) [.int .u32 (IntKind.wrap .u32 (e2 - (IntKind.wrap .u32 (c + e1))))] (Gs.ok.ne hkm_ (by first | omega | (simp; omega))) (fun _ => rfl) (fun _ => rfl) rfl (by kernel_rfl) rfl (by simp; omega) (row_lay_map (IntKind.wrap .u32 (e2 - (IntKind.wrap .u32 (c + e1)))) (by omega)) rfl ?_)
   refine SL_nil (n_in (n_then ?_))
   refine SW_region ?_
   refine os 2 ?_
   refine kp [13, 34, 6, 8, 20, 7, 14, 0, 1, 5, 12] ?_
   refine nt ?_
   obtain ⟨hst_, hq1_, hq0_⟩ := less_y hea_ he1 hi2
   refine ⟨(i + 1, 0), by simp only []; omega, ?_⟩
   simp only []
   refine ⟨⟨fun _ => rfl, ?_⟩, by omega, by omega, hq0_ hc3⟩
   rw [← hst_]
   exact ow
  refine SW_skip (n_then ?_)
  refine sr ?_
  refine os 1 ?_
  refine nq ?_
  refine SW_seq ?_
  obtain ⟨e3, he3⟩ : ∃ y_, (mixM (lessL (lim a0) (lim b0) 0) (lim a0) i)[i]? = some y_ := ⟨_, List.getElem?_eq_getElem (by omega)⟩
  have hea_ := (mixM_at (lessL_len (lim a0) (lim b0) 0) (i := i) (by omega)).symm.trans he3
  have heo_ := lim_ok a0 _ (List.mem_of_getElem? hea_)
  refine SW_region ?_
  refine os 2 ?_
  refine L (ixg (i : Int) (i) hkm_ Tryz.underlying82 ?_)
  refine L (ld ?_ (hc := Gs.cell hkm_ (fun e he => (mem_h he)) (map_cell he3 rfl)))
  refine os 3 ?_
  refine kp [34, 6, 20, 8, 7, 14, 0, 1, 5, 12, 13] ?_
  refine nt ?_
  refine cdp (fun hc4 : e3 < c => ?_) (fun hc4 => ?_)
  ·refine SW_region ?_
   refine os 1 ?_
   refine nr ?_
   refine os 2 ?_
   refine L (ixg (i : Int) (i) hkm_ Tryz.underlying82 ?_)
   refine L (ld ?_ (hc := Gs.cell hkm_ (fun e he => (mem_h he)) (map_cell he3 rfl)))
   refine os 1 ?_
   refine oV (.int .u32 (IntKind.wrap .u32 (c))) ?_
   refine oV (.int .u32 (IntKind.wrap .u32 (e3 - (IntKind.wrap .u32 (c))))) ?_
   refine L (ixg (i : Int) (i) hkm_ Tryz.underlying82 ?_)
   have hok3 := Gs.ok.relen (ys := (((mixM (lessL (lim a0) (lim b0) 0) (lim a0) i).set i (IntKind.wrap .u32 (e3 - (IntKind.wrap .u32 (c))))).map encP)) hkm_ (by simp)
   refine L (O_storeG (ys := (((mixM (lessL (lim a0) (lim b0) 0) (lim a0) i).set i (IntKind.wrap .u32 (e3 - (IntKind.wrap .u32 (c))))).map encP)) q (i) (.int .u32 (IntKind.wrap .u32 (e3 - (IntKind.wrap .u32 (c))))) [.int .u32 (IntKind.wrap .u32 (e3 - (IntKind.wrap .u32 (c))))] (Gs.ok.ne hkm_ (by first | omega | (simp; omega))) (fun _ => rfl) (fun _ => rfl) rfl (by kernel_rfl) rfl (by simp; omega) (row_lay_map (IntKind.wrap .u32 (e3 - (IntKind.wrap .u32 (c)))) (by omega)) rfl ?_)
   refine SL_nil (n_in (n_then ?_))
   refine SW_region ?_
   refine os 2 ?_
   refine kp [13, 6, 34, 20, 8, 7, 14, 0, 1, 5, 12] ?_
   refine nt ?_
   obtain ⟨hst_, hq1_, hq0_⟩ := less_n (m := lim b0) hea_ (by omega) hi2
   refine ⟨(i + 1, 1), by simp only []; omega, ?_⟩
   simp only []
   refine ⟨⟨fun _ => rfl, ?_⟩, by omega, by omega, hq1_ hc4⟩
   rw [← hst_]
   exact ow
  refine SW_skip (n_then ?_)
  refine SW_region ?_
  refine os 2 ?_
  refine L (ixg (i : Int) (i) hkm_ Tryz.underlying82 ?_)
  refine L (ld ?_ (hc := Gs.cell hkm_ (fun e he => (mem_h he)) (map_cell he3 rfl)))
  refine os 1 ?_
  refine oV (.int .u32 (IntKind.wrap .u32 (c))) ?_
  refine oV (.int .u32 (IntKind.wrap .u32 (e3 - (IntKind.wrap .u32 (c))))) ?_
  refine L (ixg (i : Int) (i) hkm_ Tryz.underlying82 ?_)
  have hok4 := Gs.ok.relen (ys := (((mixM (lessL (lim a0) (lim b0) 0) (lim a0) i).set i (IntKind.wrap .u32 (e3 - (IntKind.wrap .u32 (c))))).map encP)) hkm_ (by simp)
  refine L (O_storeG (ys := (((mixM (lessL (lim a0) (lim b0) 0) (lim a0) i).set i (IntKind.wrap .u32 (e3 - (IntKind.wrap .u32 (c))))).map encP)) q (i) (.int .u32 (IntKind.wrap .u32 (e3 - (IntKind.wrap .u32 (c))))) [.int .u32 (IntKind.wrap .u32 (e3 - (IntKind.wrap .u32 (c))))] (Gs.ok.ne hkm_ (by first | omega | (simp; omega))) (fun _ => rfl) (fun _ => rfl) rfl (by kernel_rfl) rfl (by simp; omega) (row_lay_map (IntKind.wrap .u32 (e3 - (IntKind.wrap .u32 (c)))) (by omega)) rfl ?_)
  refine SL_nil (n_in (n_then ?_))
  refine SW_region ?_
  refine os 2 ?_
  refine kp [13, 34, 6, 20, 8, 7, 14, 0, 1, 5, 12] ?_
  refine nt ?_
  obtain ⟨hst_, hq1_, hq0_⟩ := less_n (m := lim b0) hea_ (by omega) hi2
  refine ⟨(i + 1, 0), by simp only []; omega, ?_⟩
  simp only []
  refine ⟨⟨fun _ => rfl, ?_⟩, by omega, by omega, hq0_ hc4⟩
  rw [← hst_]
  exact ow
 refine SW_exit (x_then (x_then (x_in (n_then ?_))))
 refine sr ?_
 refine os 1 ?_
 have hie_ : i = (lim a0).length := by omega
 have hme_ : (mixM (lessL (lim a0) (lim b0) 0) (lim a0) i) = lessL (lim a0) (lim b0) 0 := by rw [hie_]; exact mixM_end (lessL_len ..)
 have hq_ := num_trim (W0 := W0) (l := (mixM (lessL (lim a0) (lim b0) 0) (lim a0) i)) (by rw [hme_]; exact lessL_ok (lim a0) (lim b0) 0) hkm_
 rw [show limV (mixM (lessL (lim a0) (lim b0) 0) (lim a0) i) = a0 - b0 from by rw [hme_, lessL_sub (lim_ok a0) (lim_ok b0) (by rw [lim_val, lim_val]; exact hle) (lim_len_mono hle), lim_val, lim_val], hml_] at hq_
 refine L (cl (hq_) ?_)
 rintro _ _ ⟨rfl, hkt_⟩
 refine os 1 ?_
 refine nt ?_
 refine SW_ret ?_
 refine body_end (Gs.val q ((lim (a0 - b0)).length)) (fun _ => rfl) ?_
 exact ⟨q, ow, rfl, hkt_⟩

end Go.Proofs.YtnhmmjogfkjceaaGreatDoor
namespace Go.Proofs.YtnhmmjogfkjceaaGreatDoor
open Go.Sl

theorem num_tens {W0 : World} {a : Gs} {a0 n : Nat} (hk : Gs.ok 1 (lim a0).length a ((lim a0).map encP)) (hb : (lim (a0 * 10 ^ n)).length ≤ 1048576) (hn : n ≤ 1048576) : SC Tryz.prog W0 92 #[a.val (lim a0).length, .int .i64 (n : Int)] (Gs.ent 87 1 a ((lim a0).map encP)) (Ret (fun g : Gs => Gs.ent 87 1 g ((lim (a0 * 10 ^ n)).map encP)) (fun v g => v = g.val (lim (a0 * 10 ^ n)).length ∧ Gs.ok 1 (lim (a0 * 10 ^ n)).length g ((lim (a0 * 10 ^ n)).map encP))) := by
 refine SC_body (fn := Tryz.f92) (n := 12) Tryz.func92 rfl (by kernel_rfl) (ρ := [(0, Gs.val a ((lim a0).length)), (1, .int .i64 (n : Int))]) rfl ?_
 refine SW_sig ((Gs.ent 87 1 a ((lim a0).map encP)) ++ ([])) (by simp only [List.append_nil, List.append_assoc]) ?_
 refine sr ?_
 refine os 1 ?_
 refine nq ?_
 refine sr ?_
 refine os 2 ?_
 refine nt ?_
 refine SW_block ?_
 rw [show lim a0 = (lim (a0 * 10 ^ 0)) from by simp]
 rw [show lim a0 = (lim (a0 * 10 ^ 0)) from by simp] at hk
 refine SW_loop (α := Nat × Gs) (fun z_ ρ_ σ_ => Fits ρ_ σ_ [(0, Gs.val z_.2 ((lim (a0 * 10 ^ z_.1)).length)), (5, .int .i64 (n : Int)), (6, .int .i64 (z_.1 : Int))] ((Gs.ent 87 1 z_.2 ((lim (a0 * 10 ^ z_.1)).map encP)) ++ ([])) ∧ z_.1 ≤ n ∧ Gs.ok 1 (lim (a0 * 10 ^ z_.1)).length z_.2 ((lim (a0 * 10 ^ z_.1)).map encP)) (fun z_ => n - z_.1) (0, a) ⟨⟨fun _ => rfl, ow⟩, Nat.zero_le _, hk⟩ ?_
 rintro ⟨i, g⟩ ρ_ σ_ ⟨hfit, hi0, hi1⟩
 refine SW_fits hfit ?_
 clear hfit
 simp only [] at hi0 hi1 ⊢
 refine sr ?_
 refine os 1 ?_
 refine nq ?_
 refine cdp (fun hc1 : (i : Int) < (n : Int) => ?_) (fun hc1 => ?_)
 ·refine SW_skip (n_then ?_)
  refine SW_seq ?_
  refine SW_block ?_
  refine SW_region ?_
  refine os 1 ?_
  have hq_ := num_times (W0 := W0) (n := 10) (more := 0) (hi1 : Gs.ok 1 (lim (a0 * 10 ^ i)).length g ((lim (a0 * 10 ^ i)).map encP)) (Nat.le_trans (lim_len_mono (pow_mono10 (by omega))) hb) (by decide) (by decide)
  rw [show a0 * 10 ^ i * 10 + 0 = a0 * 10 ^ (i + 1) from by rw [Nat.pow_succ, Nat.mul_assoc, Nat.add_zero]] at hq_
  refine L (cl (hq_) ?_)
  rintro _ q ⟨rfl, hkq⟩
  refine un ?_
  refine os 1 ?_
  refine SL_nil (n_in (n_then ?_))
  refine SW_region ?_
  refine os 2 ?_
  refine kp [6, 0, 7, 5] ?_
  refine nt ?_
  exact ⟨(i + 1, q), by simp only []; omega, ⟨fun _ => rfl, ow⟩, by simp only []; omega, hkq⟩
 refine SW_exit (x_then (x_then (x_in (n_then ?_))))
 refine sr ?_
 refine os 2 ?_
 refine nt ?_
 refine SW_ret ?_
 refine body_end (Gs.val g ((lim (a0 * 10 ^ i)).length)) (fun _ => rfl) ?_
 have hin_ : i = n := by omega
 rw [hin_] at hi1 ⊢
 exact ⟨g, ow, rfl, hi1⟩

theorem num_of {W0 : World} {X : Bytes} (hd : ∀ c ∈ X, 48 ≤ c.toNat ∧ c.toNat ≤ 57) (hb : (lim (ofD X)).length ≤ 1048576) (hn : X.length ≤ 1048576) : SC Tryz.prog W0 91 #[.string (bS X)] [] (Ret (fun g : Gs => Gs.ent 87 1 g ((lim (ofD X)).map encP)) (fun v g => v = g.val (lim (ofD X)).length ∧ Gs.ok 1 (lim (ofD X)).length g ((lim (ofD X)).map encP))) := by
 refine SC_body (fn := Tryz.f91) (n := 20) Tryz.func91 rfl (by kernel_rfl) (ρ := [(0, .string (bS X))]) rfl ?_
 refine sr ?_
 refine os 1 ?_
 refine nsr ?_
 refine os 1 ?_
 refine nq ?_
 refine sr ?_
 refine os 1 ?_
 refine L (O_txt (bS X) Tryz.underlying9 Tryz.underlying95 Tryz.underlying5 (fun _ => rfl) rfl ?_)
 intro b1 capb1 hcapb1
 rw [bS_size] at hcapb1 ⊢
 refine os 2 ?_
 refine nt ?_
 refine SW_block ?_
 refine SW_sig (Gs.ent 87 1 Gs.nil (([] : List Int).map encP) ++ ((b1, .txt (txtV X)) :: ([]))) rfl ?_
 refine SW_loop (α := Nat × Gs × List Int) (fun z_ ρ_ σ_ => Fits ρ_ σ_ [(3, Gs.val z_.2.1 z_.2.2.length), (7, .slice (some ⟨b1, 0, none⟩) X.length capb1), (8, .int .i64 (X.length : Int)), (9, .int .i64 (z_.1 : Int))] ((Gs.ent 87 1 z_.2.1 (z_.2.2.map encP)) ++ ((b1, .txt (txtV X)) :: ([]))) ∧ z_.1 ≤ X.length ∧ Gs.ok 1 z_.2.2.length z_.2.1 (z_.2.2.map encP) ∧ z_.2.2 = lim (ofD (X.take z_.1))) (fun z_ => X.length - z_.1) (0, Gs.nil, []) ⟨⟨fun _ => rfl, ow⟩, Nat.zero_le _, ⟨rfl, rfl⟩, by simp [ofD, lim_zero]⟩ ?_
 rintro ⟨i, g, l⟩ ρ_ σ_ ⟨hfit, hi0, hi1, hi2⟩
 refine SW_fits hfit ?_
 clear hfit
 simp only [] at hi0 hi1 hi2 ⊢
 subst hi2
 refine sr ?_
 refine os 1 ?_
 refine nq ?_
 refine cdp (fun hc2 : (i : Int) < (X.length : Int) => ?_) (fun hc2 => ?_)
 ·refine SW_skip (n_then ?_)
  refine SW_seq ?_
  refine SW_block ?_
  refine sr ?_
  refine L (O_indexAddr' (i : Int) (i) b1 0 X.length capb1 .i64 1 Tryz.underlying95 (by kernel_rfl) (fun _ => rfl) (fun _ => rfl) (by omega) (by omega) (by omega) rfl ?_)
  obtain ⟨e1, he1⟩ : ∃ y_, X[i]? = some y_ := ⟨_, List.getElem?_eq_getElem (by omega)⟩
  refine L (ld ?_ (hc := Cell.txt (mem_a mem_z) (txt_at he1)))
  refine os 1 ?_
  refine nt ?_
  have hdi_ := hd _ (List.mem_of_getElem? he1)
  refine SW_region ?_
  refine os 4 ?_
  have hq_ := num_times (W0 := W0) (n := 10) (more := e1.toNat - 48) (hi1 : Gs.ok 1 (lim (ofD (X.take i))).length g ((lim (ofD (X.take i))).map encP)) (Nat.le_trans (lim_len_mono (ofD_take_le _ _)) hb) (by decide) (by omega)
  rw [← ofD_step he1, show ((e1.toNat - 48 : Nat) : Int) = (e1.toNat : Int) - 48 from by omega] at hq_
  refine L (cl (hq_) ?_)
  rintro _ q ⟨rfl, hkq⟩
  refine un ?_
  refine os 1 ?_
  refine kp [3, 5, 10, 7, 8, 9] ?_
  refine SL_nil (n_in (n_then ?_))
  refine SW_region ?_
  refine os 2 ?_
  refine nt ?_
  exact ⟨(i + 1, q, _), by simp only []; omega, ⟨fun _ => rfl, ow⟩, by simp only []; omega, hkq, rfl⟩
 refine SW_exit (x_then (x_then (x_in (n_then ?_))))
 refine sr ?_
 refine os 2 ?_
 refine nt ?_
 refine SW_ret ?_
 refine body_end (Gs.val g ((lim (ofD (X.take i))).length)) (fun _ => rfl) ?_
 have hin_ : i = X.length := by omega
 rw [hin_, List.take_length] at hi1 ⊢
 exact ⟨g, ow, rfl, hi1⟩

end Go.Proofs.YtnhmmjogfkjceaaGreatDoor
