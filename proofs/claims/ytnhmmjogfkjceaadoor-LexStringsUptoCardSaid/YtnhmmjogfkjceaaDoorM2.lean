/-
  Texts' tokens from place to place: a token is told by the bytes from its place on, up to a byte that parts, in plain Lean. Conditions: those that each theorem names.
-/
import Derived.Test.YtnhmmjogfkjceaaDoorM1
import Derived.Laws.StructEq
import Derived.Laws.Tables
import Derived.Laws.Cover2
import Derived.Test.YtnhmmjogfkjceaaDoorM0
import Derived.Test.YtnhmmjogfkjceaaDoorCards
import Derived.Test.YtnhmmjogfkjceaaDoorTie
import Derived.Deep.Slices
import Derived.Deep.Grids
import Derived.Deep.DeepHandedRow
import Derived.Deep.DeepWitnessRowRef
import Derived.Lib.LaidTab
set_option linter.unusedVariables false
set_option linter.unusedSimpArgs false
set_option maxRecDepth 100000
namespace Go.Proofs.YtnhmmjogfkjceaaDoor
open Go.Sl
theorem atB_drop (X : Bytes) (a i : Nat) : atB (X.drop a) i = atB X (a + i) := by unfold atB; rw [List.getElem?_drop]
theorem runL_drop (p : UInt8 → Bool) (X : Bytes) (a n : Nat) : runL p X (a + n) = a + runL p (X.drop a) n := by unfold runL; rw [List.drop_drop]; omega
def TokR.shift (a : Nat) : TokR → TokR
 | .bad e => .bad e
 | .tok k t n tz => .tok k t n (a + tz)
theorem nameT_drop (X : Bytes) (a : Nat) : nameT X a = nameT (X.drop a) 0 := by
 unfold nameT
 rw [show runL isSm X a = a + runL isSm (X.drop a) 0 from runL_drop isSm X a 0, List.drop_zero, List.drop_take]
 simp
theorem nameR_drop (X : Bytes) (a : Nat) : nameR X a = (nameR (X.drop a) 0).shift a := by
 unfold nameR
 rw [← nameT_drop, show runL isSm X a = a + runL isSm (X.drop a) 0 from runL_drop isSm X a 0]
 split <;> rfl
theorem numFr_drop (X : Bytes) (a t : Nat) : numFr X (a + t) = a + numFr (X.drop a) t := by
 unfold numFr
 rw [atB_drop, atB_drop, List.length_drop, ← Nat.add_assoc, show a + t + 1 = a + (t + 1) by omega, runL_drop]
 by_cases h : a + (t + 1) < X.length ∧ (atB X (a + t)).toNat = 46 ∧ isDig (atB X (a + (t + 1))) = true
 · rw [if_pos h, if_pos ⟨by omega, h.2⟩]
 · rw [if_neg h, if_neg fun q => h ⟨by omega, q.2⟩]
theorem numSg_drop (X : Bytes) (a t : Nat) : numSg X (a + t) = a + numSg (X.drop a) t := by
 unfold numSg
 rw [atB_drop, List.length_drop]
 by_cases h : a + t < X.length ∧ ((atB X (a + t)).toNat = 43 ∨ (atB X (a + t)).toNat = 45)
 · rw [if_pos h, if_pos ⟨by omega, h.2⟩, Nat.add_assoc]
 · rw [if_neg h, if_neg fun q => h ⟨by omega, q.2⟩]
theorem numEx_drop (X : Bytes) (a t : Nat) : numEx X (a + t) = a + numEx (X.drop a) t := by
 unfold numEx
 rw [atB_drop, List.length_drop, show a + t + 1 = a + (t + 1) by omega, numSg_drop, runL_drop]
 by_cases h : a + t < X.length ∧ (atB X (a + t) ||| 32).toNat = 101
 · rw [if_pos h, if_pos ⟨by omega, h.2⟩]
 · rw [if_neg h, if_neg fun q => h ⟨by omega, q.2⟩]
theorem numE_drop (X : Bytes) (a : Nat) : numE X a = a + numE (X.drop a) 0 := by
 unfold numE
 rw [show atB (X.drop a) 0 = atB X a from atB_drop X a 0, show atB (X.drop a) (0 + 1) = atB X (a + 1) from atB_drop X a 1, show runL isDig X a = a + runL isDig (X.drop a) 0 from runL_drop isDig X a 0, numFr_drop, numEx_drop, runL_drop]
 by_cases h : (atB X a).toNat = 48 ∧ (atB X (a + 1)).toNat = 120
 · rw [if_pos h, if_pos h]
 · rw [if_neg h, if_neg h]
theorem numR_drop (X : Bytes) (a : Nat) : numR X a = (numR (X.drop a) 0).shift a := by
 unfold numR
 simp only []
 rw [numE_drop X a, atB_drop, List.length_drop, List.drop_zero, List.drop_take, show a + numE (X.drop a) 0 - a = numE (X.drop a) 0 by omega]
 by_cases h : (litP ((X.drop a).take (numE (X.drop a) 0))).2 = false ∨ (a + numE (X.drop a) 0 < X.length ∧ isSm (atB X (a + numE (X.drop a) 0)) = true)
 · rw [if_pos h, if_pos (h.imp_right fun q => ⟨by omega, q.2⟩)]; rfl
 · rw [if_neg h, if_neg fun q => h (q.imp_right fun q => ⟨by omega, q.2⟩)]; rfl
theorem strE_drop (X : Bytes) (q : UInt8) (a : Nat) : ∀ (f t : Nat) (m : Bytes), strE f X q (a + t) m = (strE f (X.drop a) q t m).map fun r => (r.1, a + r.2)
 | 0, _, _ => rfl
 | f + 1, t, m => by
   unfold strE
   rw [atB_drop, List.length_drop, List.drop_drop, show a + t + 1 = a + (t + 1) by omega, strE_drop X q a f, show a + t + (escP (X.drop (a + t))).2 = a + (t + (escP (X.drop (a + t))).2) by omega, strE_drop X q a f]
   by_cases h : X.length ≤ a + t
   · rw [if_pos h, if_pos (by omega)]; rfl
   · rw [if_neg h, if_neg (show ¬ X.length - a ≤ t by omega)]
     by_cases h1 : atB X (a + t) = q
     · rw [if_pos h1, if_pos h1]; rfl
     · rw [if_neg h1, if_neg h1]
       by_cases h2 : (atB X (a + t)).toNat = 10
       · rw [if_pos h2, if_pos h2]; rfl
       · rw [if_neg h2, if_neg h2]
         by_cases h3 : (atB X (a + t)).toNat = 92
         · rw [if_pos h3, if_pos h3]
           by_cases h4 : (escP (X.drop (a + t))).2 = 0
           · rw [if_pos h4, if_pos h4]; rfl
           · rw [if_neg h4, if_neg h4]
         · rw [if_neg h3, if_neg h3]
theorem strE_fuel {X : Bytes} {q : UInt8} : ∀ (f g t : Nat) (m : Bytes), X.length - t < f → X.length - t < g → strE f X q t m = strE g X q t m
 | 0, _, _, _, h, _ => absurd h (Nat.not_lt_zero _)
 | _ + 1, 0, _, _, _, h => absurd h (Nat.not_lt_zero _)
 | f + 1, g + 1, t, m, hf, hg => by
   by_cases h : X.length ≤ t
   · rw [strE_end h, strE_end h]
   · have hl : t < X.length := by omega
     by_cases h1 : atB X t = q
     · rw [strE_close hl h1, strE_close hl h1]
     · by_cases h2 : (atB X t).toNat = 10
       · rw [strE_nl hl h1 h2, strE_nl hl h1 h2]
       · by_cases h3 : (atB X t).toNat = 92
         · by_cases h4 : (escP (X.drop t)).2 = 0
           · rw [strE_no hl h1 h3 h4, strE_no hl h1 h3 h4]
           · rw [strE_esc hl h1 h3 h4, strE_esc hl h1 h3 h4]
             exact strE_fuel f g _ _ (by omega) (by omega)
         · rw [strE_one hl h1 h2 h3, strE_one hl h1 h2 h3]
           exact strE_fuel f g _ _ (by omega) (by omega)
theorem strP_drop {X : Bytes} {a : Nat} (ha : a < X.length) : strP X a = (strP (X.drop a) 0).map fun r => (r.1, a + r.2) := by
 unfold strP
 rw [show atB (X.drop a) 0 = atB X a from atB_drop X a 0, strE_drop X _ a, Nat.zero_add, strE_fuel (X := X.drop a) (X.length + 1) ((X.drop a).length + 1) 1 [] (by rw [List.length_drop]; omega) (by omega)]
theorem textR_drop {X : Bytes} {a : Nat} (ha : a < X.length) : textR X a = (textR (X.drop a) 0).shift a := by
 cases h : strP (X.drop a) 0 with
 | none => rw [textR_none h, textR_none (show strP X a = none by rw [strP_drop ha, h]; rfl)]; rfl
 | some r =>
   have h1 : strP X a = some (r.1, a + r.2) := by rw [strP_drop ha, h]; rfl
   by_cases hm : r.1.length > 4096
   · rw [textR_long h hm, textR_long h1 hm]; rfl
   · rw [textR_some h hm, textR_some h1 hm, Nat.add_assoc]; rfl
theorem signR_drop (X : Bytes) (a : Nat) : signR X a = (signR (X.drop a) 0).shift a := by
 unfold signR
 rw [List.drop_zero]
 cases signsL.find? (fun s => Lib.hasPrefix (X.drop a) s) with
 | none => rfl
 | some s => simp only [Nat.zero_add]; rfl
theorem tokR_drop {X : Bytes} {a : Nat} (ha : a < X.length) : tokR X a = (tokR (X.drop a) 0).shift a := by
 unfold tokR
 rw [atB_drop, Nat.add_zero]
 by_cases h1 : isDig (atB X a) = true
 · rw [if_pos h1, if_pos h1, numR_drop]
 · rw [if_neg h1, if_neg h1]
   by_cases h2 : isSm (atB X a) = true
   · rw [if_pos h2, if_pos h2, nameR_drop]
   · rw [if_neg h2, if_neg h2]
     by_cases h3 : (atB X a).toNat = 34 ∨ (atB X a).toNat = 39
     · rw [if_pos h3, if_pos h3, textR_drop ha]
     · rw [if_neg h3, if_neg h3, signR_drop]
def sepC (c : UInt8) : Bool := decide (c.toNat = 9 ∨ c.toNat = 10 ∨ c.toNat = 32 ∨ c.toNat = 47)
theorem sep_cases {c : UInt8} (h : sepC c = true) : c.toNat = 9 ∨ c.toNat = 10 ∨ c.toNat = 32 ∨ c.toNat = 47 := of_decide_eq_true h
theorem sep_dig {c : UInt8} (h : sepC c = true) : isDig c = false := by
 have := sep_cases h
 unfold isDig; exact decide_eq_false (by omega)
theorem sep_sm {c : UInt8} (h : sepC c = true) : isSm c = false := by
 have := sep_cases h
 unfold isSm; exact decide_eq_false (by omega)
theorem sep_hx {c : UInt8} (h : sepC c = true) : isHx c = false := by
 have := sep_cases h
 unfold isHx; exact decide_eq_false (by omega)
section
variable {X r : Bytes} {c : UInt8}
theorem atB_app {S : Bytes} {i : Nat} (h : i < X.length) : atB (X ++ S) i = atB X i := by unfold atB; rw [List.getElem?_append_left h]
theorem atB_appE : atB (X ++ c :: r) X.length = c := by unfold atB; rw [List.getElem?_append_right (Nat.le_refl _), Nat.sub_self]; rfl
theorem atB_end : atB X X.length = 0 := atB_none (Nat.le_refl _)
theorem takeWhile_app {p : UInt8 → Bool} (hp : p c = false) : ∀ Y : Bytes, (Y ++ c :: r).takeWhile p = Y.takeWhile p
 | [] => by simp [hp]
 | y :: Y => by
   rw [List.cons_append, List.takeWhile_cons, List.takeWhile_cons, takeWhile_app hp Y]
theorem runL_app {p : UInt8 → Bool} {n : Nat} (hp : p c = false) (hn : n ≤ X.length) : runL p (X ++ c :: r) n = runL p X n := by
 unfold runL
 rw [List.drop_append_of_le_length hn, takeWhile_app hp]
variable (hs : sepC c = true)
include hs
theorem numFr_app {t : Nat} (ht : t ≤ X.length) : numFr (X ++ c :: r) t = numFr X t := by
 unfold numFr
 have hc := sep_cases hs
 have hd := sep_dig hs
 by_cases h : t + 1 < X.length
 · rw [atB_app (by omega), atB_app h, runL_app hd (by omega), List.length_append]
   by_cases h1 : (atB X t).toNat = 46 ∧ isDig (atB X (t + 1)) = true
   · rw [if_pos ⟨by omega, h1⟩, if_pos ⟨h, h1⟩]
   · rw [if_neg fun q => h1 q.2, if_neg fun q => h1 q.2]
 · rw [if_neg (show ¬ (t + 1 < X.length ∧ _) from fun q => h q.1), if_neg]
   rintro ⟨_, q1, q2⟩
   rcases Nat.lt_or_eq_of_le ht with h2 | h2
   · rw [show t + 1 = X.length by omega, atB_appE, hd] at q2
     cases q2
   · rw [h2, atB_appE] at q1
     omega
theorem numSg_app {t : Nat} (ht : t ≤ X.length) : numSg (X ++ c :: r) t = numSg X t := by
 unfold numSg
 have hc := sep_cases hs
 rcases Nat.lt_or_eq_of_le ht with h2 | h2
 · rw [atB_app h2, List.length_append]
   by_cases h1 : (atB X t).toNat = 43 ∨ (atB X t).toNat = 45
   · rw [if_pos ⟨by omega, h1⟩, if_pos ⟨h2, h1⟩]
   · rw [if_neg fun q => h1 q.2, if_neg fun q => h1 q.2]
 · rw [if_neg (show ¬ (t < X.length ∧ _) from fun q => absurd q.1 (by omega)), if_neg]
   rintro ⟨_, q⟩
   rw [h2, atB_appE] at q
   omega
theorem numEx_app {t : Nat} (ht : t ≤ X.length) : numEx (X ++ c :: r) t = numEx X t := by
 unfold numEx
 have hc := sep_cases hs
 rcases Nat.lt_or_eq_of_le ht with h2 | h2
 · rw [atB_app h2, List.length_append, numSg_app hs (by omega), runL_app (sep_dig hs) (numSg_le (by omega))]
   by_cases h1 : (atB X t ||| 32).toNat = 101
   · rw [if_pos ⟨by omega, h1⟩, if_pos ⟨h2, h1⟩]
   · rw [if_neg fun q => h1 q.2, if_neg fun q => h1 q.2]
 · rw [if_neg (show ¬ (t < X.length ∧ _) from fun q => absurd q.1 (by omega)), if_neg]
   rintro ⟨_, q⟩
   rw [h2, atB_appE, or32] at q
   split at q <;> omega
theorem numE_app {a : Nat} (ha : a < X.length) : numE (X ++ c :: r) a = numE X a := by
 unfold numE
 have hc := sep_cases hs
 rw [atB_app ha, runL_app (sep_dig hs) (Nat.le_of_lt ha), numFr_app hs (runL_le (Nat.le_of_lt ha)), numEx_app hs (numFr_le (runL_le (Nat.le_of_lt ha)))]
 rcases Nat.lt_or_eq_of_le (show a + 1 ≤ X.length by omega) with h2 | h2
 · rw [atB_app h2, runL_app (sep_hx hs) (by omega)]
 · rw [if_neg, if_neg]
   · rintro ⟨_, q⟩; rw [h2, atB_end] at q; exact absurd q (by decide)
   · rintro ⟨_, q⟩; rw [h2, atB_appE] at q; omega
theorem numR_app {a : Nat} (ha : a < X.length) : numR (X ++ c :: r) a = numR X a := by
 unfold numR
 simp only []
 have hle := numE_le (X := X) (Nat.le_of_lt ha)
 rw [numE_app hs ha, List.take_append_of_le_length hle]
 rcases Nat.lt_or_eq_of_le hle with h2 | h2
 · rw [atB_app h2, List.length_append]
   by_cases h : (litP ((X.take (numE X a)).drop a)).2 = false ∨ (numE X a < X.length ∧ isSm (atB X (numE X a)) = true)
   · rw [if_pos h, if_pos (h.imp_right fun q => ⟨by omega, q.2⟩)]
   · rw [if_neg h, if_neg fun q => h (q.imp_right fun q => ⟨by omega, q.2⟩)]
 · have hn : ¬ isSm (atB (X ++ c :: r) (numE X a)) = true := by rw [h2, atB_appE, sep_sm hs]; decide
   by_cases h : (litP ((X.take (numE X a)).drop a)).2 = false
   · rw [if_pos (.inl h), if_pos (.inl h)]
   · rw [if_neg (fun q => q.elim h fun q => hn q.2), if_neg (fun q => q.elim h fun q => absurd q.1 (by omega))]
theorem nameT_app {a : Nat} (ha : a < X.length) : nameT (X ++ c :: r) a = nameT X a := by
 unfold nameT
 rw [runL_app (sep_sm hs) (Nat.le_of_lt ha), List.take_append_of_le_length (runL_le (Nat.le_of_lt ha))]
theorem nameR_app {a : Nat} (ha : a < X.length) : nameR (X ++ c :: r) a = nameR X a := by
 unfold nameR
 rw [nameT_app hs ha, runL_app (sep_sm hs) (Nat.le_of_lt ha)]
theorem prefix_app : ∀ (Y : Bytes) {s : Bytes}, (∀ b ∈ s, sepC b = false) → Lib.hasPrefix (Y ++ c :: r) s = Lib.hasPrefix Y s
 | _, [], _ => by simp [Lib.hasPrefix]
 | [], b :: s, h => by
   have hb := h b (List.mem_cons_self ..)
   have hne : (b == c) = false := by
     apply Bool.eq_false_iff.2
     intro q
     rw [eq_of_beq q] at hb
     rw [hs] at hb; cases hb
   simp [Lib.hasPrefix, List.isPrefixOf, hne]
 | y :: Y, b :: s, h => by
   have := prefix_app Y (s := s) fun x hx => h x (List.mem_cons_of_mem _ hx)
   simp only [Lib.hasPrefix, List.cons_append, List.isPrefixOf] at this ⊢
   rw [this]
theorem prefix_app1 {Y : Bytes} (hY : Y ≠ []) {s : Bytes} (h : ∀ b ∈ s.tail, sepC b = false) : Lib.hasPrefix (Y ++ c :: r) s = Lib.hasPrefix Y s := by
 cases Y with
 | nil => exact absurd rfl hY
 | cons y Y =>
   cases s with
   | nil => simp [Lib.hasPrefix]
   | cons b s =>
     have := prefix_app hs (r := r) Y (s := s) h
     simp only [Lib.hasPrefix, List.cons_append, List.isPrefixOf] at this ⊢
     rw [this]
end
theorem signs_sep : ∀ s ∈ signsL, ∀ b ∈ s.tail, sepC b = false := by decide +kernel
theorem find_congr {α : Type} {p q : α → Bool} : ∀ {l : List α}, (∀ x ∈ l, p x = q x) → l.find? p = l.find? q
 | [], _ => rfl
 | x :: l, h => by rw [List.find?_cons, List.find?_cons, h x (List.mem_cons_self ..), find_congr fun y hy => h y (List.mem_cons_of_mem _ hy)]
theorem signR_app {X r : Bytes} {c : UInt8} (hs : sepC c = true) {a : Nat} (ha : a < X.length) : signR (X ++ c :: r) a = signR X a := by
 unfold signR
 rw [List.drop_append_of_le_length (Nat.le_of_lt ha), find_congr (q := fun s => Lib.hasPrefix (X.drop a) s)]
 intro s h
 exact prefix_app1 hs (by intro q; have := congrArg List.length q; rw [List.length_drop] at this; simp at this; omega) (signs_sep s h)
theorem idx_small (c : UInt8) (h : ¬ Lib.indexByte [110, 116, 92, 39, 34] c < 0) : c.toNat ≠ 120 ∧ c.toNat ≠ 10 := by
 have : ∀ n : Fin 256, ¬ Lib.indexByte [110, 116, 92, 39, 34] (UInt8.ofNat n) < 0 → (UInt8.ofNat n).toNat ≠ 120 ∧ (UInt8.ofNat n).toNat ≠ 10 := by decide
 have q := this ⟨c.toNat, c.toNat_lt⟩
 simp only [UInt8.ofNat_toNat] at q
 exact q h
theorem escP_app {Y S : Bytes} (h : (escP Y).2 ≠ 0) : escP (Y ++ S) = escP Y := by
 by_cases h1 : Y.length > 3 ∧ (atB Y 1).toNat = 120 ∧ isHx (atB Y 2) = true ∧ isHx (atB Y 3) = true
 · rw [escP_hex h1.1 h1.2.1 h1.2.2.1 h1.2.2.2, escP_hex (by rw [List.length_append]; omega) (by rw [atB_app (by omega)]; exact h1.2.1) (by rw [atB_app (by omega)]; exact h1.2.2.1) (by rw [atB_app (by omega)]; exact h1.2.2.2), atB_app (by omega), atB_app (by omega)]
 · by_cases h2 : Y.length < 2
   · rw [escP_short h1 h2] at h; exact absurd rfl h
   · by_cases h3 : Lib.indexByte [110, 116, 92, 39, 34] (atB Y 1) < 0
     · rw [escP_none h1 h2 h3] at h; exact absurd rfl h
     · have h4 := idx_small _ h3
       have e1 : atB (Y ++ S) 1 = atB Y 1 := atB_app (by omega)
       rw [escP_one h1 h2 h3, escP_one (by rw [e1]; rintro ⟨_, q, _⟩; exact h4.1 q) (by rw [List.length_append]; omega) (by rw [e1]; exact h3), e1]
theorem escP_nl {Y S : Bytes} (h : (escP Y).2 = 0) (hY : Y ≠ []) : (escP (Y ++ 10 :: S)).2 = 0 := by
 have hl : 0 < Y.length := List.length_pos_iff.2 hY
 have h1 : ¬ (Y.length > 3 ∧ (atB Y 1).toNat = 120 ∧ isHx (atB Y 2) = true ∧ isHx (atB Y 3) = true) := by
   intro q; rw [escP_hex q.1 q.2.1 q.2.2.1 q.2.2.2] at h; exact absurd h (show ¬ (4 : Nat) = 0 by decide)
 have nl : ∀ Z : Bytes, Z.length ≤ 3 → 0 < Z.length → ¬ ((Z ++ 10 :: S).length > 3 ∧ (atB (Z ++ 10 :: S) 1).toNat = 120 ∧ isHx (atB (Z ++ 10 :: S) 2) = true ∧ isHx (atB (Z ++ 10 :: S) 3) = true) := by
   rintro Z hz h0 ⟨_, q1, q2, q3⟩
   rcases (show Z.length = 1 ∨ Z.length = 2 ∨ Z.length = 3 by omega) with e | e | e
   · rw [← e, atB_appE] at q1; exact absurd q1 (by decide)
   · rw [← e, atB_appE] at q2; exact absurd q2 (by decide)
   · rw [← e, atB_appE] at q3; exact absurd q3 (by decide)
 have h1' : ¬ ((Y ++ 10 :: S).length > 3 ∧ (atB (Y ++ 10 :: S) 1).toNat = 120 ∧ isHx (atB (Y ++ 10 :: S) 2) = true ∧ isHx (atB (Y ++ 10 :: S) 3) = true) := by
   by_cases hz : Y.length ≤ 3
   · exact nl Y hz hl
   · rw [atB_app (by omega), atB_app (by omega), atB_app (by omega)]
     exact fun q => h1 ⟨by omega, q.2⟩
 by_cases h2 : Y.length < 2
 · have e : atB (Y ++ 10 :: S) 1 = 10 := by rw [show 1 = Y.length by omega]; exact atB_appE
   rw [escP_none h1' (by rw [List.length_append, List.length_cons]; omega) (by rw [e]; decide)]
 · have e1 : atB (Y ++ 10 :: S) 1 = atB Y 1 := atB_app (by omega)
   by_cases h3 : Lib.indexByte [110, 116, 92, 39, 34] (atB Y 1) < 0
   · rw [escP_none h1' (by rw [List.length_append]; omega) (by rw [e1]; exact h3)]
   · rw [escP_one h1 h2 h3] at h; exact absurd h (show ¬ (2 : Nat) = 0 by decide)
theorem strE_some {X S : Bytes} {q : UInt8} : ∀ (f t : Nat) (m : Bytes) {r : Bytes × Nat}, strE f X q t m = some r → strE f (X ++ S) q t m = some r
 | 0, _, _, _, h => by cases h
 | f + 1, t, m, r, h => by
   by_cases h0 : X.length ≤ t
   · rw [strE_end h0] at h; cases h
   · have hl : t < X.length := by omega
     have hl' : t < (X ++ S).length := by rw [List.length_append]; omega
     have ha : atB (X ++ S) t = atB X t := atB_app hl
     by_cases h1 : atB X t = q
     · rw [strE_close hl h1] at h; rw [strE_close hl' (ha.trans h1)]; exact h
     · have h1' : atB (X ++ S) t ≠ q := by rw [ha]; exact h1
       by_cases h2 : (atB X t).toNat = 10
       · rw [strE_nl hl h1 h2] at h; cases h
       · by_cases h3 : (atB X t).toNat = 92
         · by_cases h4 : (escP (X.drop t)).2 = 0
           · rw [strE_no hl h1 h3 h4] at h; cases h
           · have he : escP ((X ++ S).drop t) = escP (X.drop t) := by rw [List.drop_append_of_le_length (Nat.le_of_lt hl)]; exact escP_app h4
             rw [strE_esc hl h1 h3 h4] at h
             rw [strE_esc hl' h1' (by rw [ha]; exact h3) (by rw [he]; exact h4), he]
             exact strE_some f _ _ h
         · rw [strE_one hl h1 h2 h3] at h
           rw [strE_one hl' h1' (by rw [ha]; exact h2) (by rw [ha]; exact h3), ha]
           exact strE_some f _ _ h
theorem strE_nlN {X S : Bytes} {q : UInt8} (hq : q ≠ 10) : ∀ (f t : Nat) (m : Bytes), t ≤ X.length → strE f X q t m = none → strE f (X ++ 10 :: S) q t m = none
 | 0, _, _, _, _ => rfl
 | f + 1, t, m, ht, h => by
   have hl' : t < (X ++ 10 :: S).length := by rw [List.length_append, List.length_cons]; omega
   by_cases h0 : X.length ≤ t
   · have e : atB (X ++ 10 :: S) t = 10 := by rw [show t = X.length by omega]; exact atB_appE
     exact strE_nl hl' (by rw [e]; exact fun q' => hq q'.symm) (by rw [e]; rfl)
   · have hl : t < X.length := by omega
     have ha : atB (X ++ 10 :: S) t = atB X t := atB_app hl
     by_cases h1 : atB X t = q
     · rw [strE_close hl h1] at h; cases h
     · have h1' : atB (X ++ 10 :: S) t ≠ q := by rw [ha]; exact h1
       by_cases h2 : (atB X t).toNat = 10
       · exact strE_nl hl' h1' (by rw [ha]; exact h2)
       · have hd : (X ++ 10 :: S).drop t = X.drop t ++ 10 :: S := List.drop_append_of_le_length (Nat.le_of_lt hl)
         by_cases h3 : (atB X t).toNat = 92
         · by_cases h4 : (escP (X.drop t)).2 = 0
           · exact strE_no hl' h1' (by rw [ha]; exact h3) (by rw [hd]; exact escP_nl h4 (by intro q; have := congrArg List.length q; rw [List.length_drop] at this; simp at this; omega))
           · have he : escP ((X ++ 10 :: S).drop t) = escP (X.drop t) := by rw [hd]; exact escP_app h4
             rw [strE_esc hl h1 h3 h4] at h
             rw [strE_esc hl' h1' (by rw [ha]; exact h3) (by rw [he]; exact h4), he]
             have := (escP_in (X.drop t)).2
             rw [List.length_drop] at this
             exact strE_nlN hq f _ _ (by omega) h
         · rw [strE_one hl h1 h2 h3] at h
           rw [strE_one hl' h1' (by rw [ha]; exact h2) (by rw [ha]; exact h3), ha]
           exact strE_nlN hq f _ _ (by omega) h
theorem strP_some {X S : Bytes} {a : Nat} {r : Bytes × Nat} (ha : a < X.length) (h : strP X a = some r) : strP (X ++ S) a = some r := by
 unfold strP at h ⊢
 rw [atB_app ha]
 exact strE_some _ _ _ ((strE_fuel _ _ _ _ (by rw [List.length_append]; omega) (by omega)).trans h)
theorem strP_nl {X S : Bytes} {a : Nat} (ha : a < X.length) (hq : atB X a ≠ 10) (h : strP X a = none) : strP (X ++ 10 :: S) a = none := by
 unfold strP at h ⊢
 rw [atB_app ha]
 exact strE_nlN hq _ _ _ (by omega) ((strE_fuel _ _ _ _ (by rw [List.length_append]; omega) (by omega)).trans h)
theorem textR_app {X S : Bytes} {a : Nat} {r : Bytes × Nat} (ha : a < X.length) (h : strP X a = some r) : textR (X ++ S) a = textR X a := by
 by_cases hm : r.1.length > 4096
 · rw [textR_long h hm, textR_long (strP_some ha h) hm]
 · rw [textR_some h hm, textR_some (strP_some ha h) hm]
theorem tokR_app {X r : Bytes} {c : UInt8} (hs : sepC c = true) {a : Nat} (ha : a < X.length) (h : c = 10 ∨ ∃ k t n tz, tokR X a = .tok k t n tz) : tokR (X ++ c :: r) a = tokR X a := by
 unfold tokR at h ⊢
 rw [atB_app ha, numR_app hs ha, nameR_app hs ha, signR_app hs ha]
 by_cases h1 : isDig (atB X a) = true
 · rw [if_pos h1, if_pos h1]
 · by_cases h2 : isSm (atB X a) = true
   · rw [if_neg h1, if_pos h2, if_neg h1, if_pos h2]
   · by_cases h3 : (atB X a).toNat = 34 ∨ (atB X a).toNat = 39
     · rw [if_neg h1, if_neg h2, if_pos h3] at h ⊢
       rw [if_neg h1, if_neg h2, if_pos h3]
       cases hp : strP X a with
       | some q => exact textR_app ha hp
       | none =>
         rcases h with rfl | ⟨k, t, n, tz, h⟩
         · rw [textR_none hp, textR_none (strP_nl ha (by intro q; rw [q] at h3; exact absurd h3 (by decide)) hp)]
         · rw [textR_none hp] at h; cases h
     · rw [if_neg h1, if_neg h2, if_neg h3, if_neg h1, if_neg h2, if_neg h3]
theorem runL_cut {p : UInt8 → Bool} {P R : Bytes} {n : Nat} (hn : n ≤ P.length) (h : runL p (P ++ R) n ≤ P.length) : runL p P n = runL p (P ++ R) n := by
 unfold runL at h ⊢
 rw [List.drop_append_of_le_length hn] at h ⊢
 congr 1
 generalize hY : P.drop n = Y at h ⊢
 have hl : Y.length = P.length - n := by rw [← hY, List.length_drop]
 have key : ∀ Y : Bytes, ((Y ++ R).takeWhile p).length ≤ Y.length → (Y.takeWhile p).length = ((Y ++ R).takeWhile p).length := by
   intro Y
   induction Y with
   | nil => intro q; simp at q ⊢; rw [q]; rfl
   | cons y Y ih =>
     intro q
     rw [List.cons_append, List.takeWhile_cons] at q ⊢
     rw [List.takeWhile_cons]
     by_cases hp : p y = true
     · rw [if_pos hp, if_pos hp, List.length_cons, List.length_cons]
       rw [if_pos hp, List.length_cons, List.length_cons] at q
       rw [ih (by omega)]
     · rw [if_neg hp, if_neg hp]
 exact key Y (by omega)
section
variable {P R : Bytes}
theorem numFr_cut {t : Nat} (ht : t ≤ P.length) (h : numFr (P ++ R) t ≤ P.length) : numFr P t = numFr (P ++ R) t := by
 unfold numFr at h ⊢
 by_cases h1 : t + 1 < (P ++ R).length ∧ (atB (P ++ R) t).toNat = 46 ∧ isDig (atB (P ++ R) (t + 1)) = true
 · rw [if_pos h1] at h ⊢
   obtain ⟨x, hx⟩ : ∃ x, (P ++ R)[t + 1]? = some x := ⟨_, List.getElem?_eq_getElem h1.1⟩
   have h2 := h1.2.2
   rw [atB_some hx] at h2
   have h3 := runL_step hx h2
   have h4 := runL_ge isDig (P ++ R) (t + 1 + 1)
   rw [if_pos, runL_cut (by omega) h]
   rw [atB_app (by omega), atB_app (by omega)] at h1
   exact ⟨by omega, h1.2⟩
 · rw [if_neg h1] at h ⊢
   rw [if_neg]
   rintro ⟨q0, q⟩
   refine h1 ⟨by rw [List.length_append]; omega, ?_⟩
   rw [atB_app (by omega), atB_app (by omega)]
   exact q
theorem numSg_cut {t : Nat} (ht : t ≤ P.length) (h : numSg (P ++ R) t ≤ P.length) : numSg P t = numSg (P ++ R) t := by
 unfold numSg at h ⊢
 by_cases h1 : t < (P ++ R).length ∧ ((atB (P ++ R) t).toNat = 43 ∨ (atB (P ++ R) t).toNat = 45)
 · rw [if_pos h1] at h ⊢
   rw [atB_app (by omega)] at h1
   rw [if_pos ⟨by omega, h1.2⟩]
 · rw [if_neg h1, if_neg]
   rintro ⟨q0, q⟩
   exact h1 ⟨by rw [List.length_append]; omega, by rw [atB_app q0]; exact q⟩
theorem numEx_cut {t : Nat} (ht : t ≤ P.length) (h : numEx (P ++ R) t ≤ P.length) : numEx P t = numEx (P ++ R) t := by
 unfold numEx at h ⊢
 by_cases h1 : t < (P ++ R).length ∧ (atB (P ++ R) t ||| 32).toNat = 101
 · rw [if_pos h1] at h ⊢
   have h2 := runL_ge isDig (P ++ R) (numSg (P ++ R) (t + 1))
   have h3 := numSg_ge (P ++ R) (t + 1)
   rw [atB_app (by omega)] at h1
   have h4 := numSg_cut (P := P) (R := R) (t := t + 1) (by omega) (by omega)
   rw [if_pos ⟨by omega, h1.2⟩, h4, runL_cut (by omega) h]
 · rw [if_neg h1, if_neg]
   rintro ⟨q0, q⟩
   exact h1 ⟨by rw [List.length_append]; omega, by rw [atB_app q0]; exact q⟩
theorem numE_cut {a : Nat} (ha : a < P.length) (h : numE (P ++ R) a ≤ P.length) : numE P a = numE (P ++ R) a := by
 unfold numE at h ⊢
 rw [atB_app ha] at h ⊢
 by_cases h1 : (atB P a).toNat = 48 ∧ (atB (P ++ R) (a + 1)).toNat = 120
 · rw [if_pos h1] at h ⊢
   have h2 := runL_ge isHx (P ++ R) (a + 2)
   rw [atB_app (by omega)] at h1
   rw [if_pos h1, runL_cut (by omega) h]
 · rw [if_neg h1] at h ⊢
   have g1 := runL_ge isDig (P ++ R) a
   have g2 := numFr_ge (P ++ R) (runL isDig (P ++ R) a)
   have g3 := numEx_ge (P ++ R) (numFr (P ++ R) (runL isDig (P ++ R) a))
   have e1 := runL_cut (p := isDig) (P := P) (R := R) (n := a) (by omega) (by omega)
   have e2 := numFr_cut (P := P) (R := R) (t := runL isDig (P ++ R) a) (by omega) (by omega)
   have e3 := numEx_cut (P := P) (R := R) (t := numFr (P ++ R) (runL isDig (P ++ R) a)) (by omega) (by omega)
   rw [if_neg, e1, e2, e3]
   rintro ⟨q0, q⟩
   rcases Nat.lt_or_eq_of_le (show a + 1 ≤ P.length by omega) with q1 | q1
   · exact h1 ⟨q0, by rw [atB_app q1]; exact q⟩
   · rw [q1, atB_end] at q; exact absurd q (by decide)
theorem strE_ge {X : Bytes} {q : UInt8} : ∀ (f t : Nat) (m : Bytes) {r : Bytes × Nat}, strE f X q t m = some r → t ≤ r.2 ∧ r.2 < X.length
 | 0, _, _, _, h => by cases h
 | f + 1, t, m, r, h => by
   by_cases h0 : X.length ≤ t
   · rw [strE_end h0] at h; cases h
   · have hl : t < X.length := by omega
     by_cases h1 : atB X t = q
     · rw [strE_close hl h1] at h; cases h; exact ⟨Nat.le_refl _, hl⟩
     · by_cases h2 : (atB X t).toNat = 10
       · rw [strE_nl hl h1 h2] at h; cases h
       · by_cases h3 : (atB X t).toNat = 92
         · by_cases h4 : (escP (X.drop t)).2 = 0
           · rw [strE_no hl h1 h3 h4] at h; cases h
           · rw [strE_esc hl h1 h3 h4] at h
             have := strE_ge f _ _ h
             omega
         · rw [strE_one hl h1 h2 h3] at h
           have := strE_ge f _ _ h
           omega
theorem escP_cut {Y S : Bytes} (h : (escP (Y ++ S)).2 ≠ 0) (hl : (escP (Y ++ S)).2 < Y.length) : escP Y = escP (Y ++ S) := by
 by_cases h0 : (escP Y).2 = 0
 · exfalso
   by_cases h1 : (Y ++ S).length > 3 ∧ (atB (Y ++ S) 1).toNat = 120 ∧ isHx (atB (Y ++ S) 2) = true ∧ isHx (atB (Y ++ S) 3) = true
   · rw [escP_hex h1.1 h1.2.1 h1.2.2.1 h1.2.2.2] at hl
     simp only [] at hl
     rw [atB_app (by omega), atB_app (by omega), atB_app (by omega)] at h1
     rw [escP_hex (by omega) h1.2.1 h1.2.2.1 h1.2.2.2] at h0
     exact absurd h0 (show ¬ (4 : Nat) = 0 by decide)
   · by_cases h2 : (Y ++ S).length < 2
     · rw [escP_short h1 h2] at h; exact h rfl
     · by_cases h3 : Lib.indexByte [110, 116, 92, 39, 34] (atB (Y ++ S) 1) < 0
       · rw [escP_none h1 h2 h3] at h; exact h rfl
       · rw [escP_one h1 h2 h3] at hl
         simp only [] at hl
         have h4 := idx_small _ h3
         rw [atB_app (by omega)] at h3 h4
         rw [escP_one (by rintro ⟨_, q, _⟩; exact h4.1 q) (by omega) h3] at h0
         exact absurd h0 (show ¬ (2 : Nat) = 0 by decide)
 · exact (escP_app h0).symm
theorem strE_cut {q : UInt8} : ∀ (f t : Nat) (m : Bytes) {r : Bytes × Nat}, strE f (P ++ R) q t m = some r → r.2 < P.length → strE f P q t m = some r
 | 0, _, _, _, h, _ => by cases h
 | f + 1, t, m, r, h, hr => by
   have hge := strE_ge _ _ _ h
   have hl : t < P.length := by omega
   have hl' : t < (P ++ R).length := by rw [List.length_append]; omega
   have ha : atB (P ++ R) t = atB P t := atB_app hl
   by_cases h1 : atB P t = q
   · rw [strE_close hl' (ha.trans h1)] at h; rw [strE_close hl h1]; exact h
   · have h1' : atB (P ++ R) t ≠ q := by rw [ha]; exact h1
     by_cases h2 : (atB P t).toNat = 10
     · rw [strE_nl hl' h1' (by rw [ha]; exact h2)] at h; cases h
     · by_cases h3 : (atB P t).toNat = 92
       · have hd : (P ++ R).drop t = P.drop t ++ R := List.drop_append_of_le_length (Nat.le_of_lt hl)
         by_cases h4 : (escP (P.drop t ++ R)).2 = 0
         · rw [strE_no hl' h1' (by rw [ha]; exact h3) (by rw [hd]; exact h4)] at h; cases h
         · rw [strE_esc hl' h1' (by rw [ha]; exact h3) (by rw [hd]; exact h4), hd] at h
           have hge2 := strE_ge _ _ _ h
           have he := escP_cut h4 (by rw [List.length_drop]; omega)
           rw [strE_esc hl h1 h3 (by rw [he]; exact h4), he]
           exact strE_cut f _ _ h hr
       · rw [strE_one hl' h1' (by rw [ha]; exact h2) (by rw [ha]; exact h3), ha] at h
         rw [strE_one hl h1 h2 h3]
         exact strE_cut f _ _ h hr
end
theorem find_cut {α : Type} {p q : α → Bool} {x : α} : ∀ {l : List α}, l.find? p = some x → (∀ y, q y = true → p y = true) → q x = true → l.find? q = some x
 | y :: l, h, h1, h2 => by
   rw [List.find?_cons] at h ⊢
   cases hp : p y with
   | true => rw [hp] at h; cases h; rw [h2]
   | false =>
     rw [hp] at h
     rw [show q y = false from by apply Bool.eq_false_iff.2; intro z; rw [h1 y z] at hp; cases hp]
     exact find_cut h h1 h2
theorem prefix_more {Y S s : Bytes} (h : Lib.hasPrefix Y s = true) : Lib.hasPrefix (Y ++ S) s = true := by
 have := List.isPrefixOf_iff_prefix.1 h
 exact List.isPrefixOf_iff_prefix.2 (this.trans (List.prefix_append _ _))
theorem tokR_cut {P R t : Bytes} {k : Int} {n a : Nat} (ha : a < P.length) (h : tokR (P ++ R) a = .tok k t n P.length) : tokR P a = .tok k t n P.length := by
 unfold tokR at h ⊢
 rw [atB_app ha] at h
 by_cases h1 : isDig (atB P a) = true
 · rw [if_pos h1] at h ⊢
   unfold numR at h ⊢
   simp only [] at h ⊢
   split at h
   · cases h
   · rename_i hn
     injection h with q1 q2 q3 q4
     have e := numE_cut ha (Nat.le_of_eq q4)
     rw [q4] at e
     rw [e]
     rw [q4, List.take_left' rfl] at q3 hn
     rw [List.take_length, if_neg, q1, q2, q3]
     rintro (z | z)
     · exact hn (.inl z)
     · exact absurd z.1 (Nat.lt_irrefl _)
 · rw [if_neg h1] at h ⊢
   by_cases h2 : isSm (atB P a) = true
   · rw [if_pos h2] at h ⊢
     unfold nameR nameT at h ⊢
     split at h
     · cases h
     · rename_i hn
       injection h with q1 q2 q3 q4
       have e := runL_cut (Nat.le_of_lt ha) (Nat.le_of_eq q4)
       rw [q4] at e
       rw [e]
       rw [q4, List.take_left' rfl] at q1 q2 hn
       rw [List.take_length, if_neg hn, q1, q2, q3]
   · rw [if_neg h2] at h ⊢
     by_cases h3 : (atB P a).toNat = 34 ∨ (atB P a).toNat = 39
     · rw [if_pos h3] at h ⊢
       cases hp : strP (P ++ R) a with
       | none => rw [textR_none hp] at h; cases h
       | some r =>
         by_cases hm : r.1.length > 4096
         · rw [textR_long hp hm] at h; cases h
         · rw [textR_some hp hm] at h
           injection h with q1 q2 q3 q4
           have hp' : strP P a = some r := by
             unfold strP at hp ⊢
             rw [atB_app ha] at hp
             have := strE_cut _ _ _ hp (by omega)
             rw [← this]
             exact strE_fuel _ _ _ _ (by omega) (by rw [List.length_append]; omega)
           rw [textR_some hp' hm, q1, q2, q3, q4]
     · rw [if_neg h3] at h ⊢
       unfold signR at h ⊢
       split at h
       · cases h
       · rename_i s hs
         injection h with q1 q2 q3 q4
         have hpre := List.find?_some hs
         rw [List.drop_append_of_le_length (Nat.le_of_lt ha)] at hs hpre
         have hd : P.drop a = s := by
           have h5 := List.isPrefixOf_iff_prefix.1 hpre
           have h6 : (P.drop a) <+: (P.drop a ++ R) := List.prefix_append _ _
           have h7 := List.prefix_of_prefix_length_le h6 h5 (by rw [List.length_drop]; omega)
           exact h7.eq_of_length (by rw [List.length_drop]; omega)
         have := find_cut (q := fun s => Lib.hasPrefix (P.drop a) s) hs (fun y hy => prefix_more hy) (by rw [hd]; exact List.isPrefixOf_iff_prefix.2 (List.prefix_refl _))
         simp only [this]
         rw [← q4, q1, q2, q3]
end Go.Proofs.YtnhmmjogfkjceaaDoor
namespace Go.Proofs.YtnhmmjogfkjceaaDoor
open Go.Sl
inductive ScanR where
  | bad (i : Nat) (e : Int)
  | good (l : List Tok)
def ScanR.toks : ScanR → List Tok
 | .bad _ _ => []
 | .good l => l
def ScanR.place : ScanR → Nat
 | .bad a _ => a
 | .good _ => 0
def ScanR.err : ScanR → Int
 | .bad _ e => e
 | .good _ => 0
def scanE : Nat → Bytes → Nat → List Tok → ScanR
 | 0, _, _, _ => .bad 0 0
 | f + 1, X, a, l =>
   if (blP X a).2 = false then .bad (blP X a).1 52
   else if (blP X a).1 < X.length then
     (if (tokR X (blP X a).1).err ≠ 0 then .bad (blP X a).1 (tokR X (blP X a).1).err
      else scanE f X ((tokR X (blP X a).1).past (blP X a).1) ((tokR X (blP X a).1).toks (blP X a).1 l))
   else .good (l ++ [⟨0, (blP X a).1, [], 0⟩])
def badAt (X : Bytes) : Option Nat := X.findIdx? fun c => !okR (c.toNat : Int)
def scanP (X : Bytes) : ScanR :=
 if X.length > 65536 then .bad 0 50
 else match badAt X with
   | some i => .bad i 51
   | none => scanE (X.length + 1) X 0 []
section
variable {f a : Nat} {X : Bytes} {l : List Tok} {m : Nat}
theorem scanE_bl (h : (blP X a).2 = false) : scanE (f + 1) X a l = .bad (blP X a).1 52 := by unfold scanE; rw [if_pos h]
theorem scanE_bad (h : (blP X a).2 = true) (h1 : (blP X a).1 < X.length) (h2 : (tokR X (blP X a).1).err ≠ 0) : scanE (f + 1) X a l = .bad (blP X a).1 (tokR X (blP X a).1).err := by
 unfold scanE; rw [if_neg (by rw [h]; decide), if_pos h1, if_pos h2]
theorem scanE_tok (h : (blP X a).2 = true) (h1 : (blP X a).1 < X.length) (h2 : (tokR X (blP X a).1).err = 0) : scanE (f + 1) X a l = scanE f X ((tokR X (blP X a).1).past (blP X a).1) ((tokR X (blP X a).1).toks (blP X a).1 l) := by
 conv => lhs; unfold scanE
 rw [if_neg (by rw [h]; decide), if_pos h1, if_neg (by simpa using h2)]
theorem scanE_end (h : (blP X a).2 = true) (h1 : ¬ (blP X a).1 < X.length) : scanE (f + 1) X a l = .good (l ++ [⟨0, (blP X a).1, [], 0⟩]) := by
 unfold scanE; rw [if_neg (by rw [h]; decide), if_neg h1]
end
theorem badAt_some {X : Bytes} {n : Nat} {e : UInt8} (h : ∀ c ∈ X.take n, okR (c.toNat : Int) = true) (he : X[n]? = some e) (hb : okR (e.toNat : Int) = false) : badAt X = some n := by
 unfold badAt
 rw [List.findIdx?_eq_some_iff_getElem]
 have hn := (List.getElem?_eq_some_iff.1 he)
 refine ⟨hn.1, by rw [hn.2, hb]; rfl, fun j hj => ?_⟩
 have hj' : j < X.length := Nat.lt_trans hj hn.1
 have : okR ((X[j]'hj').toNat : Int) = true := h _ (List.mem_take_iff_getElem.2 ⟨j, by omega, rfl⟩)
 rw [this]; decide
theorem badAt_none {X : Bytes} (h : ∀ c ∈ X, okR (c.toNat : Int) = true) : badAt X = none := by
 unfold badAt
 rw [List.findIdx?_eq_none_iff]
 intro c hc
 rw [h c hc]; rfl
theorem badAt_all {X : Bytes} (h : badAt X = none) : ∀ c ∈ X, okR (c.toNat : Int) = true := by
 unfold badAt at h
 rw [List.findIdx?_eq_none_iff] at h
 intro c hc
 have := h c hc
 simpa using this
theorem ok_step {X : Bytes} {n : Nat} {e : UInt8} (h : ∀ c ∈ X.take n, okR (c.toNat : Int) = true) (he : X[n]? = some e) (hb : okR (e.toNat : Int) = true) : ∀ c ∈ X.take (n + 1), okR (c.toNat : Int) = true := by
 intro c hc
 rw [List.take_add_one, he] at hc
 rcases List.mem_append.1 hc with q | q
 · exact h c q
 · rw [show c = e by simpa using q]; exact hb
theorem ok_low {e : UInt8} (h : ¬ e.toNat < 128) : okR (e.toNat : Int) = false := by unfold okR; exact decide_eq_false (by omega)
theorem ok_hi {z : Int} (h : 128 ≤ z) : okR z = false := by unfold okR; exact decide_eq_false (by omega)
theorem runL_gt {p : UInt8 → Bool} {X : Bytes} {a : Nat} (ha : a < X.length) (hp : p (atB X a) = true) : a + 1 ≤ runL p X a := by
 obtain ⟨c, hc⟩ : ∃ c, X[a]? = some c := ⟨_, List.getElem?_eq_getElem ha⟩
 rw [atB_some hc] at hp
 rw [runL_step hc hp]
 exact runL_ge ..
theorem signs_pos : ∀ s ∈ signsL, s ≠ [] := by decide +kernel
theorem tok_num {X : Bytes} {a : Nat} (h : isDig (atB X a) = true) : tokR X a = numR X a := by unfold tokR; rw [if_pos h]
theorem tok_name {X : Bytes} {a : Nat} (h : isDig (atB X a) = false) (h1 : isSm (atB X a) = true) : tokR X a = nameR X a := by unfold tokR; rw [if_neg (by rw [h]; decide), if_pos h1]
theorem tok_text {X : Bytes} {a : Nat} (h : isDig (atB X a) = false) (h1 : isSm (atB X a) = false) (h2 : (atB X a).toNat = 34 ∨ (atB X a).toNat = 39) : tokR X a = textR X a := by unfold tokR; rw [if_neg (by rw [h]; decide), if_neg (by rw [h1]; decide), if_pos h2]
theorem tok_sign {X : Bytes} {a : Nat} (h : isDig (atB X a) = false) (h1 : isSm (atB X a) = false) (h2 : ¬ ((atB X a).toNat = 34 ∨ (atB X a).toNat = 39)) : tokR X a = signR X a := by unfold tokR; rw [if_neg (by rw [h]; decide), if_neg (by rw [h1]; decide), if_neg h2]
theorem nameR_cases (X : Bytes) (a : Nat) : nameR X a = .bad 53 ∨ ∃ k, (k = 1 ∨ k = 2) ∧ nameR X a = .tok k (nameT X a) 0 (runL isSm X a) := by
 unfold nameR
 split
 · exact .inl rfl
 · refine .inr ⟨_, ?_, rfl⟩
   split
   · exact .inr rfl
   · exact .inl rfl
theorem numR_cases (X : Bytes) (a : Nat) : numR X a = .bad 54 ∨ ∃ n, numR X a = .tok 3 [] n (numE X a) := by
 unfold numR
 simp only []
 split
 · exact .inl rfl
 · exact .inr ⟨_, rfl⟩
theorem textR_cases {X : Bytes} {a : Nat} (ha : a < X.length) : (∃ e, (e = 55 ∨ e = 56) ∧ textR X a = .bad e) ∨ ∃ m t, textR X a = .tok 4 m 0 (t + 1) ∧ a + 1 ≤ t ∧ t < X.length := by
 cases h : strP X a with
 | none => exact .inl ⟨55, .inl rfl, textR_none h⟩
 | some r =>
   by_cases hm : r.1.length > 4096
   · exact .inl ⟨56, .inr rfl, textR_long h hm⟩
   · have := strE_ge _ _ _ h
     exact .inr ⟨r.1, r.2, textR_some h hm, this.1, this.2⟩
theorem signR_cases (X : Bytes) (a : Nat) : signR X a = .bad 57 ∨ ∃ s, s ∈ signsL ∧ s <+: X.drop a ∧ signR X a = .tok 5 s 0 (a + s.length) := by
 unfold signR
 cases h : signsL.find? (fun s => Lib.hasPrefix (X.drop a) s) with
 | none => exact .inl rfl
 | some s => exact .inr ⟨s, List.mem_of_find?_eq_some h, List.isPrefixOf_iff_prefix.1 (List.find?_some (p := fun s => Lib.hasPrefix (X.drop a) s) h), rfl⟩
theorem tokR_cases {X : Bytes} {a : Nat} (ha : a < X.length) : (∃ e, tokR X a = .bad e ∧ 53 ≤ e ∧ e ≤ 57) ∨ ∃ k t n tz, tokR X a = .tok k t n tz ∧ a < tz ∧ tz ≤ X.length ∧ 1 ≤ k ∧ k ≤ 5 ∧ (k ≠ 3 → k ≠ 4 → t = (X.take tz).drop a) := by
 by_cases h1 : isDig (atB X a) = true
 · rw [tok_num h1]
   rcases numR_cases X a with h | ⟨n, h⟩
   · exact .inl ⟨54, h, by decide, by decide⟩
   · refine .inr ⟨3, [], n, _, h, ?_, numE_le (Nat.le_of_lt ha), by decide, by decide, fun q => absurd rfl q⟩
     unfold numE
     split
     · have := runL_ge isHx X (a + 2); omega
     · have h2 := runL_gt ha h1
       have h3 := numFr_ge X (runL isDig X a)
       have h4 := numEx_ge X (numFr X (runL isDig X a))
       omega
 · have h1 := Bool.eq_false_iff.2 h1
   by_cases h2 : isSm (atB X a) = true
   · rw [tok_name h1 h2]
     rcases nameR_cases X a with h | ⟨k, hk, h⟩
     · exact .inl ⟨53, h, by decide, by decide⟩
     · have := runL_gt ha h2
       exact .inr ⟨k, _, 0, _, h, by omega, runL_le (Nat.le_of_lt ha), by omega, by omega, fun _ _ => rfl⟩
   · have h2 := Bool.eq_false_iff.2 h2
     by_cases h3 : (atB X a).toNat = 34 ∨ (atB X a).toNat = 39
     · rw [tok_text h1 h2 h3]
       rcases textR_cases ha with ⟨e, he, h⟩ | ⟨m, t, h, g1, g2⟩
       · exact .inl ⟨e, h, by omega, by omega⟩
       · exact .inr ⟨4, m, 0, t + 1, h, by omega, by omega, by decide, by decide, fun _ q => absurd rfl q⟩
     · rw [tok_sign h1 h2 h3]
       rcases signR_cases X a with h | ⟨s, hs, hp, h⟩
       · exact .inl ⟨57, h, by decide, by decide⟩
       · have hl := hp.length_le
         rw [List.length_drop] at hl
         have h0 := List.length_pos_iff.2 (signs_pos s hs)
         refine .inr ⟨5, s, 0, _, h, by omega, by omega, by decide, by decide, fun _ _ => ?_⟩
         rw [List.drop_take, show a + s.length - a = s.length by omega]
         exact List.prefix_iff_eq_take.1 hp
theorem tok_err {X : Bytes} {a : Nat} (ha : a < X.length) (h : (tokR X a).err ≠ 0) : (tokR X a).past a = a ∧ ∀ l, (tokR X a).toks a l = l := by
 rcases tokR_cases ha with ⟨e, he, _⟩ | ⟨k, t, n, tz, ht, _⟩
 · rw [he]; exact ⟨rfl, fun _ => rfl⟩
 · rw [ht] at h; exact absurd rfl h
theorem tok_good {X : Bytes} {a : Nat} (ha : a < X.length) (h : (tokR X a).err = 0) : a < (tokR X a).past a ∧ (tokR X a).past a ≤ X.length ∧ ∀ l, ((tokR X a).toks a l).length = l.length + 1 := by
 rcases tokR_cases ha with ⟨e, he, h1, _⟩ | ⟨k, t, n, tz, ht, h1, h2, _⟩
 · rw [he] at h; exact absurd (show e = 0 from h) (by omega)
 · rw [ht]; exact ⟨h1, h2, fun l => by simp [TokR.toks]⟩
theorem blE_ge {X : Bytes} : ∀ (f a : Nat), a ≤ (blE f X a).1
 | 0, a => Nat.le_refl _
 | f + 1, a => by
   by_cases h0 : X.length ≤ a
   · rw [blE_end h0]; exact Nat.le_refl _
   · have hl : a < X.length := by omega
     by_cases h1 : (atB X a).toNat = 32 ∨ (atB X a).toNat = 10 ∨ (atB X a).toNat = 9
     · rw [blE_sp hl h1]; exact Nat.le_trans (Nat.le_succ a) (blE_ge f _)
     · by_cases h2 : (atB X a).toNat = 47 ∧ (atB X (a + 1)).toNat = 47
       · rw [blE_line hl h2.1 h2.2]; exact Nat.le_trans (runL_ge ..) (blE_ge f _)
       · by_cases h3 : (atB X a).toNat = 47 ∧ (atB X (a + 1)).toNat = 42
         · by_cases h4 : Lib.index (X.drop (a + 2)) [42, 47] < 0
           · rw [blE_bad hl h3.1 h3.2 h4]; exact Nat.le_refl _
           · rw [blE_rem hl h3.1 h3.2 h4]
             exact Nat.le_trans (Nat.le_add_right ..) (blE_ge f _)
         · rw [blE_other hl h1 h2 h3]; exact Nat.le_refl _
theorem blP_ge (X : Bytes) (a : Nat) : a ≤ (blP X a).1 := blE_ge _ _
theorem blP_le {X : Bytes} {a : Nat} (h : a ≤ X.length) : (blP X a).1 ≤ X.length := blE_le _ _ h
theorem find_at {α : Type} {p : α → Bool} {x : α} : ∀ {l : List α} {i : Nat}, (∀ y ∈ l.take i, p y = false) → l[i]? = some x → p x = true → l.find? p = some x
 | [], _, _, h, _ => by simp at h
 | y :: l, 0, _, h, hp => by simp at h; subst h; rw [List.find?_cons, hp]
 | y :: l, i + 1, h, h1, hp => by
   rw [List.find?_cons, h y (by simp)]
   exact find_at (i := i) (fun z hz => h z (by rw [List.take_succ_cons]; exact List.mem_cons_of_mem _ hz)) (by simpa using h1) hp
theorem find_no {α : Type} {p : α → Bool} {l : List α} (h : ∀ y ∈ l, p y = false) : l.find? p = none := by
 rw [List.find?_eq_none]; intro y hy; rw [h y hy]; decide
theorem signs_n : signsL.length = 48 := by decide +kernel
theorem strs_at {L : List Bytes} {i : Nat} {x : Bytes} (h : L[i]? = some x) : (L.map fun q => Value.string (bS q))[i]? = some (.string (bS x)) := by rw [List.getElem?_map, h]; rfl
theorem signs_le : ∀ s ∈ signsL, s.length ≤ 4 := by decide +kernel
theorem sign_step {X : Bytes} {a i : Nat} {s : Bytes} (h : ∀ y ∈ signsL.take i, Lib.hasPrefix (X.drop a) y = false) (hs : signsL[i]? = some s) (hp : Lib.hasPrefix (X.drop a) s = false) : ∀ y ∈ signsL.take (i + 1), Lib.hasPrefix (X.drop a) y = false := by
 intro y hy
 rw [List.take_add_one, hs] at hy
 rcases List.mem_append.1 hy with q | q
 · exact h y q
 · rw [show y = s by simpa using q]; exact hp
theorem signR_at {X : Bytes} {a i : Nat} {s : Bytes} (h : ∀ y ∈ signsL.take i, Lib.hasPrefix (X.drop a) y = false) (hs : signsL[i]? = some s) (hp : Lib.hasPrefix (X.drop a) s = true) : signR X a = .tok 5 s 0 (a + s.length) := by
 unfold signR; rw [find_at (p := fun s => Lib.hasPrefix (X.drop a) s) h hs hp]
theorem signR_no {X : Bytes} {a i : Nat} (hi : ¬ i < 48) (h : ∀ y ∈ signsL.take i, Lib.hasPrefix (X.drop a) y = false) : signR X a = .bad 57 := by
 unfold signR; rw [find_no]; intro y hy; exact h y (by rw [List.take_of_length_le (by rw [signs_n]; omega)]; exact hy)
end Go.Proofs.YtnhmmjogfkjceaaDoor
namespace Go.Proofs.YtnhmmjogfkjceaaDoor
open Go.Sl
theorem prefix_cut {p s r : Bytes} (h : p.isPrefixOf (s ++ r) = true) (hl : p.length ≤ s.length) : p.isPrefixOf s = true := by
 have h5 := List.isPrefixOf_iff_prefix.1 h
 exact List.isPrefixOf_iff_prefix.2 (List.prefix_of_prefix_length_le h5 (List.prefix_append _ _) hl)
theorem index_more {p r : Bytes} : ∀ {s : Bytes} {i : Nat}, Lib.index s p = (i : Int) → Lib.index (s ++ r) p = (i : Int)
 | [], i, h => by
   unfold Lib.index at h
   split at h
   · rename_i hp
     have : p = [] := by simpa using hp
     subst this
     rw [Lib.index_empty]; exact h
   · omega
 | b :: l, i, h => by
   have hroom := index_room h
   unfold Lib.index at h
   rw [List.cons_append]
   unfold Lib.index
   by_cases hp : p.isPrefixOf (b :: l) = true
   · rw [if_pos hp] at h
     rw [if_pos]
     · exact h
     · have := List.isPrefixOf_iff_prefix.1 hp
       exact List.isPrefixOf_iff_prefix.2 (this.trans (by rw [← List.cons_append]; exact List.prefix_append _ _))
   · rw [if_neg hp] at h
     split at h
     · omega
     · rename_i hne
       have hge := Lib.index_ge l p
       obtain ⟨j, hj⟩ : ∃ j : Nat, Lib.index l p = (j : Int) := Int.eq_ofNat_of_zero_le (by simp at hne; omega)
       have ih := index_more (r := r) hj
       rw [if_neg, ih, if_neg]
       · omega
       · simp
       · intro q
         exact hp (prefix_cut (s := b :: l) (by rw [List.cons_append]; exact q) (by omega))
theorem index_cut {p : Bytes} : ∀ {s : Bytes} {i : Nat}, Lib.index s p = (i : Int) → Lib.index (s.take (i + p.length)) p = (i : Int)
 | [], i, h => by simpa using h
 | b :: l, i, h => by
   by_cases hp : p.isPrefixOf (b :: l) = true
   · unfold Lib.index at h
     rw [if_pos hp] at h
     have h0 : i = 0 := by omega
     subst h0
     have := List.isPrefixOf_iff_prefix.1 hp
     rw [Nat.zero_add, ← List.prefix_iff_eq_take.1 this, Lib.index_self]; rfl
   · unfold Lib.index at h
     rw [if_neg hp] at h
     split at h
     · omega
     · rename_i hne
       have hge := Lib.index_ge l p
       obtain ⟨j, hj⟩ : ∃ j : Nat, Lib.index l p = (j : Int) := Int.eq_ofNat_of_zero_le (by simp at hne; omega)
       have hi : i = j + 1 := by omega
       subst hi
       have ih := index_cut hj
       rw [show j + 1 + p.length = (j + p.length) + 1 by omega, List.take_succ_cons]
       unfold Lib.index
       rw [if_neg, ih, if_neg]
       · omega
       · simp
       · intro q
         refine hp (List.isPrefixOf_iff_prefix.2 ((List.isPrefixOf_iff_prefix.1 q).trans ?_))
         rw [← List.take_succ_cons]
         exact List.take_prefix _ _
theorem index_neg_nat {s p : Bytes} (h : ¬ Lib.index s p < 0) : ∃ j : Nat, Lib.index s p = (j : Int) := Int.eq_ofNat_of_zero_le (by omega)
theorem occ_split {s p : Bytes} {i : Nat} (h : Lib.index s p = (i : Int)) : s = s.take i ++ (p ++ s.drop (i + p.length)) := by
 rcases Lib.index_spec s p with ⟨h1, _⟩ | ⟨j, h1, h2, h3, _⟩
 · omega
 · have : j = i := by omega
   subst this
   have hp := List.isPrefixOf_iff_prefix.1 h3
   obtain ⟨t, ht⟩ := hp
   have h4 : s.drop (j + p.length) = t := by rw [← List.drop_drop, ← ht, List.drop_left']; rfl
   rw [h4, ht, List.take_append_drop]
theorem blE_fuel {X : Bytes} : ∀ (f g a : Nat), X.length - a < f → X.length - a < g → blE f X a = blE g X a
 | 0, _, _, h, _ => absurd h (Nat.not_lt_zero _)
 | _ + 1, 0, _, _, h => absurd h (Nat.not_lt_zero _)
 | f + 1, g + 1, a, hf, hg => by
   by_cases h0 : X.length ≤ a
   · rw [blE_end h0, blE_end h0]
   · have hl : a < X.length := by omega
     by_cases h1 : (atB X a).toNat = 32 ∨ (atB X a).toNat = 10 ∨ (atB X a).toNat = 9
     · rw [blE_sp hl h1, blE_sp hl h1]; exact blE_fuel f g _ (by omega) (by omega)
     · by_cases h2 : (atB X a).toNat = 47 ∧ (atB X (a + 1)).toNat = 47
       · have := line_gt hl h2.1
         rw [blE_line hl h2.1 h2.2, blE_line hl h2.1 h2.2]; exact blE_fuel f g _ (by omega) (by omega)
       · by_cases h3 : (atB X a).toNat = 47 ∧ (atB X (a + 1)).toNat = 42
         · by_cases h4 : Lib.index (X.drop (a + 2)) [42, 47] < 0
           · rw [blE_bad hl h3.1 h3.2 h4, blE_bad hl h3.1 h3.2 h4]
           · rw [blE_rem hl h3.1 h3.2 h4, blE_rem hl h3.1 h3.2 h4]; exact blE_fuel f g _ (by omega) (by omega)
         · rw [blE_other hl h1 h2 h3, blE_other hl h1 h2 h3]
theorem blE_drop (X : Bytes) (a : Nat) : ∀ (f t : Nat), blE f X (a + t) = (a + (blE f (X.drop a) t).1, (blE f (X.drop a) t).2)
 | 0, t => rfl
 | f + 1, t => by
   by_cases h0 : X.length ≤ a + t
   · rw [blE_end h0, blE_end (by rw [List.length_drop]; omega)]
   · have hl : a + t < X.length := by omega
     have hl' : t < (X.drop a).length := by rw [List.length_drop]; omega
     have e0 : atB (X.drop a) t = atB X (a + t) := atB_drop X a t
     have e1 : atB (X.drop a) (t + 1) = atB X (a + t + 1) := atB_drop X a (t + 1)
     have e2 : (X.drop a).drop (t + 2) = X.drop (a + t + 2) := by rw [List.drop_drop]; congr 1
     by_cases h1 : (atB X (a + t)).toNat = 32 ∨ (atB X (a + t)).toNat = 10 ∨ (atB X (a + t)).toNat = 9
     · rw [blE_sp hl h1, blE_sp hl' (by rw [e0]; exact h1), Nat.add_assoc, blE_drop X a f]
     · by_cases h2 : (atB X (a + t)).toNat = 47 ∧ (atB X (a + t + 1)).toNat = 47
       · rw [blE_line hl h2.1 h2.2, blE_line hl' (by rw [e0]; exact h2.1) (by rw [e1]; exact h2.2), runL_drop, blE_drop X a f]
       · by_cases h3 : (atB X (a + t)).toNat = 47 ∧ (atB X (a + t + 1)).toNat = 42
         · by_cases h4 : Lib.index (X.drop (a + t + 2)) [42, 47] < 0
           · rw [blE_bad hl h3.1 h3.2 h4, blE_bad hl' (by rw [e0]; exact h3.1) (by rw [e1]; exact h3.2) (by rw [e2]; exact h4)]
           · rw [blE_rem hl h3.1 h3.2 h4, blE_rem hl' (by rw [e0]; exact h3.1) (by rw [e1]; exact h3.2) (by rw [e2]; exact h4), e2, Nat.add_assoc a t, blE_drop X a f]
         · rw [blE_other hl h1 h2 h3, blE_other hl' (by rw [e0]; exact h1) (by rw [e0, e1]; exact h2) (by rw [e0, e1]; exact h3)]
theorem blP_drop (X : Bytes) (a : Nat) : blP X a = (a + (blP (X.drop a) 0).1, (blP (X.drop a) 0).2) := by
 unfold blP
 have := blE_drop X a (X.length + 1) 0
 rw [show blE (X.length + 1) X a = blE (X.length + 1) X (a + 0) from rfl, this, blE_fuel (X := X.drop a) (X.length + 1) ((X.drop a).length + 1) 0 (by rw [List.length_drop]; omega) (by omega)]
theorem blP_app (B R : Bytes) : blP (B ++ R) B.length = (B.length + (blP R 0).1, (blP R 0).2) := by
 rw [blP_drop, List.drop_left' rfl]
theorem runL_line {L Y : Bytes} (hL : ∀ x ∈ L, x ≠ 10) (hY : Y = [] ∨ ∃ r, Y = 10 :: r) : runL notNl (47 :: 47 :: (L ++ Y)) 0 = L.length + 2 := by
 unfold runL
 have h : ∀ L : Bytes, (∀ x ∈ L, x ≠ 10) → ((L ++ Y).takeWhile notNl) = L := by
   intro L
   induction L with
   | nil =>
     intro _
     rcases hY with rfl | ⟨r, rfl⟩
     · rfl
     · rfl
   | cons x L ih =>
     intro hx
     have hx0 : notNl x = true := by
       unfold notNl
       refine decide_eq_true fun q => hx x (List.mem_cons_self ..) ?_
       exact UInt8.toNat_inj.1 q
     rw [List.cons_append, List.takeWhile_cons, if_pos hx0, ih fun y hy => hx y (List.mem_cons_of_mem _ hy)]
 have := h L hL
 show 0 + ((47 :: 47 :: (L ++ Y)).takeWhile notNl).length = _
 rw [List.takeWhile_cons, if_pos (by decide), List.takeWhile_cons, if_pos (by decide), this]
 simp
theorem bl_nil : blP [] 0 = (0, true) := blE_end (Nat.le_refl _)
theorem bl_sp {c : UInt8} {r : Bytes} (hc : c.toNat = 32 ∨ c.toNat = 10 ∨ c.toNat = 9) : blP (c :: r) 0 = ((blP r 0).1 + 1, (blP r 0).2) := by
 have h : blP (c :: r) 0 = blP (c :: r) 1 := by
   unfold blP
   rw [blE_sp (X := c :: r) (a := 0) (by simp) (show (atB (c :: r) 0).toNat = 32 ∨ (atB (c :: r) 0).toNat = 10 ∨ (atB (c :: r) 0).toNat = 9 from hc)]
   exact blE_fuel _ _ _ (by simp) (by simp; omega)
 rw [h, blP_drop, List.drop_one, List.tail_cons, Nat.add_comm]
theorem bl_line {L r : Bytes} (hL : ∀ x ∈ L, x ≠ 10) : blP (47 :: 47 :: (L ++ 10 :: r)) 0 = ((blP r 0).1 + (L.length + 3), (blP r 0).2) := by
 have h : blP (47 :: 47 :: (L ++ 10 :: r)) 0 = blP (47 :: 47 :: (L ++ 10 :: r)) (L.length + 2) := by
   unfold blP
   rw [blE_line (by simp) rfl rfl, runL_line hL (.inr ⟨r, rfl⟩)]
   exact blE_fuel _ _ _ (by simp; omega) (by simp; omega)
 have hd : (47 :: 47 :: (L ++ 10 :: r) : Bytes).drop (L.length + 2) = 10 :: r := by
   rw [List.drop_succ_cons, List.drop_succ_cons, List.drop_left' rfl]
 rw [h, blP_drop, hd, bl_sp (by decide)]
 simp only [Prod.mk.injEq, and_true]; omega
theorem bl_open {L : Bytes} (hL : ∀ x ∈ L, x ≠ 10) : blP (47 :: 47 :: L) 0 = ((47 :: 47 :: L : Bytes).length, true) := by
 unfold blP
 have := runL_line (L := L) (Y := []) hL (.inl rfl)
 rw [List.append_nil] at this
 rw [blE_line (by simp) rfl rfl, this, blE_end (by simp)]
 simp
theorem bl_rem {M r : Bytes} (hM : Lib.index (M ++ [42, 47]) [42, 47] = (M.length : Int)) : blP (47 :: 42 :: (M ++ 42 :: 47 :: r)) 0 = ((blP r 0).1 + (M.length + 4), (blP r 0).2) := by
 have hi : Lib.index ((47 :: 42 :: (M ++ 42 :: 47 :: r) : Bytes).drop (0 + 2)) [42, 47] = (M.length : Int) := by
   have := index_more (r := r) hM
   rw [List.append_assoc] at this
   exact this
 have h : blP (47 :: 42 :: (M ++ 42 :: 47 :: r)) 0 = blP (47 :: 42 :: (M ++ 42 :: 47 :: r)) (M.length + 4) := by
   unfold blP
   rw [blE_rem (by simp) rfl rfl (by omega), hi, Int.toNat_natCast, Nat.zero_add]
   exact blE_fuel _ _ _ (by simp; omega) (by simp; omega)
 have hd : (47 :: 42 :: (M ++ 42 :: 47 :: r) : Bytes).drop (M.length + 4) = r := by
   rw [List.drop_succ_cons, List.drop_succ_cons, show M ++ 42 :: 47 :: r = (M ++ [42, 47]) ++ r by simp, List.drop_left' (by simp)]
 rw [h, blP_drop, hd]
 simp only [Prod.mk.injEq, and_true]; omega
def Starts (X : Bytes) : Prop := X ≠ [] ∧ ¬ ((atB X 0).toNat = 32 ∨ (atB X 0).toNat = 10 ∨ (atB X 0).toNat = 9) ∧ ¬ ((atB X 0).toNat = 47 ∧ ((atB X 1).toNat = 47 ∨ (atB X 1).toNat = 42))
theorem Starts.bl {X : Bytes} (h : Starts X) : blP X 0 = (0, true) := by
 obtain ⟨h0, h1, h2⟩ := h
 unfold blP
 exact blE_other (List.length_pos_iff.2 h0) h1 (fun q => h2 ⟨q.1, .inl q.2⟩) (fun q => h2 ⟨q.1, .inr q.2⟩)
inductive BlC : Bytes → Prop
  | nil : BlC []
  | sp {c : UInt8} {B : Bytes} (hc : c.toNat = 32 ∨ c.toNat = 10 ∨ c.toNat = 9) (h : BlC B) : BlC (c :: B)
  | line {L B : Bytes} (hL : ∀ x ∈ L, x ≠ 10) (h : BlC B) : BlC (47 :: 47 :: (L ++ 10 :: B))
  | rem {M B : Bytes} (hM : Lib.index (M ++ [42, 47]) [42, 47] = (M.length : Int)) (h : BlC B) : BlC (47 :: 42 :: (M ++ 42 :: 47 :: B))
def BlO (B : Bytes) : Prop := BlC B ∨ ∃ C L, BlC C ∧ B = C ++ 47 :: 47 :: L ∧ ∀ x ∈ L, x ≠ 10
theorem BlC.skip {B : Bytes} (h : BlC B) (R : Bytes) : blP (B ++ R) 0 = (B.length + (blP R 0).1, (blP R 0).2) := by
 induction h with
 | nil => rw [List.nil_append, List.length_nil, Nat.zero_add]
 | sp hc _ ih => rw [List.cons_append, bl_sp hc, ih, List.length_cons]; simp only [Prod.mk.injEq, and_true]; omega
 | line hL _ ih =>
   rename_i L B _
   rw [show (47 :: 47 :: (L ++ 10 :: B)) ++ R = 47 :: 47 :: (L ++ 10 :: (B ++ R)) by simp, bl_line hL, ih]
   simp only [Prod.mk.injEq, and_true, List.length_cons, List.length_append]; omega
 | rem hM _ ih =>
   rename_i M B _
   rw [show (47 :: 42 :: (M ++ 42 :: 47 :: B)) ++ R = 47 :: 42 :: (M ++ 42 :: 47 :: (B ++ R)) by simp, bl_rem hM, ih]
   simp only [Prod.mk.injEq, and_true, List.length_cons, List.length_append]; omega
theorem BlC.all {B : Bytes} (h : BlC B) : blP B 0 = (B.length, true) := by
 have := h.skip []
 rw [List.append_nil, bl_nil] at this
 exact this
theorem BlC.app {B C : Bytes} (h : BlC B) (k : BlC C) : BlC (B ++ C) := by
 induction h with
 | nil => exact k
 | sp hc _ ih => exact .sp hc ih
 | line hL _ ih => rename_i L B _; rw [show (47 :: 47 :: (L ++ 10 :: B)) ++ C = 47 :: 47 :: (L ++ 10 :: (B ++ C)) by simp]; exact .line hL ih
 | rem hM _ ih => rename_i M B _; rw [show (47 :: 42 :: (M ++ 42 :: 47 :: B)) ++ C = 47 :: 42 :: (M ++ 42 :: 47 :: (B ++ C)) by simp]; exact .rem hM ih
theorem BlO.all {B : Bytes} (h : BlO B) : blP B 0 = (B.length, true) := by
 rcases h with h | ⟨C, L, hC, rfl, hL⟩
 · exact h.all
 · rw [hC.skip, bl_open hL, List.length_append]
theorem BlO.nl {B : Bytes} (h : BlO B) : BlC (B ++ [10]) := by
 rcases h with h | ⟨C, L, hC, rfl, hL⟩
 · exact h.app (.sp (by decide) .nil)
 · rw [show C ++ 47 :: 47 :: L ++ [10] = C ++ (47 :: 47 :: (L ++ 10 :: [])) by simp]
   exact hC.app (.line hL .nil)
theorem split_line (Y : Bytes) : ∃ L Z, Y = L ++ Z ∧ (∀ x ∈ L, x ≠ 10) ∧ (Z = [] ∨ ∃ r, Z = 10 :: r) := by
 induction Y with
 | nil => exact ⟨[], [], rfl, (fun _ h => by cases h), .inl rfl⟩
 | cons c Y ih =>
   by_cases hc : c = 10
   · exact ⟨[], c :: Y, rfl, (fun _ h => by cases h), .inr ⟨Y, by rw [hc]⟩⟩
   · obtain ⟨L, Z, h1, h2, h3⟩ := ih
     refine ⟨c :: L, Z, by rw [h1]; rfl, fun x hx => ?_, h3⟩
     rcases List.mem_cons.1 hx with q | q
     · rw [q]; exact hc
     · exact h2 x q
theorem bl_cases (X : Bytes) : X = [] ∨ (∃ c r, X = c :: r ∧ (c.toNat = 32 ∨ c.toNat = 10 ∨ c.toNat = 9)) ∨ (∃ L, X = 47 :: 47 :: L ∧ ∀ x ∈ L, x ≠ 10) ∨ (∃ L r, X = 47 :: 47 :: (L ++ 10 :: r) ∧ ∀ x ∈ L, x ≠ 10) ∨
   (∃ r, X = 47 :: 42 :: r ∧ Lib.index r [42, 47] < 0) ∨ (∃ M r, X = 47 :: 42 :: (M ++ 42 :: 47 :: r) ∧ Lib.index (M ++ [42, 47]) [42, 47] = (M.length : Int)) ∨ Starts X := by
 cases X with
 | nil => exact .inl rfl
 | cons c r =>
   by_cases h1 : c.toNat = 32 ∨ c.toNat = 10 ∨ c.toNat = 9
   · exact .inr (.inl ⟨c, r, rfl, h1⟩)
   · by_cases h2 : c.toNat = 47
     · have hc : c = 47 := UInt8.toNat_inj.1 h2
       subst hc
       cases r with
       | nil => exact .inr (.inr (.inr (.inr (.inr (.inr ⟨by simp, h1, by rintro ⟨_, q | q⟩ <;> exact absurd q (by decide)⟩)))))
       | cons d r =>
         by_cases h3 : d.toNat = 47
         · have hd : d = 47 := UInt8.toNat_inj.1 h3
           subst hd
           obtain ⟨L, Z, e, hL, hZ⟩ := split_line r
           rcases hZ with rfl | ⟨q, rfl⟩
           · exact .inr (.inr (.inl ⟨L, by rw [e, List.append_nil], hL⟩))
           · exact .inr (.inr (.inr (.inl ⟨L, q, by rw [e], hL⟩)))
         · by_cases h4 : d.toNat = 42
           · have hd : d = 42 := UInt8.toNat_inj.1 h4
             subst hd
             by_cases h5 : Lib.index r [42, 47] < 0
             · exact .inr (.inr (.inr (.inr (.inl ⟨r, rfl, h5⟩))))
             · obtain ⟨j, hj⟩ := index_neg_nat h5
               have h6 := index_cut hj
               have h7 := occ_split hj
               have h8 := index_room hj
               have hl : (r.take j).length = j := by rw [List.length_take]; simp at h8; omega
               refine .inr (.inr (.inr (.inr (.inr (.inl ⟨r.take j, r.drop (j + 2), ?_, ?_⟩)))))
               · conv => lhs; rw [h7]
                 rfl
               · have h9 : r.take (j + 2) = r.take j ++ [42, 47] := by
                   conv => lhs; rw [h7]
                   rw [List.take_append, hl, List.take_of_length_le (by rw [hl]; omega)]
                   simp
                 rw [← h9, hl]; exact h6
           · exact .inr (.inr (.inr (.inr (.inr (.inr ⟨by simp, h1, by rintro ⟨_, q | q⟩; exact h3 q; exact h4 q⟩)))))
     · exact .inr (.inr (.inr (.inr (.inr (.inr ⟨by simp, h1, fun q => h2 q.1⟩)))))
theorem bl_badR {r : Bytes} (h : Lib.index r [42, 47] < 0) : blP (47 :: 42 :: r) 0 = (0, false) := by
 unfold blP
 exact blE_bad (by simp) rfl rfl h
theorem bl_split : ∀ (n : Nat) (X : Bytes), X.length ≤ n → (blP X 0).2 = true → ∃ B R, X = B ++ R ∧ (blP X 0).1 = B.length ∧ ((R = [] ∧ BlO B) ∨ (Starts R ∧ BlC B))
 | n, X, hn, ht => by
   rcases bl_cases X with rfl | ⟨c, r, rfl, hc⟩ | ⟨L, rfl, hL⟩ | ⟨L, r, rfl, hL⟩ | ⟨r, rfl, hr⟩ | ⟨M, r, rfl, hM⟩ | hs
   · exact ⟨[], [], rfl, by rw [bl_nil]; rfl, .inl ⟨rfl, .inl .nil⟩⟩
   · cases n with
     | zero => simp at hn
     | succ n =>
       rw [bl_sp hc] at ht ⊢
       obtain ⟨B, R, rfl, h1, h2⟩ := bl_split n r (by simp at hn; omega) ht
       refine ⟨c :: B, R, rfl, by simp only [h1, List.length_cons], ?_⟩
       rcases h2 with ⟨h2, h3⟩ | ⟨h2, h3⟩
       · refine .inl ⟨h2, ?_⟩
         rcases h3 with h3 | ⟨C, L, hC, rfl, hL⟩
         · exact .inl (.sp hc h3)
         · exact .inr ⟨c :: C, L, .sp hc hC, rfl, hL⟩
       · exact .inr ⟨h2, .sp hc h3⟩
   · exact ⟨47 :: 47 :: L, [], by simp, by rw [bl_open hL], .inl ⟨rfl, .inr ⟨[], L, .nil, rfl, hL⟩⟩⟩
   · cases n with
     | zero => simp at hn
     | succ n =>
       rw [bl_line hL] at ht ⊢
       obtain ⟨B, R, rfl, h1, h2⟩ := bl_split n r (by simp at hn; omega) ht
       refine ⟨47 :: 47 :: (L ++ 10 :: B), R, by simp, by simp only [h1, List.length_cons, List.length_append]; omega, ?_⟩
       rcases h2 with ⟨h2, h3⟩ | ⟨h2, h3⟩
       · refine .inl ⟨h2, ?_⟩
         rcases h3 with h3 | ⟨C, L2, hC, rfl, hL2⟩
         · exact .inl (.line hL h3)
         · exact .inr ⟨47 :: 47 :: (L ++ 10 :: C), L2, .line hL hC, by simp, hL2⟩
       · exact .inr ⟨h2, .line hL h3⟩
   · rw [bl_badR hr] at ht; cases ht
   · cases n with
     | zero => simp at hn
     | succ n =>
       rw [bl_rem hM] at ht ⊢
       obtain ⟨B, R, rfl, h1, h2⟩ := bl_split n r (by simp at hn; omega) ht
       refine ⟨47 :: 42 :: (M ++ 42 :: 47 :: B), R, by simp, by simp only [h1, List.length_cons, List.length_append]; omega, ?_⟩
       rcases h2 with ⟨h2, h3⟩ | ⟨h2, h3⟩
       · refine .inl ⟨h2, ?_⟩
         rcases h3 with h3 | ⟨C, L2, hC, rfl, hL2⟩
         · exact .inl (.rem hM h3)
         · exact .inr ⟨47 :: 42 :: (M ++ 42 :: 47 :: C), L2, .rem hM hC, by simp, hL2⟩
       · exact .inr ⟨h2, .rem hM h3⟩
   · exact ⟨[], X, rfl, by rw [hs.bl]; rfl, .inr ⟨hs, .nil⟩⟩
theorem bl_splitAt {X : Bytes} {a b : Nat} (ha : a ≤ X.length) (h : blP X a = (b, true)) : ∃ B R, X.drop a = B ++ R ∧ b = a + B.length ∧ X.drop b = R ∧ ((R = [] ∧ BlO B) ∨ (Starts R ∧ BlC B)) := by
 rw [blP_drop] at h
 injection h with h1 h2
 obtain ⟨B, R, e, h3, h4⟩ := bl_split _ (X.drop a) (Nat.le_refl _) h2
 refine ⟨B, R, e, by omega, ?_, h4⟩
 rw [← h1, h3, ← List.drop_drop, e, List.drop_left' rfl]
inductive Toks (X : Bytes) : Nat → List Tok → Prop
  | fin {a : Nat} (h : blP X a = (X.length, true)) : Toks X a [⟨0, X.length, [], 0⟩]
  | tok {a b tz n : Nat} {k : Int} {t : Bytes} {m : List Tok} (h : blP X a = (b, true)) (hb : b < X.length) (ht : tokR X b = .tok k t n tz) (hm : Toks X tz m) : Toks X a (⟨k, b, t, n⟩ :: m)
inductive Bad (X : Bytes) : Nat → Nat → Int → Prop
  | bl {a b : Nat} (h : blP X a = (b, false)) : Bad X a b 52
  | here {a b : Nat} {e : Int} (h : blP X a = (b, true)) (hb : b < X.length) (ht : tokR X b = .bad e) : Bad X a b e
  | tok {a b tz n p : Nat} {k e : Int} {t : Bytes} (h : blP X a = (b, true)) (hb : b < X.length) (ht : tokR X b = .tok k t n tz) (hm : Bad X tz p e) : Bad X a p e
theorem scanE_spec {X : Bytes} : ∀ (f a : Nat) (l : List Tok), a ≤ X.length → X.length - a < f → (∃ m, scanE f X a l = .good (l ++ m) ∧ Toks X a m) ∨ (∃ p e, scanE f X a l = .bad p e ∧ Bad X a p e)
 | 0, _, _, _, h => absurd h (Nat.not_lt_zero _)
 | f + 1, a, l, ha, hf => by
   have hbl := blP_le ha
   have hbg := blP_ge X a
   by_cases h : (blP X a).2 = true
   · have e : blP X a = ((blP X a).1, true) := Prod.ext rfl h
     by_cases h1 : (blP X a).1 < X.length
     · rcases tokR_cases h1 with ⟨q, hq, g1, _⟩ | ⟨k, t, n, tz, hq, g1, g2, _⟩
       · refine .inr ⟨(blP X a).1, q, ?_, .here e h1 hq⟩
         rw [scanE_bad h h1 (by rw [hq]; show q ≠ 0; omega), hq]; rfl
       · have he : (tokR X (blP X a).1).err = 0 := by rw [hq]; rfl
         rw [scanE_tok h h1 he, hq]
         rcases scanE_spec f tz (l ++ [⟨k, (blP X a).1, t, n⟩]) g2 (by omega) with ⟨m, h2, h3⟩ | ⟨p, q, h2, h3⟩
         · refine .inl ⟨⟨k, (blP X a).1, t, n⟩ :: m, ?_, .tok e h1 hq h3⟩
           rw [List.append_assoc] at h2; exact h2
         · exact .inr ⟨p, q, h2, .tok e h1 hq h3⟩
     · have h2 : (blP X a).1 = X.length := by omega
       refine .inl ⟨[⟨0, X.length, [], 0⟩], ?_, .fin (by rw [e, h2])⟩
       rw [scanE_end h h1, h2]
   · have h := Bool.eq_false_iff.2 h
     exact .inr ⟨_, 52, scanE_bl h, .bl (Prod.ext rfl h)⟩
theorem tok_det {k k' : Int} {t t' : Bytes} {n n' a b : Nat} (h : TokR.tok k t n a = .tok k' t' n' b) : k = k' ∧ t = t' ∧ n = n' ∧ a = b := by injection h with h1 h2 h3 h4; exact ⟨h1, h2, h3, h4⟩
theorem Toks.det {X : Bytes} {a : Nat} {l : List Tok} (h : Toks X a l) : ∀ {m : List Tok}, Toks X a m → l = m := by
 induction h with
 | fin h =>
   intro m k
   cases k with
   | fin => rfl
   | tok h' hb => rw [h] at h'; injection h' with q; omega
 | tok h hb ht hm ih =>
   intro m k
   cases k with
   | fin h' => rw [h] at h'; injection h' with q; omega
   | tok h' hb' ht' hm' =>
     rw [h] at h'
     injection h' with q
     subst q
     rw [ht] at ht'
     obtain ⟨rfl, rfl, rfl, rfl⟩ := tok_det ht'
     rw [ih hm']
theorem Bad.no {X : Bytes} {a p : Nat} {e : Int} (h : Bad X a p e) : ∀ {l : List Tok}, ¬ Toks X a l := by
 induction h with
 | bl h =>
   intro l k
   cases k with
   | fin h' => rw [h] at h'; cases h'
   | tok h' => rw [h] at h'; cases h'
 | here h hb ht =>
   intro l k
   cases k with
   | fin h' => rw [h] at h'; injection h' with q; omega
   | tok h' hb' ht' => rw [h] at h'; injection h' with q; subst q; rw [ht] at ht'; cases ht'
 | tok h hb ht hm ih =>
   intro l k
   cases k with
   | fin h' => rw [h] at h'; injection h' with q; omega
   | tok h' hb' ht' hm' =>
     rw [h] at h'; injection h' with q; subst q; rw [ht] at ht'
     obtain ⟨rfl, rfl, rfl, rfl⟩ := tok_det ht'
     exact ih hm'
theorem Bad.det {X : Bytes} {a p : Nat} {e : Int} (h : Bad X a p e) : ∀ {q : Nat} {d : Int}, Bad X a q d → p = q ∧ e = d := by
 induction h with
 | bl h =>
   intro q d k
   cases k with
   | bl h' => rw [h] at h'; injection h' with z; exact ⟨z, rfl⟩
   | here h' => rw [h] at h'; cases h'
   | tok h' => rw [h] at h'; cases h'
 | here h hb ht =>
   intro q d k
   cases k with
   | bl h' => rw [h] at h'; cases h'
   | here h' hb' ht' => rw [h] at h'; injection h' with z; subst z; rw [ht] at ht'; injection ht' with z; exact ⟨rfl, z⟩
   | tok h' hb' ht' => rw [h] at h'; injection h' with z; subst z; rw [ht] at ht'; cases ht'
 | tok h hb ht hm ih =>
   intro q d k
   cases k with
   | bl h' => rw [h] at h'; cases h'
   | here h' hb' ht' => rw [h] at h'; injection h' with z; subst z; rw [ht] at ht'; cases ht'
   | tok h' hb' ht' hm' =>
     rw [h] at h'; injection h' with z; subst z; rw [ht] at ht'
     obtain ⟨rfl, rfl, rfl, rfl⟩ := tok_det ht'
     exact ih hm'
theorem scanP_cases (X : Bytes) : (X.length > 65536 ∧ scanP X = .bad 0 50) ∨ (X.length ≤ 65536 ∧ ∃ i, badAt X = some i ∧ scanP X = .bad i 51) ∨
   (X.length ≤ 65536 ∧ badAt X = none ∧ ((∃ l, scanP X = .good l ∧ Toks X 0 l) ∨ ∃ p e, scanP X = .bad p e ∧ Bad X 0 p e)) := by
 unfold scanP
 by_cases h : X.length > 65536
 · rw [if_pos h]; exact .inl ⟨h, rfl⟩
 · rw [if_neg h]
   cases hb : badAt X with
   | some i => exact .inr (.inl ⟨by omega, i, rfl, rfl⟩)
   | none =>
     refine .inr (.inr ⟨by omega, rfl, ?_⟩)
     exact scanE_spec (X.length + 1) 0 [] (Nat.zero_le _) (by omega)
theorem scanP_toks {X : Bytes} {l : List Tok} (hl : X.length ≤ 65536) (hb : badAt X = none) (h : Toks X 0 l) : scanP X = .good l := by
 rcases scanP_cases X with ⟨h1, _⟩ | ⟨_, i, h1, _⟩ | ⟨_, _, ⟨m, h2, h3⟩ | ⟨p, e, _, h3⟩⟩
 · omega
 · rw [hb] at h1; cases h1
 · rw [h2, h3.det h]
 · exact absurd h h3.no
theorem scanP_bad {X : Bytes} {p : Nat} {e : Int} (hl : X.length ≤ 65536) (hb : badAt X = none) (h : Bad X 0 p e) : scanP X = .bad p e := by
 rcases scanP_cases X with ⟨h1, _⟩ | ⟨_, i, h1, _⟩ | ⟨_, _, ⟨m, h2, h3⟩ | ⟨q, d, h2, h3⟩⟩
 · omega
 · rw [hb] at h1; cases h1
 · exact absurd h3 h.no
 · rw [h2, (h3.det h).1, (h3.det h).2]
end Go.Proofs.YtnhmmjogfkjceaaDoor
namespace Go.Proofs.YtnhmmjogfkjceaaDoor
open Go.Sl
def Tok.mv (a : Nat) (t : Tok) : Tok := ⟨t.kind, a + t.pos, t.text, t.num⟩
theorem TokR.shift_shift (a b : Nat) (r : TokR) : (r.shift b).shift a = r.shift (a + b) := by cases r with | bad => rfl | tok => simp [TokR.shift, Nat.add_assoc]
theorem tokR_shift {Y : Bytes} {a p : Nat} (h : a + p < Y.length) : tokR Y (a + p) = (tokR (Y.drop a) p).shift a := by
 rw [tokR_drop h, tokR_drop (X := Y.drop a) (a := p) (by rw [List.length_drop]; omega), List.drop_drop, TokR.shift_shift]
theorem blP_shift (Y : Bytes) (a p : Nat) : blP Y (a + p) = (a + (blP (Y.drop a) p).1, (blP (Y.drop a) p).2) := by
 rw [blP_drop Y (a + p), blP_drop (Y.drop a) p, List.drop_drop]; simp only [Prod.mk.injEq, and_true]; omega
theorem Toks.mv {Y : Bytes} {a p : Nat} {m : List Tok} (ha : a ≤ Y.length) (h : Toks (Y.drop a) p m) : Toks Y (a + p) (m.map (Tok.mv a)) := by
 induction h with
 | fin h =>
   have e : Tok.mv a ⟨0, (Y.drop a).length, [], 0⟩ = ⟨0, Y.length, [], 0⟩ := by unfold Tok.mv; rw [List.length_drop, show a + (Y.length - a) = Y.length by omega]
   rw [List.map_cons, List.map_nil, e]
   refine .fin ?_
   rw [blP_shift, h, List.length_drop, show a + (Y.length - a) = Y.length by omega]
 | @tok p b tz n k t m h hb ht _ ih =>
   rw [List.length_drop] at hb
   refine .tok (b := a + b) (tz := a + tz) (by rw [blP_shift, h]) (by omega) ?_ ih
   rw [tokR_shift (by omega), ht]; rfl
theorem Bad.mv {Y : Bytes} {a p q : Nat} {e : Int} (ha : a ≤ Y.length) (h : Bad (Y.drop a) p q e) : Bad Y (a + p) (a + q) e := by
 induction h with
 | bl h => exact .bl (by rw [blP_shift, h])
 | here h hb ht =>
   rw [List.length_drop] at hb
   exact .here (by rw [blP_shift, h]) (by omega) (by rw [tokR_shift (by omega), ht]; rfl)
 | @tok p b tz n q k e t h hb ht _ ih =>
   rw [List.length_drop] at hb
   exact .tok (b := a + b) (tz := a + tz) (by rw [blP_shift, h]) (by omega) (by rw [tokR_shift (by omega), ht]; rfl) ih
theorem Toks.start {X : Bytes} {a b : Nat} {m : List Tok} (h : Toks X a m) (e : blP X b = blP X a) : Toks X b m := by
 cases h with
 | fin h => exact .fin (e.trans h)
 | tok h hb ht hm => exact .tok (e.trans h) hb ht hm
theorem Bad.start {X : Bytes} {a b p : Nat} {d : Int} (h : Bad X a p d) (e : blP X b = blP X a) : Bad X b p d := by
 cases h with
 | bl h => exact .bl (e.trans h)
 | here h hb ht => exact .here (e.trans h) hb ht
 | tok h hb ht hm => exact .tok (e.trans h) hb ht hm
theorem Toks.head {X : Bytes} {a : Nat} {m : List Tok} (h : Toks X a m) : ∃ u r, m = u :: r ∧ blP X a = (u.pos, true) := by
 cases h with
 | fin h => exact ⟨_, _, rfl, h⟩
 | tok h hb ht hm => exact ⟨_, _, rfl, h⟩
theorem Toks.skip {B W : Bytes} {m : List Tok} (hB : BlC B) (h : Toks W 0 m) : ∃ m', Toks (B ++ W) 0 (m.map (Tok.mv B.length)) ∧ m' = m := by
 refine ⟨m, ?_, rfl⟩
 have h1 := Toks.mv (Y := B ++ W) (a := B.length) (p := 0) (by simp) (by rw [List.drop_left' rfl]; exact h)
 rw [Nat.add_zero] at h1
 refine h1.start ?_
 rw [hB.skip, blP_app]
theorem badAt_app {A S : Bytes} (h : badAt A = none) : badAt (A ++ S) = (badAt S).map (A.length + ·) := by
 unfold badAt at h ⊢
 rw [List.findIdx?_append, h]
 simp only [Option.none_or]
 cases List.findIdx? (fun c : UInt8 => !okR (c.toNat : Int)) S with
 | none => rfl
 | some i => simp [Nat.add_comm]
theorem badAt_first {A S : Bytes} {i : Nat} (h : badAt A = some i) : badAt (A ++ S) = some i := by
 unfold badAt at h ⊢
 rw [List.findIdx?_append, h]
 rfl
theorem badAt_cons {c : UInt8} {S : Bytes} (hc : okR (c.toNat : Int) = true) : badAt (c :: S) = (badAt S).map (1 + ·) := by
 have : badAt [c] = none := badAt_none (by intro x hx; rw [show x = c by simpa using hx]; exact hc)
 exact badAt_app (S := S) this
theorem ok_sub {X Y : Bytes} (h : badAt X = none) (hs : ∀ c ∈ Y, c ∈ X) : badAt Y = none := badAt_none fun c hc => badAt_all h c (hs c hc)
theorem Starts.more {T Y Y' : Bytes} (hT : T ≠ []) (h : Starts (T ++ Y)) (hy : T.length = 1 → (atB Y' 0 = atB Y 0 ∨ ((atB Y' 0).toNat ≠ 47 ∧ (atB Y' 0).toNat ≠ 42))) : Starts (T ++ Y') := by
 obtain ⟨_, h1, h2⟩ := h
 have hl := List.length_pos_iff.2 hT
 rw [atB_app hl] at h1 h2
 refine ⟨by simp [hT], by rw [atB_app hl]; exact h1, ?_⟩
 rw [atB_app hl]
 rintro ⟨q, q1⟩
 by_cases h3 : T.length = 1
 · have e : ∀ Z : Bytes, atB (T ++ Z) 1 = atB Z 0 := fun Z => by
     unfold atB
     rw [List.getElem?_append_right (by omega), h3]
   rw [e] at q1 h2
   rcases hy h3 with g | g
   · rw [g] at q1; exact h2 ⟨q, q1⟩
   · exact q1.elim g.1 g.2
 · rw [atB_app (by omega)] at q1 h2
   exact h2 ⟨q, q1⟩
theorem BlC.sep {c : UInt8} {B : Bytes} (h : BlC (c :: B)) : sepC c = true := by
 cases h with
 | sp hc => unfold sepC; exact decide_eq_true (by omega)
 | line => rfl
 | rem => rfl
theorem BlO.sep {c : UInt8} {B : Bytes} (h : BlO (c :: B)) : sepC c = true := by
 rcases h with h | ⟨C, L, hC, e, _⟩
 · exact h.sep
 · cases C with
   | nil => rw [List.nil_append] at e; injection e with e1; rw [e1]; rfl
   | cons d C => injection e with e1; rw [e1]; exact hC.sep
theorem tok_alone {X t : Bytes} {b tz n : Nat} {k : Int} {R : Bytes} (hb : b < X.length) (hle : tz ≤ X.length) (ht : tokR X b = .tok k t n tz) (hR : X.drop tz = R) :
   b < tz ∧ X.drop b = (X.take tz).drop b ++ R ∧ ((X.take tz).drop b).length = tz - b ∧ tokR ((X.take tz).drop b) 0 = .tok k t n ((X.take tz).drop b).length := by
 have hlt : b < tz := by
   rcases tokR_cases hb with ⟨e, he, _⟩ | ⟨_, _, _, _, he, h1, _⟩
   · rw [ht] at he; cases he
   · rw [ht] at he; obtain ⟨_, _, _, rfl⟩ := tok_det he; exact h1
 have hl : ((X.take tz).drop b).length = tz - b := by rw [List.length_drop, List.length_take]; omega
 have e : X.drop b = (X.take tz).drop b ++ R := by
   rw [← hR, List.drop_take]
   conv => lhs; rw [← List.take_append_drop (tz - b) (X.drop b)]
   rw [List.drop_drop, show b + (tz - b) = tz by omega]
 refine ⟨hlt, e, hl, ?_⟩
 rw [tokR_drop hb, e] at ht
 refine tokR_cut (R := R) (by omega) ?_
 cases hq : tokR ((X.take tz).drop b ++ R) 0 with
 | bad e => rw [hq] at ht; cases ht
 | tok k' t' n' tz' =>
   rw [hq] at ht
   obtain ⟨rfl, rfl, rfl, h4⟩ := tok_det ht
   rw [hl, show tz' = tz - b by omega]
def blanksB (b : UInt8) : Bytes := if b.toNat % 4 = 0 then [32] else if b.toNat % 4 = 1 then [10, 9] else if b.toNat % 4 = 2 then [32, 47, 42, 32, 47, 32, 42, 32, 42, 47] else [32, 47, 47, 32, 47, 42, 10]
def againP (X : Bytes) : List Tok → Bytes → Bytes
 | [], _ => []
 | [_], bs => blanksB (bs.headD 0)
 | t :: u :: l, bs => blanksB (bs.headD 0) ++ ((X.take u.pos).drop t.pos ++ againP X (u :: l) bs.tail)
theorem blanksB_cases (b : UInt8) : blanksB b = [32] ∨ blanksB b = [10, 9] ∨ blanksB b = [32, 47, 42, 32, 47, 32, 42, 32, 42, 47] ∨ blanksB b = [32, 47, 47, 32, 47, 42, 10] := by
 unfold blanksB
 split
 · exact .inl rfl
 · split
   · exact .inr (.inl rfl)
   · split
     · exact .inr (.inr (.inl rfl))
     · exact .inr (.inr (.inr rfl))
theorem blanksB_c (b : UInt8) : BlC (blanksB b) := by
 rcases blanksB_cases b with h | h | h | h <;> rw [h]
 · exact .sp (.inl rfl) .nil
 · exact .sp (.inr (.inl rfl)) (.sp (.inr (.inr rfl)) .nil)
 · exact .sp (.inl rfl) (.rem (M := [32, 47, 32, 42, 32]) (by decide) .nil)
 · exact .sp (.inl rfl) (.line (L := [32, 47, 42]) (by decide) .nil)
theorem blanksB_head (b : UInt8) : ∃ c r, blanksB b = c :: r ∧ (c = 32 ∨ c = 10) := by
 rcases blanksB_cases b with h | h | h | h <;> rw [h]
 · exact ⟨_, _, rfl, .inl rfl⟩
 · exact ⟨_, _, rfl, .inr rfl⟩
 · exact ⟨_, _, rfl, .inl rfl⟩
 · exact ⟨_, _, rfl, .inl rfl⟩
theorem blanksB_ok (b : UInt8) : badAt (blanksB b) = none := by
 rcases blanksB_cases b with h | h | h | h <;> rw [h] <;> decide
theorem blanksB_o {B : Bytes} (h : BlO B) (b : UInt8) : BlO (B ++ blanksB b) := by
 rcases h with h | ⟨C, L, hC, rfl, hL⟩
 · exact .inl (h.app (blanksB_c b))
 · have app : ∀ {P : Bytes}, (∀ x ∈ P, x ≠ 10) → ∀ x ∈ L ++ P, x ≠ 10 := fun hP x hx => (List.mem_append.1 hx).elim (hL x) (hP x)
   rcases blanksB_cases b with h | h | h | h <;> rw [h]
   · exact .inr ⟨C, L ++ [32], hC, by simp, app (by decide)⟩
   · exact .inl (by rw [show C ++ 47 :: 47 :: L ++ [10, 9] = C ++ (47 :: 47 :: (L ++ 10 :: [9])) by simp]; exact hC.app (.line hL (.sp (.inr (.inr rfl)) .nil)))
   · exact .inr ⟨C, L ++ [32, 47, 42, 32, 47, 32, 42, 32, 42, 47], hC, by simp, app (by decide)⟩
   · exact .inl (by rw [show C ++ 47 :: 47 :: L ++ [32, 47, 47, 32, 47, 42, 10] = C ++ (47 :: 47 :: ((L ++ [32, 47, 47, 32, 47, 42]) ++ 10 :: [])) by simp]; exact hC.app (.line (app (by decide)) .nil))
abbrev strip (t : Tok) : Int × Bytes × Nat := (t.kind, t.text, t.num)
theorem strip_mv (a : Nat) (m : List Tok) : (m.map (Tok.mv a)).map strip = m.map strip := by rw [List.map_map]; rfl
theorem againP_head (X : Bytes) (u : Tok) (r : List Tok) (bs : Bytes) : ∃ c y, againP X (u :: r) bs = c :: y ∧ (c = 32 ∨ c = 10) := by
 cases r with
 | nil => exact blanksB_head _
 | cons v r =>
   obtain ⟨c, y, h, hc⟩ := blanksB_head (bs.headD 0)
   exact ⟨c, _, by show blanksB (bs.headD 0) ++ _ = _; rw [h]; rfl, hc⟩
theorem again_toks {X : Bytes} {a : Nat} {l : List Tok} (h : Toks X a l) (ha : a ≤ X.length) : ∀ bs : Bytes, ∃ m, Toks (againP X l bs) 0 m ∧ m.map strip = l.map strip := by
 induction h with
 | fin h =>
   intro bs
   exact ⟨_, .fin ((blanksB_c (bs.headD 0)).all), rfl⟩
 | @tok a b tz n k t m h hb ht hm ih =>
   intro bs
   have hle : tz ≤ X.length := by
     rcases tokR_cases hb with ⟨e, he, _⟩ | ⟨_, _, _, _, he, _, h1, _⟩
     · rw [ht] at he; cases he
     · rw [ht] at he; obtain ⟨_, _, _, rfl⟩ := tok_det he; exact h1
   obtain ⟨u, r, rfl, hu⟩ := hm.head
   obtain ⟨B, R, e1, e2, e3, e4⟩ := bl_splitAt hle hu
   obtain ⟨hlt, e5, e6, e7⟩ := tok_alone hb hle ht e1
   generalize hT : (X.take tz).drop b = T at e5 e6 e7
   have hT0 : T ≠ [] := by intro q; rw [q] at e6; simp at e6; omega
   have hpiece : (X.take u.pos).drop b = T ++ B := by
     rw [List.drop_take, e5, ← List.append_assoc, List.take_left']
     rw [List.length_append, e6]; omega
   obtain ⟨c, y, hc, hcc⟩ := againP_head X u r bs.tail
   obtain ⟨m', hm', hs'⟩ := ih hle bs.tail
   show ∃ m, Toks (blanksB (bs.headD 0) ++ ((X.take u.pos).drop b ++ againP X (u :: r) bs.tail)) 0 m ∧ _
   rw [hpiece, List.append_assoc T B]
   generalize hN : blanksB (bs.headD 0) = N
   have hNc : BlC N := hN ▸ blanksB_c _
   generalize hW : againP X (u :: r) bs.tail = W at *
   have hstart : Starts (T ++ (B ++ W)) := by
     obtain ⟨B1, R1, _, f2, f3, f4⟩ := bl_splitAt ha h
     have hS : Starts (X.drop b) := by
       rw [f3]
       rcases f4 with ⟨f4, _⟩ | ⟨f4, _⟩
       · rw [f4] at f3
         have := congrArg List.length f3
         rw [List.length_drop] at this
         simp at this
         omega
       · exact f4
     rw [e5] at hS
     refine hS.more hT0 fun _ => ?_
     cases B with
     | nil => right; rw [List.nil_append, hc]; rcases hcc with rfl | rfl; exact (show (32 : UInt8).toNat ≠ 47 ∧ (32 : UInt8).toNat ≠ 42 by decide); exact (show (10 : UInt8).toNat ≠ 47 ∧ (10 : UInt8).toNat ≠ 42 by decide)
     | cons d B => left; rfl
   have hsep : ∃ d z, B ++ W = d :: z ∧ sepC d = true := by
     cases B with
     | nil => exact ⟨c, y, hc, by rcases hcc with rfl | rfl <;> rfl⟩
     | cons d B =>
       refine ⟨d, B ++ W, rfl, ?_⟩
       rcases e4 with ⟨_, f⟩ | ⟨_, f⟩
       · exact f.sep
       · exact f.sep
   have htok : tokR (T ++ (B ++ W)) 0 = .tok k t n T.length := by
     obtain ⟨d, z, f, g⟩ := hsep
     rw [f, tokR_app g (by omega) (.inr ⟨_, _, _, _, e7⟩), e7]
   have hrest : ∃ m3, Toks (B ++ W) 0 m3 ∧ m3.map strip = (u :: r).map strip := by
     rcases e4 with ⟨f1, f2⟩ | ⟨_, f2⟩
     · have hlen : u.pos = X.length := by
         rw [f1] at e3
         have := congrArg List.length e3
         rw [List.length_drop] at this
         simp at this
         have := blP_le hle
         rw [hu] at this
         simp only [] at this
         omega
       have : u :: r = [⟨0, X.length, [], 0⟩] := by
         cases hm with
         | fin => rfl
         | tok h' hb' => exact absurd hb' (by simp only [] at hlen; omega)
       rw [this] at hW ⊢
       subst hW
       exact ⟨_, .fin (blanksB_o f2 _).all, rfl⟩
     · obtain ⟨_, f3, _⟩ := Toks.skip f2 hm'
       exact ⟨_, f3, by rw [strip_mv]; exact hs'⟩
   obtain ⟨m3, h3, hs3⟩ := hrest
   have hmv := Toks.mv (Y := N ++ (T ++ (B ++ W))) (a := N.length + T.length) (p := 0) (by simp) (by
     rw [← List.drop_drop, List.drop_left' rfl, List.drop_left' rfl]; exact h3)
   rw [Nat.add_zero] at hmv
   refine ⟨_, .tok (b := N.length) (tz := N.length + T.length) (k := k) (t := t) (n := n) ?_ (by simp; have := List.length_pos_iff.2 hT0; omega) ?_ hmv, ?_⟩
   · rw [hNc.skip, hstart.bl]; rfl
   · have := tokR_shift (Y := N ++ (T ++ (B ++ W))) (a := N.length) (p := 0) (by simp; have := List.length_pos_iff.2 hT0; omega)
     rw [Nat.add_zero, List.drop_left' rfl, htok] at this
     exact this
   · rw [List.map_cons, strip_mv, hs3]; rfl
theorem again_ok {X : Bytes} (hX : badAt X = none) : ∀ (l : List Tok) (bs : Bytes), badAt (againP X l bs) = none
 | [], _ => rfl
 | [_], bs => blanksB_ok _
 | t :: u :: l, bs => by
   show badAt (blanksB (bs.headD 0) ++ ((X.take u.pos).drop t.pos ++ againP X (u :: l) bs.tail)) = none
   rw [badAt_app (blanksB_ok _), badAt_app (ok_sub hX fun c hc => List.mem_of_mem_take (List.mem_of_mem_drop hc)), again_ok hX (u :: l) bs.tail]; rfl
theorem parts_toks {A B : Bytes} {p : Nat} {l m : List Tok} (h : Toks A p l) (hp : p ≤ A.length) (hm : Toks B 0 m) : Toks (A ++ 10 :: B) p (l.dropLast ++ m.map (Tok.mv (A.length + 1))) := by
 have hY : Toks (A ++ 10 :: B) (A.length + 1) (m.map (Tok.mv (A.length + 1))) := Toks.mv (Y := A ++ 10 :: B) (a := A.length + 1) (p := 0) (by simp) (by rw [← List.drop_drop, List.drop_left' rfl]; exact hm)
 induction h with
 | @fin a h =>
   refine hY.start ?_
   obtain ⟨B0, R, e1, e2, e3, e4⟩ := bl_splitAt hp h
   have hR : R = [] := by rw [← e3, List.drop_length]
   subst hR
   have hB : BlO B0 := by
     rcases e4 with ⟨_, f⟩ | ⟨f, _⟩
     · exact f
     · exact absurd rfl f.1
   rw [blP_drop (A ++ 10 :: B) a, List.drop_append_of_le_length hp, e1, List.append_nil, show B0 ++ 10 :: B = (B0 ++ [10]) ++ B by simp, hB.nl.skip, blP_drop (A ++ 10 :: B) (A.length + 1), ← List.drop_drop, List.drop_left' rfl]
   simp only [List.length_append, List.length_cons, List.length_nil, List.drop_one, List.tail_cons, Prod.mk.injEq, and_true]
   omega
 | @tok a b tz n k t m0 h hb ht hm0 ih =>
   have hle : tz ≤ A.length := by
     rcases tokR_cases hb with ⟨e, he, _⟩ | ⟨_, _, _, _, he, _, h1, _⟩
     · rw [ht] at he; cases he
     · rw [ht] at he; obtain ⟨_, _, _, rfl⟩ := tok_det he; exact h1
   obtain ⟨u, r, rfl, _⟩ := hm0.head
   obtain ⟨B0, R, e1, e2, e3, e4⟩ := bl_splitAt hp h
   have hS : Starts R ∧ BlC B0 := by
     rcases e4 with ⟨f, _⟩ | f
     · rw [f] at e3
       have := congrArg List.length e3
       rw [List.length_drop] at this
       simp at this
       omega
     · exact f
   have hS2 : Starts (R ++ 10 :: B) := Starts.more (Y := []) hS.1.1 (by rw [List.append_nil]; exact hS.1) fun _ => .inr (show (10 : UInt8).toNat ≠ 47 ∧ (10 : UInt8).toNat ≠ 42 by decide)
   refine .tok (b := b) ?_ (by simp; omega) (by rw [tokR_app rfl hb (.inl rfl), ht]) (ih hle)
   rw [blP_drop, List.drop_append_of_le_length hp, e1, List.append_assoc, hS.2.skip, hS2.bl, e2]; rfl
theorem parts_bl {A B : Bytes} {p b : Nat} (hp : p ≤ A.length) (h : blP A p = (b, true)) (hb : b < A.length) : blP (A ++ 10 :: B) p = (b, true) := by
 obtain ⟨B0, R, e1, e2, e3, e4⟩ := bl_splitAt hp h
 have hS : Starts R ∧ BlC B0 := by
   rcases e4 with ⟨f, _⟩ | f
   · rw [f] at e3
     have := congrArg List.length e3
     rw [List.length_drop] at this
     simp at this
     omega
   · exact f
 have hS2 : Starts (R ++ 10 :: B) := Starts.more (Y := []) hS.1.1 (by rw [List.append_nil]; exact hS.1) fun _ => .inr (show (10 : UInt8).toNat ≠ 47 ∧ (10 : UInt8).toNat ≠ 42 by decide)
 rw [blP_drop, List.drop_append_of_le_length hp, e1, List.append_assoc, hS.2.skip, hS2.bl, e2]; rfl
theorem tok_le {X t : Bytes} {b tz n : Nat} {k : Int} (hb : b < X.length) (ht : tokR X b = .tok k t n tz) : tz ≤ X.length := by
 rcases tokR_cases hb with ⟨e, he, _⟩ | ⟨_, _, _, _, he, _, h1, _⟩
 · rw [ht] at he; cases he
 · rw [ht] at he; obtain ⟨_, _, _, rfl⟩ := tok_det he; exact h1
theorem parts_bad {A B : Bytes} {p q : Nat} {e : Int} (h : Bad A p q e) (hp : p ≤ A.length) (he : e ≠ 52) : Bad (A ++ 10 :: B) p q e := by
 induction h with
 | bl h => exact absurd rfl he
 | here h hb ht => exact .here (parts_bl hp h hb) (by simp; omega) (by rw [tokR_app rfl hb (.inl rfl), ht])
 | tok h hb ht _ ih => exact .tok (parts_bl hp h hb) (by simp; omega) (by rw [tokR_app rfl hb (.inl rfl), ht]) (ih (tok_le hb ht) he)
theorem parts_bad2 {A B : Bytes} {p q : Nat} {l : List Tok} {e : Int} (h : Toks A p l) (hp : p ≤ A.length) (hB : Bad B 0 q e) : Bad (A ++ 10 :: B) p (A.length + 1 + q) e := by
 have hY : Bad (A ++ 10 :: B) (A.length + 1) (A.length + 1 + q) e := Bad.mv (Y := A ++ 10 :: B) (a := A.length + 1) (p := 0) (by simp) (by rw [← List.drop_drop, List.drop_left' rfl]; exact hB)
 induction h with
 | @fin a h =>
   refine hY.start ?_
   obtain ⟨B0, R, e1, e2, e3, e4⟩ := bl_splitAt hp h
   have hR : R = [] := by rw [← e3, List.drop_length]
   subst hR
   have hB : BlO B0 := by
     rcases e4 with ⟨_, f⟩ | ⟨f, _⟩
     · exact f
     · exact absurd rfl f.1
   rw [blP_drop (A ++ 10 :: B) a, List.drop_append_of_le_length hp, e1, List.append_nil, show B0 ++ 10 :: B = (B0 ++ [10]) ++ B by simp, hB.nl.skip, blP_drop (A ++ 10 :: B) (A.length + 1), ← List.drop_drop, List.drop_left' rfl]
   simp only [List.length_append, List.length_cons, List.length_nil, List.drop_one, List.tail_cons, Prod.mk.injEq, and_true]
   omega
 | tok h hb ht hm0 ih => exact .tok (parts_bl hp h hb) (by simp; omega) (by rw [tokR_app rfl hb (.inl rfl), ht]) (ih (tok_le hb ht))
theorem Toks.last {X : Bytes} {a : Nat} {l : List Tok} (h : Toks X a l) : ∃ n, l.length = n + 1 ∧ l[n]? = some ⟨0, X.length, [], 0⟩ := by
 induction h with
 | fin h => exact ⟨0, rfl, rfl⟩
 | tok h hb ht _ ih => obtain ⟨n, h1, h2⟩ := ih; exact ⟨n + 1, by rw [List.length_cons, h1], h2⟩
structure Tiles (X : Bytes) (t u : Tok) : Prop where
  kind : 1 ≤ t.kind ∧ t.kind ≤ 5
  pos : t.pos < u.pos
  inn : u.pos ≤ X.length
  fits : t.kind ≠ 3 → t.kind ≠ 4 → t.pos + t.text.length ≤ u.pos
  said : t.kind ≠ 3 → t.kind ≠ 4 → (X.take (t.pos + t.text.length)).drop t.pos = t.text
  gap : t.kind ≠ 3 → t.kind ≠ 4 → BlO ((X.take u.pos).drop (t.pos + t.text.length))
theorem Toks.tiles {X : Bytes} {a : Nat} {l : List Tok} (h : Toks X a l) (ha : a ≤ X.length) : ∀ {i : Nat} {t u : Tok}, l[i]? = some t → l[i + 1]? = some u → Tiles X t u := by
 induction h with
 | fin h => intro i t u _ h2; simp at h2
 | @tok a b tz n k t m h hb ht hm ih =>
   intro i x u h1 h2
   have hle := tok_le hb ht
   cases i with
   | succ i => exact ih hle (by simpa using h1) (by simpa using h2)
   | zero =>
     simp at h1
     subst h1
     obtain ⟨v, r, rfl, hv⟩ := hm.head
     simp at h2
     subst h2
     obtain ⟨B, R, e1, e2, e3, e4⟩ := bl_splitAt hle hv
     have hpl := blP_le hle
     rw [hv] at hpl
     simp only [] at hpl
     rcases tokR_cases hb with ⟨e, he, _⟩ | ⟨_, _, _, _, he, g1, g2, g3, g4, g5⟩
     · rw [ht] at he; cases he
     · rw [ht] at he
       obtain ⟨rfl, rfl, rfl, rfl⟩ := tok_det he
       have hlen : k ≠ 3 → k ≠ 4 → t.length = tz - b := fun q1 q2 => by rw [g5 q1 q2, List.length_drop, List.length_take]; omega
       refine ⟨⟨g3, g4⟩, by simp only []; omega, hpl, fun q1 q2 => ?_, fun q1 q2 => ?_, fun q1 q2 => ?_⟩
       · have := hlen q1 q2; simp only []; omega
       · have h3 := hlen q1 q2
         simp only []
         rw [h3, show b + (tz - b) = tz by omega]
         exact (g5 q1 q2).symm
       · have h3 := hlen q1 q2
         simp only []
         rw [h3, show b + (tz - b) = tz by omega, List.drop_take, e1, List.take_left' (by omega)]
         rcases e4 with ⟨_, f⟩ | ⟨_, f⟩
         · exact f
         · exact .inl f
theorem gap_scan {X : Bytes} {t u : Tok} (hX : badAt X = none) (hl : X.length ≤ 65536) (h : Tiles X t u) (h1 : t.kind ≠ 3) (h2 : t.kind ≠ 4) : scanP ((X.take u.pos).drop (t.pos + t.text.length)) = .good [⟨0, ((X.take u.pos).drop (t.pos + t.text.length)).length, [], 0⟩] :=
 scanP_toks (by rw [List.length_drop, List.length_take]; omega) (ok_sub hX fun c hc => List.mem_of_mem_take (List.mem_of_mem_drop hc)) (.fin (h.gap h1 h2).all)
end Go.Proofs.YtnhmmjogfkjceaaDoor
namespace Go.Proofs.YtnhmmjogfkjceaaDoor
open Go.Sl
abbrev hexL : Bytes := [48, 49, 50, 51, 52, 53, 54, 55, 56, 57, 97, 98, 99, 100, 101, 102]
def hexAt (n : Nat) : UInt8 := hexL[n]?.getD 0
def needQ (q c : UInt8) (h : Bool) : Bool := h || decide (c.toNat < 32 ∨ 126 < c.toNat ∨ c = q ∨ c.toNat = 92)
def quoteC (q c : UInt8) (h : Bool) : Bytes := if needQ q c h = true then [92, 120, hexAt (c.toNat / 16), hexAt (c.toNat % 16)] else [c]
def quoteB (q : UInt8) : Bytes → List Bool → Bytes
 | [], _ => []
 | c :: s, how => quoteC q c (how.headD false) ++ quoteB q s how.tail
def quotedP (q : UInt8) (s : Bytes) (how : List Bool) : Bytes := q :: (quoteB q s how ++ [q])
theorem hex_byte (c : UInt8) : isHx (hexAt (c.toNat / 16)) = true ∧ isHx (hexAt (c.toNat % 16)) = true ∧ nib16 (hexAt (c.toNat / 16)) (hexAt (c.toNat % 16)) = c := by
 have h : ∀ n : Fin 256, isHx (hexAt ((UInt8.ofNat n).toNat / 16)) = true ∧ isHx (hexAt ((UInt8.ofNat n).toNat % 16)) = true ∧ nib16 (hexAt ((UInt8.ofNat n).toNat / 16)) (hexAt ((UInt8.ofNat n).toNat % 16)) = UInt8.ofNat n := by decide +kernel
 have := h ⟨c.toNat, c.toNat_lt⟩
 simpa using this
theorem hx_ok {c : UInt8} (h : isHx c = true) : okR (c.toNat : Int) = true := by
 have hc : (48 ≤ c.toNat ∧ c.toNat ≤ 57) ∨ (97 ≤ c.toNat ∧ c.toNat ≤ 102) ∨ (65 ≤ c.toNat ∧ c.toNat ≤ 70) := by simpa [isHx] using h
 unfold okR; exact decide_eq_true (by omega)
theorem needQ_no {q c : UInt8} {h : Bool} (hn : ¬ needQ q c h = true) : 32 ≤ c.toNat ∧ c.toNat ≤ 126 ∧ c ≠ q ∧ c.toNat ≠ 92 := by
 unfold needQ at hn
 rw [Bool.or_eq_true, not_or] at hn
 have := hn.2
 rw [decide_eq_true_eq] at this
 exact ⟨by omega, by omega, fun z => this (.inr (.inr (.inl z))), fun z => this (.inr (.inr (.inr z)))⟩
theorem quoteC_ok (q c : UInt8) (h : Bool) : ∀ x ∈ quoteC q c h, okR (x.toNat : Int) = true := by
 unfold quoteC
 obtain ⟨h1, h2, _⟩ := hex_byte c
 split
 · intro x hx
   simp only [List.mem_cons, List.not_mem_nil, or_false] at hx
   rcases hx with rfl | rfl | rfl | rfl
   · decide
   · decide
   · exact hx_ok h1
   · exact hx_ok h2
 · rename_i hn
   have := needQ_no hn
   intro x hx
   rw [show x = c by simpa using hx]
   unfold okR; exact decide_eq_true (by omega)
theorem quoteB_ok (q : UInt8) : ∀ (s : Bytes) (how : List Bool), ∀ x ∈ quoteB q s how, okR (x.toNat : Int) = true
 | [], _, x, h => by cases h
 | c :: s, how, x, h => by
   rcases List.mem_append.1 h with z | z
   · exact quoteC_ok q c _ x z
   · exact quoteB_ok q s how.tail x z
theorem quoteC_len (q c : UInt8) (h : Bool) : 1 ≤ (quoteC q c h).length ∧ (quoteC q c h).length ≤ 4 := by unfold quoteC; split <;> simp
theorem quoteB_len (q : UInt8) : ∀ (s : Bytes) (how : List Bool), (quoteB q s how).length ≤ 4 * s.length
 | [], _ => by simp [quoteB]
 | c :: s, how => by
   have h1 := quoteC_len q c (how.headD false)
   have h2 := quoteB_len q s how.tail
   show (quoteC q c (how.headD false) ++ quoteB q s how.tail).length ≤ _
   rw [List.length_append, List.length_cons]; omega
theorem quote_str {q : UInt8} (hq : q = 34 ∨ q = 39) : ∀ (s : Bytes) (how : List Bool) (X P m : Bytes) (f : Nat), X = P ++ (quoteB q s how ++ [q]) → (quoteB q s how).length < f → strE f X q P.length m = some (m ++ s, P.length + (quoteB q s how).length)
 | [], how, X, P, m, f, hX, hf => by
   obtain ⟨f, rfl⟩ : ∃ g, f = g + 1 := ⟨f - 1, by omega⟩
   subst hX
   show strE (f + 1) (P ++ q :: []) q P.length m = _
   rw [strE_close (by simp) atB_appE, List.append_nil]; rfl
 | c :: s, how, X, P, m, f, hX, hf => by
   obtain ⟨f, rfl⟩ : ∃ g, f = g + 1 := ⟨f - 1, by omega⟩
   have hB : quoteB q (c :: s) how = quoteC q c (how.headD false) ++ quoteB q s how.tail := rfl
   rw [hB] at hX hf ⊢
   have hq2 : q ≠ 92 ∧ q ≠ 10 := by rcases hq with rfl | rfl <;> decide
   by_cases hn : needQ q c (how.headD false) = true
   · have hC : quoteC q c (how.headD false) = [92, 120, hexAt (c.toNat / 16), hexAt (c.toNat % 16)] := by unfold quoteC; exact if_pos hn
     obtain ⟨g1, g2, g3⟩ := hex_byte c
     rw [hC] at hX hf ⊢
     have hd : X.drop P.length = 92 :: 120 :: hexAt (c.toNat / 16) :: hexAt (c.toNat % 16) :: (quoteB q s how.tail ++ [q]) := by
       rw [hX, List.drop_left' rfl]; rfl
     have ha : atB X P.length = 92 := by rw [← Nat.add_zero P.length, ← atB_drop, hd]; rfl
     have hl : P.length < X.length := by rw [hX]; simp
     have he : escP (X.drop P.length) = (c, 4) := by
       rw [hd, escP_hex (Y := 92 :: 120 :: hexAt (c.toNat / 16) :: hexAt (c.toNat % 16) :: (quoteB q s how.tail ++ [q])) (by simp) rfl g1 g2]
       show (nib16 (hexAt (c.toNat / 16)) (hexAt (c.toNat % 16)), 4) = _
       rw [g3]
     rw [strE_esc hl (by rw [ha]; exact fun z => hq2.1 z.symm) (by rw [ha]; rfl) (by rw [he]; exact (show ¬ (4 : Nat) = 0 by decide)), he]
     have ih := quote_str hq s how.tail X (P ++ [92, 120, hexAt (c.toNat / 16), hexAt (c.toNat % 16)]) (m ++ [c]) f (by rw [hX]; simp) (by simp at hf; omega)
     rw [List.length_append] at ih
     simp only [List.length_cons, List.length_nil] at ih
     rw [ih]
     simp only [List.append_assoc, List.cons_append, List.nil_append, List.length_append, List.length_cons, List.length_nil, Option.some.injEq, Prod.mk.injEq, true_and]
     omega
   · have hC : quoteC q c (how.headD false) = [c] := by unfold quoteC; exact if_neg hn
     obtain ⟨g1, g2, g3, g4⟩ := needQ_no hn
     rw [hC] at hX hf ⊢
     have hd : X.drop P.length = c :: (quoteB q s how.tail ++ [q]) := by rw [hX, List.drop_left' rfl]; rfl
     have ha : atB X P.length = c := by rw [← Nat.add_zero P.length, ← atB_drop, hd]; rfl
     have hl : P.length < X.length := by rw [hX]; simp
     rw [strE_one hl (by rw [ha]; exact g3) (by rw [ha]; omega) (by rw [ha]; exact g4), ha]
     have ih := quote_str hq s how.tail X (P ++ [c]) (m ++ [c]) f (by rw [hX]; simp) (by simp at hf; omega)
     rw [List.length_append] at ih
     simp only [List.length_cons, List.length_nil] at ih
     rw [ih]
     simp only [List.append_assoc, List.cons_append, List.nil_append, List.length_append, List.length_cons, List.length_nil, Option.some.injEq, Prod.mk.injEq, true_and]
     omega
theorem quoted_tok {q : UInt8} (hq : q = 34 ∨ q = 39) (s : Bytes) (how : List Bool) : strP (quotedP q s how) 0 = some (s, 1 + (quoteB q s how).length) := by
 have := quote_str hq s how (quotedP q s how) [q] [] ((quotedP q s how).length + 1) rfl (by unfold quotedP; simp; omega)
 exact this
theorem quoted_ok {q : UInt8} (hq : q = 34 ∨ q = 39) (s : Bytes) (how : List Bool) : badAt (quotedP q s how) = none := by
 have h0 : okR (q.toNat : Int) = true := by rcases hq with rfl | rfl <;> decide
 refine badAt_none fun c hc => ?_
 rcases List.mem_cons.1 hc with z | z
 · rw [z]; exact h0
 · rcases List.mem_append.1 z with z | z
   · exact quoteB_ok q s how c z
   · rw [show c = q by simpa using z]; exact h0
theorem quoted_len (q : UInt8) (s : Bytes) (how : List Bool) : (quotedP q s how).length = (quoteB q s how).length + 2 := by unfold quotedP; simp
theorem quoted_scan {q : UInt8} (hq : q = 34 ∨ q = 39) {s : Bytes} (hs : s.length ≤ 5000) (how : List Bool) : scanP (quotedP q s how) = if s.length > 4096 then .bad 0 56 else .good [⟨4, 0, s, 0⟩, ⟨0, (quotedP q s how).length, [], 0⟩] := by
 have hl := quoteB_len q s how
 have hX := quoted_len q s how
 have ha : atB (quotedP q s how) 0 = q := rfl
 have hst : Starts (quotedP q s how) := ⟨by unfold quotedP; simp, by rw [ha]; rcases hq with rfl | rfl <;> decide, by rw [ha]; rcases hq with rfl | rfl <;> exact fun z => absurd z.1 (by decide)⟩
 have htk : tokR (quotedP q s how) 0 = textR (quotedP q s how) 0 := tok_text (by rw [ha]; rcases hq with rfl | rfl <;> rfl) (by rw [ha]; rcases hq with rfl | rfl <;> rfl) (by rw [ha]; rcases hq with rfl | rfl; exact .inl rfl; exact .inr rfl)
 split
 · rename_i h
   exact scanP_bad (by omega) (quoted_ok hq s how) (.here hst.bl (by omega) (htk.trans (textR_long (quoted_tok hq s how) h)))
 · rename_i h
   have e : 1 + (quoteB q s how).length + 1 = (quotedP q s how).length := by omega
   refine scanP_toks (by omega) (quoted_ok hq s how) (.tok hst.bl (by omega) (htk.trans (textR_some (quoted_tok hq s how) h)) ?_)
   show Toks _ (1 + (quoteB q s how).length + 1) _
   rw [e]
   exact .fin (blE_end (Nat.le_refl _))
theorem words_join : wordsB = wordsL.flatMap (fun w => 32 :: w) ++ [32] := by decide +kernel
theorem words_plain : ∀ w ∈ wordsL, ∀ c ∈ w, c ≠ 32 := by decide +kernel
theorem split_uniq {c : UInt8} : ∀ {s t a b : Bytes}, (∀ x ∈ s, x ≠ c) → (∀ x ∈ t, x ≠ c) → s ++ c :: a = t ++ c :: b → s = t
 | [], [], _, _, _, _, _ => rfl
 | [], y :: t, _, _, _, h2, h => by
   rw [List.nil_append, List.cons_append] at h
   injection h with h3
   exact absurd h3.symm (h2 y (List.mem_cons_self ..))
 | x :: s, [], _, _, h1, _, h => by
   rw [List.nil_append, List.cons_append] at h
   injection h with h3
   exact absurd h3 (h1 x (List.mem_cons_self ..))
 | x :: s, y :: t, _, _, h1, h2, h => by
   rw [List.cons_append, List.cons_append] at h
   injection h with h3 h4
   rw [h3, split_uniq (fun z hz => h1 z (List.mem_cons_of_mem _ hz)) (fun z hz => h2 z (List.mem_cons_of_mem _ hz)) h4]
theorem join_mem {t : Bytes} (ht : ∀ c ∈ t, c ≠ 32) : ∀ {ws : List Bytes} {a b : Bytes}, (∀ w ∈ ws, ∀ c ∈ w, c ≠ 32) → ws.flatMap (fun w => 32 :: w) ++ [32] = a ++ (32 :: (t ++ 32 :: b)) → t ∈ ws
 | [], a, b, _, h => by
   have := congrArg List.length h
   simp at this
   omega
 | w :: ws, a, b, hw, h => by
   obtain ⟨J, hJ⟩ : ∃ J, ws.flatMap (fun w => 32 :: w) ++ [32] = 32 :: J := by
     cases ws with
     | nil => exact ⟨[], rfl⟩
     | cons v ws => exact ⟨v ++ (ws.flatMap (fun w => 32 :: w) ++ [32]), by simp⟩
   have e : (w :: ws).flatMap (fun w => 32 :: w) ++ [32] = 32 :: (w ++ 32 :: J) := by
     rw [List.flatMap_cons, List.append_assoc, hJ]; rfl
   rw [e] at h
   cases a with
   | nil =>
     rw [List.nil_append] at h
     injection h with _ h2
     rw [split_uniq (hw w (List.mem_cons_self ..)) ht h2]
     exact List.mem_cons_self ..
   | cons x a =>
     rw [List.cons_append] at h
     injection h with _ h2
     rcases List.append_eq_append_iff.1 h2 with ⟨c, h3, h4⟩ | ⟨c, h3, h4⟩
     · refine List.mem_cons_of_mem _ (join_mem ht (a := c) (b := b) (fun v hv => hw v (List.mem_cons_of_mem _ hv)) ?_)
       rw [hJ]; exact h4
     · cases c with
       | nil =>
         refine List.mem_cons_of_mem _ (join_mem ht (a := []) (b := b) (fun v hv => hw v (List.mem_cons_of_mem _ hv)) ?_)
         rw [hJ]; exact h4.symm
       | cons y c =>
         rw [List.cons_append] at h4
         injection h4 with h5 _
         exact absurd h5.symm (hw w (List.mem_cons_self ..) y (by rw [h3]; simp))
theorem kept_mem {t : Bytes} (ht : ∀ c ∈ t, c ≠ 32) (h : Lib.contains wordsB ([32] ++ t ++ [32]) = true) : t ∈ wordsL := by
 have h1 : 0 ≤ Lib.index wordsB ([32] ++ t ++ [32]) := of_decide_eq_true h
 obtain ⟨j, hj⟩ := Int.eq_ofNat_of_zero_le h1
 have h2 := occ_split hj
 refine join_mem ht (ws := wordsL) (a := wordsB.take j) (b := wordsB.drop (j + ([32] ++ t ++ [32]).length)) words_plain ?_
 rw [← words_join]
 refine h2.trans ?_
 simp
theorem word_tok {X t : Bytes} {a n tz : Nat} (h : tokR X a = .tok 2 t n tz) : t ∈ wordsL := by
 unfold tokR at h
 split at h
 · rcases numR_cases X a with q | ⟨n, q⟩ <;> rw [q] at h <;> cases h
 · split at h
   · unfold nameR at h
     split at h
     · cases h
     · obtain ⟨h1, h2, h3, h4⟩ := tok_det h
       split at h1
       · rename_i hc
         subst h2
         refine kept_mem (fun c hc' => ?_) hc
         unfold nameT at hc'
         unfold runL at hc'
         rw [List.drop_take, Nat.add_sub_cancel_left] at hc'
         have : c ∈ (X.drop a).takeWhile isSm := by
           have e : (X.drop a).take ((X.drop a).takeWhile isSm).length = (X.drop a).takeWhile isSm := by
             have := List.takeWhile_prefix (p := isSm) (l := X.drop a)
             exact (List.prefix_iff_eq_take.1 this).symm
           rw [e] at hc'; exact hc'
         have := takeWhile_all isSm this
         intro z
         rw [z] at this
         exact absurd this (by decide)
       · cases h1
   · split at h
     · unfold textR at h
       split at h
       · cases h
       · split at h <;> cases h
     · unfold signR at h
       split at h <;> cases h
def checkW (t : Bytes) : Bool := match scanP (t ++ [95]) with
 | .good [a, b] => decide (a.kind = 1) && decide (a.text = t ++ [95])
 | _ => false
theorem words_check : wordsL.all checkW = true := by decide +kernel
theorem word_more {t : Bytes} (h : t ∈ wordsL) : ∃ a b, scanP (t ++ [95]) = .good [a, b] ∧ a.kind = 1 ∧ a.text = t ++ [95] := by
 have := List.all_eq_true.1 words_check t h
 unfold checkW at this
 split at this
 · rename_i a b e
   rw [Bool.and_eq_true, decide_eq_true_eq, decide_eq_true_eq] at this
   exact ⟨a, b, e, this.1, this.2⟩
 · cases this
abbrev aliveA : Bytes := [97, 62, 62, 62, 61, 48, 120, 49, 70, 59]
abbrev aliveB : Bytes := [97, 32, 47, 42, 32, 98]
theorem alive_A : scanP aliveA = .good [⟨1, 0, [97], 0⟩, ⟨5, 1, [62, 62, 62, 61], 0⟩, ⟨3, 5, [], 4629418941960159232⟩, ⟨5, 9, [59], 0⟩, ⟨0, 10, [], 0⟩] := by kernel_rfl
theorem alive_B : scanP aliveB = .bad 2 52 := by kernel_rfl
end Go.Proofs.YtnhmmjogfkjceaaDoor
namespace Go.Proofs.YtnhmmjogfkjceaaDoor
open Go.Sl
def eqT (k k' a a' : Int) (s s' : Bytes) (m m' : Int) : Bool := k == k' && (a == a' && (decide (s = s') && m == m'))
theorem eqTok (k k' a a' : Int) (s s' : Bytes) (m m' : Int) (w : World) : (Op.equalIn 10000 29 (.agg #[.int .i64 k, .int .i64 a, .string (bS s), .int .u64 m]) (.agg #[.int .i64 k', .int .i64 a', .string (bS s'), .int .u64 m'])).run Tryd.prog w = .ok (eqT k k' a a' s s' m m') w := by
 have u1 := Tryd.underlying3
 have a1 := Tryd.isAgg3
 have z1 := Tryd.sizeOf3
 have u2 := Tryd.underlying9
 have a2 := Tryd.isAgg9
 have z2 := Tryd.sizeOf9
 have u3 := Tryd.underlying27
 have a3 := Tryd.isAgg27
 have z3 := Tryd.sizeOf27
 rw [show (10000 : Nat) = 9999 + 1 from rfl, run_equalIn_agg w 9999 29 _ _ (by kernel_rfl) (by kernel_rfl)]
 simp only [Program.fieldsOf, Tryd.underlying29]
 go_simp
 unfold eqT
 have hs : ((bS s).toList == (bS s').toList) = decide (s = s') := strB_eq s s'
 by_cases h1 : k = k' <;> by_cases h2 : a = a' <;> by_cases h3 : s = s' <;> by_cases h4 : m = m' <;> simp [h1, h2, h3, h4, hs] <;> first | exact h3 | (simp at hs; simp_all)
theorem neqT {ρ : Fr} {x y : Operand} {dst : Option Tmp} {t2 ty : TypeId} {pos : String} {after : Array Edge} {gd : Option (Nat × Bool)} {k k' a a' m m' : Int} {s s' : Bytes} (hx : ∀ δ, ev δ ρ x = .agg #[.int .i64 k, .int .i64 a, .string (bS s), .int .u64 m] := by exact fun _ => rfl) (hy : ∀ δ, ev δ ρ y = .agg #[.int .i64 k', .int .i64 a', .string (bS s'), .int .u64 m'] := by exact fun _ => rfl) :
   ∀ δ w, (execOp (ev δ ρ) ⟨dst, .binOp .neq 29 x y t2, ty, pos, after, gd⟩).run Tryd.prog w = .ok (.value (.bool (!eqT k k' a a' s s' m m'))) w := by
 intro δ w
 simp only [execOp, hx, hy]
 rw [Sem.run_bind, Sem.run_bind, run_eqGuard_agg _ _ _ _ _ _ _ (by kernel_rfl), Result.andThen_ok, run_neq_struct, eqTok]
 rfl
theorem eqlT {ρ : Fr} {x y : Operand} {dst : Option Tmp} {t2 ty : TypeId} {pos : String} {after : Array Edge} {gd : Option (Nat × Bool)} {k k' a a' m m' : Int} {s s' : Bytes} (hx : ∀ δ, ev δ ρ x = .agg #[.int .i64 k, .int .i64 a, .string (bS s), .int .u64 m] := by exact fun _ => rfl) (hy : ∀ δ, ev δ ρ y = .agg #[.int .i64 k', .int .i64 a', .string (bS s'), .int .u64 m'] := by exact fun _ => rfl) :
   ∀ δ w, (execOp (ev δ ρ) ⟨dst, .binOp .eql 29 x y t2, ty, pos, after, gd⟩).run Tryd.prog w = .ok (.value (.bool (eqT k k' a a' s s' m m'))) w := by
 intro δ w
 simp only [execOp, hx, hy]
 rw [Sem.run_bind, Sem.run_bind, run_eqGuard_agg _ _ _ _ _ _ _ (by kernel_rfl), Result.andThen_ok, run_eql_struct, eqTok]
 rfl
theorem eqT_same (k a m : Int) (s : Bytes) : eqT k k a a s s m m = true := by unfold eqT; simp
theorem strNums (m : Bytes) : strOfNums (m.map fun c => (c.toNat : Int)) = bS m := by
 have h : (m.map fun c : UInt8 => (c.toNat : Int)).map (fun n => UInt8.ofNat n.toNat) = m := by
   rw [List.map_map]
   conv => rhs; rw [← List.map_id m]
   refine List.map_congr_left fun c _ => ?_
   show UInt8.ofNat ((c.toNat : Int).toNat) = c
   rw [Int.toNat_natCast, UInt8.ofNat_toNat]
 unfold strOfNums
 rw [h]
theorem O_bytesG {P : Program} {W0 : World} {n : Nat} {Q : SQ} {ρ : Fr} {σ : Heaplet} {K : Fr → Heaplet → Prop} (g : Gs) (m : Bytes) {dst : Option Tmp} {src dt ty e : TypeId} {x : Operand} {pos : String} {after : Array Edge} {gd : Option (Nat × Bool)}
   (hk : g.ok 1 m.length (m.map u8V)) (hm : m ≠ []) (hin : ∀ z ∈ g.ent e 1 (m.map u8V), z ∈ σ)
   (hs : P.underlying src = some (.slice e)) (he : P.underlying e = some (.int .u8)) (hd : P.underlying dt = some .string)
   (hx : ∀ δ, ev δ ρ x = g.val m.length) (hdst : dstOk n dst = true) (h : K (putF ρ dst (.string (bS m))) σ) : SO P W0 n Q ⟨dst, .convert src dt x, ty, pos, after, gd⟩ ρ σ K := by
 have hl := List.length_pos_iff.2 hm
 have hsrc := (Gs.src (W0 := W0) hk hin).resolve_left (by omega)
 obtain ⟨b, off, ha, hc⟩ := hsrc
 rw [← strNums] at h
 refine O_bytes (m.map fun c => (c.toNat : Int)) b off g.cap hs he hd ?_ (fun δ => ?_) hdst h
 · rw [List.map_map]; exact hc
 · rw [hx, List.length_map]; unfold Gs.val; rw [ha]
theorem hex_at {n : Nat} {e : UInt8} (h : hexL[n]? = some e) : hexAt n = e := by unfold hexAt; rw [h]; rfl
theorem hex_lt {c : UInt8} : c.toNat / 16 < hexL.length ∧ c.toNat % 16 < hexL.length := by
 have := c.toNat_lt
 exact ⟨by show c.toNat / 16 < 16; omega, by show c.toNat % 16 < 16; omega⟩
section
variable {q : UInt8} {s m : Bytes} {how : List Bool} {i : Nat} {e d1 d2 : UInt8}
theorem quote_step {N : Bytes} (h : s[i]? = some e) (hN : quoteC q e ((how.drop i).headD false) = N) : m ++ (quoteB q (s.drop i) (how.drop i) ++ [q]) = (m ++ N) ++ (quoteB q (s.drop (i + 1)) (how.drop (i + 1)) ++ [q]) := by
 rw [drop_at h]
 show m ++ ((quoteC q e ((how.drop i).headD false) ++ quoteB q (s.drop (i + 1)) (how.drop i).tail) ++ [q]) = _
 rw [hN, List.tail_drop]
 simp only [List.append_assoc]
theorem quoteC_hex {b : Bool} (h : needQ q e b = true) (h1 : hexL[e.toNat / 16]? = some d1) (h2 : hexL[e.toNat % 16]? = some d2) : quoteC q e b = [92, 120, d1, d2] := by unfold quoteC; rw [if_pos h, hex_at h1, hex_at h2]
theorem quoteC_one {b : Bool} (h : needQ q e b = false) : quoteC q e b = [e] := by unfold quoteC; rw [if_neg (by rw [h]; decide)]
theorem needQ_how {b : Bool} (h : b = true) : needQ q e b = true := by subst h; rfl
theorem needQ_is {b : Bool} (h : (e.toNat : Int) < 32 ∨ 126 < (e.toNat : Int) ∨ (e.toNat : Int) = (q.toNat : Int) ∨ (e.toNat : Int) = 92) : needQ q e b = true := by
 unfold needQ
 rw [Bool.or_eq_true, decide_eq_true_eq]
 refine .inr ?_
 rcases h with h | h | h | h
 · exact .inl (by omega)
 · exact .inr (.inl (by omega))
 · exact .inr (.inr (.inl (UInt8.toNat_inj.1 (by omega))))
 · exact .inr (.inr (.inr (by omega)))
theorem needQ_not {b : Bool} (hb : b = false) (h : ¬ ((e.toNat : Int) < 32 ∨ 126 < (e.toNat : Int) ∨ (e.toNat : Int) = (q.toNat : Int) ∨ (e.toNat : Int) = 92)) : needQ q e b = false := by
 subst hb
 unfold needQ
 rw [Bool.false_or, decide_eq_false_iff_not]
 rintro (z | z | z | z)
 · exact h (.inl (by omega))
 · exact h (.inr (.inl (by omega)))
 · exact h (.inr (.inr (.inl (by rw [z]))))
 · exact h (.inr (.inr (.inr (by omega))))
theorem how_at {b : Bool} (h : how[i]? = some b) : (how.drop i).headD false = b := by
 obtain ⟨h1, h2⟩ := List.getElem?_eq_some_iff.1 h
 rw [List.drop_eq_getElem_cons h1, h2]; rfl
theorem how_end (h : ¬ i < how.length) : (how.drop i).headD false = false := by rw [List.drop_eq_nil_of_le (by omega)]; rfl
end
theorem quo_u8 {m n : Int} (h0 : 0 ≤ m) (h1 : m < 256) (hn : 0 < n) : IntKind.wrap .u8 (Int.tdiv m n) = m / n := by
 rw [Int.tdiv_eq_ediv_of_nonneg h0]
 have h2 : 0 ≤ m / n := Int.ediv_nonneg h0 (Int.le_of_lt hn)
 have h3 : m / n ≤ m := Int.ediv_le_self _ h0
 exact IntWalk.u8_in _ (by omega)
abbrev encB (b : Bool) : Value := .bool b
theorem Bad.le {X : Bytes} {a p : Nat} {e : Int} (h : Bad X a p e) (ha : a ≤ X.length) : p ≤ X.length ∧ 52 ≤ e := by
 induction h with
 | bl h => have := blP_le ha; rw [h] at this; exact ⟨this, Int.le_refl _⟩
 | here h hb ht =>
   have := blP_le ha; rw [h] at this
   rcases tokR_cases hb with ⟨e, he, h1, _⟩ | ⟨_, _, _, _, he, _⟩
   · rw [ht] at he; injection he with z; exact ⟨this, by omega⟩
   · rw [ht] at he; cases he
 | tok h hb ht _ ih => exact ih (tok_le hb ht)
theorem scan_ok {X : Bytes} (h : (scanP X).err = 0) : X.length ≤ 65536 ∧ badAt X = none ∧ Toks X 0 (scanP X).toks ∧ (scanP X).place = 0 ∧ scanP X = .good (scanP X).toks := by
 rcases scanP_cases X with ⟨_, h1⟩ | ⟨_, i, _, h1⟩ | ⟨g1, g2, ⟨m, h2, h3⟩ | ⟨q, d, h2, h3⟩⟩
 · rw [h1] at h; cases h
 · rw [h1] at h; cases h
 · rw [h2]; exact ⟨g1, g2, h3, rfl, rfl⟩
 · rw [h2] at h
   have := (h3.le (Nat.zero_le _)).2
   exact absurd (show d = 0 from h) (by omega)
theorem badAt_lt {X : Bytes} {i : Nat} (h : badAt X = some i) : i < X.length := by
 unfold badAt at h
 rw [List.findIdx?_eq_some_iff_getElem] at h
 exact h.1
theorem scan_no {X : Bytes} (h : ¬ (scanP X).err = 0) : (scanP X).toks = [] ∧ (scanP X).place ≤ X.length := by
 rcases scanP_cases X with ⟨_, h1⟩ | ⟨_, i, hi, h1⟩ | ⟨g1, g2, ⟨m, h2, h3⟩ | ⟨q, d, h2, h3⟩⟩
 · rw [h1]; exact ⟨rfl, Nat.zero_le _⟩
 · rw [h1]; exact ⟨rfl, Nat.le_of_lt (badAt_lt hi)⟩
 · rw [h2] at h; exact absurd rfl h
 · rw [h2]; exact ⟨rfl, (h3.le (Nat.zero_le _)).1⟩
theorem Toks.len {X : Bytes} {a : Nat} {l : List Tok} (h : Toks X a l) (ha : a ≤ X.length) : l.length + a ≤ X.length + 1 := by
 induction h with
 | fin h => simp; omega
 | @tok a b z n k t m h hb ht _ ih =>
   have h1 := ih (tok_le hb ht)
   have g2 := blP_ge X a
   rw [h] at g2
   simp only [] at g2
   rcases tokR_cases hb with ⟨e, he, _⟩ | ⟨_, _, _, _, he, g1, _⟩
   · rw [ht] at he; cases he
   · rw [ht] at he
     obtain ⟨_, _, _, rfl⟩ := tok_det he
     rw [List.length_cons]; omega
theorem word_of {X : Bytes} {l : List Tok} {e : Tok} (h : Toks X 0 l) (he : l[0]? = some e) (hk : e.kind = 2) : e.text ∈ wordsL := by
 cases h with
 | fin h => simp at he; subst he; cases hk
 | tok h hb ht hm =>
   simp at he
   subst he
   simp only [] at hk
   subst hk
   exact word_tok ht
abbrev aliveL : List Tok := [⟨1, 0, [97], 0⟩, ⟨5, 1, [62, 62, 62, 61], 0⟩, ⟨3, 5, [], 4629418941960159232⟩, ⟨5, 9, [59], 0⟩, ⟨0, 10, [], 0⟩]
theorem cell_own {W0 : World} {σ : Heaplet} {b off : Nat} {v : Value} {e : TypeId} {N : Nat} {cs : List Value} (h : (b, Blk.cells e N cs) ∈ σ) (hv : cs[off]? = some v) : Cell W0 σ b off v := Cell.own h hv
theorem words_n : wordsL.length = 26 := by decide +kernel
theorem words_le : ∀ w ∈ wordsL, w.length ≤ 10 := by decide +kernel
theorem kept_step {X x : Bytes} {i : Nat} (h : ∀ y ∈ wordsL.take i, y ≠ X) (hx : wordsL[i]? = some x) (hn : ¬ x = X) : ∀ y ∈ wordsL.take (i + 1), y ≠ X := by
 intro y hy
 rw [List.take_add_one, hx] at hy
 rcases List.mem_append.1 hy with q | q
 · exact h y q
 · rw [show y = x by simpa using q]; exact hn
theorem kept_no {X : Bytes} {i : Nat} (hi : ¬ i < 26) (h : ∀ y ∈ wordsL.take i, y ≠ X) : ¬ X ∈ wordsL := fun q => h X (by rw [List.take_of_length_le (by rw [words_n]; omega)]; exact q) rfl
def plainK (k : Int) : Bool := decide (k = 1 ∨ k = 2 ∨ k = 5)
theorem againP_len (X : Bytes) : ∀ (l : List Tok) (bs : Bytes), (againP X l bs).length ≤ l.length * (X.length + 10)
 | [], _ => Nat.zero_le _
 | [_], bs => by
   show (blanksB (bs.headD 0)).length ≤ _
   rcases blanksB_cases (bs.headD 0) with h | h | h | h <;> rw [h] <;> simp <;> omega
 | t :: u :: l, bs => by
   have ih := againP_len X (u :: l) bs.tail
   have h1 : (blanksB (bs.headD 0)).length ≤ 10 := by rcases blanksB_cases (bs.headD 0) with h | h | h | h <;> rw [h] <;> decide
   show (blanksB (bs.headD 0) ++ ((X.take u.pos).drop t.pos ++ againP X (u :: l) bs.tail)).length ≤ _
   rw [List.length_append, List.length_append, List.length_drop, List.length_take, List.length_cons, Nat.succ_mul]
   omega
theorem headD_drop {bs : Bytes} {i : Nat} {e : UInt8} (h : bs[i]? = some e) : (bs.drop i).headD 0 = e := by rw [drop_at h]; rfl
theorem headD_end {bs : Bytes} {i : Nat} (h : bs.length ≤ i) : (bs.drop i).headD 0 = 0 := by rw [List.drop_eq_nil_of_le h]; rfl
theorem blanks0 {b : UInt8} (h : (b.toNat : Int) % 4 = 0) : blanksB b = [32] := by unfold blanksB; rw [if_pos (by omega)]
theorem blanks1 {b : UInt8} (h : (b.toNat : Int) % 4 = 1) : blanksB b = [10, 9] := by unfold blanksB; rw [if_neg (by omega), if_pos (by omega)]
theorem blanks2 {b : UInt8} (h : (b.toNat : Int) % 4 = 2) : blanksB b = [32, 47, 42, 32, 47, 32, 42, 32, 42, 47] := by unfold blanksB; rw [if_neg (by omega), if_neg (by omega), if_pos (by omega)]
theorem blanks3 {b : UInt8} (h0 : ¬ (b.toNat : Int) % 4 = 0) (h1 : ¬ (b.toNat : Int) % 4 = 1) (h2 : ¬ (b.toNat : Int) % 4 = 2) : blanksB b = [32, 47, 47, 32, 47, 42, 10] := by unfold blanksB; rw [if_neg (by omega), if_neg (by omega), if_neg (by omega)]
section
variable {X bs x N : Bytes} {l : List Tok} {i : Nat} {t u : Tok}
theorem again_more (h1 : l[i]? = some t) (h2 : l[i + 1]? = some u) (hN : blanksB ((bs.drop i).headD 0) = N) : x ++ againP X (l.drop i) (bs.drop i) = ((x ++ N) ++ (X.take u.pos).drop t.pos) ++ againP X (l.drop (i + 1)) (bs.drop (i + 1)) := by
 have e1 : l.drop i = t :: u :: l.drop (i + 2) := by
   obtain ⟨a1, a2⟩ := List.getElem?_eq_some_iff.1 h1
   obtain ⟨b1, b2⟩ := List.getElem?_eq_some_iff.1 h2
   rw [List.drop_eq_getElem_cons a1, a2, List.drop_eq_getElem_cons b1, b2]
 have e2 : l.drop (i + 1) = u :: l.drop (i + 2) := by
   obtain ⟨b1, b2⟩ := List.getElem?_eq_some_iff.1 h2
   rw [List.drop_eq_getElem_cons b1, b2]
 rw [e1, e2]
 show x ++ (blanksB ((bs.drop i).headD 0) ++ ((X.take u.pos).drop t.pos ++ againP X (u :: l.drop (i + 2)) (bs.drop i).tail)) = _
 rw [hN, List.tail_drop]
 simp only [List.append_assoc]
theorem again_last (h1 : l[i]? = some t) (h2 : ¬ i + 1 < l.length) (hN : blanksB ((bs.drop i).headD 0) = N) : x ++ againP X (l.drop i) (bs.drop i) = (x ++ N) ++ againP X (l.drop (i + 1)) (bs.drop (i + 1)) := by
 obtain ⟨a1, a2⟩ := List.getElem?_eq_some_iff.1 h1
 rw [List.drop_eq_getElem_cons a1, a2, List.drop_eq_nil_of_le (show l.length ≤ i + 1 by omega)]
 show x ++ blanksB ((bs.drop i).headD 0) = (x ++ N) ++ []
 rw [hN, List.append_nil]
theorem again_room {Y : Bytes} {bs' : Bytes} (h : x ++ Y = againP X l bs') (hX : X.length ≤ 4000) (hl : l.length ≤ X.length + 1) : x.length ≤ 16046010 := by
 have h1 := congrArg List.length h
 have h2 := againP_len X l bs'
 rw [List.length_append] at h1
 have h3 : l.length * (X.length + 10) ≤ 4001 * 4010 := Nat.mul_le_mul (by omega) (by omega)
 omega
end
theorem mix_set {l m : List Tok} {i : Nat} {t e : Tok} (hs : m.map strip = l.map strip) (h1 : l[i]? = some t) (h2 : (l.take i ++ m.drop i)[i]? = some e) : (l.take i ++ m.drop i).set i ⟨e.kind, t.pos, e.text, e.num⟩ = l.take (i + 1) ++ m.drop (i + 1) := by
 have hlen : m.length = l.length := by have := congrArg List.length hs; simpa using this
 obtain ⟨a1, a2⟩ := List.getElem?_eq_some_iff.1 h1
 have ht : (l.take i).length = i := by rw [List.length_take]; omega
 rw [List.getElem?_append_right (by omega), ht, Nat.sub_self, List.getElem?_drop, Nat.add_zero] at h2
 have h3 : strip e = strip t := by
   have := congrArg (fun z => z[i]?) hs
   simp only [List.getElem?_map, h1, h2, Option.map_some] at this
   exact Option.some.inj this
 have h4 : (⟨e.kind, t.pos, e.text, e.num⟩ : Tok) = t := by
   cases e; cases t
   simp only [strip, Prod.mk.injEq] at h3
   obtain ⟨rfl, rfl, rfl⟩ := h3
   rfl
 obtain ⟨b1, b2⟩ := List.getElem?_eq_some_iff.1 h2
 rw [h4, List.take_add_one, h1, List.set_append_right _ _ (by omega), ht, Nat.sub_self]
 have e5 : (m.drop i).set 0 t = t :: m.drop (i + 1) := by rw [List.drop_eq_getElem_cons b1, List.set_cons_zero]
 rw [e5]
 simp
theorem mix_end {l m : List Tok} {i : Nat} (hs : m.map strip = l.map strip) (h : ¬ i < l.length) : l.take i ++ m.drop i = l := by
 have hlen : m.length = l.length := by have := congrArg List.length hs; simpa using this
 rw [List.take_of_length_le (by omega), List.drop_eq_nil_of_le (by omega), List.append_nil]
theorem again_scan {X : Bytes} {l : List Tok} (hl : Toks X 0 l) (hb : badAt X = none) (bs : Bytes) (hr : (againP X l bs).length ≤ 65536) : ∃ m, scanP (againP X l bs) = .good m ∧ m.map strip = l.map strip := by
 obtain ⟨m, h1, h2⟩ := again_toks hl (Nat.zero_le _) bs
 exact ⟨m, scanP_toks hr (again_ok hb l bs) h1, h2⟩
theorem scan_long {X : Bytes} (h : ¬ X.length ≤ 65536) : scanP X = .bad 0 50 := by unfold scanP; rw [if_pos (by omega)]
theorem parts_good {A B : Bytes} (hl : A.length + B.length < 65536) (hA : (scanP A).err = 0) (hB : (scanP B).err = 0) : scanP (A ++ 10 :: B) = .good ((scanP A).toks.dropLast ++ (scanP B).toks.map (Tok.mv (A.length + 1))) := by
 obtain ⟨_, a1, a2, _⟩ := scan_ok hA
 obtain ⟨_, b1, b2, _⟩ := scan_ok hB
 refine scanP_toks (by simp; omega) ?_ (parts_toks a2 (Nat.zero_le _) b2)
 rw [badAt_app a1, badAt_cons (by decide), b1]; rfl
theorem parts_err {A B : Bytes} (hl : A.length + B.length < 65536) (h : ¬ (scanP A).err = 0 ∨ ¬ (scanP B).err = 0) :
   (¬ (scanP (A ++ 10 :: B)).err = 0 ∨ (scanP A).err = 52) ∧ ((scanP A).err = 0 ∨ (scanP A).err = 52 ∨ ((scanP B).err = 51 ∧ ¬ (scanP A).err = 51) ∨ ((scanP (A ++ 10 :: B)).err = (scanP A).err ∧ (scanP (A ++ 10 :: B)).place = (scanP A).place)) := by
 have hY : (A ++ 10 :: B).length ≤ 65536 := by simp; omega
 rcases scanP_cases A with ⟨g, _⟩ | ⟨_, i, hi, h1⟩ | ⟨_, a1, ha⟩
 · omega
 · have h2 : scanP (A ++ 10 :: B) = .bad i 51 := by unfold scanP; rw [if_neg (by omega), badAt_first hi]
   rw [h1, h2]
   exact ⟨.inl (show ¬ (51 : Int) = 0 by decide), .inr (.inr (.inr ⟨rfl, rfl⟩))⟩
 · rcases scanP_cases B with ⟨g, _⟩ | ⟨_, j, hj, h2⟩ | ⟨_, b1, hb⟩
   · omega
   · have h3 : scanP (A ++ 10 :: B) = .bad (A.length + (1 + j)) 51 := by unfold scanP; rw [if_neg (by omega), badAt_app a1, badAt_cons (by decide), hj]; rfl
     have ha51 : ¬ (scanP A).err = 51 := by
       rcases ha with ⟨l, e, _⟩ | ⟨p, d, e, hd⟩
       · rw [e]; exact (show ¬ (0 : Int) = 51 by decide)
       · rw [e]
         have := (hd.le (Nat.zero_le _)).2
         exact fun z => by have : d = 51 := z; omega
     rw [h2, h3]
     exact ⟨.inl (show ¬ (51 : Int) = 0 by decide), .inr (.inr (.inl ⟨rfl, ha51⟩))⟩
   · have hYb : badAt (A ++ 10 :: B) = none := by rw [badAt_app a1, badAt_cons (by decide), b1]; rfl
     rcases ha with ⟨l, ea, hl1⟩ | ⟨p, d, ea, hd⟩
     · rcases hb with ⟨m, eb, _⟩ | ⟨q, c, eb, hc⟩
       · rw [ea, eb] at h; exact absurd h (by rintro (z | z) <;> exact z rfl)
       · have := scanP_bad hY hYb (parts_bad2 hl1 (Nat.zero_le _) hc)
         rw [this, ea]
         have hc2 := (hc.le (Nat.zero_le _)).2
         exact ⟨.inl (fun z => by have : c = 0 := z; omega), .inl rfl⟩
     · by_cases hd52 : d = 52
       · rw [ea, hd52]; exact ⟨.inr rfl, .inr (.inl rfl)⟩
       · have := scanP_bad hY hYb (parts_bad (B := B) hd (Nat.zero_le _) hd52)
         rw [this, ea]
         have hd2 := (hd.le (Nat.zero_le _)).2
         exact ⟨.inl (fun z => by have : d = 0 := z; omega), .inr (.inr (.inr ⟨rfl, rfl⟩))⟩
theorem Src_prefix {W0 : World} {σ : Heaplet} {A : Option Addr} {xs ys : List Value} (h : Src W0 σ A (xs ++ ys)) : Src W0 σ A xs := by
 by_cases hx : xs.length = 0
 · exact .inl hx
 · obtain ⟨b, off, e, hc⟩ := h.resolve_left (by rw [List.length_append]; omega)
   refine .inr ⟨b, off, e, fun i v hv => hc i v ?_⟩
   rw [List.getElem?_append_left (List.getElem?_eq_some_iff.1 hv).1]
   exact hv
theorem toks_prefix {W0 : World} {σ : Heaplet} {A : Option Addr} {l : List Tok} (n : Nat) (h : Src W0 σ A (l.flatMap Tok.cells)) : Src W0 σ A ((l.take n).flatMap Tok.cells) := by
 rw [show l.flatMap Tok.cells = (l.take n).flatMap Tok.cells ++ (l.drop n).flatMap Tok.cells by rw [← List.flatMap_append, List.take_append_drop]] at h
 exact Src_prefix h
theorem Src.elems_ {W0 : World} {σ : Heaplet} {A : Option Addr} {vs : List Value} {n : Nat} (hv : vs.length = n * 4) (h : Src W0 σ A vs) : n = 0 ∨ ∃ b off, A = some ⟨b, off, none⟩ ∧ Cells W0 σ b off vs := by
 rcases h with h | h
 · exact .inl (by omega)
 · exact .inr h
theorem toks_elems {W0 : World} {σ : Heaplet} {A : Option Addr} {l : List Tok} {n : Nat} (hn : n ≤ l.length) (h : Src W0 σ A (l.flatMap Tok.cells)) : n = 0 ∨ ∃ b off, A = some ⟨b, off, none⟩ ∧ Cells W0 σ b off ((l.take n).flatMap Tok.cells) :=
 Src.elems_ (by rw [flat_len Tok.len, List.length_take, Nat.min_eq_left hn]) (toks_prefix n h)
theorem Toks.posle {X : Bytes} {a : Nat} {l : List Tok} (h : Toks X a l) (ha : a ≤ X.length) : ∀ t ∈ l, t.pos ≤ X.length := by
 induction h with
 | fin h => intro t ht; rw [show t = _ by simpa using ht]; exact Nat.le_refl _
 | tok h hb ht _ ih =>
   intro t hm
   rcases List.mem_cons.1 hm with q | q
   · rw [q]; exact Nat.le_of_lt hb
   · exact ih (tok_le hb ht) t q
theorem mv_snoc {L : List Tok} {m : List Tok} {n i : Nat} {e : Tok} {z : Nat} (h : m[i]? = some e) (hz : z = n + 1 + e.pos) : (L ++ (m.take i).map (Tok.mv (n + 1))) ++ [⟨e.kind, z, e.text, e.num⟩] = L ++ (m.take (i + 1)).map (Tok.mv (n + 1)) := by
 subst hz
 rw [List.take_add_one, h, List.map_append, List.append_assoc]; rfl
end Go.Proofs.YtnhmmjogfkjceaaDoor
namespace Go.Proofs.YtnhmmjogfkjceaaDoor
open Go.Sl Go.ChangeShapes Go.WideShapes Go.ChangeAt Go.RowKit Go.Deep
theorem laidVars_drop {P : Program} {w : World} : ∀ {l1 l2 : List (String × DataW Unit)} {ps : List MemPlace}, DataW.LaidVars P w (l1 ++ l2) ps → ∃ qs, DataW.LaidVars P w l2 qs
 | [], _, ps, h => ⟨ps, h⟩
 | _ :: _, _, _, h => by
   obtain ⟨g, t, cs, fuel, p, q, _, _, _, _, h, _⟩ := h
   exact laidVars_drop h
theorem var_below {P : Program} {W w : World} {name : String} {cs : Array Value} (hb : Below W.heap.size W w) (h : W.var? P name = some cs) : w.var? P name = some cs := by
 unfold World.var? at h ⊢
 cases hg : P.globalNamed name with
 | none => rw [hg] at h; cases h
 | some g =>
   rw [hg] at h
   simp only [Option.bind_some] at h ⊢
   have hlt : g < W.heap.size := by
     rcases Nat.lt_or_ge g W.heap.size with q | q
     · exact q
     · rw [Array.getElem?_eq_none q] at h; cases h
   rw [hb.block g hlt]
   exact h
theorem laid_tab {W : World} {name : String} {k : IntKind} {zs : List Int} {rest : List (String × DataW Unit)} {ps : List MemPlace} {g : Nat} {t e : TypeId} {n : Nat} {P : Program}
   (hg : P.globalNamed name = some g) (hty : (P.globals[g]?).map (·.type) = some t) (ht : P.underlying t = some (.array n e)) (he : P.underlying e = some (.int k)) (hce : P.cellsOf e = 1) (hct : P.cellsOf t = n)
   (h : DataW.LaidVars P W ((name, Lib.tabData k zs) :: rest) ps) : Lib.TabIs P W name k zs := by
 obtain ⟨g', t', cs, fuel, p, q, hg', ht', hvar, hd, _, _⟩ := h
 obtain rfl := Option.some.inj (hg.symm.trans hg')
 obtain rfl := Option.some.inj (hty.symm.trans ht')
 unfold Lib.TabIs
 rw [hvar, ← Lib.cells_of_tab ht he hce hct hd]
abbrev laidLex : List (String × DataW Unit) := [("unicode/utf8.acceptRanges", Rows.laid_unicode_utf8_acceptRanges), ("unicode.White_Space", Rows.laid_unicode_White_Space), ("strings.asciiSpace", Rows.laid_strings_asciiSpace), ("unicode/utf8.first", Rows.laid_unicode_utf8_first)]
theorem cell_below {W w : World} {b off : Nat} {v : Value} (hb : Below W.heap.size W w) (h : W.cell? ⟨b, off, none⟩ = some v) : w.cell? ⟨b, off, none⟩ = some v := by
 have hlt : b < W.heap.size := by
   rcases Nat.lt_or_ge b W.heap.size with q | q
   · exact q
   · simp [World.cell?, Array.getElem?_eq_none q] at h
 unfold World.cell? at h ⊢
 rw [hb.block b hlt]
 exact h
theorem laid_lex {W : World} (h : laidMet Tryd.prog laidLex W) (hs : W.ShapedOpen Tryd.prog) : LaidL W := by
 obtain ⟨ps, h, _⟩ := h
 obtain ⟨q1, h1⟩ := laidVars_drop (l1 := [("unicode/utf8.acceptRanges", Rows.laid_unicode_utf8_acceptRanges), ("unicode.White_Space", Rows.laid_unicode_White_Space)]) (l2 := [("strings.asciiSpace", Rows.laid_strings_asciiSpace), ("unicode/utf8.first", Rows.laid_unicode_utf8_first)]) h
 have ht : Lib.TabIs Tryd.prog W "strings.asciiSpace" .u8 Lib.asciiSpaceTab := laid_tab (g := 2) (t := 131) (by kernel_rfl) (by kernel_rfl) Tryd.underlying131 Tryd.underlying5 (by kernel_rfl) (by kernel_rfl) h1
 obtain ⟨m, hm⟩ := Tryd.laysM143.s1_3 W hs
 exact ⟨⟨m, fun w hb => cell_below hb hm⟩, fun w hb => var_below hb ht⟩
def flatCells : DataW Unit → List Value
  | .lit (.int k n) => [.int k n]
  | .lit (.string s) => [.string ⟨s.toArray⟩]
  | .lit (.bool b) => [.bool b]
  | .agg l => flatAll l
  | _ => []
where flatAll : List (DataW Unit) → List Value
  | [] => []
  | d :: r => flatCells d ++ flatAll r
def spaceRows : DataW Unit → List (DataW Unit)
 | .ptr (.agg (.slice l _ :: _)) => l
 | _ => []
noncomputable def lowB : Nat := (World.holding Tryd.prog default ⟨#[], #[], []⟩).heap.size
noncomputable def putG (h : Array Obj) (g : Nat) (cs : Array Value) : Array Obj := h.modify g fun
  | .cells _ t frozen => .cells cs t frozen
  | o => o
noncomputable def laidWorld (os : Os) : World :=
  let w0 := World.holding Tryd.prog os ⟨#[.cells #[.slice (some ⟨lowB + 1, 0, none⟩) 7 7, .slice none 0 0, .int .i64 2] 158, .cells ((spaceRows Rows.laid_unicode_White_Space).flatMap flatCells).toArray 161], #[], []⟩
  { w0 with heap := putG (putG (putG (putG w0.heap 5 (flatCells Rows.laid_unicode_utf8_acceptRanges).toArray) 2 (flatCells Rows.laid_strings_asciiSpace).toArray) 4 (flatCells Rows.laid_unicode_utf8_first).toArray) 3 #[.pointer (some ⟨lowB, 0, none⟩)] }
theorem laid_met (os : Os) (args : Array Value) : laidMet Tryd.prog laidLex ((laidWorld os).forCall (fun _ _ => 0) ⟨#[], args, []⟩).memory :=
 laidMet_of_run' 8 (by kernel_rfl) (by kernel_rfl)
theorem arg_strB {H : Type} {enc : TypeId × Value → H} {W : World} {b0 : Nat} {v : Value} {d : DataW H} {ps : List MemPlace} {l : List (DataW H)} (hk : Rows.uptoSmall H l = true) (hm : d ∈ l) (hv : Value.okWide Tryd.prog W .any b0 9 v) (hd : DataW.Trod enc Tryd.prog W 0 (fun _ => true) true 9 v d ps) : ∃ s : Bytes, v = .string (bS s) ∧ s.length ≤ 1048576 := by
 obtain ⟨s, rfl⟩ := okWide_string Tryd.underlying9 hv
 obtain ⟨fuel, hf⟩ := hd
 obtain ⟨s', hs, hz, -⟩ := DataW.trod_string Tryd.underlying9 hf
 have e : s = s' := by simpa [Value.cells] using hs
 subst e
 have h1 := Nat.le_trans (part_leB hm) (boundB hk)
 rw [show d = .lit (.string s.data.toList) from congrArg Prod.fst hz] at h1
 simp only [Rows.uptoBulk] at h1
 exact ⟨s.data.toList, by rw [← bS_of], by omega⟩
theorem arg_bytes {H : Type} {enc : TypeId × Value → H} {W : World} {b0 : Nat} {v : Value} {d : DataW H} {ps : List MemPlace} {l : List (DataW H)}
   (hv : Value.okWide Tryd.prog W .any b0 31 v) (hd : DataW.Trod enc Tryd.prog W 0 (fun _ => true) true 31 v d ps) (hk : Rows.uptoSmall H l = true) (hm : d ∈ l) :
   ∃ (A : Option Addr) (c : Nat) (xs : Bytes), v = .slice A xs.length c ∧ (∀ σ, Src W σ A (xs.map u8V)) ∧ xs.length ≤ 1048576 := by
 obtain ⟨A, c, xs, rfl, h1, h2, h3⟩ := arg_ints Tryd.underlying31 Tryd.underlying5 (by kernel_rfl) hv hd hk hm
 have e : xs.map (Value.int .u8) = (xs.map fun n => UInt8.ofNat n.toNat).map u8V := by
   rw [List.map_map]
   refine List.map_congr_left fun n hn => ?_
   have hw := h3 n hn
   simp [Lit.wf, IntKind.min, IntKind.max, IntKind.bits, IntKind.signed] at hw
   show Value.int .u8 n = .int .u8 ((UInt8.ofNat n.toNat).toNat : Int)
   rw [UInt8.toNat_ofNat']
   congr 1
   omega
 refine ⟨A, c, xs.map fun n => UInt8.ofNat n.toNat, by rw [List.length_map], fun σ => ?_, by rw [List.length_map]; exact h2⟩
 rw [← e]
 exact h1 σ
theorem arg_bools {H : Type} {enc : TypeId × Value → H} {W : World} {b0 : Nat} {v : Value} {d : DataW H} {ps : List MemPlace} {l : List (DataW H)}
   (hv : Value.okWide Tryd.prog W .any b0 35 v) (hd : DataW.Trod enc Tryd.prog W 0 (fun _ => true) true 35 v d ps) (hk : Rows.uptoSmall H l = true) (hm : d ∈ l) :
   ∃ (A : Option Addr) (c : Nat) (xs : List Bool), v = .slice A xs.length c ∧ (∀ σ, Src W σ A (xs.map encB)) ∧ xs.length ≤ 1048576 := by
 obtain ⟨A, len, cap, rfl⟩ := okWide_slice Tryd.underlying35 hv
 obtain ⟨fuel, hf⟩ := hd
 rcases open_bools Tryd.underlying35 Tryd.underlying4 (by kernel_rfl) hf with ⟨hx, _⟩ | ⟨a, len', cap', Z, hcs, _, hl, hcm, hx, hcell⟩
 · have e1 : Value.slice A len cap = .slice none 0 0 := by have q : [Value.slice A len cap] = [.slice none 0 0] := hx; simpa using q
   cases e1
   exact ⟨none, 0, [], rfl, fun σ => .inl rfl, Nat.zero_le _⟩
 · have e1 : Value.slice A len cap = .slice (some a) len' cap' := by have q : [Value.slice A len cap] = [.slice (some a) len' cap'] := hcs; simpa using q
   cases e1
   simp only [boolRow, Prod.mk.injEq] at hx
   obtain ⟨rfl, -⟩ := hx
   have hlen : ((List.range len).map Z).length = len := by simp
   refine ⟨some a, cap, (List.range len).map Z, by rw [hlen], fun σ => ?_, ?_⟩
   · by_cases h0 : len = 0
     · exact .inl (by simp [h0])
     · have hp : a.spot = none := by
         have := hcell 0 (by omega)
         cases a with
         | mk b o p => cases p with
           | none => rfl
           | some q => simp only [Addr.add, World.cell?, if_true, Option.isSome_some] at this; split at this <;> cases this
       refine .inr ⟨a.block, a.off, ?_, cells_old fun i v hi => ?_⟩
       · cases a; simp only [] at hp; subst hp; rfl
       · have hi' := (List.getElem?_eq_some_iff.1 hi).1
         simp only [List.length_map, List.length_range] at hi'
         simp only [List.getElem?_map, List.getElem?_range hi', Option.map_some, Option.some.injEq] at hi
         have := hcell i (by omega)
         cases a
         simp only [] at hp; subst hp
         rw [Addr.add_mid] at this
         rw [this, ← hi]
   · have h2 := slice_leB hk hm
     have h1 := length_leB (H := H) ((List.range len).map fun i => .lit (.bool (Z i)))
     simp only [List.length_map, List.length_range] at h1 ⊢
     omega
end Go.Proofs.YtnhmmjogfkjceaaDoor
