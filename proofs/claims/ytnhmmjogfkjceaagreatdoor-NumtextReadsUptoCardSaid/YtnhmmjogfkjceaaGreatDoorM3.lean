/-
  What the document's reader of decimals counts, in plain Lean. Conditions: those that each theorem names.
-/
import Derived.Test.YtnhmmjogfkjceaaGreatDoorM2
import Derived.KernelRfl
import Derived.Laws.Cover2
import Derived.Test.YtnhmmjogfkjceaaGreatDoorProg
import Derived.Test.YtnhmmjogfkjceaaGreatDoorM1
set_option linter.unusedVariables false
set_option linter.unusedSimpArgs false
set_option linter.unusedSectionVars false
set_option maxRecDepth 100000
set_option maxHeartbeats 4000000
namespace Go.Proofs.YtnhmmjogfkjceaaGreatDoor
open Go.Sl
theorem is43 {c : UInt8} (h : (c.toNat : Int) = 43) : c = 43 := (u8_eq (n := 43) (by decide)).1 h
theorem no43 {c : UInt8} (h : ¬ (c.toNat : Int) = 43) : ¬ c = 43 := fun q => h ((u8_eq (n := 43) (by decide)).2 q)
theorem is45 {c : UInt8} (h : (c.toNat : Int) = 45) : c = 45 := (u8_eq (n := 45) (by decide)).1 h
theorem no45 {c : UInt8} (h : ¬ (c.toNat : Int) = 45) : ¬ c = 45 := fun q => h ((u8_eq (n := 45) (by decide)).2 q)
theorem is46 {c : UInt8} (h : (c.toNat : Int) = 46) : c = 46 := (u8_eq (n := 46) (by decide)).1 h
theorem no46 {c : UInt8} (h : ¬ (c.toNat : Int) = 46) : ¬ c = 46 := fun q => h ((u8_eq (n := 46) (by decide)).2 q)
theorem is48 {c : UInt8} (h : (c.toNat : Int) = 48) : c = 48 := (u8_eq (n := 48) (by decide)).1 h
theorem no48 {c : UInt8} (h : ¬ (c.toNat : Int) = 48) : ¬ c = 48 := fun q => h ((u8_eq (n := 48) (by decide)).2 q)
theorem is69 {c : UInt8} (h : (c.toNat : Int) = 69) : c = 69 := (u8_eq (n := 69) (by decide)).1 h
theorem no69 {c : UInt8} (h : ¬ (c.toNat : Int) = 69) : ¬ c = 69 := fun q => h ((u8_eq (n := 69) (by decide)).2 q)
theorem is101 {c : UInt8} (h : (c.toNat : Int) = 101) : c = 101 := (u8_eq (n := 101) (by decide)).1 h
theorem no101 {c : UInt8} (h : ¬ (c.toNat : Int) = 101) : ¬ c = 101 := fun q => h ((u8_eq (n := 101) (by decide)).2 q)
theorem is120 {c : UInt8} (h : (c.toNat : Int) = 120) : c = 120 := (u8_eq (n := 120) (by decide)).1 h
theorem no120 {c : UInt8} (h : ¬ (c.toNat : Int) = 120) : ¬ c = 120 := fun q => h ((u8_eq (n := 120) (by decide)).2 q)
theorem is88 {c : UInt8} (h : (c.toNat : Int) = 88) : c = 88 := (u8_eq (n := 88) (by decide)).1 h
theorem no88 {c : UInt8} (h : ¬ (c.toNat : Int) = 88) : ¬ c = 88 := fun q => h ((u8_eq (n := 88) (by decide)).2 q)
theorem pre_dot_iff {D : Bytes} : Lib.hasPrefix D [46] = true ↔ ∃ r, D = 46 :: r := by
 constructor
 · exact pre_dot
 · rintro ⟨r, rfl⟩; rfl
theorem pre46 {R : Bytes} {c : UInt8} (h : R[0]? = some c) : Lib.hasPrefix R [46] = ((c.toNat : Int) == 46) := by
 rw [Bool.eq_iff_iff, pre_dot_iff, beq_iff_eq, show ((c.toNat : Int) = 46 ↔ c = 46) from u8_eq (n := 46) (by decide)]
 constructor
 · rintro ⟨r, rfl⟩; simpa using h.symm
 · rintro rfl; exact ⟨_, cons_of_at h⟩
theorem pre_mem {X : Bytes} (h : (decP X).2 = true) {b : Bool} (hb : Lib.hasPrefix (X.dropWhile isDig) [46] = b) : b = decide (46 ∈ X) := by
 rw [← hb, Bool.eq_iff_iff, decide_eq_true_iff, dot_iff h, pre_dot_iff]
theorem tw_full (W : Bytes) : (W.takeWhile isDig).length = W.length ↔ W.dropWhile isDig = [] := by
 have e := congrArg List.length (List.takeWhile_append_dropWhile (p := isDig) (l := W))
 rw [List.length_append] at e
 rw [← List.length_eq_zero_iff]
 omega
theorem pow_ok {W : Bytes} (h : ((W.takeWhile isDig).length : Int) > 0) : ((((W.takeWhile isDig).length : Nat) : Int) == (W.length : Int)) = decide (W.takeWhile isDig ≠ [] ∧ W.dropWhile isDig = []) := by
 rw [Bool.eq_iff_iff, decide_eq_true_iff, ← tw_full, beq_iff_eq]
 constructor
 · intro q; exact ⟨fun z => by rw [z] at h; simp at h, by omega⟩
 · rintro ⟨-, q⟩; omega
theorem pow_no {W : Bytes} (h : ¬ ((W.takeWhile isDig).length : Int) > 0) : false = decide (W.takeWhile isDig ≠ [] ∧ W.dropWhile isDig = []) := by
 rw [eq_comm, decide_eq_false_iff_not]
 rintro ⟨q, -⟩
 exact q (List.length_eq_zero_iff.1 (by omega))
def notE (c : UInt8) : Bool := decide (c ≠ 101 ∧ c ≠ 69)
def pstep (st : Bytes × Nat × Bool) (c : UInt8) : Bytes × Nat × Bool := if c = 46 then (st.1, st.2.1, true) else (st.1 ++ [c], (if st.2.2 = true then st.2.1 + 1 else st.2.1), st.2.2)
def qstep (st : Int × Int) (c : UInt8) : Int × Int := if c = 45 then (st.1, -1) else if c = 43 then st else (min (10 * st.1 + ((c.toNat : Int) - 48)) 1000000000, st.2)
theorem fold_step {α : Type} {f : α → UInt8 → α} {a : α} {X : Bytes} {i : Nat} {c : UInt8} (h : X[i]? = some c) : (X.take (i + 1)).foldl f a = f ((X.take i).foldl f a) c := by
 rw [List.take_add_one, h, List.foldl_append]; rfl
theorem dig_ne46 {c : UInt8} (h : isDig c = true) : c ≠ 46 := (isDig_ne h).2.2.1
theorem p_fold : ∀ (A : Bytes) (d : Bytes) (b : Nat) (t : Bool), (∀ c ∈ A, isDig c = true) → A.foldl pstep (d, b, t) = (d ++ A, (if t = true then b + A.length else b), t)
 | [], d, b, t, h => by simp
 | c :: r, d, b, t, h => by
   rw [List.foldl_cons]
   have : pstep (d, b, t) c = (d ++ [c], (if t = true then b + 1 else b), t) := by unfold pstep; rw [if_neg (dig_ne46 (h c List.mem_cons_self))]
   rw [this, p_fold r _ _ _ fun x hx => h x (List.mem_cons_of_mem _ hx)]
   cases t <;> simp [Nat.add_comm, Nat.add_left_comm]
theorem notE_dig {c : UInt8} (h : isDig c = true) : notE c = true := by
 have := isDig_ne h
 unfold notE
 exact decide_eq_true ⟨this.2.2.2.1, this.2.2.2.2.1⟩
theorem tw_app {p : UInt8 → Bool} : ∀ {A : Bytes} (R : Bytes), (∀ c ∈ A, p c = true) → (A ++ R).takeWhile p = A ++ R.takeWhile p
 | [], R, h => rfl
 | c :: r, R, h => by
   rw [List.cons_append, List.takeWhile_cons, if_pos (h c List.mem_cons_self), tw_app R fun x hx => h x (List.mem_cons_of_mem _ hx)]; rfl
theorem tw_notE {r : Bytes} {c : UInt8} (h : c = 101 ∨ c = 69) : (c :: r).takeWhile notE = [] := by
 rw [List.takeWhile_cons, if_neg (by unfold notE; simp; intro q; rcases h with h | h; exact absurd h q; exact h)]
theorem dec_cut {X : Bytes} (h : (decP X).2 = true) : ∃ (A F B T : Bytes) (V : Nat) (w : Int), X = A ++ (F ++ T) ∧ (decP X).1 = ⟨A, B, min (V : Int) 1099511627776 * w⟩ ∧ (∀ c ∈ A, isDig c = true) ∧ (∀ c ∈ B, isDig c = true) ∧
   ((F = [] ∧ B = []) ∨ F = 46 :: B) ∧ (w = 1 ∨ w = -1) ∧ (∀ c ∈ T.drop 1, c = 43 ∨ c = 45 ∨ isDig c = true) ∧ (T.drop 1).foldl qstep (0, 1) = (min (V : Int) 1000000000, w) ∧ T.takeWhile notE = [] := by
 have e : X = X.takeWhile isDig ++ X.dropWhile isDig := (List.takeWhile_append_dropWhile ..).symm
 have hA : ∀ c ∈ X.takeWhile isDig, isDig c = true := fun c hc => takeWhile_all isDig hc
 obtain ⟨F, B, T, e2, hB, hF, hf⟩ : ∃ F B T, X.dropWhile isDig = F ++ T ∧ (∀ c ∈ B, isDig c = true) ∧ ((F = [] ∧ B = []) ∨ F = 46 :: B) ∧ fracP (X.dropWhile isDig) = (B, T) := by
   by_cases hp : Lib.hasPrefix (X.dropWhile isDig) [46] = true
   · obtain ⟨r, hr⟩ := pre_dot hp
     exact ⟨46 :: r.takeWhile isDig, r.takeWhile isDig, r.dropWhile isDig, by rw [hr, List.cons_append, List.takeWhile_append_dropWhile], fun c hc => takeWhile_all isDig hc, .inr rfl, by rw [hr]; rfl⟩
   · exact ⟨[], [], X.dropWhile isDig, rfl, (fun c hc => by cases hc), .inl ⟨rfl, rfl⟩, fracP_no (by simpa using hp)⟩
 by_cases h0 : X.takeWhile isDig = [] ∧ B = []
 · rw [decP_none (A := X.takeWhile isDig) (B := B) rfl (by rw [hf]) h0] at h; cases h
 cases T with
 | nil =>
   refine ⟨X.takeWhile isDig, F, B, [], 0, 1, by rw [← e2]; exact e, ?_, hA, hB, hF, .inl rfl, (fun c hc => by cases hc), rfl, rfl⟩
   rw [decP_end (A := X.takeWhile isDig) (B := B) rfl (by rw [hf]) (by rw [hf]) h0 rfl]; rfl
 | cons c r =>
   by_cases hx : c = 101 ∨ c = 69
   · have hd := decP_pow (A := X.takeWhile isDig) (B := B) rfl (by rw [hf]) (by rw [hf]) h0 rfl hx
     rw [hd] at h
     obtain ⟨h1, h2⟩ := of_decide_eq_true h
     have hds : (wayP r).2.takeWhile isDig = (wayP r).2 := by
       have := List.takeWhile_append_dropWhile (p := isDig) (l := (wayP r).2)
       rw [h2, List.append_nil] at this; exact this
     have hdg : ∀ c ∈ (wayP r).2, isDig c = true := fun c hc => takeWhile_all isDig (by rw [hds]; exact hc)
     obtain ⟨V, hV⟩ : ∃ V, V = ofD (wayP r).2 := ⟨_, rfl⟩
     have fold1 : ∀ (l : Bytes) (a : Nat) (w : Int), (∀ c ∈ l, isDig c = true) → l.foldl qstep (min (a : Int) 1000000000, w) = (min ((l.foldl (fun a c => a * 10 + (c.toNat - 48)) a : Nat) : Int) 1000000000, w) := by
       intro l
       induction l with
       | nil => intro a w _; rfl
       | cons d t ih =>
         intro a w hl
         have hd := isDig_in (hl d List.mem_cons_self)
         have hn := isDig_ne (hl d List.mem_cons_self)
         rw [List.foldl_cons, List.foldl_cons]
         have : qstep (min (a : Int) 1000000000, w) d = (min ((a * 10 + (d.toNat - 48) : Nat) : Int) 1000000000, w) := by
           unfold qstep
           rw [if_neg hn.2.1, if_neg hn.1]
           refine Prod.ext ?_ rfl
           show min (10 * min (a : Int) 1000000000 + ((d.toNat : Int) - 48)) 1000000000 = min ((a * 10 + (d.toNat - 48) : Nat) : Int) 1000000000
           omega
         rw [this]
         exact ih _ _ fun x hx => hl x (List.mem_cons_of_mem _ hx)
     have fold2 : ∀ (l : Bytes) (a : Nat), (∀ c ∈ l, isDig c = true) → powN (min (a : Int) 1099511627776) l = min ((l.foldl (fun a c => a * 10 + (c.toNat - 48)) a : Nat) : Int) 1099511627776 := by
       intro l
       induction l with
       | nil => intro a _; rfl
       | cons d t ih =>
         intro a hl
         have hd := isDig_in (hl d List.mem_cons_self)
         rw [List.foldl_cons]
         show powN (min (min (a : Int) 1099511627776 * 10 + ((d.toNat : Int) - 48)) 1099511627776) t = _
         rw [show min (min (a : Int) 1099511627776 * 10 + ((d.toNat : Int) - 48)) 1099511627776 = min ((a * 10 + (d.toNat - 48) : Nat) : Int) 1099511627776 by omega]
         exact ih _ fun x hx => hl x (List.mem_cons_of_mem _ hx)
     have f1 : ∀ w, (wayP r).2.foldl qstep (0, w) = (min (V : Int) 1000000000, w) := fun w => by rw [hV]; exact fold1 _ 0 w hdg
     have f2 : powN 0 (wayP r).2 = min (V : Int) 1099511627776 := by rw [hV]; exact fold2 _ 0 hdg
     refine ⟨X.takeWhile isDig, F, B, c :: r, V, (wayP r).1, by rw [← e2]; exact e, ?_, hA, hB, hF, wayP_in r, ?_, ?_, tw_notE hx⟩
     · rw [hd, hds, f2]
     · rw [List.drop_one, List.tail_cons]
       cases r with
       | nil => intro c hc; cases hc
       | cons d t =>
         by_cases hdd : d = 43 ∨ d = 45
         · rw [wayP_at hdd] at hdg
           intro c hc
           rcases List.mem_cons.1 hc with q | q
           · rw [q]; rcases hdd with z | z
             · exact .inl z
             · exact .inr (.inl z)
           · exact .inr (.inr (hdg c q))
         · rw [wayP_no hdd] at hdg
           intro c hc
           exact .inr (.inr (hdg c hc))
     · rw [List.drop_one, List.tail_cons]
       cases r with
       | nil => exact f1 1
       | cons d t =>
         by_cases hdd : d = 43 ∨ d = 45
         · have := f1 (wayP (d :: t)).1
           rw [wayP_at hdd] at this ⊢
           rw [List.foldl_cons]
           have hq : qstep (0, 1) d = (0, 44 - (d.toNat : Int)) := by rcases hdd with rfl | rfl <;> rfl
           rw [hq]
           exact this
         · have := f1 1
           rw [wayP_no hdd] at this ⊢
           exact this
   · rw [decP_other (A := X.takeWhile isDig) (B := B) rfl (by rw [hf]) (by rw [hf]) h0 rfl (by constructor <;> (intro q; exact hx (by simp [q])))] at h
     cases h
theorem dec_front {A F B T : Bytes} (hA : ∀ c ∈ A, isDig c = true) (hB : ∀ c ∈ B, isDig c = true) (hF : (F = [] ∧ B = []) ∨ F = 46 :: B) (hT : T.takeWhile notE = []) : (A ++ (F ++ T)).takeWhile notE = A ++ F ∧ ∃ t, (A ++ F).foldl pstep ([], 0, false) = (A ++ B, B.length, t) := by
 have h1 : ∀ c ∈ A ++ F, notE c = true := by
   intro c hc
   rcases List.mem_append.1 hc with q | q
   · exact notE_dig (hA c q)
   · rcases hF with ⟨z, -⟩ | z
     · rw [z] at q; cases q
     · rw [z] at q
       rcases List.mem_cons.1 q with y | y
       · rw [y]; rfl
       · exact notE_dig (hB c y)
 refine ⟨by rw [← List.append_assoc, tw_app T h1, hT, List.append_nil], ?_⟩
 rw [List.foldl_append, p_fold A [] 0 false hA]
 rcases hF with ⟨z, y⟩ | z
 · rw [z, y]; exact ⟨false, by simp⟩
 · rw [z, List.foldl_cons]
   have : pstep ([] ++ A, (if false = true then 0 + A.length else 0), false) 46 = (A, 0, true) := by unfold pstep; rw [if_pos rfl]; rfl
   rw [this, p_fold B _ _ _ hB]
   exact ⟨true, by simp⟩
theorem near_sat {L : Bytes} {V b : Nat} {w : Int} (hd : ∀ c ∈ L, 48 ≤ c.toNat ∧ c.toNat ≤ 57) (hl : L.length ≤ 1048576) (hb : b ≤ 1048576) (hw : w = 1 ∨ w = -1) :
   nearD (cutD L (w * min (V : Int) 1000000000 - b)).1 (cutD L (w * min (V : Int) 1000000000 - b)).2 = nearD (cutD L (min (V : Int) 1099511627776 * w - b)).1 (cutD L (min (V : Int) 1099511627776 * w - b)).2 := by
 by_cases hV : (V : Int) ≤ 1000000000
 · rw [show w * min (V : Int) 1000000000 - b = min (V : Int) 1099511627776 * w - b by rw [Int.mul_comm]; congr 2; omega]
 · have h1 := cutD_facts (P := w * min (V : Int) 1000000000 - b) hd
   have h2 := cutD_facts (P := min (V : Int) 1099511627776 * w - b) hd
   have same : (cutD L (w * min (V : Int) 1000000000 - b)).1 = (cutD L (min (V : Int) 1099511627776 * w - b)).1 := by
     unfold cutD
     split
     · split <;> rfl
     · rfl
   rw [same] at h1 ⊢
   generalize (cutD L (min (V : Int) 1099511627776 * w - b)).1 = M at *
   generalize (cutD L (w * min (V : Int) 1000000000 - b)).2 = q1 at *
   generalize (cutD L (min (V : Int) 1099511627776 * w - b)).2 = q2 at *
   by_cases hM : M = []
   · rw [nearD_none (.inl hM), nearD_none (.inl hM)]
   · rcases hw with rfl | rfl
     · rw [nearD_inf hM (by omega) (by omega), nearD_inf hM (by omega) (by omega)]
     · rw [nearD_none (.inr (by omega)), nearD_none (.inr (by omega))]
end Go.Proofs.YtnhmmjogfkjceaaGreatDoor
namespace Go.Proofs.YtnhmmjogfkjceaaGreatDoor
open Go.Sl
def mag (a : Nat) : Nat := a % 9223372036854775808
theorem read64 (a : Nat) (ha : a < 18446744073709551616) : Ieee.double.read a =
   if mag a < 4503599627370496 then .number (decide (9223372036854775808 ≤ a)) (mag a) (-1074)
   else if mag a < 9218868437227405312 then .number (decide (9223372036854775808 ≤ a)) (4503599627370496 + mag a % 4503599627370496) (-1074 + (mag a / 4503599627370496 - 1 : Nat))
   else if mag a = 9218868437227405312 then .infinity (decide (9223372036854775808 ≤ a)) else .nan (decide (9223372036854775808 ≤ a)) (mag a - 9218868437227405312) := by
 have hs : (a / 9223372036854775808 % 2 == 1) = decide (9223372036854775808 ≤ a) := by
   rw [Bool.eq_iff_iff]; simp; omega
 unfold Ieee.Format.read
 rw [show Ieee.double.signWeight = 9223372036854775808 from rfl, show Ieee.double.binade = 4503599627370496 from rfl, show Ieee.double.infRung = 9218868437227405312 from rfl, show Ieee.double.leastPlace = -1074 from rfl]
 simp only [hs]
 rfl
theorem read_fin {a : Nat} (ha : a < 18446744073709551616) (h : mag a < 9218868437227405312) : ∃ m k : Nat, Ieee.double.read a = .number (decide (9223372036854775808 ≤ a)) m ((k : Int) - 1074) ∧ valF (mag a) = m * 2 ^ k ∧ m < 9007199254740992 ∧ k ≤ 2045 := by
 rw [read64 a ha]
 by_cases h1 : mag a < 4503599627370496
 · rw [if_pos h1]
   exact ⟨mag a, 0, rfl, by unfold valF; rw [if_pos h1]; simp, by omega, by omega⟩
 · rw [if_neg h1, if_pos h]
   refine ⟨4503599627370496 + mag a % 4503599627370496, mag a / 4503599627370496 - 1, ?_, by unfold valF; rw [if_neg h1, Nat.add_comm], by omega, by omega⟩
   congr 1 <;> omega
theorem valF_pos {a : Nat} (h : 0 < a) : 0 < valF a := by have := valF_mono_lt h; rw [valF_zero] at this; exact this
theorem valF_eq0 {a : Nat} : valF a = 0 ↔ a = 0 := ⟨fun h => by rcases Nat.eq_zero_or_pos a with z | z; exact z; have := valF_pos z; omega, fun h => by rw [h]; rfl⟩
def valZ (a : Nat) : Int := if 9223372036854775808 ≤ a then -(valF (mag a) : Int) else (valF (mag a) : Int)
theorem signed_val {s : Bool} {m k n b : Nat} (hb : b ≤ k) : Ieee.signed s m (k - b) * 2 ^ b = if s = true then -((m * 2 ^ k : Nat) : Int) else ((m * 2 ^ k : Nat) : Int) := by
 have e : ((m <<< (k - b) : Nat) : Int) * 2 ^ b = ((m * 2 ^ k : Nat) : Int) := by
   rw [Nat.shiftLeft_eq, show (2 : Int) ^ b = ((2 ^ b : Nat) : Int) by simp, ← Int.natCast_mul, Nat.mul_assoc, ← Nat.pow_add, show k - b + b = k by omega]
 unfold Ieee.signed
 split
 · rw [Int.neg_mul, e]
 · exact e
theorem order_fin {a b : Nat} (ha : a < 18446744073709551616) (hb : b < 18446744073709551616) (h1 : mag a < 9218868437227405312) (h2 : mag b < 9218868437227405312) : Ieee.double.order a b = some (compare (valZ a) (valZ b)) := by
 obtain ⟨m, k, r1, v1, -, -⟩ := read_fin ha h1
 obtain ⟨n, l, r2, v2, -, -⟩ := read_fin hb h2
 unfold Ieee.Format.order
 rw [r1, r2]
 show some (compare (Ieee.signed _ m (((k : Int) - 1074) - min ((k : Int) - 1074) ((l : Int) - 1074)).toNat) (Ieee.signed _ n (((l : Int) - 1074) - min ((k : Int) - 1074) ((l : Int) - 1074)).toNat)) = _
 obtain ⟨c, hc⟩ : ∃ c : Nat, c = min k l := ⟨_, rfl⟩
 rw [show (((k : Int) - 1074) - min ((k : Int) - 1074) ((l : Int) - 1074)).toNat = k - c by omega, show (((l : Int) - 1074) - min ((k : Int) - 1074) ((l : Int) - 1074)).toNat = l - c by omega]
 have e1 := signed_val (s := decide (9223372036854775808 ≤ a)) (m := m) (k := k) (n := n) (b := c) (by omega)
 have e2 := signed_val (s := decide (9223372036854775808 ≤ b)) (m := n) (k := l) (n := n) (b := c) (by omega)
 have z1 : valZ a = Ieee.signed (decide (9223372036854775808 ≤ a)) m (k - c) * 2 ^ c := by rw [e1]; unfold valZ; rw [v1]; simp only [decide_eq_true_eq]
 have z2 : valZ b = Ieee.signed (decide (9223372036854775808 ≤ b)) n (l - c) * 2 ^ c := by rw [e2]; unfold valZ; rw [v2]; simp only [decide_eq_true_eq]
 rw [z1, z2]
 generalize Ieee.signed (decide (9223372036854775808 ≤ a)) m (k - c) = x
 generalize Ieee.signed (decide (9223372036854775808 ≤ b)) n (l - c) = y
 have hp : (0 : Int) < 2 ^ c := by have := Int.pow_pos (n := 2) (m := c) (by decide); exact this
 congr 1
 have lt : x * 2 ^ c < y * 2 ^ c ↔ x < y := Int.mul_lt_mul_right hp
 have eq : x * 2 ^ c = y * 2 ^ c ↔ x = y := ⟨fun h => Int.eq_of_mul_eq_mul_right (by omega) h, fun h => by rw [h]⟩
 show compareOfLessAndEq x y = compareOfLessAndEq (x * 2 ^ c) (y * 2 ^ c)
 unfold compareOfLessAndEq
 simp only [lt, eq]
theorem order_nan {a b : Nat} (ha : a < 18446744073709551616) (h : mag a > 9218868437227405312) : Ieee.double.order a b = none ∧ Ieee.double.order b a = none := by
 have hr : ∃ s f, Ieee.double.read a = .nan s f := by
   rw [read64 a ha, if_neg (by omega), if_neg (by omega), if_neg (by omega)]
   exact ⟨_, _, rfl⟩
 obtain ⟨s, f, hr⟩ := hr
 unfold Ieee.Format.order
 rw [hr]
 refine ⟨rfl, ?_⟩
 cases Ieee.double.read b <;> rfl
theorem order_inf {a b : Nat} (ha : a < 18446744073709551616) (hb : b < 18446744073709551616) (h : mag a = 9218868437227405312) (h2 : mag b < 9218868437227405312) : Ieee.double.order a b = some (if 9223372036854775808 ≤ a then .lt else .gt) := by
 obtain ⟨m, k, r1, -⟩ := read_fin hb h2
 unfold Ieee.Format.order
 rw [r1, read64 a ha, if_neg (by omega), if_neg (by omega), if_pos h]
 show some (if decide (9223372036854775808 ≤ a) = true then Ordering.lt else .gt) = _
 simp only [decide_eq_true_eq]
theorem order_self {a : Nat} (ha : a < 18446744073709551616) : Ieee.double.order a a = if mag a > 9218868437227405312 then none else some .eq := by
 by_cases h : mag a > 9218868437227405312
 · rw [if_pos h]; exact (order_nan ha h).1
 · rw [if_neg h]
   by_cases h1 : mag a = 9218868437227405312
   · unfold Ieee.Format.order
     rw [read64 a ha, if_neg (by omega), if_neg (by omega), if_pos h1]
     show some (compare _ _) = some .eq
     cases decide (9223372036854775808 ≤ a) <;> rfl
   · rw [order_fin ha ha (by omega) (by omega)]
     congr 1
     show compareOfLessAndEq (valZ a) (valZ a) = .eq
     unfold compareOfLessAndEq
     rw [if_neg (by omega), if_pos rfl]
theorem cmp_eq_iff (x y : Int) : (some (compare x y) == some Ordering.eq) = decide (x = y) ∧ (some (compare x y) == some Ordering.lt) = decide (x < y) ∧ (some (compare x y) == some Ordering.gt) = decide (y < x) := by
 show (some (compareOfLessAndEq x y) == _) = _ ∧ (some (compareOfLessAndEq x y) == _) = _ ∧ (some (compareOfLessAndEq x y) == _) = _
 unfold compareOfLessAndEq
 by_cases h1 : x < y
 · rw [if_pos h1, decide_eq_false (show ¬ x = y by omega), decide_eq_true h1, decide_eq_false (show ¬ y < x by omega)]
   exact ⟨rfl, rfl, rfl⟩
 · rw [if_neg h1]
   by_cases h2 : x = y
   · rw [if_pos h2, decide_eq_true h2, decide_eq_false h1, decide_eq_false (show ¬ y < x by omega)]
     exact ⟨rfl, rfl, rfl⟩
   · rw [if_neg h2, decide_eq_false h2, decide_eq_false h1, decide_eq_true (show y < x by omega)]
     exact ⟨rfl, rfl, rfl⟩
theorem valZ_0 : valZ 0 = 0 := rfl
theorem f_nan {a : Nat} (ha : a < 18446744073709551616) : (Ieee.double.order a a != some .eq) = decide (mag a > 9218868437227405312) := by
 rw [order_self ha]
 by_cases h : mag a > 9218868437227405312
 · rw [if_pos h, decide_eq_true h]; rfl
 · rw [if_neg h, decide_eq_false h]; rfl
theorem f_eq0 {a : Nat} (ha : a < 18446744073709551616) : (Ieee.double.order a 0 == some .eq) = decide (mag a = 0) := by
 rcases Nat.lt_trichotomy (mag a) 9218868437227405312 with h | h | h
 · rw [order_fin ha (by decide) h (by decide), (cmp_eq_iff _ _).1, valZ_0]
   apply decide_eq_decide.2
   rw [← valF_eq0]
   unfold valZ
   split <;> omega
 · rw [order_inf ha (by decide) h (by decide), decide_eq_false (by omega)]
   split <;> rfl
 · rw [(order_nan ha h).1, decide_eq_false (by omega)]; rfl
end Go.Proofs.YtnhmmjogfkjceaaGreatDoor
namespace Go.Proofs.YtnhmmjogfkjceaaGreatDoor
open Go.Sl
theorem cut_even (s : Bool) (n drop : Nat) : Ieee.Toward.even.cut s n drop = if 2 ^ drop < 2 * (n % 2 ^ drop) ∨ (2 ^ drop = 2 * (n % 2 ^ drop) ∧ n / 2 ^ drop % 2 = 1) then n / 2 ^ drop + 1 else n / 2 ^ drop := by
 have key : Ieee.Toward.even.cut s n drop = if 2 ^ min drop (n.log2 + 2) < 2 * (n % 2 ^ min drop (n.log2 + 2)) ∨ (2 ^ min drop (n.log2 + 2) = 2 * (n % 2 ^ min drop (n.log2 + 2)) ∧ n / 2 ^ min drop (n.log2 + 2) % 2 = 1) then n / 2 ^ min drop (n.log2 + 2) + 1 else n / 2 ^ min drop (n.log2 + 2) := by
   unfold Ieee.Toward.cut
   simp only [Nat.one_shiftLeft]
   generalize 2 ^ min drop (n.log2 + 2) = g
   by_cases h1 : g < 2 * (n % g)
   · simp [h1]
   · by_cases h2 : g = 2 * (n % g)
     · by_cases h3 : n / g % 2 = 1
       · rw [if_pos (.inr ⟨h2, h3⟩)]
         simp [h1, ← h2, h3]
       · rw [if_neg (by omega)]
         simp [h1, h3]
     · rw [if_neg (by omega)]
       simp [h1, h2]
 rw [key]
 by_cases hd : drop ≤ n.log2 + 2
 · rw [Nat.min_eq_left hd]
 · rw [Nat.min_eq_right (by omega)]
   have h1 : n < 2 ^ (n.log2 + 1) := Nat.lt_log2_self
   have h2 : 2 ^ (n.log2 + 2) = 2 * 2 ^ (n.log2 + 1) := by rw [Nat.pow_succ]; omega
   have h3 : 2 ^ (n.log2 + 2) ≤ 2 ^ drop := Nat.pow_le_pow_right (by decide) (by omega)
   rw [Nat.mod_eq_of_lt (show n < 2 ^ (n.log2 + 2) by omega), Nat.mod_eq_of_lt (show n < 2 ^ drop by omega), Nat.div_eq_of_lt (show n < 2 ^ (n.log2 + 2) by omega), Nat.div_eq_of_lt (show n < 2 ^ drop by omega)]
   rw [if_neg (by omega), if_neg (by omega)]
theorem double_word (s : Bool) (r : Nat) : Ieee.double.word s r = if s = true then 9223372036854775808 + r else r := by
 cases s <;> rfl
theorem isRN_cut {X q g u : Nat} {up : Prop} [Decidable up] (hq : 0 < q) (h1 : q * (g * 2 ^ u) ≤ X) (h2 : X < q * ((g + 1) * 2 ^ u)) (hg : g < 9007199254740992) (hgg : u = 0 ∨ 4503599627370496 ≤ g)
   (hup : up ↔ (q * ((2 * g + 1) * 2 ^ u) < 2 * X ∨ (q * ((2 * g + 1) * 2 ^ u) = 2 * X ∧ g % 2 = 1))) : isRN X q (min (u * 4503599627370496 + (if up then g + 1 else g)) 9218868437227405312) := by
 have v1 : valF (u * 4503599627370496 + g) = g * 2 ^ u := valF_mk (by omega) hgg
 have v2 : valF (u * 4503599627370496 + g + 1) = (g + 1) * 2 ^ u := by rw [Nat.add_assoc]; exact valF_mk (by omega) (by omega)
 by_cases hinf : u * 4503599627370496 + g < 9218868437227405312
 · have hb := isRN_between hq hinf (by rw [v1]; exact h1) (by rw [v2]; exact h2)
   have hm : q * (valF (u * 4503599627370496 + g) + valF (u * 4503599627370496 + g + 1)) = q * ((2 * g + 1) * 2 ^ u) := by rw [v1, v2, ← Nat.add_mul, show g + (g + 1) = 2 * g + 1 by omega]
   simp only [hm, show (u * 4503599627370496 + g) % 2 = g % 2 by omega] at hb
   by_cases hu : up
   · rw [if_pos (hup.1 hu)] at hb
     rw [if_pos hu, Nat.min_eq_left (by omega), ← Nat.add_assoc]
     exact hb
   · rw [if_neg fun z => hu (hup.2 z)] at hb
     rw [if_neg hu, Nat.min_eq_left (by omega)]
     exact hb
 · rw [Nat.min_eq_right (by split <;> omega)]
   refine isRN_inf hq (Nat.le_trans (Nat.mul_le_mul_left _ ?_) h1)
   rw [← v1]
   exact valF_mono (by omega)
theorem nearest_isRN (s : Bool) {m k j : Nat} {pl : Int} (hm : 0 < m) (hp : pl = (k : Int) - j - 1074) : ∃ a, Ieee.double.nearest s m pl = (if s = true then 9223372036854775808 + a else a) ∧ isRN (m * 2 ^ k) (2 ^ j) a := by
 unfold Ieee.Format.nearest
 rw [if_neg (by omega)]
 have hL1 : 2 ^ m.log2 ≤ m := Nat.log2_self_le (by omega)
 have hL2 : m < 2 ^ (m.log2 + 1) := Nat.lt_log2_self
 generalize m.log2 = L at *
 rw [show Ieee.double.leastPlace = -1074 from rfl, show Ieee.double.binade = 4503599627370496 from rfl, show Ieee.double.infRung = 9218868437227405312 from rfl, show Ieee.double.fractionBits = 52 from rfl]
 simp only [double_word]
 obtain ⟨u, hu⟩ : ∃ u : Nat, max (pl + (L : Int) - ((52 : Nat) : Int)) (-1074) = (u : Int) - 1074 := ⟨(max (pl + (L : Int) - ((52 : Nat) : Int)) (-1074) + 1074).toNat, by omega⟩
 rw [hu, show ((u : Int) - 1074 - -1074).toNat = u by omega, cut_even]
 obtain ⟨x, hx⟩ : ∃ x, x = (pl - ((u : Int) - 1074)).toNat := ⟨_, rfl⟩
 obtain ⟨y, hy⟩ : ∃ y, y = ((u : Int) - 1074 - pl).toNat := ⟨_, rfl⟩
 rw [← hx, ← hy, Nat.shiftLeft_eq]
 have hxy : k + y = x + (u + j) := by omega
 have hu0 : u = 0 ∨ L + x = 52 + y := by omega
 have hLx : L + x ≤ 52 + y := by omega
 obtain ⟨g, hg⟩ : ∃ g, g = m * 2 ^ x / 2 ^ y := ⟨_, rfl⟩
 obtain ⟨r, hr⟩ : ∃ r, r = m * 2 ^ x % 2 ^ y := ⟨_, rfl⟩
 have hdm : 2 ^ y * g + r = m * 2 ^ x := by rw [hg, hr]; exact Nat.div_add_mod _ _
 have hrl : r < 2 ^ y := by rw [hr]; exact Nat.mod_lt _ (Nat.two_pow_pos y)
 rw [← hg, ← hr]
 have hgl : g < 9007199254740992 := by
   rw [hg, Nat.div_lt_iff_lt_mul (Nat.two_pow_pos y), show 9007199254740992 = 2 ^ 53 from rfl, ← Nat.pow_add]
   refine Nat.lt_of_lt_of_le (Nat.mul_lt_mul_of_pos_right hL2 (Nat.two_pow_pos x)) ?_
   rw [← Nat.pow_add]
   exact Nat.pow_le_pow_right (by decide) (by omega)
 have hgg : u = 0 ∨ 4503599627370496 ≤ g := by
   rcases hu0 with h | h
   · exact .inl h
   · refine .inr ?_
     rw [hg, Nat.le_div_iff_mul_le (Nat.two_pow_pos y), show 4503599627370496 = 2 ^ 52 from rfl, ← Nat.pow_add, ← h, Nat.pow_add]
     exact Nat.mul_le_mul_right _ hL1
 -- the number, in units of what is kept
 have hX : m * 2 ^ k * 2 ^ y = (2 ^ y * g + r) * 2 ^ (u + j) := by
   rw [hdm, Nat.mul_assoc, Nat.mul_assoc, ← Nat.pow_add, ← Nat.pow_add, hxy]
 have py := Nat.two_pow_pos y
 have pj := Nat.two_pow_pos j
 have pu := Nat.two_pow_pos (u + j)
 have lo : 2 ^ j * 2 ^ y * (g * 2 ^ u) ≤ (2 ^ y * g + r) * 2 ^ (u + j) := by
   rw [show 2 ^ j * 2 ^ y * (g * 2 ^ u) = 2 ^ y * g * 2 ^ (u + j) by rw [Nat.pow_add]; ac_rfl]
   exact Nat.mul_le_mul_right _ (Nat.le_add_right _ _)
 have hi : (2 ^ y * g + r) * 2 ^ (u + j) < 2 ^ j * 2 ^ y * ((g + 1) * 2 ^ u) := by
   rw [show 2 ^ j * 2 ^ y * ((g + 1) * 2 ^ u) = (2 ^ y * g + 2 ^ y) * 2 ^ (u + j) by rw [Nat.pow_add, show 2 ^ y * g + 2 ^ y = 2 ^ y * (g + 1) by rw [Nat.mul_add, Nat.mul_one]]; ac_rfl]
   exact Nat.mul_lt_mul_of_pos_right (by omega) pu
 have back : ∀ a, isRN ((2 ^ y * g + r) * 2 ^ (u + j)) (2 ^ j * 2 ^ y) a → isRN (m * 2 ^ k) (2 ^ j) a := fun a h =>
   isRN_scale (Nat.mul_pos pj py) pj (by rw [← hX]; ac_rfl) h
 refine ⟨_, rfl, back _ ?_⟩
 have hq : 0 < 2 ^ j * 2 ^ y := Nat.mul_pos pj py
 refine isRN_cut hq lo hi hgl hgg ?_
 rw [show 2 ^ j * 2 ^ y * ((2 * g + 1) * 2 ^ u) = (2 ^ y * (2 * g) + 2 ^ y) * 2 ^ (u + j) by rw [Nat.pow_add, show 2 ^ y * (2 * g) + 2 ^ y = 2 ^ y * (2 * g + 1) by rw [Nat.mul_add, Nat.mul_one]]; ac_rfl, show 2 * ((2 ^ y * g + r) * 2 ^ (u + j)) = (2 ^ y * (2 * g) + 2 * r) * 2 ^ (u + j) by rw [← Nat.mul_assoc, Nat.mul_add, Nat.mul_left_comm]]
 have c1 : (2 ^ y * (2 * g) + 2 ^ y) * 2 ^ (u + j) < (2 ^ y * (2 * g) + 2 * r) * 2 ^ (u + j) ↔ 2 ^ y < 2 * r := by
   rw [Nat.mul_lt_mul_right pu]; omega
 have c2 : (2 ^ y * (2 * g) + 2 ^ y) * 2 ^ (u + j) = (2 ^ y * (2 * g) + 2 * r) * 2 ^ (u + j) ↔ 2 ^ y = 2 * r := by
   rw [Nat.mul_right_cancel_iff pu]; omega
 rw [c1, c2]
end Go.Proofs.YtnhmmjogfkjceaaGreatDoor
namespace Go.Proofs.YtnhmmjogfkjceaaGreatDoor
open Go.Sl
theorem isRN_exact {q a : Nat} (hq : 0 < q) (ha : a ≤ 9218868437227405312) : isRN (q * valF a) q a := by
 rcases Nat.lt_or_ge a 9218868437227405312 with h | h
 · have h1 : q * valF a < q * valF (a + 1) := Nat.mul_lt_mul_of_pos_left (valF_lt a) hq
   have := isRN_between hq h (Nat.le_refl _) h1
   rw [if_neg (by rw [Nat.mul_add]; omega)] at this
   exact this
 · rw [show a = 9218868437227405312 by omega]
   exact isRN_inf hq (Nat.le_refl _)
theorem nearest_eq {m m' k j k' j' : Nat} {pl pl' : Int} (hm : 0 < m) (hm' : 0 < m') (hp : pl = (k : Int) - j - 1074) (hp' : pl' = (k' : Int) - j' - 1074) (h : m * 2 ^ (k + j') = m' * 2 ^ (k' + j)) : Ieee.double.nearest false m pl = Ieee.double.nearest false m' pl' := by
 obtain ⟨a, e1, r1⟩ := nearest_isRN false hm hp
 obtain ⟨b, e2, r2⟩ := nearest_isRN false hm' hp'
 rw [e1, e2]
 show a = b
 refine isRN_uniq (Nat.two_pow_pos j) r1 (isRN_scale (Nat.two_pow_pos j') (Nat.two_pow_pos j) ?_ r2)
 rw [Nat.mul_assoc, ← Nat.pow_add, Nat.mul_assoc, ← Nat.pow_add]
 exact h.symm
def ldP (m : Nat) (e : Int) : Nat := Ieee.double.nearest false m e
theorem ldP_zero (e : Int) : ldP 0 e = 0 := by unfold ldP Ieee.Format.nearest; rw [if_pos rfl]; rfl
theorem ldP_isRN {m k j : Nat} {pl : Int} (hm : 0 < m) (hp : pl = (k : Int) - j - 1074) : isRN (m * 2 ^ k) (2 ^ j) (ldP m pl) := by
 obtain ⟨a, e1, r1⟩ := nearest_isRN false hm hp
 unfold ldP
 rw [e1]; exact r1
theorem ldP_exact {g u : Nat} {pl : Int} (hg : g ≤ 9007199254740992) (hgg : u = 0 ∨ 4503599627370496 ≤ g) (hp : pl = (u : Int) - 1074) : ldP g pl = min (u * 4503599627370496 + g) 9218868437227405312 := by
 rcases Nat.eq_zero_or_pos g with h0 | h0
 · subst h0
   rw [ldP_zero, show u = 0 by omega]; rfl
 have h1 := ldP_isRN (m := g) (k := u) (j := 0) (pl := pl) h0 (by omega)
 have v := valF_mk hg hgg
 rcases Nat.le_total (u * 4503599627370496 + g) 9218868437227405312 with h | h
 · rw [Nat.min_eq_left h]
   have := isRN_exact (q := 1) (by decide) h
   rw [v, Nat.one_mul] at this
   exact isRN_uniq (by decide) h1 this
 · rw [Nat.min_eq_right h]
   refine isRN_uniq (by decide) h1 (isRN_inf (by decide) ?_)
   rw [← v]
   have := valF_mono h
   omega
theorem ldP_lt {m : Nat} {e : Int} (h : e ≤ 100000 ∧ -100000 ≤ e) : ldP m e ≤ 9218868437227405312 := by
 rcases Nat.eq_zero_or_pos m with h0 | h0
 · rw [h0, ldP_zero]; decide
 · exact (ldP_isRN (m := m) (k := (e + 101074).toNat) (j := 100000) h0 (by omega)).1
def hN (h : Bool) : Nat := if h = true then 1 else 0
theorem stands_exact {m M s a : Nat} {E E0 : Int} (h : m * 2 ^ a = M * 2 ^ s) (hE : E0 = E + a - s) : Stands (M * 2 ^ E.toNat) (2 ^ (-E).toNat) m E0 false := by
 intro f
 have e1 : M * 2 ^ E.toNat * 2 ^ (-E0).toNat = M * 2 ^ (E.toNat + (-E0).toNat) := by rw [Nat.mul_assoc, ← Nat.pow_add]
 have e2 : 2 * f * 2 ^ (-E).toNat * 2 ^ E0.toNat = 2 * f * 2 ^ ((-E).toNat + E0.toNat) := by rw [Nat.mul_assoc, ← Nat.pow_add]
 rw [e1, e2, pow_cmp (x' := s) (y' := a) (by omega), pow_cmp_eq (x' := s) (y' := a) (by omega), ← h]
 have p := Nat.two_pow_pos a
 refine ⟨Nat.mul_lt_mul_right p, ?_⟩
 simp only [and_true]
 exact ⟨fun q => Nat.eq_of_mul_eq_mul_right p q, fun q => by rw [q]⟩
theorem nearN_spec {man : Nat} {e E : Int} {half : Bool} (hm : man < 18446744073709551616) (hpos : 0 < 2 * man + hN half) (hE : E = clampE e - 1 + 1074) : isRN ((2 * man + hN half) * 2 ^ E.toNat) (2 ^ (-E).toNat) (nearN man e half) := by
 have hq := Nat.two_pow_pos (-E).toNat
 unfold nearN
 simp only []
 rw [show min (max e (-5000)) 5000 = clampE e from rfl]
 generalize clampE e = c at *
 by_cases h0 : man = 0
 · subst h0
   have hh : half = true := by cases half; simp [hN] at hpos; rfl
   subst hh
   rw [if_pos ⟨rfl, rfl⟩]
   exact form_spec hq (by decide) (by decide) (stands_exact (s := 63) (a := 0) (by simp [hN]) (by omega))
 rw [if_neg fun q => h0 q.1, if_neg h0]
 have b0 : 0 < bitsN man := by rw [bitsN_pos h0]; omega
 have b1 := bitsN_ge man h0
 have b2 := bitsN_lt man
 have b64 : bitsN man ≤ 64 := by
   rcases Nat.lt_or_ge 64 (bitsN man) with q | q
   · have : 2 ^ 64 ≤ 2 ^ (bitsN man - 1) := Nat.pow_le_pow_right (by decide) (by omega)
     omega
   · exact q
 obtain ⟨s, hs⟩ : ∃ s, s = 64 - bitsN man := ⟨_, rfl⟩
 rw [← hs]
 have hlo : 9223372036854775808 ≤ man * 2 ^ s := by
   have := Nat.mul_le_mul_right (2 ^ s) b1
   rw [← Nat.pow_add, show bitsN man - 1 + s = 63 by omega] at this
   exact this
 have hhi : man * 2 ^ s + 2 ^ s ≤ 18446744073709551616 := by
   have := Nat.mul_le_mul_right (2 ^ s) b2
   rw [← Nat.pow_add, show bitsN man + s = 64 by omega, Nat.succ_mul] at this
   exact this
 have ps := Nat.two_pow_pos s
 cases half
 · rw [if_neg (by simp)]
   refine form_spec hq hlo (by omega) (stands_exact (s := s) (a := 1) ?_ (by omega))
   simp only [hN]
   rw [Nat.pow_one, if_neg (by decide), Nat.add_zero, Nat.mul_comm 2 man, Nat.mul_right_comm]
 · by_cases hs0 : s > 0
   · rw [if_pos ⟨rfl, hs0⟩]
     have e2 : 2 ^ s = 2 * 2 ^ (s - 1) := by rw [show s = s - 1 + 1 by omega, Nat.pow_succ, Nat.mul_comm]; rfl
     refine form_spec hq (by omega) (by omega) (stands_exact (s := s - 1) (a := 0) ?_ (by omega))
     rw [hN, if_pos rfl, Nat.pow_zero, Nat.mul_one, Nat.add_mul, Nat.one_mul, e2, ← Nat.mul_assoc, Nat.mul_comm man 2]
   · rw [if_neg fun q => hs0 q.2]
     have hs00 : s = 0 := by omega
     rw [hs00, Nat.pow_zero, Nat.mul_one] at hlo ⊢
     refine form_spec hq hlo hm ?_
     intro f
     have hc : c - ((0 : Nat) : Int) + 1074 = E + 1 := by omega
     rw [hc]
     have e1 : (2 * man + hN true) * 2 ^ E.toNat * 2 ^ (-(E + 1)).toNat = (2 * man + 1) * 2 ^ (E.toNat + (-(E + 1)).toNat) := by rw [Nat.mul_assoc, ← Nat.pow_add]; rfl
     have e2 : 2 * f * 2 ^ (-E).toNat * 2 ^ (E + 1).toNat = 2 * f * 2 ^ ((-E).toNat + (E + 1).toNat) := by rw [Nat.mul_assoc, ← Nat.pow_add]
     have l1 := pow_cmp (A := 2 * man + 1) (B := 2 * f) (x := E.toNat + (-(E + 1)).toNat) (y := (-E).toNat + (E + 1).toNat) (x' := 0) (y' := 1) (by omega)
     have l2 := pow_cmp_eq (A := 2 * man + 1) (B := 2 * f) (x := E.toNat + (-(E + 1)).toNat) (y := (-E).toNat + (E + 1).toNat) (x' := 0) (y' := 1) (by omega)
     rw [e1, e2, l1, l2, Nat.pow_zero, Nat.pow_one, Nat.mul_one]
     simp only [Bool.true_eq_false, and_false, iff_false]
     omega
theorem nearN_zero {e : Int} : nearN 0 e false = 0 := by unfold nearN; simp
theorem near1_zero {M : Nat} {E : Int} (hM : M < 36893488147419103232) (hE : E ≤ -66) : isRN (M * 2 ^ E.toNat) (2 ^ (-E).toNat) 0 := by
 apply isRN_none
 rw [show E.toNat = 0 by omega, Nat.pow_zero, Nat.mul_one]
 have : 2 ^ 66 ≤ 2 ^ (-E).toNat := Nat.pow_le_pow_right (by decide) (by omega)
 omega
theorem near1_whole {man : Nat} {e E : Int} (hm : 0 < man) (he : -1074 ≤ e) (hE : E = e - 1 + 1074) : isRN ((2 * man + hN false) * 2 ^ E.toNat) (2 ^ (-E).toNat) (ldP man e) := by
 have h1 := ldP_isRN (m := man) (k := (e + 1074).toNat) (j := 0) (pl := e) hm (by omega)
 refine isRN_scale (by decide) (Nat.two_pow_pos _) ?_ h1
 rw [hN, if_neg (by decide), Nat.add_zero, Nat.pow_zero, Nat.mul_one, Nat.mul_assoc man, ← Nat.pow_add, Nat.mul_comm 2 man, Nat.mul_assoc, show 2 * 2 ^ E.toNat = 2 ^ (1 + E.toNat) by rw [Nat.pow_add], show (e + 1074).toNat + (-E).toNat = 1 + E.toNat by omega]
theorem near1_cut {man c g r u : Nat} {half : Bool} {E last : Int} {up : Prop} [Decidable up] (hc : 0 < c) (hg : g = man / 2 ^ c) (hr : r = man % 2 ^ c) (hu : last = (u : Int) - 1074) (hE : (u : Int) = E + 1 + c) (hg53 : g < 9007199254740992) (hgg : u = 0 ∨ 4503599627370496 ≤ g)
   (hup : up ↔ (r > 2 ^ (c - 1) ∨ (r = 2 ^ (c - 1) ∧ (half = true ∨ g % 2 = 1)))) : isRN ((2 * man + hN half) * 2 ^ E.toNat) (2 ^ (-E).toNat) (ldP (if up then g + 1 else g) last) := by
 have hq := Nat.two_pow_pos (-E).toNat
 rw [ldP_exact (u := u) (by split <;> omega) (by split <;> omega) hu]
 have hdm : 2 ^ c * g + r = man := by rw [hg, hr]; exact Nat.div_add_mod _ _
 have hrl : r < 2 ^ c := by rw [hr]; exact Nat.mod_lt _ (Nat.two_pow_pos c)
 have hh : hN half ≤ 1 := by unfold hN; split <;> omega
 have e2 : 2 ^ c = 2 * 2 ^ (c - 1) := by rw [show c = c - 1 + 1 by omega, Nat.pow_succ, Nat.mul_comm]; rfl
 have conv : ∀ a b : Nat, 2 ^ (-E).toNat * (a * 2 ^ u) < b * 2 ^ E.toNat ↔ a * 2 ^ (c + 1) < b := by
   intro a b
   rw [show 2 ^ (-E).toNat * (a * 2 ^ u) = a * 2 ^ ((-E).toNat + u) by rw [Nat.mul_left_comm, ← Nat.pow_add], pow_cmp (x' := c + 1) (y' := 0) (by omega), Nat.pow_zero, Nat.mul_one]
 have conv2 : ∀ a b : Nat, b * 2 ^ E.toNat < 2 ^ (-E).toNat * (a * 2 ^ u) ↔ b < a * 2 ^ (c + 1) := by
   intro a b
   rw [show 2 ^ (-E).toNat * (a * 2 ^ u) = a * 2 ^ ((-E).toNat + u) by rw [Nat.mul_left_comm, ← Nat.pow_add], pow_cmp (x' := 0) (y' := c + 1) (by omega), Nat.pow_zero, Nat.mul_one]
 have p1 : 2 ^ (c + 1) = 2 * 2 ^ c := by rw [Nat.pow_succ, Nat.mul_comm]
 have gm : g * 2 ^ (c + 1) = 2 * (2 ^ c * g) := by rw [p1, Nat.mul_comm g, Nat.mul_assoc]
 refine isRN_cut hq ?_ ?_ hg53 hgg ?_
 · refine Nat.le_of_not_lt fun z => ?_
   rw [conv2, gm] at z
   omega
 · rw [conv2, Nat.add_mul, Nat.one_mul, gm]
   omega
 · have d : 2 * ((2 * man + hN half) * 2 ^ E.toNat) = (2 * (2 * man + hN half)) * 2 ^ E.toNat := (Nat.mul_assoc ..).symm
   have c1 := conv (2 * g + 1) (2 * (2 * man + hN half))
   have c2 := conv2 (2 * g + 1) (2 * (2 * man + hN half))
   have gm2 : (2 * g + 1) * 2 ^ (c + 1) = 4 * (2 ^ c * g) + 2 * 2 ^ c := by rw [Nat.add_mul, Nat.one_mul, Nat.mul_assoc, gm, p1]; omega
   rw [gm2] at c1 c2
   rw [hup, d, c1]
   have c3 : 2 ^ (-E).toNat * ((2 * g + 1) * 2 ^ u) = 2 * (2 * man + hN half) * 2 ^ E.toNat ↔ 4 * (2 ^ c * g) + 2 * 2 ^ c = 2 * (2 * man + hN half) := by
     have c4 := conv (2 * g + 1) (2 * (2 * man + hN half))
     rw [gm2] at c4
     omega
   rw [c3]
   cases half
   · simp only [hN, Bool.false_eq_true, false_or, if_false]
     omega
   · simp only [hN, true_or, and_true, if_true]
     omega
theorem near1_norm {man : Nat} {e E : Int} {N : Nat} (hE : E = e - 1 + 1074) (h : isRN ((2 * man + hN true) * 2 ^ E.toNat) (2 ^ (-E).toNat) N) : isRN ((2 * (2 * man + 1) + hN false) * 2 ^ (E - 1).toNat) (2 ^ (-(E - 1)).toNat) N := by
 refine isRN_scale (Nat.two_pow_pos _) (Nat.two_pow_pos _) ?_ h
 have e0 : 2 * (2 * man + 1) + hN false = (2 * man + 1) * 2 := by rw [show hN false = 0 from rfl]; omega
 have e1 : 2 * 2 ^ ((E - 1).toNat + (-E).toNat) = 2 ^ (1 + ((E - 1).toNat + (-E).toNat)) := by rw [Nat.pow_add 2 1]
 rw [e0, show hN true = 1 from rfl, Nat.mul_assoc (2 * man + 1), ← Nat.pow_add, Nat.mul_assoc, Nat.mul_assoc, ← Nat.pow_add, e1, show E.toNat + (-(E - 1)).toNat = 1 + ((E - 1).toNat + (-E).toNat) by omega]
theorem bits_cut {man b c : Nat} (hb : b = bitsN man) (hm : 0 < man) (h : b ≤ 53 + c) : man / 2 ^ c < 9007199254740992 ∧ (b = 53 + c → 4503599627370496 ≤ man / 2 ^ c) := by
 have b1 := bitsN_ge man (by omega)
 have b2 := bitsN_lt man
 have b0 : 0 < bitsN man := by rw [bitsN_pos (by omega)]; omega
 rw [← hb] at b1 b2 b0
 constructor
 · rw [Nat.div_lt_iff_lt_mul (Nat.two_pow_pos c), show 9007199254740992 = 2 ^ 53 from rfl, ← Nat.pow_add]
   exact Nat.lt_of_lt_of_le b2 (Nat.pow_le_pow_right (by decide) (by omega))
 · intro h2
   rw [Nat.le_div_iff_mul_le (Nat.two_pow_pos c), show 4503599627370496 = 2 ^ 52 from rfl, ← Nat.pow_add]
   exact Nat.le_trans (Nat.pow_le_pow_right (by decide) (by omega)) b1
theorem bitsN_64 {m : Nat} (h : m < 18446744073709551616) : bitsN m ≤ 64 := by
 rcases Nat.lt_or_ge 64 (bitsN m) with q | q
 · have h0 : m ≠ 0 := fun z => by rw [z, bitsN_zero] at q; omega
   have b1 := bitsN_ge m h0
   have : 2 ^ 64 ≤ 2 ^ (bitsN m - 1) := Nat.pow_le_pow_right (by decide) (by omega)
   omega
 · exact q
theorem near1_state {man : Nat} {e : Int} {half : Bool} (hm : man < 18446744073709551616) : ∃ (m1 : Nat) (e1 : Int) (h1 : Bool), (m1 = (if half = true ∧ man < 9223372036854775808 then 2 * man + 1 else man) ∧ m1 < 18446744073709551616) ∧
   (e1 = (if half = true ∧ man < 9223372036854775808 then clampE e - 1 else clampE e) ∧ -5001 ≤ e1 ∧ e1 ≤ 5000) ∧ (h1 = (if half = true ∧ man < 9223372036854775808 then false else half) ∧ (h1 = true → 9223372036854775808 ≤ m1)) ∧
   (m1 = 0 → nearN man e half = 0) ∧ (0 < m1 → isRN ((2 * m1 + hN h1) * 2 ^ (e1 - 1 + 1074).toNat) (2 ^ (-(e1 - 1 + 1074)).toNat) (nearN man e half)) := by
 have hc := clampE_in e
 by_cases c : half = true ∧ man < 9223372036854775808
 · obtain ⟨c1, c2⟩ := c
   subst c1
   refine ⟨2 * man + 1, clampE e - 1, false, ⟨(if_pos ⟨rfl, c2⟩).symm, by omega⟩, ⟨(if_pos ⟨rfl, c2⟩).symm, by omega⟩, ⟨(if_pos ⟨rfl, c2⟩).symm, fun h => by cases h⟩, fun h => by omega, fun _ => ?_⟩
   have := near1_norm (E := clampE e - 1 + 1074) rfl (nearN_spec (man := man) (e := e) (half := true) hm (by simp [hN]) rfl)
   rw [show clampE e - 1 + 1074 - 1 = clampE e - 1 - 1 + 1074 by omega] at this
   exact this
 · refine ⟨man, clampE e, half, ⟨(if_neg c).symm, hm⟩, ⟨(if_neg c).symm, by omega⟩, ⟨(if_neg c).symm, fun h => Nat.le_of_not_lt fun z => c ⟨h, z⟩⟩, fun h => ?_, fun h => nearN_spec hm (by omega) rfl⟩
   subst h
   cases half
   · exact nearN_zero
   · exact absurd ⟨rfl, by decide⟩ c
structure Whole53 (m a L g : Nat) : Prop where
  pos : 0 < m
  bits : a = (L + 1022) * 4503599627370496 + g
  lo : 4503599627370496 ≤ g
  hi : g < 9007199254740992
  l53 : L ≤ 53
  eq : m * 4503599627370496 = g * 2 ^ L
theorem whole53 {m : Nat} (h0 : 0 < m) (h1 : m ≤ 9007199254740992) : ∃ L g, Whole53 m (ldP m 0) L g := by
 obtain ⟨L, hL⟩ : ∃ L, L = m.log2 := ⟨_, rfl⟩
 have l1 : 2 ^ L ≤ m := by rw [hL]; exact Nat.log2_self_le (by omega)
 have l2 : m < 2 ^ (L + 1) := by rw [hL]; exact Nat.lt_log2_self
 have l53 : L ≤ 53 := by
   rcases Nat.lt_or_ge 53 L with q | q
   · have : 2 ^ 54 ≤ 2 ^ L := Nat.pow_le_pow_right (by decide) q
     omega
   · exact q
 obtain ⟨g, hg⟩ : ∃ g, m * 4503599627370496 = g * 2 ^ L := by
   rcases Nat.lt_or_ge 52 L with q | q
   · have h2 : L = 53 := by omega
     subst h2
     have : m = 9007199254740992 := by omega
     exact ⟨4503599627370496, by rw [this]⟩
   · refine ⟨m * 2 ^ (52 - L), ?_⟩
     rw [Nat.mul_assoc, ← Nat.pow_add, show 52 - L + L = 52 by omega]
 have glo : 4503599627370496 ≤ g := by
   refine Nat.le_of_mul_le_mul_right (c := 2 ^ L) ?_ (Nat.two_pow_pos L)
   rw [← hg, Nat.mul_comm]
   exact Nat.mul_le_mul_right _ l1
 have ghi : g < 9007199254740992 := by
   refine Nat.lt_of_mul_lt_mul_right (a := 2 ^ L) ?_
   rw [← hg, show 9007199254740992 = 2 * 4503599627370496 from rfl, Nat.mul_right_comm, show 2 * 2 ^ L = 2 ^ (L + 1) by rw [Nat.pow_succ, Nat.mul_comm]]
   exact Nat.mul_lt_mul_of_pos_right l2 (by decide)
 refine ⟨L, g, h0, ?_, glo, ghi, l53, hg⟩
 have e1 : ldP m 0 = ldP g ((L + 1022 : Nat) - 1074 : Int) := by
   obtain ⟨T, hT⟩ : ∃ T : Nat, T = 1022 := ⟨_, rfl⟩
   refine nearest_eq (k := 52 + T) (j := 0) (k' := L + T) (j' := 0) h0 (by omega) (by omega) (by omega) ?_
   have : m * 2 ^ (52 + T + 0) = m * 4503599627370496 * 2 ^ T := by
     rw [Nat.mul_assoc, show 4503599627370496 = 2 ^ 52 from rfl, ← Nat.pow_add]; rfl
   rw [this, hg, Nat.mul_assoc, ← Nat.pow_add]; rfl
 rw [e1, ldP_exact (u := L + 1022) (by omega) (.inr glo) rfl]
 exact Nat.min_eq_left (by omega)
theorem mul_made {c x : Nat} {s : Nat} (hc : c = 4503599627370496 * s) (hs : 1 ≤ s ∧ s ≤ 2046) {g p : Nat} (hx : x = p * 4503599627370496 + g) (hg : 4503599627370496 ≤ g) (hg2 : g < 9007199254740992) (hp : p ≤ 2045) :
   Ieee.double.mul c x = some (ldP (4503599627370496 * g) (((s + p : Nat) : Int) - 1 - 1074 - 1074)) := by
 have r1 : Ieee.double.read c = .number false 4503599627370496 (-1074 + (s - 1 : Nat)) := by
   rw [read64 c (by omega), if_neg (by unfold mag; omega), if_pos (by unfold mag; omega), decide_eq_false (by omega), show mag c % 4503599627370496 = 0 by unfold mag; omega, show mag c / 4503599627370496 = s by unfold mag; omega]
 have r2 : Ieee.double.read x = .number false g (-1074 + (p : Nat)) := by
   rw [read64 x (by omega), if_neg (by unfold mag; omega), if_pos (by unfold mag; omega), decide_eq_false (by omega), show 4503599627370496 + mag x % 4503599627370496 = g by unfold mag; omega, show mag x / 4503599627370496 - 1 = p by unfold mag; omega]
 unfold Ieee.Format.mul
 rw [r1, r2]
 show some (Ieee.double.nearest (false ^^ false) (4503599627370496 * g) (-1074 + ((s - 1 : Nat) : Int) + (-1074 + (p : Int)))) = _
 rw [show (-1074 + ((s - 1 : Nat) : Int) + (-1074 + (p : Int))) = ((s + p : Nat) : Int) - 1 - 1074 - 1074 by omega]
 rfl
theorem ldexp_val {m L g s p : Nat} {e : Int} {a : Nat} (h : Whole53 m a L g) (h1 : (s : Int) + p = e + L + 2045) : ldP (4503599627370496 * g) (((s + p : Nat) : Int) - 1 - 1074 - 1074) = ldP m e := by
 obtain ⟨k, hk⟩ : ∃ k : Nat, (k : Int) = e + 100000 := ⟨(e + 100000).toNat, by have := h.l53; omega⟩
 have l53 := h.l53
 have glo := h.lo
 refine nearest_eq (k := s + p) (j := 1 + 1074) (k' := k) (j' := 98926) (by omega) h.pos (by omega) (by omega) ?_
 have e3 : 4503599627370496 * g * 2 ^ (s + p + 98926) * 2 ^ L = m * 2 ^ (k + (1 + 1074)) * 2 ^ L := by
   have e4 : ∀ A B C : Nat, C * g * A * B = g * B * (C * A) := fun A B C => by ac_rfl
   rw [e4, ← h.eq, show (4503599627370496 : Nat) = 2 ^ 52 from rfl]
   rw [Nat.mul_assoc, Nat.mul_assoc, ← Nat.pow_add, ← Nat.pow_add, ← Nat.pow_add]
   congr 2
   omega
 exact Nat.eq_of_mul_eq_mul_right (Nat.two_pow_pos L) e3
theorem ldexp_inf {m L g a : Nat} {e : Int} (h : Whole53 m a L g) (h1 : e + L > 1023) : ldP m e = 9218868437227405312 := by
 have glo := h.lo
 have l53 := h.l53
 obtain ⟨k, hk⟩ : ∃ k : Nat, (k : Int) = e + 1074 := ⟨(e + 1074).toNat, by omega⟩
 refine isRN_uniq (by decide) (ldP_isRN (k := k) (j := 0) h.pos (by omega)) (isRN_inf (by decide) ?_)
 obtain ⟨t, ht, hv⟩ := valF_inf
 rw [hv, Nat.pow_zero, Nat.one_mul]
 have : 2 ^ t * 2 ^ (52 + L) ≤ m * 2 ^ k * 2 ^ (52 + L) := by
   rw [show m * 2 ^ k * 2 ^ (52 + L) = m * 4503599627370496 * 2 ^ (k + L) by rw [Nat.pow_add 2 52, Nat.pow_add 2 k, show (4503599627370496 : Nat) = 2 ^ 52 from rfl]; ac_rfl, h.eq, Nat.mul_assoc, ← Nat.pow_add, ← Nat.pow_add]
   have h4 : 2 ^ (t + (52 + L)) ≤ 2 ^ (52 + (L + (k + L))) := Nat.pow_le_pow_right (by decide) (by omega)
   rw [Nat.pow_add 2 52] at h4
   exact Nat.le_trans h4 (Nat.mul_le_mul_right _ glo)
 exact Nat.le_of_mul_le_mul_right this (Nat.two_pow_pos _)
end Go.Proofs.YtnhmmjogfkjceaaGreatDoor
namespace Go.Proofs.YtnhmmjogfkjceaaGreatDoor
open Go Go.Sl
section
variable {P : Program} {ρ : Fr} {δ : Nat → Value} {w : World} {dst : Option Tmp} {t t2 ty : TypeId} {x y : Operand} {pos : String} {after : Array Edge} {gd : Option (Nat × Bool)} {a b : Nat} {r : Bool}
theorem run_feq (h : (Ieee.double.order a b == some .eq) = r) (hx : ev δ ρ x = .float .f64 a) (hy : ev δ ρ y = .float .f64 b) : (execOp (ev δ ρ) ⟨dst, .binOp .eql t x y t2, ty, pos, after, gd⟩).run P w = .ok (.value (.bool r)) w := by
 simp only [execOp, hx, hy, Sem.run_bind]
 rw [← h]
 rfl
theorem run_fne (h : (Ieee.double.order a b != some .eq) = r) (hx : ev δ ρ x = .float .f64 a) (hy : ev δ ρ y = .float .f64 b) : (execOp (ev δ ρ) ⟨dst, .binOp .neq t x y t2, ty, pos, after, gd⟩).run P w = .ok (.value (.bool r)) w := by
 simp only [execOp, hx, hy, Sem.run_bind]
 rw [← h]
 rfl
theorem run_fgt (h : (Ieee.double.order a b == some .gt) = r) (hx : ev δ ρ x = .float .f64 a) (hy : ev δ ρ y = .float .f64 b) : (execOp (ev δ ρ) ⟨dst, .binOp .gtr t x y t2, ty, pos, after, gd⟩).run P w = .ok (.value (.bool r)) w := by
 simp only [execOp, hx, hy, Sem.run_bind]
 rw [← h]
 rfl
theorem run_flt (h : (Ieee.double.order a b == some .lt) = r) (hx : ev δ ρ x = .float .f64 a) (hy : ev δ ρ y = .float .f64 b) : (execOp (ev δ ρ) ⟨dst, .binOp .lss t x y t2, ty, pos, after, gd⟩).run P w = .ok (.value (.bool r)) w := by
 simp only [execOp, hx, hy, Sem.run_bind]
 rw [← h]
 rfl
end
end Go.Proofs.YtnhmmjogfkjceaaGreatDoor
namespace Go.Proofs.YtnhmmjogfkjceaaGreatDoor
open Go Go.Sl
section
variable {P : Program} {ρ : Fr} {δ : Nat → Value} {w : World} {dst : Option Tmp} {t t2 ty s d : TypeId} {x y : Operand} {pos : String} {after : Array Edge} {gd : Option (Nat × Bool)} {a b r : Nat}
theorem run_fmul (h : Ieee.double.mul a b = some r) (hx : ev δ ρ x = .float .f64 a) (hy : ev δ ρ y = .float .f64 b) : (execOp (ev δ ρ) ⟨dst, .binOp .mul t x y t2, ty, pos, after, gd⟩).run P w = .ok (.value (.float .f64 r)) w := by
 simp only [execOp, hx, hy, Sem.run_bind]
 have e : (Op.floatArith .mul .f64 a b).run P w = .ok (.float .f64 r) w := by
   unfold Op.floatArith
   simp only [show FloatKind.f64.format = Ieee.double from rfl, h, Sem.run_bind, Sem.run_pure, Result.andThen_ok, pure_bind]
 show ((Op.floatArith .mul .f64 a b).run P w).andThen _ = _
 rw [e]
 rfl
theorem run_i2f {n : Nat} (hs : P.underlying s = some (.int .u64)) (hd : P.underlying d = some (.float .f64)) (hx : ev δ ρ x = .int .u64 (n : Int)) : (execOp (ev δ ρ) ⟨dst, .convert s d x, ty, pos, after, gd⟩).run P w = .ok (.value (.float .f64 (ldP n 0))) w := by
 have hc : (convert s d (.int .u64 (n : Int))).run P w = .ok (.float .f64 (ldP n 0)) w := by
   have e : FloatKind.f64.nearest (n : Int) = ldP n 0 := by
     unfold FloatKind.nearest FloatKind.encode ldP
     rw [show decide ((n : Int) < 0) = false from decide_eq_false (by omega)]
     rfl
   simp only [convert, run_underlying hs, run_underlying hd, Sem.run_bind, Result.andThen_ok]
   unfold Conv.intToFloat
   rw [e]; rfl
 simp only [execOp, hx, Sem.run_bind, hc, Result.andThen_ok, Sem.run_pure]
theorem andR64i {m c : Int} (v : Int) (hv : IntKind.wrap .i64 ((BitVec.ofInt 64 m &&& BitVec.ofInt 64 c).toNat) = v) (hx : ∀ δ, ev δ ρ x = .int .i64 m := by exact fun _ => rfl) (hy : ∀ δ, ev δ ρ y = .int .i64 c := by exact fun _ => rfl) :
   ∀ δ w, (execOp (ev δ ρ) ⟨dst, .binOp .and t x y t2, ty, pos, after, gd⟩).run P w = .ok (.value (.int .i64 v)) w := by
 intro δ w
 simp only [execOp, hx, hy, Sem.run_bind]
 rw [← hv]
 rfl
end
theorem o_pos {a b : Nat} (ha : a < 9218868437227405312) (hb : b < 9218868437227405312) : (Ieee.double.order a b == some .lt) = decide (a < b) ∧ (Ieee.double.order a b == some .gt) = decide (b < a) := by
 have va : valZ a = (valF a : Int) := by unfold valZ; rw [if_neg (by omega), show mag a = a by unfold mag; omega]
 have vb : valZ b = (valF b : Int) := by unfold valZ; rw [if_neg (by omega), show mag b = b by unfold mag; omega]
 rw [order_fin (by omega) (by omega) (by unfold mag; omega) (by unfold mag; omega), (cmp_eq_iff _ _).2.1, (cmp_eq_iff _ _).2.2, va, vb]
 have key : ∀ x y, valF x < valF y ↔ x < y := fun x y => ⟨fun h => by
   rcases Nat.lt_or_ge x y with q | q
   · exact q
   · have := valF_mono q; omega, valF_mono_lt⟩
 have k1 := key a b
 have k2 := key b a
 exact ⟨decide_eq_decide.2 (by omega), decide_eq_decide.2 (by omega)⟩
theorem and2047 (n : Nat) (h : n < 9223372036854775808) : IntKind.wrap .i64 ((BitVec.ofInt 64 (n : Int) &&& BitVec.ofInt 64 2047).toNat) = ((n % 2048 : Nat) : Int) := by
 rw [BitVec.toNat_and, show (BitVec.ofInt 64 2047).toNat = 2 ^ 11 - 1 by decide, Nat.and_two_pow_sub_one_eq_mod, BitVec.toNat_ofInt]
 have : (((n : Int) % ((2 ^ 64 : Nat) : Int)).toNat) = n := by omega
 rw [this]
 simp [IntKind.wrap, IntKind.bits, IntKind.signed]
 omega
theorem clear_exp (n : Nat) (h : n < 9223372036854775808) : IntKind.wrap .u64 ((BitVec.ofInt 64 (n : Int) &&& ~~~ BitVec.ofInt 64 9218868437227405312).toNat) = ((n % 4503599627370496 : Nat) : Int) := by
 have e : (BitVec.ofInt 64 (n : Int) &&& ~~~ BitVec.ofInt 64 9218868437227405312).toNat = n % 4503599627370496 := by
   rw [BitVec.toNat_and, show (~~~ BitVec.ofInt 64 9218868437227405312).toNat = 2 ^ 63 ||| (2 ^ 52 - 1) by decide, BitVec.toNat_ofInt]
   have : (((n : Int) % ((2 ^ 64 : Nat) : Int)).toNat) = n := by omega
   have z : n &&& 2 ^ 63 = 0 := by
     apply Nat.eq_of_testBit_eq
     intro i
     rw [Nat.testBit_and, Nat.zero_testBit, Nat.testBit_two_pow]
     by_cases hi : 63 = i
     · subst hi; rw [Nat.testBit_lt_two_pow (by omega)]; rfl
     · simp [hi]
   rw [this, Nat.and_or_distrib_left, Nat.and_two_pow_sub_one_eq_mod, z, Nat.zero_or]
 rw [e, wrap64]
 omega
theorem shl52 (q : Nat) (h : q < 4096) : IntKind.wrap .u64 ((q : Int) * 2 ^ min (52 : Int).toNat IntKind.u64.bits) = ((q * 2 ^ 52 : Nat) : Int) := by
 rw [wrap64, show min (52 : Int).toNat IntKind.u64.bits = 52 from rfl]
 omega
end Go.Proofs.YtnhmmjogfkjceaaGreatDoor
namespace Go.Proofs.YtnhmmjogfkjceaaGreatDoor
open Go.Sl

theorem f_Abs {W0 : World} {a : Nat} (ha : a < 9223372036854775808) : SC Tryz.prog W0 192 #[.float .f64 a] [] (Ret (fun _ : Unit => []) (fun v _ => v = .float .f64 a)) := by
 refine SC_body (fn := Tryz.f192) (n := 7) Tryz.func192 rfl (by kernel_rfl) (ρ := [(0, .float .f64 a)]) rfl ?_
 refine sr ?_
 refine os 1 ?_
 refine nsr ?_
 refine os 1 ?_
 refine oV (.int .u64 (a : Int)) ?_
 refine oV (.int .u64 ((a % 9223372036854775808 : Nat) : Int)) ?_ (hs := andNotR (m := (a : Int)) (c := 9223372036854775808) _ (sized64 a (by omega)))
 refine oV (.float .f64 (a % 9223372036854775808)) ?_
 refine os 1 ?_
 refine kp [2, 0] ?_
 refine nt ?_
 refine SW_ret ?_
 refine body_end (.float .f64 (a % 9223372036854775808)) (fun _ => rfl) ?_
 rw [show a % 9223372036854775808 = a from by omega]
 exact ⟨(), ow, rfl⟩

theorem f_IsInf {W0 : World} {a : Nat} (ha : a < 9218868437227405312) : SC Tryz.prog W0 183 #[.float .f64 a, .int .i64 0] [] (Ret (fun _ : Unit => []) (fun v _ => v = .bool false)) := by
 refine SC_body (fn := Tryz.f183) (n := 15) Tryz.func183 rfl (by kernel_rfl) (ρ := [(0, .float .f64 a), (1, .int .i64 0)]) rfl ?_
 refine sr ?_
 refine os 1 ?_
 refine nq ?_
 refine sr ?_
 refine os 1 ?_
 refine oV (.bool true) ?_
 refine nt ?_
 refine ct ?_
 refine SW_region ?_
 refine os 1 ?_
 refine L (cl (f_Abs (a := a) (by omega)) ?_)
 rintro _ _ rfl
 refine un ?_
 refine os 1 ?_
 refine kp [0, 6, 4, 1] ?_
 refine nsr ?_
 refine os 1 ?_
 refine oV (.bool false) ?_ (hs := (fun δ w_ => run_fgt ((o_pos (a := a) (b := 9218868437227405311) (by omega) (by decide)).2.trans (decide_eq_false (by omega))) rfl rfl))
 refine os 1 ?_
 refine nt ?_
 refine SW_ret ?_
 refine body_end (.bool false) (fun _ => rfl) ?_
 exact ⟨(), ow, rfl⟩

theorem f_IsNaN {W0 : World} {a : Nat} (ha : a < 9218868437227405312) : SC Tryz.prog W0 184 #[.float .f64 a] [] (Ret (fun _ : Unit => []) (fun v _ => v = .bool false)) := by
 refine SC_body (fn := Tryz.f184) (n := 6) Tryz.func184 rfl (by kernel_rfl) (ρ := [(0, .float .f64 a)]) rfl ?_
 refine sr ?_
 refine os 1 ?_
 refine nsr ?_
 refine os 2 ?_
 refine oV (.bool false) ?_ (hs := (fun δ w_ => run_fne ((f_nan (a := a) (by omega)).trans (decide_eq_false (by unfold mag; omega))) rfl rfl))
 refine os 1 ?_
 refine kp [2, 0] ?_
 refine nt ?_
 refine SW_ret ?_
 refine body_end (.bool false) (fun _ => rfl) ?_
 exact ⟨(), ow, rfl⟩

theorem f_normalize {W0 : World} {a : Nat} (h0 : 4503599627370496 ≤ a) (ha : a < 9218868437227405312) : SC Tryz.prog W0 185 #[.float .f64 a] [] (Ret (fun _ : Unit => []) (fun v _ => v = .tuple #[.float .f64 a, .int .i64 0])) := by
 refine SC_body (fn := Tryz.f185) (n := 10) Tryz.func185 rfl (by kernel_rfl) (ρ := [(0, .float .f64 a)]) rfl ?_
 refine sr ?_
 refine os 2 ?_
 refine nq ?_
 refine sr ?_
 refine os 1 ?_
 refine L (cl (f_Abs (a := a) (by omega)) ?_)
 rintro _ _ rfl
 refine un ?_
 refine oV (.bool false) ?_ (hs := (fun δ w_ => run_flt ((o_pos (a := a) (b := 4503599627370496) (by omega) (by decide)).1.trans (decide_eq_false (by omega))) rfl rfl))
 refine nt ?_
 refine cf ?_
 refine SW_skip (n_then ?_)
 refine sr ?_
 refine os 3 ?_
 refine kp [3, 2, 6, 0] ?_
 refine nt ?_
 refine SW_ret ?_
 refine body_end (.tuple #[.float .f64 a, .int .i64 0]) (fun _ => rfl) ?_
 exact ⟨(), ow, rfl⟩

theorem f_Inf {W0 : World}  : SC Tryz.prog W0 187 #[.int .i64 1] [] (Ret (fun _ : Unit => []) (fun v _ => v = .float .f64 9218868437227405312)) := by
 refine SC_body (fn := Tryz.f187) (n := 8) Tryz.func187 rfl (by kernel_rfl) (ρ := [(0, .int .i64 1)]) rfl ?_
 refine sr ?_
 refine os 1 ?_
 refine nsr ?_
 refine os 1 ?_
 refine nq ?_
 refine sr ?_
 refine os 1 ?_
 refine oV (.bool true) ?_
 refine nt ?_
 refine ct ?_
 refine SW_region ?_
 refine os 1 ?_
 refine nsr ?_
 refine os 1 ?_
 refine oV (.float .f64 9218868437227405312) ?_
 refine os 1 ?_
 refine kp [2, 3, 5, 0] ?_
 refine nt ?_
 refine SW_ret ?_
 refine body_end (.float .f64 9218868437227405312) (fun _ => rfl) ?_
 exact ⟨(), ow, rfl⟩

theorem f_ldexp {W0 : World} {m a lg g : Nat} {e : Int} (hw : Whole53 m a lg g) (he : -1074 ≤ e ∧ e ≤ 100000) : SC Tryz.prog W0 171 #[.float .f64 a, .int .i64 e] [] (Ret (fun _ : Unit => []) (fun v _ => v = .float .f64 (ldP m e))) := by
 refine SC_body (fn := Tryz.f171) (n := 63) Tryz.func171 rfl (by kernel_rfl) (ρ := [(0, .float .f64 a), (1, .int .i64 e)]) rfl ?_
 have hb_ := hw.bits
 have hlo_ := hw.lo
 have hhi_ := hw.hi
 have hl53_ := hw.l53
 refine sr ?_
 refine os 1 ?_
 refine nq ?_
 refine SW_block ?_
 refine sr ?_
 refine os 1 ?_
 refine oV (.bool false) ?_ (hs := (fun δ w_ => run_feq ((f_eq0 (a := a) (by omega)).trans (decide_eq_false (by unfold mag; omega))) rfl rfl))
 refine os 1 ?_
 refine nt ?_
 refine cf ?_
 refine sr ?_
 refine os 1 ?_
 refine L (cl (f_IsInf (a := a) (by omega)) ?_)
 rintro _ _ rfl
 refine un ?_
 refine os 2 ?_
 refine L (cl (f_IsNaN (a := a) (by omega)) ?_)
 rintro _ _ rfl
 refine un ?_
 refine os 2 ?_
 refine kp [12, 8, 4, 0, 1] ?_
 refine nt ?_
 refine cf ?_
 refine SW_skip (n_in (n_then ?_))
 refine sr ?_
 refine os 1 ?_
 refine L (cl (f_normalize (a := a) (by omega) (by omega)) ?_)
 rintro _ _ rfl
 refine un ?_
 refine os 5 ?_
 refine kp [5, 0, 12, 8, 4, 1] ?_
 refine nsr ?_
 refine os 4 ?_
 refine kp [1, 5, 0, 12, 8, 4] ?_
 refine nsr ?_
 refine os 1 ?_
 refine oV (.int .u64 (a : Int)) ?_
 refine os 1 ?_
 refine nsr ?_
 refine os 2 ?_
 refine oX (.int .u64 (Int.fdiv (a : Int) 4503599627370496)) (.int .u64 ((a : Int) / 4503599627370496)) (congrArg (Value.int .u64) (Int.fdiv_eq_ediv_of_nonneg _ (by omega))) ?_
 refine os 1 ?_
 refine oV (.int .i64 ((lg + 1023 : Nat) : Int)) ?_ (hs := andR64i (m := (a : Int) / 4503599627370496) (c := 2047) _ (by rw [show (a : Int) / 4503599627370496 = ((a / 4503599627370496 : Nat) : Int) from by omega]; exact (and2047 _ (by omega)).trans (by omega)))
 refine os 3 ?_
 refine kp [1, 6, 5, 0, 12, 8, 4] ?_
 refine nq ?_
 refine sr ?_
 refine os 2 ?_
 refine nt ?_
 refine SW_false (fun _ => (congrArg Value.bool (show (decide (((e + 0) + (((lg + 1023 : Nat) : Int) - 1023)) < (-1075))) = false from (decide_eq_false (by omega))))) ?_
 refine SW_skip (n_then ?_)
 refine SW_seq ?_
 refine sr ?_
 refine os 2 ?_
 refine nt ?_
 refine cdp (fun hc1 : ((e + 0) + (((lg + 1023 : Nat) : Int) - 1023)) > 1023 => ?_) (fun hc1 => ?_)
 ·refine SW_seq ?_
  refine sr ?_
  refine os 1 ?_
  refine oV (.bool false) ?_ (hs := (fun δ w_ => run_flt ((o_pos (a := a) (b := 0) (by omega) (by decide)).1.trans (decide_eq_false (by omega))) rfl rfl))
  refine kp [44, 42, 38, 1, 6, 5, 0, 12, 8, 4] ?_
  refine nt ?_
  refine cf ?_
  refine SW_skip (n_then ?_)
  refine sr ?_
  refine L (cl (f_Inf) ?_)
  rintro _ _ rfl
  refine un ?_
  refine os 1 ?_
  refine nt ?_
  refine SW_ret (r_then ?_)
  refine body_end (.float .f64 9218868437227405312) (fun _ => rfl) ?_
  exact ⟨(), ow, by rw [ldexp_inf hw (by omega)]⟩
 refine SW_skip (n_then ?_)
 refine sr ?_
 refine os 1 ?_
 refine nq ?_
 refine sr ?_
 refine os 2 ?_
 refine kp [48, 7, 42, 38, 1, 6, 5, 0, 12, 8, 4] ?_
 refine nt ?_
 refine cdp (fun hc2 : ((e + 0) + (((lg + 1023 : Nat) : Int) - 1023)) < (-1022) => ?_) (fun hc2 => ?_)
 ·refine sr ?_
  refine os 3 ?_
  refine nr ?_
  refine os 1 ?_
  refine nsr ?_
  refine os 1 ?_
  refine oV (.int .u64 ((g - 4503599627370496 : Nat) : Int)) ?_ (hs := andNotR (m := (a : Int)) (c := 9218868437227405312) _ ((clear_exp a (by omega)).trans (by omega)))
  refine os 1 ?_
  refine kp [6, 7, 1, 48, 42, 38, 5, 0, 12, 8, 4] ?_
  refine nq ?_
  obtain ⟨Q, hQ_⟩ : ∃ Q : Nat, (Q : Int) = ((e + 0) + (((lg + 1023 : Nat) : Int) - 1023)) + 53 + 1023 := ⟨(((e + 0) + (((lg + 1023 : Nat) : Int) - 1023)) + 53 + 1023).toNat, by omega⟩
  rw [show ((e + 0) + (((lg + 1023 : Nat) : Int) - 1023)) + 53 = (Q : Int) - 1023 from by omega]
  refine SW_region ?_
  refine os 4 ?_
  refine oV (.int .u64 ((Q * 2 ^ 52 : Nat) : Int)) ?_ (hs := shlR (m := ((Q : Int) - 1023) + 1023) (c := 52) _ (by decide) (by rw [show ((Q : Int) - 1023) + 1023 = (Q : Int) from by omega]; exact shl52 Q (by omega)))
  refine oV (.int .u64 ((Q * 2 ^ 52 + (g - 4503599627370496) : Nat) : Int)) ?_ (hs := orR (m := ((g - 4503599627370496 : Nat) : Int)) (c := ((Q * 2 ^ 52 : Nat) : Int)) _ (or_apart64 (a := Q) (b := g - 4503599627370496) (s := 52) (by omega) (by omega)))
  refine os 1 ?_
  refine kp [6, 7, 1, 48, 42, 38, 5, 0, 12, 8, 4] ?_
  refine nsr ?_
  refine os 2 ?_
  refine oV (.float .f64 (Q * 2 ^ 52 + (g - 4503599627370496))) ?_
  refine oV (.float .f64 (ldP m e)) ?_ (hs := (fun δ w_ => run_fmul ((mul_made (c := 4368491638549381120) (x := Q * 2 ^ 52 + (g - 4503599627370496)) (s := 970) (g := g) (p := Q - 1) rfl (by decide) (by omega) hw.lo hw.hi (by omega)).trans (congrArg some (ldexp_val hw (by omega)))) rfl rfl))
  refine os 1 ?_
  refine kp [4, 6, 7, 1, 48, 42, 38, 5, 0, 12, 8] ?_
  refine nt ?_
  refine SW_ret ?_
  refine body_end (.float .f64 (ldP m e)) (fun _ => rfl) ?_
  exact ⟨(), ow, rfl⟩
 refine SW_skip (n_then ?_)
 refine sr ?_
 refine os 1 ?_
 refine oV (.int .u64 ((g - 4503599627370496 : Nat) : Int)) ?_ (hs := andNotR (m := (a : Int)) (c := 9218868437227405312) _ ((clear_exp a (by omega)).trans (by omega)))
 refine os 1 ?_
 refine nq ?_
 obtain ⟨Q, hQ_⟩ : ∃ Q : Nat, (Q : Int) = (e + 0) + (((lg + 1023 : Nat) : Int) - 1023) + 1023 := ⟨((e + 0) + (((lg + 1023 : Nat) : Int) - 1023) + 1023).toNat, by omega⟩
 rw [show (e + 0) + (((lg + 1023 : Nat) : Int) - 1023) = (Q : Int) - 1023 from by omega]
 refine SW_region ?_
 refine os 4 ?_
 refine oV (.int .u64 ((Q * 2 ^ 52 : Nat) : Int)) ?_ (hs := shlR (m := ((Q : Int) - 1023) + 1023) (c := 52) _ (by decide) (by rw [show ((Q : Int) - 1023) + 1023 = (Q : Int) from by omega]; exact shl52 Q (by omega)))
 refine oV (.int .u64 ((Q * 2 ^ 52 + (g - 4503599627370496) : Nat) : Int)) ?_ (hs := orR (m := ((g - 4503599627370496 : Nat) : Int)) (c := ((Q * 2 ^ 52 : Nat) : Int)) _ (or_apart64 (a := Q) (b := g - 4503599627370496) (s := 52) (by omega) (by omega)))
 refine os 1 ?_
 refine kp [6, 48, 7, 42, 38, 1, 5, 0, 12, 8, 4] ?_
 refine nsr ?_
 refine os 2 ?_
 refine oV (.float .f64 (Q * 2 ^ 52 + (g - 4503599627370496))) ?_
 refine oV (.float .f64 (ldP m e)) ?_ (hs := (fun δ w_ => run_fmul ((mul_made (c := 4607182418800017408) (x := Q * 2 ^ 52 + (g - 4503599627370496)) (s := 1023) (g := g) (p := Q - 1) rfl (by decide) (by omega) hw.lo hw.hi (by omega)).trans (congrArg some (ldexp_val hw (by omega)))) rfl rfl))
 refine os 1 ?_
 refine kp [4, 6, 48, 7, 42, 38, 1, 5, 0, 12, 8] ?_
 refine nt ?_
 refine SW_ret ?_
 refine body_end (.float .f64 (ldP m e)) (fun _ => rfl) ?_
 exact ⟨(), ow, rfl⟩

theorem f_Ldexp {W0 : World} {m a lg g : Nat} {e : Int} (hw : Whole53 m a lg g) (he : -1074 ≤ e ∧ e ≤ 100000) : SC Tryz.prog W0 142 #[.float .f64 a, .int .i64 e] [] (Ret (fun _ : Unit => []) (fun v _ => v = .float .f64 (ldP m e))) := by
 refine SC_body (fn := Tryz.f142) (n := 11) Tryz.func142 rfl (by kernel_rfl) (ρ := [(0, .float .f64 a), (1, .int .i64 e)]) rfl ?_
 refine sr ?_
 refine os 1 ?_
 refine nq ?_
 refine cf ?_
 refine SW_skip (n_then ?_)
 refine sr ?_
 refine os 2 ?_
 refine L (cl (f_ldexp hw he) ?_)
 rintro _ _ rfl
 refine un ?_
 refine os 1 ?_
 refine kp [4, 0, 1] ?_
 refine nt ?_
 refine SW_ret ?_
 refine body_end (.float .f64 (ldP m e)) (fun _ => rfl) ?_
 exact ⟨(), ow, rfl⟩

theorem f_ldexp0 {W0 : World} {e : Int} : SC Tryz.prog W0 171 #[.float .f64 0, .int .i64 e] [] (Ret (fun _ : Unit => []) (fun v _ => v = .float .f64 0)) := by
 refine SC_body (fn := Tryz.f171) (n := 63) Tryz.func171 rfl (by kernel_rfl) (ρ := [(0, .float .f64 0), (1, .int .i64 e)]) rfl ?_
 refine sr ?_
 refine os 1 ?_
 refine nq ?_
 refine SW_block ?_
 refine sr ?_
 refine os 1 ?_
 refine oV (.bool true) ?_ (hs := (fun δ w_ => run_feq (r := true) (by decide) rfl rfl))
 refine os 1 ?_
 refine nt ?_
 refine ct ?_
 refine sr ?_
 refine os 2 ?_
 refine kp [4, 8, 0, 1] ?_
 refine nt ?_
 refine SW_ret (r_in (r_then ?_))
 refine body_end (.float .f64 0) (fun _ => rfl) ?_
 exact ⟨(), ow, rfl⟩

theorem f_Ldexp0 {W0 : World} {e : Int} : SC Tryz.prog W0 142 #[.float .f64 0, .int .i64 e] [] (Ret (fun _ : Unit => []) (fun v _ => v = .float .f64 0)) := by
 refine SC_body (fn := Tryz.f142) (n := 11) Tryz.func142 rfl (by kernel_rfl) (ρ := [(0, .float .f64 0), (1, .int .i64 e)]) rfl ?_
 refine sr ?_
 refine os 1 ?_
 refine nq ?_
 refine cf ?_
 refine SW_skip (n_then ?_)
 refine sr ?_
 refine os 2 ?_
 refine L (cl (f_ldexp0) ?_)
 rintro _ _ rfl
 refine un ?_
 refine os 1 ?_
 refine kp [4, 0, 1] ?_
 refine nt ?_
 refine SW_ret ?_
 refine body_end (.float .f64 0) (fun _ => rfl) ?_
 exact ⟨(), ow, rfl⟩

theorem f_LdexpM {W0 : World} {m : Nat} {e : Int} (h1 : m ≤ 9007199254740992) (he : -1074 ≤ e ∧ e ≤ 100000) : SC Tryz.prog W0 142 #[.float .f64 (ldP m 0), .int .i64 e] [] (Ret (fun _ : Unit => []) (fun v _ => v = .float .f64 (ldP m e))) := by
 rcases Nat.eq_zero_or_pos m with h0 | h0
 · subst h0
   rw [ldP_zero, ldP_zero]
   exact f_Ldexp0
 · obtain ⟨lg, g, hw⟩ := whole53 h0 h1
   exact f_Ldexp hw he

theorem r1_bits {W0 : World} {n : Nat} (hn : n < 18446744073709551616) (hb : bitsN n ≤ 64) : SC Tryz.prog W0 141 #[.int .u64 (n : Int)] [] (Ret (fun _ : Unit => []) (fun v _ => v = .int .i64 (bitsN n : Int))) := by
 refine SC_body (fn := Tryz.f141) (n := 11) Tryz.func141 rfl (by kernel_rfl) (ρ := [(0, .int .u64 (n : Int))]) rfl ?_
 refine sr ?_
 refine os 1 ?_
 refine nsr ?_
 refine os 1 ?_
 refine nq ?_
 refine SW_block ?_
 refine SW_loop (α := Nat × Nat) (fun z_ ρ_ σ_ => Fits ρ_ σ_ [(0, .int .u64 (z_.1 : Int)), (3, .int .i64 (z_.2 : Int))] ([]) ∧ z_.1 ≤ n ∧ (bitsN z_.1 + z_.2 = bitsN n ∧ bitsN n ≤ 64)) (fun z_ => z_.1) (n, 0) ⟨⟨fun _ => rfl, ow⟩, Nat.le_refl _, ⟨rfl, hb⟩⟩ ?_
 rintro ⟨x, k⟩ ρ_ σ_ ⟨hfit, hi0, hi1⟩
 refine SW_fits hfit ?_
 clear hfit
 simp only [] at hi0 hi1 ⊢
 refine SW_seq ?_
 refine sr ?_
 refine os 2 ?_
 refine nt ?_
 refine cdp (fun hc1 : (x : Int) > 0 => ?_) (fun hc1 => ?_)
 ·refine SW_skip (n_then ?_)
  refine SW_block ?_
  refine sr ?_
  refine os 3 ?_
  refine kp [3, 5, 0] ?_
  refine nr ?_
  refine os 1 ?_
  refine oX (.int .u64 (IntKind.wrap .u64 (Int.tdiv (x : Int) 2))) (.int .u64 ((x : Int) / 2)) (congrArg (Value.int .u64) (quo_u64 (by omega) (by omega) (by decide))) ?_
  refine os 1 ?_
  refine SL_nil (n_in (n_then ?_))
  rw [show (x : Int) / 2 = ((x / 2 : Nat) : Int) from by omega, show (k : Int) + 1 = ((k + 1 : Nat) : Int) from by omega]
  exact ⟨(x / 2, k + 1), by simp only []; omega, ⟨fun _ => rfl, ow⟩, by simp only []; omega, by simp only []; have := bitsN_pos (n := x) (by omega); omega⟩
 refine SW_exit (x_then (x_then (x_in (n_then ?_))))
 refine sr ?_
 refine os 2 ?_
 refine nt ?_
 refine SW_ret ?_
 refine body_end (.int .i64 (k : Int)) (fun _ => rfl) ?_
 rw [show x = 0 from by omega, bitsN_zero] at hi1
 exact ⟨(), ow, congrArg (Value.int .i64) (by omega)⟩

end Go.Proofs.YtnhmmjogfkjceaaGreatDoor
namespace Go.Proofs.YtnhmmjogfkjceaaGreatDoor
open Go.Sl

theorem num_signed {W0 : World} {x : Int} : SC Tryz.prog W0 163 #[.bool false, .int .u64 x] [] (Ret (fun _ : Unit => []) (fun v _ => v = .int .u64 x)) := by
 refine SC_body (fn := Tryz.f163) (n := 9) Tryz.func163 rfl (by kernel_rfl) (ρ := [(0, .bool false), (1, .int .u64 x)]) rfl ?_
 refine sr ?_
 refine os 1 ?_
 refine nq ?_
 refine sr ?_
 refine os 1 ?_
 refine nt ?_
 refine cf ?_
 refine SW_skip (n_then ?_)
 refine sr ?_
 refine os 2 ?_
 refine nt ?_
 refine SW_ret ?_
 refine body_end (.int .u64 x) (fun _ => rfl) ?_
 exact ⟨(), ow, rfl⟩

theorem num_lead {W0 : World} {m e : Int} (he : -10000 ≤ e ∧ e ≤ 10000) : SC Tryz.prog W0 162 #[.agg #[.bool false, .int .u64 m, .int .i64 e]] [] (Ret (fun _ : Unit => []) (fun v _ => v = .int .i64 (e + 63))) := by
 refine SC_body (fn := Tryz.f162) (n := 6) Tryz.func162 rfl (by kernel_rfl) (ρ := [(0, .agg #[.bool false, .int .u64 m, .int .i64 e])]) rfl ?_
 refine sr ?_
 refine L (nw 137 3 [.bool false, .int .u64 m, .int .i64 e] ?_)
 intro b1
 refine os 1 ?_
 refine nsr ?_
 refine os 1 ?_
 refine L (ld ?_)
 refine os 2 ?_
 refine kp [2, 1, 0] ?_
 refine nt ?_
 refine SW_ret ?_
 refine body_end (.int .i64 (e + 63)) (fun _ => rfl) ?_
 exact ⟨(), ow, rfl⟩

theorem num_near {W0 : World} {m : Nat} {e : Int} {h : Bool} (hm : m < 18446744073709551616) (he : -10000 ≤ e ∧ e ≤ 10000) : SC Tryz.prog W0 129 #[.agg #[.bool false, .int .u64 (m : Int), .int .i64 e], .bool h] [] (Ret (fun _ : Unit => []) (fun v _ => v = .int .u64 (formNear m e h : Int))) := by
 refine SC_body (fn := Tryz.f129) (n := 61) Tryz.func129 rfl (by kernel_rfl) (ρ := [(0, .agg #[.bool false, .int .u64 (m : Int), .int .i64 e]), (1, .bool h)]) rfl ?_
 refine sr ?_
 refine L (nw 137 3 [.bool false, .int .u64 (m : Int), .int .i64 e] ?_)
 intro b1
 refine os 1 ?_
 refine nq ?_
 refine sr ?_
 refine L (lds 3 ?_)
 refine L (cl (num_lead he) ?_)
 rintro _ _ rfl
 refine un ?_
 refine os 1 ?_
 refine nt ?_
 refine cdp (fun hc2 : (e + 63) > 1023 => ?_) (fun hc2 => ?_)
 ·refine sr ?_
  refine os 1 ?_
  refine L (ld ?_)
  refine L (cl (num_signed) ?_)
  rintro _ _ rfl
  refine un ?_
  refine os 1 ?_
  refine kp [4, 11, 2, 0, 1] ?_
  refine nt ?_
  refine SW_ret (r_then ?_)
  refine body_end (.int .u64 9218868437227405312) (fun _ => rfl) ?_
  exact ⟨(), ow, by rw [formNear_hi (by omega)]; rfl⟩
 refine SW_skip (n_then ?_)
 refine sr ?_
 refine L (lds 3 ?_)
 refine L (cl (num_lead he) ?_)
 rintro _ _ rfl
 refine un ?_
 refine os 3 ?_
 refine kp [6, 5, 11, 4, 2, 0, 1] ?_
 refine nq ?_
 refine sr ?_
 refine os 2 ?_
 refine nt ?_
 refine cdp (fun hc3 : ((e + 63) + 1023) < 1 => ?_) (fun hc3 => ?_)
 ·refine SW_region ?_
  refine os 4 ?_
  refine kp [6, 5, 19, 11, 4, 2, 0, 1] ?_
  refine nq ?_
  refine sr ?_
  refine os 2 ?_
  refine nt ?_
  refine cdp (fun hc4 : (12 - ((e + 63) + 1023)) > 64 => ?_) (fun hc4 => ?_)
  ·refine sr ?_
   refine os 1 ?_
   refine L (ld ?_)
   refine L (cl (num_signed) ?_)
   rintro _ _ rfl
   refine un ?_
   refine os 1 ?_
   refine kp [4, 23, 6, 5, 19, 11, 2, 0, 1] ?_
   refine nt ?_
   refine SW_ret (r_then ?_)
   refine body_end (.int .u64 0) (fun _ => rfl) ?_
   exact ⟨(), ow, by rw [formNear_lo (by omega) (by omega)]; rfl⟩
  refine SW_skip (n_then ?_)
  refine SW_seq ?_
  obtain ⟨M, hM⟩ : ∃ M, M = m / 2 ^ (12 - (e + 63 + 1023)).toNat := ⟨_, rfl⟩
  obtain ⟨R, hR⟩ : ∃ R, R = m * 2 ^ (64 - (12 - (e + 63 + 1023)).toNat) % 18446744073709551616 := ⟨_, rfl⟩
  have hdv_ := div_pow_lt (s := (12 - (e + 63 + 1023)).toNat) hm (by omega)
  rw [← hM] at hdv_
  have hrl_ : R < 18446744073709551616 := by rw [hR]; exact Nat.mod_lt _ (by decide)
  refine SW_region ?_
  refine os 1 ?_
  refine L (ld ?_)
  refine os 1 ?_
  refine oV (.int .u64 (M : Int)) ?_ (hs := shrR (m := (m : Int)) (c := 12 - ((e + 63) + 1023)) _ (by omega) (by rw [show IntKind.u64.bits = 64 from rfl, Nat.min_eq_left (by omega)]; rw [Int.fdiv_eq_ediv_of_nonneg _ (by exact_mod_cast Nat.zero_le _), hM]; simp))
  refine os 1 ?_
  refine kp [7, 23, 6, 5, 19, 11, 4, 2, 0, 1] ?_
  refine nsr ?_
  refine os 1 ?_
  refine L (ld ?_)
  refine os 2 ?_
  refine oV (.int .u64 (R : Int)) ?_ (hs := shlR (m := (m : Int)) (c := 64 - (12 - ((e + 63) + 1023))) _ (by omega) (by rw [show IntKind.u64.bits = 64 from rfl, Nat.min_eq_left (by omega), wrap64, hR, show (64 - (12 - ((e + 63) + 1023))).toNat = 64 - (12 - (e + 63 + 1023)).toNat from by omega]; simp))
  refine os 1 ?_
  refine kp [8, 7, 23, 6, 5, 19, 11, 4, 2, 0, 1] ?_
  refine nq ?_
  refine sr ?_
  refine os 3 ?_
  refine tbp 38 (fun hg5 => ?_) (fun hg5 => ?_)
  ·replace hg5 : (R : Int) > 9223372036854775808 := hg5
   refine os 11 ?_
   refine kp [49, 8, 7, 23, 6, 5, 19, 11, 4, 2, 0, 1] ?_
   refine nt ?_
   refine ct ?_
   refine SW_region ?_
   refine os 3 ?_
   refine nsr ?_
   refine os 1 ?_
   refine L (ld ?_)
   refine os 1 ?_
   refine oV (.int .i64 0) ?_
   refine oV (.int .u64 0) ?_
   refine oV (.int .u64 0) ?_
   refine os 2 ?_
   refine kp [59, 53, 7, 49, 8, 23, 6, 5, 19, 11, 4, 2, 0, 1] ?_
   refine L (cl (num_signed) ?_)
   rintro _ _ rfl
   refine un ?_
   refine os 1 ?_
   refine kp [4, 7, 49, 8, 23, 6, 5, 19, 11, 2, 0, 1] ?_
   refine nt ?_
   refine SW_ret ?_
   refine body_end (.int .u64 (0 + ((M : Int) + 1))) (fun _ => rfl) ?_
   have hfn_ := formNear_d (m := m) (e := e) (h := h) (by omega) (by omega) hM hR
   rw [up_if (show upIf R M h from by first | exact .inl (by omega) | exact .inr ⟨by omega, .inl (by assumption)⟩ | exact .inr ⟨by omega, .inr (by omega)⟩)] at hfn_
   exact ⟨(), ow, congrArg (Value.int .u64) (by omega)⟩
  replace hg5 : ¬ ((R : Int) > 9223372036854775808) := hg5
  refine os 3 ?_
  refine tb 41 (fun hg6 => ?_) (fun hg6 => ?_)
  ·replace hg6 : ((R : Int) == 9223372036854775808) = true := hg6
   simp only [beq_iff_eq, bne_iff_ne, ne_eq, beq_eq_false_iff_ne, bne_eq_false_iff_eq, Classical.not_not] at hg6
   refine os 2 ?_
   refine tb 43 (fun hg7 => ?_) (fun hg7 => ?_)
   ·replace hg7 : h = true := hg7
    refine os 6 ?_
    refine kp [49, 8, 7, 23, 6, 5, 19, 11, 4, 2, 0, 1] ?_
    refine nt ?_
    refine ct ?_
    refine SW_region ?_
    refine os 3 ?_
    refine nsr ?_
    refine os 1 ?_
    refine L (ld ?_)
    refine os 1 ?_
    refine oV (.int .i64 0) ?_
    refine oV (.int .u64 0) ?_
    refine oV (.int .u64 0) ?_
    refine os 2 ?_
    refine kp [59, 53, 7, 49, 8, 23, 6, 5, 19, 11, 4, 2, 0, 1] ?_
    refine L (cl (num_signed) ?_)
    rintro _ _ rfl
    refine un ?_
    refine os 1 ?_
    refine kp [4, 7, 49, 8, 23, 6, 5, 19, 11, 2, 0, 1] ?_
    refine nt ?_
    refine SW_ret ?_
    refine body_end (.int .u64 (0 + ((M : Int) + 1))) (fun _ => rfl) ?_
    have hfn_ := formNear_d (m := m) (e := e) (h := h) (by omega) (by omega) hM hR
    rw [up_if (show upIf R M h from by first | exact .inl (by omega) | exact .inr ⟨by omega, .inl (by assumption)⟩ | exact .inr ⟨by omega, .inr (by omega)⟩)] at hfn_
    exact ⟨(), ow, congrArg (Value.int .u64) (by omega)⟩
   replace hg7 : h = false := hg7
   refine os 1 ?_
   refine oV (.int .u64 ((M % 2 : Nat) : Int)) ?_ (hs := andR (m := (M : Int)) (c := 1) _ (and1_64 M (by omega)))
   refine os 4 ?_
   refine kp [49, 8, 7, 23, 6, 5, 19, 11, 4, 2, 0, 1] ?_
   refine nt ?_
   refine cd (fun hc8 : (((M % 2 : Nat) : Int) == 1) = true => ?_) (fun hc8 => ?_)
   ·simp only [beq_iff_eq, bne_iff_ne, ne_eq, beq_eq_false_iff_ne, bne_eq_false_iff_eq, Classical.not_not] at hc8
    refine SW_region ?_
    refine os 3 ?_
    refine nsr ?_
    refine os 1 ?_
    refine L (ld ?_)
    refine os 1 ?_
    refine oV (.int .i64 0) ?_
    refine oV (.int .u64 0) ?_
    refine oV (.int .u64 0) ?_
    refine os 2 ?_
    refine kp [59, 53, 7, 49, 8, 23, 6, 5, 19, 11, 4, 2, 0, 1] ?_
    refine L (cl (num_signed) ?_)
    rintro _ _ rfl
    refine un ?_
    refine os 1 ?_
    refine kp [4, 7, 49, 8, 23, 6, 5, 19, 11, 2, 0, 1] ?_
    refine nt ?_
    refine SW_ret ?_
    refine body_end (.int .u64 (0 + ((M : Int) + 1))) (fun _ => rfl) ?_
    have hfn_ := formNear_d (m := m) (e := e) (h := h) (by omega) (by omega) hM hR
    rw [up_if (show upIf R M h from by first | exact .inl (by omega) | exact .inr ⟨by omega, .inl (by assumption)⟩ | exact .inr ⟨by omega, .inr (by omega)⟩)] at hfn_
    exact ⟨(), ow, congrArg (Value.int .u64) (by omega)⟩
   simp only [beq_iff_eq, bne_iff_ne, ne_eq, beq_eq_false_iff_ne, bne_eq_false_iff_eq, Classical.not_not] at hc8
   refine SW_skip (n_then ?_)
   refine sr ?_
   refine os 1 ?_
   refine L (ld ?_)
   refine os 1 ?_
   refine oV (.int .i64 0) ?_
   refine oV (.int .u64 0) ?_
   refine oV (.int .u64 0) ?_
   refine os 2 ?_
   refine kp [59, 53, 49, 8, 7, 23, 6, 5, 19, 11, 4, 2, 0, 1] ?_
   refine L (cl (num_signed) ?_)
   rintro _ _ rfl
   refine un ?_
   refine os 1 ?_
   refine kp [4, 49, 8, 7, 23, 6, 5, 19, 11, 2, 0, 1] ?_
   refine nt ?_
   refine SW_ret ?_
   refine body_end (.int .u64 (0 + (M : Int))) (fun _ => rfl) ?_
   have hfn_ := formNear_d (m := m) (e := e) (h := h) (by omega) (by omega) hM hR
   rw [dn_if (show ¬ upIf R M h from by rintro (q | ⟨q1, q2 | q2⟩) <;> first | omega | simp_all)] at hfn_
   exact ⟨(), ow, congrArg (Value.int .u64) (by omega)⟩
  replace hg6 : ((R : Int) == 9223372036854775808) = false := hg6
  simp only [beq_iff_eq, bne_iff_ne, ne_eq, beq_eq_false_iff_ne, bne_eq_false_iff_eq, Classical.not_not] at hg6
  refine os 8 ?_
  refine kp [49, 8, 7, 23, 6, 5, 19, 11, 4, 2, 0, 1] ?_
  refine nt ?_
  refine cf ?_
  refine SW_skip (n_then ?_)
  refine sr ?_
  refine os 1 ?_
  refine L (ld ?_)
  refine os 1 ?_
  refine oV (.int .i64 0) ?_
  refine oV (.int .u64 0) ?_
  refine oV (.int .u64 0) ?_
  refine os 2 ?_
  refine kp [59, 53, 49, 8, 7, 23, 6, 5, 19, 11, 4, 2, 0, 1] ?_
  refine L (cl (num_signed) ?_)
  rintro _ _ rfl
  refine un ?_
  refine os 1 ?_
  refine kp [4, 49, 8, 7, 23, 6, 5, 19, 11, 2, 0, 1] ?_
  refine nt ?_
  refine SW_ret ?_
  refine body_end (.int .u64 (0 + (M : Int))) (fun _ => rfl) ?_
  have hfn_ := formNear_d (m := m) (e := e) (h := h) (by omega) (by omega) hM hR
  rw [dn_if (show ¬ upIf R M h from by rintro (q | ⟨q1, q2 | q2⟩) <;> first | omega | simp_all)] at hfn_
  exact ⟨(), ow, congrArg (Value.int .u64) (by omega)⟩
 refine SW_skip (n_then ?_)
 refine SW_seq ?_
 refine sr ?_
 refine os 1 ?_
 refine oV (.bool false) ?_
 refine nt ?_
 refine cf ?_
 refine SW_skip (n_then ?_)
 refine SW_seq ?_
 obtain ⟨M, hM⟩ : ∃ M, M = m / 2 ^ 11 := ⟨_, rfl⟩
 obtain ⟨R, hR⟩ : ∃ R, R = m * 2 ^ 53 % 18446744073709551616 := ⟨_, rfl⟩
 have hdv_ := div_pow_lt (s := 11) hm (by omega)
 rw [← hM] at hdv_
 have hrl_ : R < 18446744073709551616 := by rw [hR]; exact Nat.mod_lt _ (by decide)
 refine SW_region ?_
 refine os 1 ?_
 refine L (ld ?_)
 refine os 1 ?_
 refine oV (.int .u64 (M : Int)) ?_ (hs := shrR (m := (m : Int)) (c := 11) _ (by omega) (by rw [show IntKind.u64.bits = 64 from rfl, Nat.min_eq_left (by omega)]; rw [Int.fdiv_eq_ediv_of_nonneg _ (by exact_mod_cast Nat.zero_le _), hM]; simp))
 refine os 1 ?_
 refine kp [7, 23, 19, 6, 5, 11, 4, 2, 0, 1] ?_
 refine nsr ?_
 refine os 1 ?_
 refine L (ld ?_)
 refine os 1 ?_
 refine oV (.int .i64 53) ?_
 refine oV (.int .u64 (R : Int)) ?_ (hs := shlR (m := (m : Int)) (c := 53) _ (by omega) (by rw [show IntKind.u64.bits = 64 from rfl, Nat.min_eq_left (by omega), wrap64, hR, show (53 : Int).toNat = 53 from rfl]; simp))
 refine os 1 ?_
 refine kp [8, 7, 23, 19, 6, 5, 11, 4, 2, 0, 1] ?_
 refine nq ?_
 refine sr ?_
 refine os 3 ?_
 refine tbp 38 (fun hg9 => ?_) (fun hg9 => ?_)
 ·replace hg9 : (R : Int) > 9223372036854775808 := hg9
  refine os 11 ?_
  refine kp [49, 8, 7, 23, 19, 6, 5, 11, 4, 2, 0, 1] ?_
  refine nt ?_
  refine ct ?_
  refine SW_region ?_
  refine os 3 ?_
  refine nsr ?_
  refine os 1 ?_
  refine L (ld ?_)
  refine os 3 ?_
  refine oX (.int .u64 (IntKind.wrap .u64 ((((e + 63) + 1023) - 1) * 4503599627370496))) (.int .u64 ((((e + 63) + 1023) - 1) * 4503599627370496)) (congrArg (Value.int .u64) (IntWalk.u64_in _ (by omega))) ?_
  refine os 2 ?_
  refine kp [59, 53, 7, 49, 8, 23, 19, 6, 5, 11, 4, 2, 0, 1] ?_
  refine L (cl (num_signed) ?_)
  rintro _ _ rfl
  refine un ?_
  refine os 1 ?_
  refine kp [4, 7, 49, 8, 23, 19, 6, 5, 11, 2, 0, 1] ?_
  refine nt ?_
  refine SW_ret ?_
  refine body_end (.int .u64 (((((e + 63) + 1023) - 1) * 4503599627370496) + ((M : Int) + 1))) (fun _ => rfl) ?_
  have hfn_ := formNear_n (m := m) (e := e) (h := h) (by omega) (by omega) hM hR
  rw [up_if (show upIf R M h from by first | exact .inl (by omega) | exact .inr ⟨by omega, .inl (by assumption)⟩ | exact .inr ⟨by omega, .inr (by omega)⟩)] at hfn_
  exact ⟨(), ow, congrArg (Value.int .u64) (by omega)⟩
 replace hg9 : ¬ ((R : Int) > 9223372036854775808) := hg9
 refine os 3 ?_
 refine tb 41 (fun hg10 => ?_) (fun hg10 => ?_)
 ·replace hg10 : ((R : Int) == 9223372036854775808) = true := hg10
  simp only [beq_iff_eq, bne_iff_ne, ne_eq, beq_eq_false_iff_ne, bne_eq_false_iff_eq, Classical.not_not] at hg10
  refine os 2 ?_
  refine tb 43 (fun hg11 => ?_) (fun hg11 => ?_)
  ·replace hg11 : h = true := hg11
   refine os 6 ?_
   refine kp [49, 8, 7, 23, 19, 6, 5, 11, 4, 2, 0, 1] ?_
   refine nt ?_
   refine ct ?_
   refine SW_region ?_
   refine os 3 ?_
   refine nsr ?_
   refine os 1 ?_
   refine L (ld ?_)
   refine os 3 ?_
   refine oX (.int .u64 (IntKind.wrap .u64 ((((e + 63) + 1023) - 1) * 4503599627370496))) (.int .u64 ((((e + 63) + 1023) - 1) * 4503599627370496)) (congrArg (Value.int .u64) (IntWalk.u64_in _ (by omega))) ?_
   refine os 2 ?_
   refine kp [59, 53, 7, 49, 8, 23, 19, 6, 5, 11, 4, 2, 0, 1] ?_
   refine L (cl (num_signed) ?_)
   rintro _ _ rfl
   refine un ?_
   refine os 1 ?_
   refine kp [4, 7, 49, 8, 23, 19, 6, 5, 11, 2, 0, 1] ?_
   refine nt ?_
   refine SW_ret ?_
   refine body_end (.int .u64 (((((e + 63) + 1023) - 1) * 4503599627370496) + ((M : Int) + 1))) (fun _ => rfl) ?_
   have hfn_ := formNear_n (m := m) (e := e) (h := h) (by omega) (by omega) hM hR
   rw [up_if (show upIf R M h from by first | exact .inl (by omega) | exact .inr ⟨by omega, .inl (by assumption)⟩ | exact .inr ⟨by omega, .inr (by omega)⟩)] at hfn_
   exact ⟨(), ow, congrArg (Value.int .u64) (by omega)⟩
  replace hg11 : h = false := hg11
  refine os 1 ?_
  refine oV (.int .u64 ((M % 2 : Nat) : Int)) ?_ (hs := andR (m := (M : Int)) (c := 1) _ (and1_64 M (by omega)))
  refine os 4 ?_
  refine kp [49, 8, 7, 23, 19, 6, 5, 11, 4, 2, 0, 1] ?_
  refine nt ?_
  refine cd (fun hc12 : (((M % 2 : Nat) : Int) == 1) = true => ?_) (fun hc12 => ?_)
  ·simp only [beq_iff_eq, bne_iff_ne, ne_eq, beq_eq_false_iff_ne, bne_eq_false_iff_eq, Classical.not_not] at hc12
   refine SW_region ?_
   refine os 3 ?_
   refine nsr ?_
   refine os 1 ?_
   refine L (ld ?_)
   refine os 3 ?_
   refine oX (.int .u64 (IntKind.wrap .u64 ((((e + 63) + 1023) - 1) * 4503599627370496))) (.int .u64 ((((e + 63) + 1023) - 1) * 4503599627370496)) (congrArg (Value.int .u64) (IntWalk.u64_in _ (by omega))) ?_
   refine os 2 ?_
   refine kp [59, 53, 7, 49, 8, 23, 19, 6, 5, 11, 4, 2, 0, 1] ?_
   refine L (cl (num_signed) ?_)
   rintro _ _ rfl
   refine un ?_
   refine os 1 ?_
   refine kp [4, 7, 49, 8, 23, 19, 6, 5, 11, 2, 0, 1] ?_
   refine nt ?_
   refine SW_ret ?_
   refine body_end (.int .u64 (((((e + 63) + 1023) - 1) * 4503599627370496) + ((M : Int) + 1))) (fun _ => rfl) ?_
   have hfn_ := formNear_n (m := m) (e := e) (h := h) (by omega) (by omega) hM hR
   rw [up_if (show upIf R M h from by first | exact .inl (by omega) | exact .inr ⟨by omega, .inl (by assumption)⟩ | exact .inr ⟨by omega, .inr (by omega)⟩)] at hfn_
   exact ⟨(), ow, congrArg (Value.int .u64) (by omega)⟩
  simp only [beq_iff_eq, bne_iff_ne, ne_eq, beq_eq_false_iff_ne, bne_eq_false_iff_eq, Classical.not_not] at hc12
  refine SW_skip (n_then ?_)
  refine sr ?_
  refine os 1 ?_
  refine L (ld ?_)
  refine os 3 ?_
  refine oX (.int .u64 (IntKind.wrap .u64 ((((e + 63) + 1023) - 1) * 4503599627370496))) (.int .u64 ((((e + 63) + 1023) - 1) * 4503599627370496)) (congrArg (Value.int .u64) (IntWalk.u64_in _ (by omega))) ?_
  refine os 2 ?_
  refine kp [59, 53, 49, 8, 7, 23, 19, 6, 5, 11, 4, 2, 0, 1] ?_
  refine L (cl (num_signed) ?_)
  rintro _ _ rfl
  refine un ?_
  refine os 1 ?_
  refine kp [4, 49, 8, 7, 23, 19, 6, 5, 11, 2, 0, 1] ?_
  refine nt ?_
  refine SW_ret ?_
  refine body_end (.int .u64 (((((e + 63) + 1023) - 1) * 4503599627370496) + (M : Int))) (fun _ => rfl) ?_
  have hfn_ := formNear_n (m := m) (e := e) (h := h) (by omega) (by omega) hM hR
  rw [dn_if (show ¬ upIf R M h from by rintro (q | ⟨q1, q2 | q2⟩) <;> first | omega | simp_all)] at hfn_
  exact ⟨(), ow, congrArg (Value.int .u64) (by omega)⟩
 replace hg10 : ((R : Int) == 9223372036854775808) = false := hg10
 simp only [beq_iff_eq, bne_iff_ne, ne_eq, beq_eq_false_iff_ne, bne_eq_false_iff_eq, Classical.not_not] at hg10
 refine os 8 ?_
 refine kp [49, 8, 7, 23, 19, 6, 5, 11, 4, 2, 0, 1] ?_
 refine nt ?_
 refine cf ?_
 refine SW_skip (n_then ?_)
 refine sr ?_
 refine os 1 ?_
 refine L (ld ?_)
 refine os 3 ?_
 refine oX (.int .u64 (IntKind.wrap .u64 ((((e + 63) + 1023) - 1) * 4503599627370496))) (.int .u64 ((((e + 63) + 1023) - 1) * 4503599627370496)) (congrArg (Value.int .u64) (IntWalk.u64_in _ (by omega))) ?_
 refine os 2 ?_
 refine kp [59, 53, 49, 8, 7, 23, 19, 6, 5, 11, 4, 2, 0, 1] ?_
 refine L (cl (num_signed) ?_)
 rintro _ _ rfl
 refine un ?_
 refine os 1 ?_
 refine kp [4, 49, 8, 7, 23, 19, 6, 5, 11, 2, 0, 1] ?_
 refine nt ?_
 refine SW_ret ?_
 refine body_end (.int .u64 (((((e + 63) + 1023) - 1) * 4503599627370496) + (M : Int))) (fun _ => rfl) ?_
 have hfn_ := formNear_n (m := m) (e := e) (h := h) (by omega) (by omega) hM hR
 rw [dn_if (show ¬ upIf R M h from by rintro (q | ⟨q1, q2 | q2⟩) <;> first | omega | simp_all)] at hfn_
 exact ⟨(), ow, congrArg (Value.int .u64) (by omega)⟩

theorem num_Near {W0 : World} {m : Nat} {e : Int} {h : Bool} (hm : m < 18446744073709551616) : SC Tryz.prog W0 87 #[.int .u64 (m : Int), .int .i64 e, .bool h] [] (Ret (fun _ : Unit => []) (fun v _ => v = .int .u64 (nearN m e h : Int))) := by
 refine SC_body (fn := Tryz.f87) (n := 42) Tryz.func87 rfl (by kernel_rfl) (ρ := [(0, .int .u64 (m : Int)), (1, .int .i64 e), (2, .bool h)]) rfl ?_
 have hs64_ := bitsN_le64 hm
 have hst_ := shl_top hm
 refine sr ?_
 refine os 1 ?_
 refine nsr ?_
 refine os 1 ?_
 refine oV (.int .i64 (if -5000 > e then -5000 else e)) ?_
 refine oV (.int .i64 (if 5000 < if -5000 > e then -5000 else e then 5000 else if -5000 > e then -5000 else e)) ?_
 refine os 1 ?_
 refine kp [1, 6, 0, 2] ?_
 refine nq ?_
 refine SW_seq ?_
 rw [show (if 5000 < if -5000 > e then -5000 else e then 5000 else if -5000 > e then -5000 else e : Int) = clampE e from clampE_eq e]
 have hcl_ := clampE_in e
 refine SW_region ?_
 refine os 3 ?_
 refine tb 13 (fun hg1 => ?_) (fun hg1 => ?_)
 ·replace hg1 : ((m : Int) == 0) = true := hg1
  simp only [beq_iff_eq, bne_iff_ne, ne_eq, beq_eq_false_iff_ne, bne_eq_false_iff_eq, Classical.not_not] at hg1
  refine os 2 ?_
  refine kp [15, 1, 6, 0, 2] ?_
  refine nt ?_
  refine cd (fun hc2 : (h) = true => ?_) (fun hc2 => ?_)
  ·subst hc2
   refine SW_region ?_
   refine os 5 ?_
   refine nq ?_
   refine sr ?_
   refine os 1 ?_
   refine oV (.bool false) ?_
   refine kp [19, 2, 1, 0, 15, 6] ?_
   refine nt ?_
   refine cf ?_
   refine SW_skip (n_then ?_)
   refine sr ?_
   refine os 1 ?_
   refine L (cl (str_lz64 1 (by decide)) ?_)
   rintro v1 _ hv1
   obtain rfl : v1 = .int .i64 63 := hv1.trans (by rw [lz_one])
   refine un ?_
   refine os 1 ?_
   refine nsr ?_
   refine os 2 ?_
   refine oV (.int .u64 9223372036854775808) ?_
   refine os 1 ?_
   refine kp [0, 7, 19, 2, 1, 15, 6] ?_
   refine nq ?_
   refine sr ?_
   refine os 5 ?_
   refine kp [29, 0, 7, 19, 2, 1, 15, 6] ?_
   refine nt ?_
   refine cf ?_
   refine SW_skip (n_then ?_)
   refine sr ?_
   refine os 4 ?_
   refine oV (.agg #[.bool false, .int .u64 9223372036854775808, .int .i64 (((clampE e) - 1) - 63)]) ?_
   refine os 1 ?_
   refine L (cl (num_near (m := 9223372036854775808) (e := ((clampE e) - 1) - 63) (h := false) (by omega) (by omega)) ?_)
   rintro v2 _ hv2
   obtain rfl : v2 = .int .u64 (formNear 9223372036854775808 (((clampE e) - 1) - 63) false : Int) := hv2.trans (rfl)
   refine un ?_
   refine os 1 ?_
   refine kp [6, 29, 0, 7, 19, 2, 1, 15] ?_
   refine nt ?_
   refine SW_ret ?_
   refine body_end (.int .u64 (formNear 9223372036854775808 (((clampE e) - 1) - 63) false : Int)) (fun _ => rfl) ?_
   have hm0_ : m = 0 := by omega
   subst hm0_
   exact ⟨(), ow, congrArg (Value.int .u64) (by rw [near_z])⟩
  subst hc2
  refine SW_skip (n_then ?_)
  refine SW_seq ?_
  refine sr ?_
  refine os 2 ?_
  refine nt ?_
  refine SW_true (fun _ => (congrArg Value.bool (show ((m : Int) == 0) = true from (by simp; omega)))) ?_
  refine sr ?_
  refine os 1 ?_
  refine nt ?_
  refine SW_ret (r_then ?_)
  refine body_end (.int .u64 0) (fun _ => rfl) ?_
  have hm0_ : m = 0 := by omega
  subst hm0_
  exact ⟨(), ow, congrArg (Value.int .u64) (by rw [near_0 rfl]; rfl)⟩
 replace hg1 : ((m : Int) == 0) = false := hg1
 simp only [beq_iff_eq, bne_iff_ne, ne_eq, beq_eq_false_iff_ne, bne_eq_false_iff_eq, Classical.not_not] at hg1
 refine os 2 ?_
 refine kp [15, 1, 6, 0, 2] ?_
 refine nt ?_
 refine cf ?_
 refine SW_skip (n_then ?_)
 refine SW_seq ?_
 refine sr ?_
 refine os 2 ?_
 refine nt ?_
 refine SW_false (fun _ => (congrArg Value.bool (show ((m : Int) == 0) = false from (by simp; omega)))) ?_
 refine SW_skip (n_then ?_)
 refine sr ?_
 refine os 1 ?_
 refine L (cl (str_lz64 (m : Int) (by omega)) ?_)
 rintro v3 _ hv3
 obtain rfl : v3 = .int .i64 ((64 - bitsN m : Nat) : Int) := hv3.trans (by rw [lz_eq hm])
 refine un ?_
 refine os 1 ?_
 refine kp [7, 19, 15, 1, 6, 0, 2] ?_
 refine nsr ?_
 refine os 2 ?_
 refine oV (.int .u64 ((m * 2 ^ (64 - bitsN m) : Nat) : Int)) ?_ (hs := shlR (m := (m : Int)) (c := ((64 - bitsN m : Nat) : Int)) _ (by omega) (shl_wrap (shl_top hm) (by omega)))
 refine os 1 ?_
 refine kp [0, 7, 19, 15, 1, 6, 2] ?_
 refine nq ?_
 refine sr ?_
 refine os 2 ?_
 refine tb 26 (fun hg3 => ?_) (fun hg3 => ?_)
 ·replace hg3 : h = true := hg3
  subst hg3
  refine os 3 ?_
  refine kp [29, 0, 7, 19, 15, 1, 6, 2] ?_
  refine nt ?_
  refine cdp (fun hc4 : ((64 - bitsN m : Nat) : Int) > 0 => ?_) (fun hc4 => ?_)
  ·refine SW_region ?_
   refine os 3 ?_
   refine oV (.int .u64 ((2 ^ ((64 - bitsN m) - 1) : Nat) : Int)) ?_ (hs := shlR (m := 1) (c := ((64 - bitsN m : Nat) : Int) - 1) _ (by omega) (by rw [show ((64 - bitsN m : Nat) : Int) - 1 = (((64 - bitsN m) - 1 : Nat) : Int) from by omega]; exact one_shl (by omega)))
   refine oV (.int .u64 ((m * 2 ^ (64 - bitsN m) + 2 ^ ((64 - bitsN m) - 1) : Nat) : Int)) ?_ (hs := orR (m := ((m * 2 ^ (64 - bitsN m) : Nat) : Int)) (c := ((2 ^ ((64 - bitsN m) - 1) : Nat) : Int)) _ (or_half (by omega) (shl_half (shl_top hm) (by omega) (by omega))))
   refine os 2 ?_
   refine kp [2, 0, 29, 7, 19, 15, 1, 6] ?_
   refine nsr ?_
   refine os 4 ?_
   refine oV (.agg #[.bool false, .int .u64 ((m * 2 ^ (64 - bitsN m) + 2 ^ ((64 - bitsN m) - 1) : Nat) : Int), .int .i64 ((clampE e) - ((64 - bitsN m : Nat) : Int))]) ?_
   refine os 1 ?_
   refine L (cl (num_near (m := m * 2 ^ (64 - bitsN m) + 2 ^ ((64 - bitsN m) - 1)) (e := (clampE e) - ((64 - bitsN m : Nat) : Int)) (h := false) (shl_half (shl_top hm) (by omega) (by omega)) (by omega)) ?_)
   rintro v4 _ hv4
   obtain rfl : v4 = .int .u64 (formNear (m * 2 ^ (64 - bitsN m) + 2 ^ ((64 - bitsN m) - 1)) ((clampE e) - ((64 - bitsN m : Nat) : Int)) false : Int) := hv4.trans (rfl)
   refine un ?_
   refine os 1 ?_
   refine kp [6, 2, 0, 29, 7, 19, 15, 1] ?_
   refine nt ?_
   refine SW_ret ?_
   refine body_end (.int .u64 (formNear (m * 2 ^ (64 - bitsN m) + 2 ^ ((64 - bitsN m) - 1)) ((clampE e) - ((64 - bitsN m : Nat) : Int)) false : Int)) (fun _ => rfl) ?_
   exact ⟨(), ow, congrArg (Value.int .u64) (by rw [near_half (by omega) rfl (by omega)])⟩
  refine SW_skip (n_then ?_)
  refine sr ?_
  refine os 4 ?_
  refine oV (.agg #[.bool false, .int .u64 ((m * 2 ^ (64 - bitsN m) : Nat) : Int), .int .i64 ((clampE e) - ((64 - bitsN m : Nat) : Int))]) ?_
  refine os 1 ?_
  refine L (cl (num_near (m := m * 2 ^ (64 - bitsN m)) (e := (clampE e) - ((64 - bitsN m : Nat) : Int)) (h := true) (by omega) (by omega)) ?_)
  rintro v5 _ hv5
  obtain rfl : v5 = .int .u64 (formNear (m * 2 ^ (64 - bitsN m)) ((clampE e) - ((64 - bitsN m : Nat) : Int)) true : Int) := hv5.trans (rfl)
  refine un ?_
  refine os 1 ?_
  refine kp [6, 29, 0, 7, 19, 15, 1, 2] ?_
  refine nt ?_
  refine SW_ret ?_
  refine body_end (.int .u64 (formNear (m * 2 ^ (64 - bitsN m)) ((clampE e) - ((64 - bitsN m : Nat) : Int)) true : Int)) (fun _ => rfl) ?_
  exact ⟨(), ow, congrArg (Value.int .u64) (by rw [near_up (by omega) (by rintro ⟨q1, q2⟩; first | omega | simp_all)])⟩
 replace hg3 : h = false := hg3
 subst hg3
 refine os 3 ?_
 refine kp [29, 0, 7, 19, 15, 1, 6, 2] ?_
 refine nt ?_
 refine cf ?_
 refine SW_skip (n_then ?_)
 refine sr ?_
 refine os 4 ?_
 refine oV (.agg #[.bool false, .int .u64 ((m * 2 ^ (64 - bitsN m) : Nat) : Int), .int .i64 ((clampE e) - ((64 - bitsN m : Nat) : Int))]) ?_
 refine os 1 ?_
 refine L (cl (num_near (m := m * 2 ^ (64 - bitsN m)) (e := (clampE e) - ((64 - bitsN m : Nat) : Int)) (h := false) (by omega) (by omega)) ?_)
 rintro v6 _ hv6
 obtain rfl : v6 = .int .u64 (formNear (m * 2 ^ (64 - bitsN m)) ((clampE e) - ((64 - bitsN m : Nat) : Int)) false : Int) := hv6.trans (rfl)
 refine un ?_
 refine os 1 ?_
 refine kp [6, 29, 0, 7, 19, 15, 1, 2] ?_
 refine nt ?_
 refine SW_ret ?_
 refine body_end (.int .u64 (formNear (m * 2 ^ (64 - bitsN m)) ((clampE e) - ((64 - bitsN m : Nat) : Int)) false : Int)) (fun _ => rfl) ?_
 exact ⟨(), ow, congrArg (Value.int .u64) (by rw [near_up (by omega) (by rintro ⟨q1, q2⟩; first | omega | simp_all)])⟩

end Go.Proofs.YtnhmmjogfkjceaaGreatDoor
namespace Go.Proofs.YtnhmmjogfkjceaaGreatDoor
open Go.Sl

theorem num_upZ {W0 : World} {a : Gs} {a0 n : Nat} {z : Int} (hz : z = (n : Int)) (hk : Gs.ok 1 (lim a0).length a ((lim a0).map encP)) (hs0 : (lim a0).length ≤ 1048576) (hn : n ≤ 33554431) : SC Tryz.prog W0 120 #[a.val (lim a0).length, .int .i64 z] (Gs.ent 87 1 a ((lim a0).map encP)) (Ret (fun g : Gs => Gs.ent 87 1 g ((lim (a0 * 2 ^ n)).map encP) ++ (Gs.ent 87 1 a ((lim a0).map encP))) (fun v g => v = g.val (lim (a0 * 2 ^ n)).length ∧ Gs.ok 1 (lim (a0 * 2 ^ n)).length g ((lim (a0 * 2 ^ n)).map encP))) := by
 subst hz
 have := num_up (W0 := W0) (k := n / 32) (s := n % 32) hk hs0 (by omega) (by omega)
 rw [show 32 * (n / 32) + n % 32 = n by omega] at this
 exact this

theorem num_rounded {W0 : World} {a b : Gs} {p0 q0 : Nat} (hk : Gs.ok 1 (lim p0).length a ((lim p0).map encP)) (hkb : Gs.ok 1 (lim q0).length b ((lim q0).map encP)) (hp : bitsN p0 ≤ 8192) (hq : bitsN q0 ≤ 8192) : SC Tryz.prog W0 90 #[a.val (lim p0).length, b.val (lim q0).length] (Gs.ent 87 1 a ((lim p0).map encP) ++ Gs.ent 87 1 b ((lim q0).map encP)) (Ret (fun _ : Unit => []) (fun v _ => v = .int .u64 (roundN p0 q0 : Int))) := by
 refine SC_body (fn := Tryz.f90) (n := 48) Tryz.func90 rfl (by kernel_rfl) (ρ := [(0, Gs.val a ((lim p0).length)), (1, Gs.val b ((lim q0).length))]) rfl ?_
 refine SW_sig ((Gs.ent 87 1 a ((lim p0).map encP)) ++ ((Gs.ent 87 1 b ((lim q0).map encP)) ++ ([]))) (by simp only [List.append_nil, List.append_assoc]) ?_
 refine sr ?_
 refine os 1 ?_
 refine nsr ?_
 refine os 1 ?_
 refine L (cl (num_size (a0 := p0) hk (by first | exact hbq_ | exact hbp_ | exact len_bits (by omega))) ?_)
 rintro _ _ rfl
 refine os 2 ?_
 refine L (cl (num_size (a0 := q0) hkb (by first | exact hbq_ | exact hbp_ | exact len_bits (by omega))) ?_)
 rintro _ _ rfl
 refine os 2 ?_
 refine kp [5, 4, 0, 1] ?_
 refine nq ?_
 have hbp0_ := bitsN_mul_pow p0 (63 - (bitsN p0 : Int) + (bitsN q0 : Int)).toNat
 have hbq0_ := bitsN_mul_pow q0 (-(63 - (bitsN p0 : Int) + (bitsN q0 : Int))).toNat
 have hbt0_ := bitsN_mul_pow (q0 * 2 ^ (-(63 - (bitsN p0 : Int) + (bitsN q0 : Int))).toNat) 63
 have hbp_ : (lim (p0 * 2 ^ (63 - (bitsN p0 : Int) + (bitsN q0 : Int)).toNat)).length ≤ 1048576 := len_bits (by omega)
 have hbt_ : (lim (q0 * 2 ^ (-(63 - (bitsN p0 : Int) + (bitsN q0 : Int))).toNat * 2 ^ 63)).length ≤ 1048576 := len_bits (by omega)
 have hbq_ : (lim (q0 * 2 ^ (-(63 - (bitsN p0 : Int) + (bitsN q0 : Int))).toNat)).length ≤ 1048576 := len_bits (by omega)
 refine SW_region ?_
 refine os 2 ?_
 refine oV (.int .i64 (if 0 > (63 - (bitsN p0 : Int)) + (bitsN q0 : Int) then 0 else (63 - (bitsN p0 : Int)) + (bitsN q0 : Int))) ?_
 refine L (cl (num_upZ (n := ((63 - (bitsN p0 : Int)) + (bitsN q0 : Int)).toNat) (max0_eq _) hk (by first | exact hbq_ | exact hbp_ | exact len_bits (by omega)) (by omega)) ?_)
 rintro _ u1 ⟨rfl, hku1⟩
 refine un ?_
 refine os 2 ?_
 refine oX (.int .i64 (IntKind.wrap .i64 (0 - ((63 - (bitsN p0 : Int)) + (bitsN q0 : Int))))) (.int .i64 (-((63 - (bitsN p0 : Int)) + (bitsN q0 : Int)))) (congrArg (Value.int .i64) ((IntWalk.i64_in _ (by omega)).trans (Int.zero_sub _))) ?_
 refine oV (.int .i64 (if 0 > -((63 - (bitsN p0 : Int)) + (bitsN q0 : Int)) then 0 else -((63 - (bitsN p0 : Int)) + (bitsN q0 : Int)))) ?_
 refine L (cl (num_upZ (n := (-((63 - (bitsN p0 : Int)) + (bitsN q0 : Int))).toNat) (max0_eq _) hkb (by first | exact hbq_ | exact hbp_ | exact len_bits (by omega)) (by omega)) ?_)
 rintro _ u2 ⟨rfl, hku2⟩
 refine un ?_
 refine os 2 ?_
 refine kp [1, 0, 5, 4] ?_
 refine nsr ?_
 refine os 1 ?_
 refine L (cl (num_upZ (n := 63) rfl hku2 (by first | exact hbq_ | exact hbp_ | exact len_bits (by omega)) (by omega)) ?_)
 rintro _ u3 ⟨rfl, hku3⟩
 refine un ?_
 refine os 1 ?_
 refine nsr ?_
 refine os 1 ?_
 refine nq ?_
 refine sr ?_
 refine os 1 ?_
 refine nt ?_
 refine SW_block ?_
 refine SW_loop (α := Nat × Gs × Gs × Nat × Nat × Nat) (fun z_ ρ_ σ_ => Fits ρ_ σ_ [(0, Gs.val z_.2.1 ((lim z_.2.2.2.1).length)), (6, Gs.val z_.2.2.1 ((lim z_.2.2.2.2.1).length)), (5, .int .i64 ((63 - (bitsN p0 : Int)) + (bitsN q0 : Int))), (7, .int .u64 (z_.2.2.2.2.2 : Int)), (25, .int .i64 (z_.1 : Int))] ((Gs.ent 87 1 z_.2.1 ((lim z_.2.2.2.1).map encP)) ++ ((Gs.ent 87 1 z_.2.2.1 ((lim z_.2.2.2.2.1).map encP)) ++ ([]))) ∧ z_.1 ≤ 64 ∧ Gs.ok 1 (lim z_.2.2.2.1).length z_.2.1 ((lim z_.2.2.2.1).map encP) ∧ Gs.ok 1 (lim z_.2.2.2.2.1).length z_.2.2.1 ((lim z_.2.2.2.2.1).map encP) ∧ (z_.2.2.2.1 ≤ (p0 * 2 ^ (63 - (bitsN p0 : Int) + (bitsN q0 : Int)).toNat) ∧ z_.2.2.2.2.1 ≤ (q0 * 2 ^ (-(63 - (bitsN p0 : Int) + (bitsN q0 : Int))).toNat * 2 ^ 63) ∧ z_.2.2.2.2.2 < 18446744073709551616) ∧ divN (64 - z_.1) z_.2.2.2.1 z_.2.2.2.2.1 z_.2.2.2.2.2 = divN 64 (p0 * 2 ^ (63 - (bitsN p0 : Int) + (bitsN q0 : Int)).toNat) (q0 * 2 ^ (-(63 - (bitsN p0 : Int) + (bitsN q0 : Int))).toNat * 2 ^ 63) 0) (fun z_ => 64 - z_.1) (0, u1, u3, (p0 * 2 ^ (((63 - (bitsN p0 : Int)) + (bitsN q0 : Int)).toNat)), ((q0 * 2 ^ ((-((63 - (bitsN p0 : Int)) + (bitsN q0 : Int))).toNat)) * 2 ^ 63), 0) ⟨⟨fun _ => rfl, ow⟩, by omega, hku1, hku3, ⟨Nat.le_refl _, Nat.le_refl _, (show 0 < 18446744073709551616 by decide)⟩, rfl⟩ ?_
 rintro ⟨i, x, y, p, t, m⟩ ρ_ σ_ ⟨hfit, hi0, hi1, hi2, hi3, hi4⟩
 refine SW_fits hfit ?_
 clear hfit
 simp only [] at hi0 hi1 hi2 hi3 hi4 ⊢
 obtain ⟨hp_, ht_, hm_⟩ := hi3
 have hlp_ := len_mono hp_ hbp_
 have hlt_ := len_mono ht_ hbt_
 refine sr ?_
 refine os 1 ?_
 refine nq ?_
 refine cdp (fun hc4 : (i : Int) < 64 => ?_) (fun hc4 => ?_)
 ·refine SW_skip (n_then ?_)
  refine SW_seq ?_
  refine SW_block ?_
  refine sr ?_
  refine os 1 ?_
  refine oV (.int .u64 ((m * 2 % 18446744073709551616 : Nat) : Int)) ?_ (hs := shlR (m := (m : Int)) (c := 1) _ (by decide) (shl_one m))
  refine os 1 ?_
  refine nq ?_
  refine sr ?_
  refine os 2 ?_
  refine L (cl (num_order (a0 := p) (b0 := t) hi1 hi2 hlp_) ?_)
  rintro _ _ rfl
  refine un ?_
  refine os 1 ?_
  refine kp [32, 7, 26, 0, 6, 5, 25] ?_
  refine nt ?_
  refine cdp (fun hc5 : (cmpN p t) ≥ 0 => ?_) (fun hc5 => ?_)
  ·refine sr ?_
   refine os 2 ?_
   refine L (cl (num_less (a0 := p) (b0 := t) hi1 hi2 hlp_ (cmp_ge hc5)) ?_)
   rintro _ u6 ⟨rfl, hku6⟩
   refine un ?_
   refine os 1 ?_
   refine kp [0, 32, 7, 26, 6, 5, 25] ?_
   refine nr ?_
   refine os 1 ?_
   refine oV (.int .u64 ((m * 2 % 18446744073709551616 + 1 : Nat) : Int)) ?_ (hs := orR (m := ((m * 2 % 18446744073709551616 : Nat) : Int)) (c := 1) _ (or_one m))
   refine os 1 ?_
   refine nr ?_
   refine os 1 ?_
   refine L (cl (num_half (a0 := t) hi2 hlt_) ?_)
   rintro _ u7 ⟨rfl, hku7⟩
   refine un ?_
   refine os 1 ?_
   refine kp [6, 7, 0, 32, 26, 5, 25] ?_
   refine SL_nil (n_in (n_then ?_))
   refine SW_region ?_
   refine os 2 ?_
   refine nt ?_
   obtain ⟨k, hk_⟩ : ∃ k, 64 - i = k + 1 := ⟨63 - i, by omega⟩
   rw [hk_, divN_step1 (cmp_ge hc5)] at hi4
   refine ⟨(i + 1, u6, u7, (p - t), (t / 2), m * 2 % 18446744073709551616 + 1), by simp only []; omega, ?_⟩
   simp only []
   exact ⟨⟨fun _ => rfl, ow⟩, by omega, hku6, hku7, ⟨by omega, by omega, by omega⟩, by rw [show 64 - (i + 1) = k from by omega]; exact hi4⟩
  refine SW_skip (n_then ?_)
  refine SW_region ?_
  refine os 1 ?_
  refine L (cl (num_half (a0 := t) hi2 hlt_) ?_)
  rintro _ u8 ⟨rfl, hku8⟩
  refine un ?_
  refine os 1 ?_
  refine SL_nil (n_in (n_then ?_))
  refine SW_region ?_
  refine os 2 ?_
  refine kp [25, 6, 32, 7, 26, 0, 5] ?_
  refine nt ?_
  obtain ⟨k, hk_⟩ : ∃ k, 64 - i = k + 1 := ⟨63 - i, by omega⟩
  rw [hk_, divN_step0 (cmp_nge hc5)] at hi4
  refine ⟨(i + 1, x, u8, p, (t / 2), m * 2 % 18446744073709551616), by simp only []; omega, ?_⟩
  simp only []
  exact ⟨⟨fun _ => rfl, ow⟩, by omega, hi1, hku8, ⟨by omega, by omega, by omega⟩, by rw [show 64 - (i + 1) = k from by omega]; exact hi4⟩
 refine SW_exit (x_then (x_then (x_in (n_then ?_))))
 refine sr ?_
 refine os 2 ?_
 refine oX (.int .i64 (IntKind.wrap .i64 (0 - ((63 - (bitsN p0 : Int)) + (bitsN q0 : Int))))) (.int .i64 (-((63 - (bitsN p0 : Int)) + (bitsN q0 : Int)))) (congrArg (Value.int .i64) ((IntWalk.i64_in _ (by omega)).trans (Int.zero_sub _))) ?_
 refine os 3 ?_
 refine L (cl (num_Near (m := m) (by omega)) ?_)
 rintro _ _ rfl
 refine un ?_
 refine os 1 ?_
 refine kp [4, 26, 0, 6, 5, 7, 25] ?_
 refine nt ?_
 refine SW_ret ?_
 refine body_end (.int .u64 (nearN m (-((63 - (bitsN p0 : Int)) + (bitsN q0 : Int))) (decide (((((lim p).length : Nat)) : Int) > 0)) : Int)) (fun _ => rfl) ?_
 have hin_ : i = 64 := by omega
 rw [hin_, show 64 - 64 = 0 from rfl] at hi4
 exact ⟨(), ow, congrArg (Value.int .u64) (by rw [roundN_eq hi4])⟩

end Go.Proofs.YtnhmmjogfkjceaaGreatDoor
namespace Go.Proofs.YtnhmmjogfkjceaaGreatDoor
open Go.Sl

theorem num_figures {W0 : World} {X : Bytes} (hX : X.length ≤ 4611686018427387904) : SC Tryz.prog W0 88 #[.string (bS X)] [] (Ret (fun _ : Unit => []) (fun v _ => v = .tuple #[.string (bS (X.takeWhile isDig)), .string (bS (X.dropWhile isDig))])) := by
 refine SC_body (fn := Tryz.f88) (n := 15) Tryz.func88 rfl (by kernel_rfl) (ρ := [(0, .string (bS X))]) rfl ?_
 have hdl_ := dropWhile_len isDig X
 refine sr ?_
 refine os 2 ?_
 refine nsr ?_
 refine os 1 ?_
 refine L (cl (str_TrimLeft X [48, 49, 50, 51, 52, 53, 54, 55, 56, 57] (by decide) (by decide)) ?_)
 rintro v1 _ hv1
 obtain rfl : v1 = .string (bS (X.dropWhile isDig)) := hv1.trans (congrArg (fun l_ => Value.string (bS l_)) (trimLeft_digs X))
 refine un ?_
 refine os 1 ?_
 refine nsr ?_
 refine os 2 ?_
 refine oX (.int .i64 ((bS X).size : Int)) (.int .i64 (X.length : Int)) (congrArg (fun n_ : Nat => Value.int .i64 (n_ : Int)) (bS_size _)) ?_
 refine os 1 ?_
 refine oX (.int .i64 ((bS (X.dropWhile isDig)).size : Int)) (.int .i64 ((X.dropWhile isDig).length : Int)) (congrArg (fun n_ : Nat => Value.int .i64 (n_ : Int)) (bS_size _)) ?_
 refine os 1 ?_
 refine kp [12, 7, 4, 3, 2, 0] ?_
 refine L (O_val (.string (bS (X.take ((X.length : Int) - ((X.dropWhile isDig).length : Int)).toNat))) rfl (fun δ w _ => run_strTo (l := X) ((X.length : Int) - ((X.dropWhile isDig).length : Int)) .i64 Tryz.underlying9 rfl rfl (by omega) (by omega)) ?_)
 rw [show ((X.length : Int) - ((X.dropWhile isDig).length : Int)).toNat = (X.length - (X.dropWhile isDig).length) from by omega]
 refine os 3 ?_
 refine kp [3, 2, 4, 0] ?_
 refine nt ?_
 refine SW_ret ?_
 refine body_end (.tuple #[.string (bS (X.take (X.length - (X.dropWhile isDig).length))), .string (bS (X.dropWhile isDig))]) (fun _ => rfl) ?_
 exact ⟨(), ow, by rw [take_drop_len]⟩

theorem num_decimal {W0 : World} {X : Bytes} (hX : X.length ≤ 4611686018427387904) : SC Tryz.prog W0 41 #[.string (bS X)] [] (Ret (fun _ : Unit => []) (fun v _ => v = numV (decP X))) := by
 refine SC_body (fn := Tryz.f41) (n := 100) Tryz.func41 rfl (by kernel_rfl) (ρ := [(0, .string (bS X))]) rfl ?_
 have hdd_ := dropWhile_len isDig X
 refine sr ?_
 refine L (nw 62 3 [.string (bS []), .string (bS []), .int .i64 0] ?_)
 intro b1
 refine os 1 ?_
 refine nsr ?_
 refine L (nw 62 3 [.string (bS []), .string (bS []), .int .i64 0] ?_)
 intro b2
 refine nsr ?_
 refine os 1 ?_
 refine L (cl (num_figures (X := X) (by first | omega | (simp; omega))) ?_)
 rintro _ _ rfl
 refine un ?_
 refine os 4 ?_
 refine L (st [.string (bS (X.takeWhile isDig)), .string (bS []), .int .i64 0] ?_)
 refine os 1 ?_
 refine kp [0, 4, 3, 2] ?_
 refine nq ?_
 refine SW_seq ?_
 refine SW_cut3 (fun ρ_ σ_ => Fits ρ_ σ_ [(2, pt b1 0), (3, .bool false), (4, pt b2 0), (0, .string (bS (fracP (X.dropWhile isDig)).2))] ((b2, .cells 62 3 [.string (bS (X.takeWhile isDig)), .string (bS (fracP (X.dropWhile isDig)).1), .int .i64 0]) :: ((b1, .cells 62 3 [.string (bS []), .string (bS []), .int .i64 0]) :: ([])))) ?_ ?_
 ·refine SW_region ?_
  refine os 1 ?_
  refine L (cl (str_HasPrefix (X.dropWhile isDig) [46]) ?_)
  rintro _ _ rfl
  refine un ?_
  refine nt ?_
  refine cd (fun hc3 : (Lib.hasPrefix (X.dropWhile isDig) [46]) = true => ?_) (fun hc3 => ?_)
  ·obtain ⟨r_, hr_⟩ := pre_dot hc3
   have hdl_ : 1 ≤ (X.dropWhile isDig).length := by rw [hr_]; simp
   refine SW_region ?_
   refine os 1 ?_
   refine L (O_val (.string (bS ((X.dropWhile isDig).drop 1))) rfl (fun δ w _ => run_strFrom (l := (X.dropWhile isDig)) 1 .i64 Tryz.underlying9 rfl rfl (by omega) (by omega)) ?_)
   refine L (cl (num_figures (X := ((X.dropWhile isDig).drop 1)) (by first | omega | (simp; omega))) ?_)
   rintro _ _ rfl
   refine un ?_
   refine os 4 ?_
   refine L (st [.string (bS (X.takeWhile isDig)), .string (bS (((X.dropWhile isDig).drop 1).takeWhile isDig)), .int .i64 0] ?_)
   refine os 1 ?_
   refine kp [0, 17, 4, 3, 2] ?_
   refine nt ?_
   have hfp_ : fracP (X.dropWhile isDig) = (((X.dropWhile isDig).drop 1).takeWhile isDig, ((X.dropWhile isDig).drop 1).dropWhile isDig) := by rw [hr_]; rfl
   rw [hfp_]
   exact ⟨fun _ => rfl, ow⟩
  refine SW_skip (n_then ?_)
  rw [fracP_no (by simpa using hc3)]
  exact ⟨fun _ => rfl, ow⟩
 ·rintro ρ_ σ_ hfit
  refine SW_fits hfit ?_
  clear hfit
  refine SW_seq ?_
  refine SW_seq ?_
  have hRl_ : (fracP (X.dropWhile isDig)).2.length ≤ X.length := Nat.le_trans (fracP_len _).2 (dropWhile_len _ _)
  generalize hB_ : (fracP (X.dropWhile isDig)).1 = B
  generalize hR_ : (fracP (X.dropWhile isDig)).2 = R at hRl_ ⊢
  generalize hA_ : X.takeWhile isDig = A
  refine SW_cut3 (fun ρ_ σ_ => Fits ρ_ σ_ [(2, pt b1 0), (3, .bool false), (4, pt b2 0), (0, .string (bS R))] ((b2, .cells 62 3 [.string (bS A), .string (bS B), .int .i64 0]) :: ((b1, .cells 62 3 [.string (bS []), .string (bS []), .int .i64 0]) :: ([]))) ∧ (¬ (A = [] ∧ B = []))) ?_ ?_
  ·refine SW_region ?_
   refine os 1 ?_
   refine L (ld ?_)
   refine oX (.bool ((bS A).toList == (bS []).toList)) (.bool (decide (A = []))) (congrArg Value.bool (by rw [strB_eq])) ?_
   refine os 1 ?_
   refine tbp 28 (fun hg4 => ?_) (fun hg4 => ?_)
   ·replace hg4 : A = [] := hg4
    refine os 1 ?_
    refine L (ld ?_)
    refine oX (.bool ((bS B).toList == (bS []).toList)) (.bool (decide (B = []))) (congrArg Value.bool (by rw [strB_eq])) ?_
    refine os 1 ?_
    refine kp [32, 2, 3, 4, 0] ?_
    refine nt ?_
    refine cdp (fun hc5 : B = [] => ?_) (fun hc5 => ?_)
    ·refine sr ?_
     refine L (lds 3 ?_)
     refine L (st [.string (bS A), .string (bS B), .int .i64 0] ?_)
     refine os 1 ?_
     refine nt ?_
     refine SW_ret (r_then ?_)
     refine body_endC [.agg #[.string (bS A), .string (bS B), .int .i64 0], .bool false] (fun _ => (.cons ⟨b1, 0, rfl, .inl ⟨[.string (bS A), .string (bS B), .int .i64 0], by kernel_rfl, (cells_cons (Cell.own mem_z rfl) (cells_cons (Cell.own mem_z rfl) (cells_cons (Cell.own mem_z rfl) cells_nil))), rfl⟩⟩ (.cons rfl .nil))) ?_
     exact ⟨(), ow, by rw [decP_none hA_ hB_ ⟨by assumption, by assumption⟩]; rfl⟩
    refine SW_skip (n_then ?_)
    exact ⟨⟨fun _ => rfl, ow⟩, fun q => by first | exact absurd q.1 (by assumption) | exact absurd q.2 (by assumption)⟩
   replace hg4 : ¬ (A = []) := hg4
   refine os 4 ?_
   refine kp [32, 2, 3, 4, 0] ?_
   refine nt ?_
   refine cf ?_
   refine SW_skip (n_then ?_)
   exact ⟨⟨fun _ => rfl, ow⟩, fun q => by first | exact absurd q.1 (by assumption) | exact absurd q.2 (by assumption)⟩
  ·rintro ρ_ σ_ ⟨hfit, hab_⟩
   refine SW_fits hfit ?_
   clear hfit
   refine SW_seq ?_
   refine sr ?_
   refine os 1 ?_
   refine oX (.bool ((bS R).toList == (bS []).toList)) (.bool (decide (R = []))) (congrArg Value.bool (by rw [strB_eq])) ?_
   refine nt ?_
   refine cdp (fun hc6 : R = [] => ?_) (fun hc6 => ?_)
   ·refine sr ?_
    refine L (lds 3 ?_)
    refine L (st [.string (bS A), .string (bS B), .int .i64 0] ?_)
    refine os 1 ?_
    refine nt ?_
    refine SW_ret (r_then ?_)
    refine body_endC [.agg #[.string (bS A), .string (bS B), .int .i64 0], .bool true] (fun _ => (.cons ⟨b1, 0, rfl, .inl ⟨[.string (bS A), .string (bS B), .int .i64 0], by kernel_rfl, (cells_cons (Cell.own mem_z rfl) (cells_cons (Cell.own mem_z rfl) (cells_cons (Cell.own mem_z rfl) cells_nil))), rfl⟩⟩ (.cons rfl .nil))) ?_
    exact ⟨(), ow, by rw [decP_end hA_ hB_ hR_ hab_ (by assumption)]; rfl⟩
   refine SW_skip (n_then ?_)
   refine SW_seq ?_
   refine SW_seq ?_
   have hpos_ : 0 < R.length := List.length_pos_iff.2 hc6
   obtain ⟨c, hc0_⟩ : ∃ y_, R[0]? = some y_ := ⟨_, List.getElem?_eq_getElem hpos_⟩
   have hcr_ := cons_of_at hc0_
   refine SW_cut3 (fun ρ_ σ_ => Fits ρ_ σ_ [(2, pt b1 0), (3, .bool false), (4, pt b2 0), (0, .string (bS R))] ((b2, .cells 62 3 [.string (bS A), .string (bS B), .int .i64 0]) :: ((b1, .cells 62 3 [.string (bS []), .string (bS []), .int .i64 0]) :: ([]))) ∧ (c = 101 ∨ c = 69)) ?_ ?_
   ·refine SW_region ?_
    refine os 1 ?_
    refine ixb 0 R .i64 c Tryz.underlying9 hc0_ ?_
    refine os 2 ?_
    refine tb 40 (fun hg7 => ?_) (fun hg7 => ?_)
    ·replace hg7 : ((c.toNat : Int) != 101) = true := hg7
     simp only [beq_iff_eq, bne_iff_ne, ne_eq, beq_eq_false_iff_ne, bne_eq_false_iff_eq, Classical.not_not] at hg7
     refine os 1 ?_
     refine ixb 0 R .i64 c Tryz.underlying9 hc0_ ?_
     refine os 2 ?_
     refine kp [44, 35, 2, 3, 4, 0] ?_
     refine nt ?_
     refine cd (fun hc8 : ((c.toNat : Int) != 69) = true => ?_) (fun hc8 => ?_)
     ·simp only [beq_iff_eq, bne_iff_ne, ne_eq, beq_eq_false_iff_ne, bne_eq_false_iff_eq, Classical.not_not] at hc8
      refine sr ?_
      refine L (lds 3 ?_)
      refine L (st [.string (bS A), .string (bS B), .int .i64 0] ?_)
      refine os 1 ?_
      refine nt ?_
      refine SW_ret (r_then ?_)
      refine body_endC [.agg #[.string (bS A), .string (bS B), .int .i64 0], .bool false] (fun _ => (.cons ⟨b1, 0, rfl, .inl ⟨[.string (bS A), .string (bS B), .int .i64 0], by kernel_rfl, (cells_cons (Cell.own mem_z rfl) (cells_cons (Cell.own mem_z rfl) (cells_cons (Cell.own mem_z rfl) cells_nil))), rfl⟩⟩ (.cons rfl .nil))) ?_
      exact ⟨(), ow, by rw [decP_other hA_ hB_ hR_ hab_ hcr_ ⟨fun q => by subst q; simp at *, fun q => by subst q; simp at *⟩]; rfl⟩
     simp only [beq_iff_eq, bne_iff_ne, ne_eq, beq_eq_false_iff_ne, bne_eq_false_iff_eq, Classical.not_not] at hc8
     refine SW_skip (n_then ?_)
     exact ⟨⟨fun _ => rfl, ow⟩, by first | exact .inl ((u8_eq (n := 101) (by decide)).1 (by omega)) | exact .inr ((u8_eq (n := 69) (by decide)).1 (by omega))⟩
    replace hg7 : ((c.toNat : Int) != 101) = false := hg7
    simp only [beq_iff_eq, bne_iff_ne, ne_eq, beq_eq_false_iff_ne, bne_eq_false_iff_eq, Classical.not_not] at hg7
    refine os 4 ?_
    refine kp [44, 35, 2, 3, 4, 0] ?_
    refine nt ?_
    refine cf ?_
    refine SW_skip (n_then ?_)
    exact ⟨⟨fun _ => rfl, ow⟩, by first | exact .inl ((u8_eq (n := 101) (by decide)).1 (by omega)) | exact .inr ((u8_eq (n := 69) (by decide)).1 (by omega))⟩
   ·rintro ρ_ σ_ ⟨hfit, hce_⟩
    refine SW_fits hfit ?_
    clear hfit
    refine sr ?_
    refine os 1 ?_
    refine L (O_val (.string (bS (R.drop 1))) rfl (fun δ w _ => run_strFrom (l := R) 1 .i64 Tryz.underlying9 rfl rfl (by omega) (by omega)) ?_)
    refine os 1 ?_
    refine nsr ?_
    refine os 1 ?_
    refine nq ?_
    refine SW_seq ?_
    have hrl_ : (R.drop 1).length ≤ X.length := by rw [List.length_drop]; omega
    generalize hr_ : R.drop 1 = r at hrl_ hcr_ ⊢
    refine SW_cut3 (fun ρ_ σ_ => Fits ρ_ σ_ [(2, pt b1 0), (3, .bool false), (4, pt b2 0), (0, .string (bS (wayP r).2)), (5, .int .i64 ((wayP r).1))] ((b2, .cells 62 3 [.string (bS A), .string (bS B), .int .i64 0]) :: ((b1, .cells 62 3 [.string (bS []), .string (bS []), .int .i64 0]) :: ([])))) ?_ ?_
    ·refine SW_region ?_
     refine os 1 ?_
     refine oX (.bool (!((bS r).toList == (bS []).toList))) (.bool (!(decide (r = [])))) (congrArg Value.bool (by rw [strB_eq])) ?_
     refine os 1 ?_
     refine tb 50 (fun hg9 => ?_) (fun hg9 => ?_)
     ·replace hg9 : (!(decide (r = []))) = true := hg9
      replace hg9 := bnot_t hg9
      replace hg9 := of_decide_eq_false hg9
      have hrp_ : 0 < r.length := List.length_pos_iff.2 hg9
      refine os 1 ?_
      obtain ⟨e1, he1⟩ : ∃ y_, r[0]? = some y_ := ⟨_, List.getElem?_eq_getElem (by omega)⟩
      refine ixb 0 r .i64 e1 Tryz.underlying9 he1 ?_
      refine os 2 ?_
      refine kp [54, 50, 5, 0, 2, 3, 4] ?_
      refine tb 54 (fun hg10 => ?_) (fun hg10 => ?_)
      ·replace hg10 : ((e1.toNat : Int) == 43) = true := hg10
       simp only [beq_iff_eq, bne_iff_ne, ne_eq, beq_eq_false_iff_ne, bne_eq_false_iff_eq, Classical.not_not] at hg10
       refine os 5 ?_
       refine kp [59, 5, 0, 2, 3, 4] ?_
       refine nt ?_
       refine ct ?_
       refine sr ?_
       refine os 1 ?_
       refine ixb 0 r .i64 e1 Tryz.underlying9 he1 ?_
       refine os 3 ?_
       refine kp [5, 59, 0, 2, 3, 4] ?_
       refine nr ?_
       refine os 1 ?_
       refine L (O_val (.string (bS (r.drop 1))) rfl (fun δ w _ => run_strFrom (l := r) 1 .i64 Tryz.underlying9 rfl rfl (by omega) (by omega)) ?_)
       refine os 1 ?_
       refine nt ?_
       have hw_ := wayP_hit he1 (by first | exact .inl ((u8_eq (n := 43) (by decide)).1 (by omega)) | exact .inr ((u8_eq (n := 45) (by decide)).1 (by omega)))
       rw [hw_]
       exact ⟨fun _ => rfl, ow⟩
      replace hg10 : ((e1.toNat : Int) == 43) = false := hg10
      simp only [beq_iff_eq, bne_iff_ne, ne_eq, beq_eq_false_iff_ne, bne_eq_false_iff_eq, Classical.not_not] at hg10
      refine os 1 ?_
      refine ixb 0 r .i64 e1 Tryz.underlying9 he1 ?_
      refine os 3 ?_
      refine kp [59, 5, 0, 2, 3, 4] ?_
      refine nt ?_
      refine cd (fun hc11 : ((e1.toNat : Int) == 45) = true => ?_) (fun hc11 => ?_)
      ·simp only [beq_iff_eq, bne_iff_ne, ne_eq, beq_eq_false_iff_ne, bne_eq_false_iff_eq, Classical.not_not] at hc11
       refine sr ?_
       refine os 1 ?_
       refine ixb 0 r .i64 e1 Tryz.underlying9 he1 ?_
       refine os 3 ?_
       refine kp [5, 59, 0, 2, 3, 4] ?_
       refine nr ?_
       refine os 1 ?_
       refine L (O_val (.string (bS (r.drop 1))) rfl (fun δ w _ => run_strFrom (l := r) 1 .i64 Tryz.underlying9 rfl rfl (by omega) (by omega)) ?_)
       refine os 1 ?_
       refine nt ?_
       have hw_ := wayP_hit he1 (by first | exact .inl ((u8_eq (n := 43) (by decide)).1 (by omega)) | exact .inr ((u8_eq (n := 45) (by decide)).1 (by omega)))
       rw [hw_]
       exact ⟨fun _ => rfl, ow⟩
      simp only [beq_iff_eq, bne_iff_ne, ne_eq, beq_eq_false_iff_ne, bne_eq_false_iff_eq, Classical.not_not] at hc11
      refine SW_skip (n_then ?_)
      have hw_ := wayP_miss he1 (by rintro (q | q) <;> subst q <;> simp at *)
      rw [hw_]
      exact ⟨fun _ => rfl, ow⟩
     replace hg9 : (!(decide (r = []))) = false := hg9
     replace hg9 := bnot_f hg9
     replace hg9 := of_decide_eq_true hg9
     refine os 9 ?_
     refine kp [59, 5, 0, 2, 3, 4] ?_
     refine nt ?_
     refine cf ?_
     refine SW_skip (n_then ?_)
     have hw_ : wayP r = (1, r) := by rw [hg9]; rfl
     rw [hw_]
     exact ⟨fun _ => rfl, ow⟩
    ·rintro ρ_ σ_ hfit
     refine SW_fits hfit ?_
     clear hfit
     refine SW_seq ?_
     have hQl_ : (wayP r).2.length ≤ X.length := Nat.le_trans (wayP_len r) hrl_
     have hW_ := wayP_in r
     generalize hQ_ : (wayP r).2 = Q at hQl_ ⊢
     generalize hw_ : (wayP r).1 = W at hW_ ⊢
     have hEl_ := takeWhile_len isDig Q
     have hEd_ := dropWhile_len isDig Q
     refine SW_region ?_
     refine os 1 ?_
     refine L (cl (num_figures (X := Q) (by first | omega | (simp; omega))) ?_)
     rintro _ _ rfl
     refine un ?_
     refine os 5 ?_
     refine kp [7, 6, 2, 3, 4, 0, 5] ?_
     refine nq ?_
     refine sr ?_
     refine os 1 ?_
     refine L (O_txt (bS (Q.takeWhile isDig)) Tryz.underlying9 Tryz.underlying95 Tryz.underlying5 (fun _ => rfl) rfl ?_)
     intro b12 capb12 hcapb12
     rw [bS_size] at hcapb12 ⊢
     refine os 2 ?_
     refine nt ?_
     refine SW_block ?_
     refine SW_loop (α := Nat) (fun z_ ρ_ σ_ => Fits ρ_ σ_ [(2, pt b1 0), (3, .bool false), (4, pt b2 0), (5, .int .i64 W), (6, .string (bS (Q.takeWhile isDig))), (7, .string (bS (Q.dropWhile isDig))), (72, .slice (some ⟨b12, 0, none⟩) ((Q.takeWhile isDig).length) capb12), (73, .int .i64 ((((Q.takeWhile isDig).length : Nat)) : Int)), (74, .int .i64 (z_ : Int))] ((b2, .cells 62 3 [.string (bS A), .string (bS B), .int .i64 (powN 0 ((Q.takeWhile isDig).take z_))]) :: ((b12, .txt (txtV (Q.takeWhile isDig))) :: ((b1, .cells 62 3 [.string (bS []), .string (bS []), .int .i64 0]) :: ([])))) ∧ z_ ≤ (Q.takeWhile isDig).length) (fun z_ => (Q.takeWhile isDig).length - z_) 0 ⟨⟨fun _ => rfl, (by simp only [List.take_zero, powN]; exact ow)⟩, Nat.zero_le _⟩ ?_
     rintro i ρ_ σ_ ⟨hfit, hi0⟩
     refine SW_fits hfit ?_
     clear hfit
     have hpw_ := powN_in ((Q.takeWhile isDig).take i) 0 (by omega) (fun c hc => takeWhile_dig (List.mem_of_mem_take hc))
     refine sr ?_
     refine os 1 ?_
     refine nq ?_
     refine cdp (fun hc13 : (i : Int) < ((((Q.takeWhile isDig).length : Nat)) : Int) => ?_) (fun hc13 => ?_)
     ·refine SW_skip (n_then ?_)
      refine SW_seq ?_
      refine SW_block ?_
      refine sr ?_
      refine L (O_indexAddr' (i : Int) (i) b12 0 ((Q.takeWhile isDig).length) capb12 .i64 1 Tryz.underlying95 (by kernel_rfl) (fun _ => rfl) (fun _ => rfl) (by omega) (by omega) (by omega) rfl ?_)
      obtain ⟨e2, he2⟩ : ∃ y_, (Q.takeWhile isDig)[i]? = some y_ := ⟨_, List.getElem?_eq_getElem (by omega)⟩
      refine L (ld ?_ (hc := Cell.txt (mem_c mem_z) (txt_at he2)))
      refine os 1 ?_
      refine nt ?_
      have hde_ := takeWhile_dig (List.mem_of_getElem? he2)
      refine SW_region ?_
      refine os 1 ?_
      refine L (ld ?_)
      refine os 5 ?_
      refine oV (.int .i64 (if 1099511627776 < ((powN 0 ((Q.takeWhile isDig).take i)) * 10) + ((e2.toNat : Int) - 48) then 1099511627776 else ((powN 0 ((Q.takeWhile isDig).take i)) * 10) + ((e2.toNat : Int) - 48))) ?_
      refine os 1 ?_
      refine kp [86, 85, 9, 75, 2, 3, 4, 5, 6, 7, 72, 73, 74] ?_
      refine L (st [.string (bS A), .string (bS B), .int .i64 (if 1099511627776 < ((powN 0 ((Q.takeWhile isDig).take i)) * 10) + ((e2.toNat : Int) - 48) then 1099511627776 else ((powN 0 ((Q.takeWhile isDig).take i)) * 10) + ((e2.toNat : Int) - 48))] ?_)
      refine SL_nil (n_in (n_then ?_))
      refine SW_region ?_
      refine os 2 ?_
      refine kp [74, 9, 75, 2, 3, 4, 5, 6, 7, 72, 73] ?_
      refine nt ?_
      refine ⟨i + 1, by omega, ?_, by omega⟩
      rw [powN_step he2, ← min_if]
      exact ⟨fun _ => rfl, ow⟩
     refine SW_exit (x_then (x_then (x_in (n_then ?_))))
     refine SW_seq ?_
     have hwm_ := way_mul hpw_ hW_
     refine SW_region ?_
     refine os 1 ?_
     refine L (ld ?_)
     refine os 3 ?_
     refine L (st [.string (bS A), .string (bS B), .int .i64 ((powN 0 ((Q.takeWhile isDig).take i)) * W)] ?_)
     refine nsr ?_
     refine L (lds 3 ?_)
     refine os 1 ?_
     refine oX (.bool (!((bS (Q.takeWhile isDig)).toList == (bS []).toList))) (.bool (!(decide ((Q.takeWhile isDig) = [])))) (congrArg Value.bool (by rw [strB_eq])) ?_
     refine os 1 ?_
     refine kp [96, 93, 75, 2, 3, 4, 5, 6, 7, 72, 73, 74] ?_
     refine tb 96 (fun hg14 => ?_) (fun hg14 => ?_)
     ·replace hg14 : (!(decide ((Q.takeWhile isDig) = []))) = true := hg14
      replace hg14 := bnot_t hg14
      replace hg14 := of_decide_eq_false hg14
      refine os 1 ?_
      refine oX (.bool ((bS (Q.dropWhile isDig)).toList == (bS []).toList)) (.bool (decide ((Q.dropWhile isDig) = []))) (congrArg Value.bool (by rw [strB_eq])) ?_
      refine os 1 ?_
      refine L (st [.string (bS A), .string (bS B), .int .i64 ((powN 0 ((Q.takeWhile isDig).take i)) * W)] ?_)
      refine os 1 ?_
      refine kp [3, 75, 2, 4, 5, 6, 7, 72, 73, 74] ?_
      refine nt ?_
      refine SW_ret ?_
      refine body_endC [.agg #[.string (bS A), .string (bS B), .int .i64 ((powN 0 ((Q.takeWhile isDig).take i)) * W)], .bool (decide ((Q.dropWhile isDig) = []))] (fun _ => (.cons ⟨b1, 0, rfl, .inl ⟨[.string (bS A), .string (bS B), .int .i64 ((powN 0 ((Q.takeWhile isDig).take i)) * W)], by kernel_rfl, (cells_cons (Cell.own mem_z rfl) (cells_cons (Cell.own mem_z rfl) (cells_cons (Cell.own mem_z rfl) cells_nil))), rfl⟩⟩ (.cons rfl .nil))) ?_
      have hin_ : i = (Q.takeWhile isDig).length := by omega
      refine ⟨(), ow, ?_⟩
      rw [decP_pow hA_ hB_ hR_ hab_ hcr_ hce_, hw_, hQ_]
      exact num_eq (by rw [hin_, List.take_length]) (decide_eq_decide.2 ⟨fun q => ⟨hg14, q⟩, fun q => q.2⟩)
     replace hg14 : (!(decide ((Q.takeWhile isDig) = []))) = false := hg14
     replace hg14 := bnot_f hg14
     replace hg14 := of_decide_eq_true hg14
     refine os 3 ?_
     refine L (st [.string (bS A), .string (bS B), .int .i64 ((powN 0 ((Q.takeWhile isDig).take i)) * W)] ?_)
     refine os 1 ?_
     refine kp [3, 75, 2, 4, 5, 6, 7, 72, 73, 74] ?_
     refine nt ?_
     refine SW_ret ?_
     refine body_endC [.agg #[.string (bS A), .string (bS B), .int .i64 ((powN 0 ((Q.takeWhile isDig).take i)) * W)], .bool false] (fun _ => (.cons ⟨b1, 0, rfl, .inl ⟨[.string (bS A), .string (bS B), .int .i64 ((powN 0 ((Q.takeWhile isDig).take i)) * W)], by kernel_rfl, (cells_cons (Cell.own mem_z rfl) (cells_cons (Cell.own mem_z rfl) (cells_cons (Cell.own mem_z rfl) cells_nil))), rfl⟩⟩ (.cons rfl .nil))) ?_
     have hin_ : i = (Q.takeWhile isDig).length := by omega
     refine ⟨(), ow, ?_⟩
     rw [decP_pow hA_ hB_ hR_ hab_ hcr_ hce_, hw_, hQ_]
     exact num_eq (by rw [hin_, List.take_length]) (decide_eq_false fun q => q.1 hg14).symm

end Go.Proofs.YtnhmmjogfkjceaaGreatDoor
