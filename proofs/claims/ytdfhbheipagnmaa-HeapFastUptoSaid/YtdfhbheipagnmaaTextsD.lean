/-
  What laying texts, one behind the other, comes to. No condition.
-/
import Derived.Test.YtdfhbheipagnmaaHeapJ
set_option linter.unusedVariables false
set_option linter.unusedSimpArgs false
set_option maxRecDepth 100000
namespace Go.Proofs.Ytdfhbheipagnmaa
open Go.Sl
theorem ixS_app_old {l : List ByteArray} {key : ByteArray} (h : 0 ≤ ixS l key) (m : List ByteArray) : ixS (l ++ m) key = ixS l key := by
  have h1 := ixS_some h
  have hm : key ∈ l ++ m := List.mem_append_left _ (List.mem_of_getElem? h1)
  unfold ixS at *
  rcases ixFrom_spec (p := fun a : ByteArray => decide (a = key)) l 0 with ⟨q, _⟩ | ⟨i, x, q1, q2, q3, q4⟩
  · omega
  · rcases ixFrom_spec (p := fun a : ByteArray => decide (a = key)) (l ++ m) 0 with ⟨r1, r2⟩ | ⟨j, y, r1, r2, r3, r4⟩
    · have := r2 key hm; simp at this
    · have hi := (List.getElem?_eq_some_iff.1 q2).1
      have q2' : (l ++ m)[i]? = some x := by rw [List.getElem?_append_left hi]; exact q2
      rw [q1, r1]
      congr 1
      rcases Nat.lt_trichotomy i j with h3 | h3 | h3
      · have := r4 i x h3 q2'; rw [this] at q3; cases q3
      · omega
      · rw [List.getElem?_append_left (by omega)] at r2
        have := q4 j y h3 r2; rw [this] at r3; cases r3
theorem ixS_app_new {l : List ByteArray} {key : ByteArray} (h : ixS l key < 0) : ixS (l ++ [key]) key = l.length := by
  have hn := ixS_none.1 h
  have hm : key ∈ l ++ [key] := by simp
  unfold ixS
  rcases ixFrom_spec (p := fun a : ByteArray => decide (a = key)) (l ++ [key]) 0 with ⟨r1, r2⟩ | ⟨j, y, r1, r2, r3, r4⟩
  · have := r2 key hm; simp at this
  · rw [r1]
    have hj := (List.getElem?_eq_some_iff.1 r2).1
    simp at hj
    by_cases e : j < l.length
    · rw [List.getElem?_append_left e] at r2
      simp only [decide_eq_true_eq] at r3
      subst r3
      exact absurd (List.mem_of_getElem? r2) hn
    · congr 1; omega
structure TextR (T : List ByteArray) (key : ByteArray) (r : List ByteArray × Int × Bool) : Prop where
  yes : r.2.2 = true → 0 ≤ ixS r.1 key ∧ r.2.1 = txtW (ixS r.1 key).toNat
  no : r.2.2 = false → r.1 = T
  len : r.1.length ≤ T.length + 1
  sub : ∀ s ∈ T, s ∈ r.1
  small : (∀ s ∈ T, s.size ≤ 4096) → ∀ s ∈ r.1, s.size ≤ 4096
  old : key ∈ T → r.1 = T ∧ r.2.2 = true
  big : 4096 < key.size → key ∉ T → r.1 = T ∧ r.2.2 = false
  fits : key.size ≤ 4096 → r.2.2 = false → 16384 ≤ T.length ∧ key ∉ T
theorem textP_r (T : List ByteArray) (key : ByteArray) : TextR T key (textP T key) := by
  unfold textP
  by_cases h0 : 0 ≤ ixS T key
  · rw [if_pos h0]
    have hm := List.mem_of_getElem? (ixS_some h0)
    exact ⟨fun _ => ⟨h0, rfl⟩, fun q => (by cases q), by simp, fun s h => h, fun h => h, fun _ => ⟨rfl, rfl⟩, fun _ h => absurd hm h, fun _ q => (by cases q)⟩
  · rw [if_neg h0]
    have hn := ixS_none.1 (show ixS T key < 0 by omega)
    by_cases hb : 4096 < key.size ∨ 16384 ≤ T.length
    · rw [if_pos hb]
      exact ⟨fun q => (by cases q), fun _ => rfl, by simp, fun s h => h, fun h => h, fun h => absurd h hn, fun _ _ => ⟨rfl, rfl⟩, fun q _ => ⟨by omega, hn⟩⟩
    · rw [if_neg hb]
      have e := ixS_app_new (show ixS T key < 0 by omega)
      refine ⟨fun _ => ⟨by simp only [e]; omega, by simp only [e]; rfl⟩, fun q => (by cases q), by simp, fun s h => List.mem_append_left _ h, fun h s hs => ?_, fun h => absurd h hn, fun q => (by omega), fun _ q => (by cases q)⟩
      rcases List.mem_append.1 hs with q | q
      · exact h s q
      · simp only [List.mem_singleton] at q; subst q; omega
theorem textO_at {T : List ByteArray} {key : ByteArray} (h : 0 ≤ ixS T key) (hl : T.length ≤ 16384) : textO T (txtW (ixS T key).toNat) = some key := by
  have h1 := ixS_some h
  have h2 := (List.getElem?_eq_some_iff.1 h1).1
  unfold textO
  rw [tagOf_mk (by decide) (by omega)]
  exact h1
/-- Where the loop over the texts stands. -/
structure TxI (l : List ByteArray) (i : Nat) (T : List ByteArray) : Prop where
  len : T.length ≤ i
  small : ∀ s ∈ T, s.size ≤ 4096
  head : 0 < i → ∀ s, l[0]? = some s → s.size ≤ 4096 → s ∈ T
theorem TxI.start (l : List ByteArray) : TxI l 0 [] := ⟨Nat.le_refl _, fun s h => (by cases h), fun h => by omega⟩
theorem tx_full {l T : List ByteArray} {i : Nat} {e : ByteArray} (h : TxI l i T) (hi : i < l.length) (hne : ((textP T e).2.2 == decide ((e.size : Int) ≤ 4096)) = false) : 16384 < l.length := by
  rw [show decide ((e.size : Int) ≤ 4096) = decide (e.size ≤ 4096) from decide_eq_decide.2 (by omega)] at hne
  have r := textP_r T e
  have hl := h.len
  by_cases hs : e.size ≤ 4096
  · cases ho : (textP T e).2.2 with
    | true => simp [ho, hs] at hne
    | false => have := (r.fits hs ho).1; omega
  · have hn : e ∉ T := fun hm => hs (h.small e hm)
    simp [(r.big (by omega) hn).2, hs] at hne
theorem tx_skip {l T : List ByteArray} {i : Nat} {e : ByteArray} (h : TxI l i T) (he : l[i]? = some e) (hq : ((textP T e).2.2 == decide ((e.size : Int) ≤ 4096)) = true) (hno : (textP T e).2.2 = false) : TxI l (i + 1) (textP T e).1 := by
  rw [show decide ((e.size : Int) ≤ 4096) = decide (e.size ≤ 4096) from decide_eq_decide.2 (by omega)] at hq
  have r := textP_r T e
  rw [r.no hno]
  refine ⟨by have := h.len; omega, h.small, fun _ s hs hz => ?_⟩
  by_cases hi : i = 0
  · subst hi
    rw [hs] at he; cases he
    rw [hno] at hq
    simp at hq; omega
  · exact h.head (by omega) s hs hz
theorem tx_step {l T : List ByteArray} {i : Nat} {e e0 : ByteArray} (h : TxI l i T) (he : l[i]? = some e) (h0 : l[0]? = some e0) (hyes : (textP T e).2.2 = true) : TxI l (i + 1) (textP (textP T e).1 e0).1 := by
  have r := textP_r T e
  obtain ⟨y1, y2⟩ := r.yes hyes
  have r2 := textP_r (textP T e).1 e0
  have hin : e0.size ≤ 4096 → e0 ∈ (textP T e).1 := fun hz => by
    by_cases hi : i = 0
    · subst hi
      rw [h0] at he; cases he
      exact List.mem_of_getElem? (ixS_some y1)
    · exact r.sub _ (h.head (by omega) e0 h0 hz)
  have hsm := r.small h.small
  have hT : (textP (textP T e).1 e0).1 = (textP T e).1 := by
    by_cases hz : e0.size ≤ 4096
    · exact (r2.old (hin hz)).1
    · exact (r2.big (by omega) (fun hm => hz (hsm e0 hm))).1
  rw [hT]
  refine ⟨by have := r.len; have := h.len; omega, hsm, fun _ s hs hz => ?_⟩
  rw [h0] at hs; cases hs
  exact hin hz
theorem tx_same {l T : List ByteArray} {i : Nat} {e e0 : ByteArray} (h : TxI l i T) (he : l[i]? = some e) (h0 : l[0]? = some e0) (hyes : (textP T e).2.2 = true) (hz : e0.size ≤ 4096) :
    ((textP T e).2.1 == (textP (textP T e).1 e0).2.1) = decide (e = e0) := by
  have r := textP_r T e
  obtain ⟨y1, y2⟩ := r.yes hyes
  have r2 := textP_r (textP T e).1 e0
  have hin : e0 ∈ (textP T e).1 := by
    by_cases hi : i = 0
    · subst hi
      rw [h0] at he; cases he
      exact List.mem_of_getElem? (ixS_some y1)
    · exact r.sub _ (h.head (by omega) e0 h0 hz)
  obtain ⟨o1, o2⟩ := r2.old hin
  obtain ⟨z1, z2⟩ := r2.yes o2
  rw [o1] at z1 z2
  rw [y2, z2]
  by_cases hee : e = e0
  · subst hee; simp
  · have : ixS (textP T e).1 e ≠ ixS (textP T e).1 e0 := fun q => by
      have a := ixS_some y1
      have b := ixS_some z1
      rw [q, b] at a
      exact hee (Option.some.inj a).symm
    simp only [hee, decide_false, beq_eq_false_iff_ne]
    intro q
    unfold txtW at q
    omega
theorem tx_of {l T : List ByteArray} {i : Nat} {e : ByteArray} (h : TxI l i T) (hi : (textP T e).1.length ≤ 16384) (hyes : (textP T e).2.2 = true) : textO (textP T e).1 (textP T e).2.1 = some e := by
  obtain ⟨y1, y2⟩ := (textP_r T e).yes hyes
  rw [y2]
  exact textO_at y1 hi
end Go.Proofs.Ytdfhbheipagnmaa
