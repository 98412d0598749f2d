/-
  How package cells lies in memory, and what breaking a cell means. No condition.
-/
import Derived.Test.YtdfhbheipagnmaaSl
set_option linter.unusedVariables false
namespace Go.Proofs.Ytdfhbheipagnmaa
open Go.Sl

/-! ### cells.Cells in memory -/
structure CellL where
  valid : Bool
  ab : Gs
  above : List Int
def CellL.cells (c : CellL) : List Value := [.bool c.valid, c.ab.val c.above.length]
def CellL.ent (c : CellL) : Heaplet := c.ab.ent 3 1 (c.above.map (Value.int .i64))
def CellL.ok (c : CellL) : Prop := c.ab.ok 1 c.above.length (c.above.map (Value.int .i64))
structure CellsL where
  p : Nat
  s : Gs
  l : List CellL
def CellsL.row (C : CellsL) : List Value := C.l.flatMap CellL.cells
def CellsL.ent (C : CellsL) : Heaplet := (C.p, .cells 125 1 [C.s.val C.l.length]) :: (C.s.ent 145 2 C.row ++ C.l.flatMap CellL.ent)
structure CellsL.ok (C : CellsL) : Prop where
  row : C.s.ok 2 C.l.length C.row
  each : ∀ c ∈ C.l, c.ok

theorem CellL.len (c : CellL) : c.cells.length = 2 := rfl
theorem CellsL.head (C : CellsL) : (C.p, Blk.cells 125 1 [C.s.val C.l.length]) ∈ C.ent := List.mem_cons_self
theorem CellsL.mem_row (C : CellsL) : ∀ e ∈ C.s.ent 145 2 C.row, e ∈ C.ent := fun e he => List.mem_cons_of_mem _ (List.mem_append_left _ he)
theorem CellsL.ok.ne {C : CellsL} (h : C.ok) {i : Int} (h0 : 0 ≤ i) (h1 : i < C.l.length) : C.s ≠ .nil := Gs.ok.ne h.row (by omega)
/-- A cell's field. -/
theorem CellsL.at {C : CellsL} (h : C.ok) {W0 : World} {σ : Heaplet} (hm : ∀ e ∈ C.ent, e ∈ σ) {i j : Nat} {c : CellL} {v : Value} (hi : C.l[i]? = some c) (hj : j < 2) (hv : c.cells[j]? = some v) : Cell W0 σ C.s.blk (i * 2 + j) v :=
  Gs.cell h.row (fun e he => hm e (C.mem_row e he)) (by rw [CellsL.row, flat_get CellL.len C.l i j c hi hj]; exact hv)
def CellsL.isV (C : CellsL) (n : Int) : Bool := if 0 ≤ n ∧ n < C.l.length then (match C.l[n.toNat]? with | some c => c.valid | none => false) else false
theorem CellsL.get {C : CellsL} {n : Int} (h : 0 ≤ n ∧ n < C.l.length) : ∃ c, C.l[n.toNat]? = some c := ⟨_, List.getElem?_eq_getElem (by omega)⟩
theorem CellsL.isV_of {C : CellsL} {n : Int} {c : CellL} (h : 0 ≤ n ∧ n < C.l.length) (hc : C.l[n.toNat]? = some c) : C.isV n = c.valid := by
  unfold CellsL.isV; rw [if_pos h, hc]
theorem CellsL.isV_out {C : CellsL} {n : Int} (h : ¬ (0 ≤ n ∧ n < C.l.length)) : C.isV n = false := by
  unfold CellsL.isV; rw [if_neg h]
/-! what a cell is, without its places -/
abbrev PCell := Bool × List Int
def CellL.abs (c : CellL) : PCell := (c.valid, c.above)
def CellsL.abs (C : CellsL) : List PCell := C.l.map CellL.abs
theorem CellsL.abs_len (C : CellsL) : C.abs.length = C.l.length := by simp [CellsL.abs]
def mkP (l : List PCell) (n : Int) : List PCell :=
  if 0 ≤ n ∧ n < l.length then (match l[n.toNat]? with | some c => (l.set n.toNat (c.1, c.2 ++ [(l.length : Int)])) ++ [(c.1, [])] | none => l) else l ++ [(n == -1, [])]
theorem mkP_in {C : CellsL} {n : Int} {c : CellL} {l1 l2 : List CellL} (h : 0 ≤ n ∧ n < C.l.length) (hl : C.l = l1 ++ c :: l2) (hlen : l1.length = n.toNat) (s s' : Gs) :
    ((l1 ++ (CellL.mk c.valid s (c.above ++ [(C.l.length : Int)])) :: l2) ++ [CellL.mk c.valid s' []]).map CellL.abs = mkP C.abs n := by
  unfold mkP
  rw [if_pos (by rw [C.abs_len]; exact h)]
  have h1 : C.abs = l1.map CellL.abs ++ c.abs :: l2.map CellL.abs := by simp [CellsL.abs, hl]
  have h2 : C.abs[n.toNat]? = some c.abs := by rw [h1]; exact split_get (by simpa using hlen)
  rw [h2, C.abs_len]
  simp only []
  rw [h1, split_set (by simpa using hlen)]
  simp [CellL.abs]
theorem mkP_out {C : CellsL} {n : Int} (h : ¬ (0 ≤ n ∧ n < C.l.length)) (s : Gs) : (C.l ++ [CellL.mk (n == -1) s []]).map CellL.abs = mkP C.abs n := by
  unfold mkP
  rw [if_neg (by rw [C.abs_len]; exact h)]
  simp [CellsL.abs, CellL.abs]
/-- How many stand above others. -/
def abv (l : List PCell) : Nat := (l.map (·.2.length)).sum
inductive Reach (l : List PCell) (n : Int) : Int → Prop where
  | refl : Reach l n n
  | step {i j : Int} {c : PCell} : Reach l n i → 0 ≤ i → l[i.toNat]? = some c → j ∈ c.2 → Reach l n j
/-- What was broken: what stands on a cell, and no more. -/
structure Broke (l l' : List PCell) (n : Int) : Prop where
  shape : l'.map (·.2) = l.map (·.2)
  less : ∀ (i : Nat) (c c' : PCell), l[i]? = some c → l'[i]? = some c' → c'.1 = true → c.1 = true
  reach : ∀ (i : Nat) (c c' : PCell), l[i]? = some c → l'[i]? = some c' → c.1 = true → c'.1 = false → Reach l n i
  all : ∀ (i : Nat) (c c' : PCell), l[i]? = some c → l'[i]? = some c' → c.1 = true → c'.1 = false → ∀ j ∈ c.2, 0 ≤ j → ∀ d : PCell, l'[j.toNat]? = some d → d.1 = false
  it : 0 ≤ n → ∀ d : PCell, l'[n.toNat]? = some d → d.1 = false
def vsum (l : List PCell) : Nat := (l.map fun c => if c.1 then c.2.length else 0).sum
def vcount (l : List PCell) : Nat := l.countP (·.1)
theorem vsum_le (l : List PCell) : vsum l ≤ abv l := by
  induction l with
  | nil => simp [vsum, abv]
  | cons c l ih => simp only [vsum, abv, List.map_cons, List.sum_cons] at *; split <;> omega
theorem vsum_set {l : List PCell} {i : Nat} {c : PCell} (h : l[i]? = some c) (hc : c.1 = true) : vsum (l.set i (false, c.2)) + c.2.length = vsum l := by
  obtain ⟨l1, l2, rfl, rfl⟩ := split_at h
  rw [split_set rfl]
  simp [vsum, hc]; omega
theorem vcount_set {l : List PCell} {i : Nat} {c : PCell} (h : l[i]? = some c) (hc : c.1 = true) : vcount (l.set i (false, c.2)) + 1 = vcount l := by
  obtain ⟨l1, l2, rfl, rfl⟩ := split_at h
  rw [split_set rfl]
  simp [vcount, hc]; omega
theorem above_le {l : List PCell} {i : Nat} {c : PCell} (h : l[i]? = some c) : c.2.length ≤ abv l := by
  obtain ⟨l1, l2, rfl, rfl⟩ := split_at h
  simp [abv]; omega
/-- Breaking, on the way: what is to be looked at yet. -/
structure BInv (L0 : List PCell) (n : Int) (L : List PCell) (todo : List Int) : Prop where
  shape : L.map (·.2) = L0.map (·.2)
  less : ∀ (i : Nat) (c c' : PCell), L0[i]? = some c → L[i]? = some c' → c'.1 = true → c.1 = true
  reach : ∀ (i : Nat) (c c' : PCell), L0[i]? = some c → L[i]? = some c' → c.1 = true → c'.1 = false → Reach L0 n i
  tdr : ∀ j ∈ todo, Reach L0 n j
  all : ∀ (i : Nat) (c c' : PCell), L0[i]? = some c → L[i]? = some c' → c.1 = true → c'.1 = false → ∀ j ∈ c.2, 0 ≤ j → j ∈ todo ∨ ∀ d : PCell, L[j.toNat]? = some d → d.1 = false
  it : 0 ≤ n → n ∈ todo ∨ ∀ d : PCell, L[n.toNat]? = some d → d.1 = false
  room : todo.length + vsum L ≤ 1 + abv L0
theorem BInv.start (L0 : List PCell) (n : Int) : BInv L0 n L0 [n] := by
  refine ⟨rfl, fun i c c' h h' hc => ?_, fun i c c' h h' h1 h2 => ?_, fun j hj => ?_, fun i c c' h h' h1 h2 => ?_, fun _ => .inl (by simp), ?_⟩
  · rw [h] at h'; cases h'; exact hc
  · rw [h] at h'; cases h'; rw [h1] at h2; cases h2
  · simp only [List.mem_singleton] at hj; subst hj; exact .refl
  · rw [h] at h'; cases h'; rw [h1] at h2; cases h2
  · have := vsum_le L0; simp; omega
theorem BInv.skip {L0 L : List PCell} {n j : Int} {t : List Int} (h : BInv L0 n L (t ++ [j])) (hj : 0 ≤ j → ∀ d : PCell, L[j.toNat]? = some d → d.1 = false) : BInv L0 n L t := by
  refine ⟨h.shape, h.less, h.reach, fun k hk => h.tdr k (by simp [hk]), fun i c c' a b d e k hk h0 => ?_, fun h0 => ?_, ?_⟩
  · rcases h.all i c c' a b d e k hk h0 with h1 | h1
    · simp only [List.mem_append, List.mem_singleton] at h1
      rcases h1 with h1 | rfl
      · exact .inl h1
      · exact .inr (hj h0)
    · exact .inr h1
  · rcases h.it h0 with h1 | h1
    · simp only [List.mem_append, List.mem_singleton] at h1
      rcases h1 with h1 | rfl
      · exact .inl h1
      · exact .inr (hj h0)
    · exact .inr h1
  · have := h.room; simp at this; omega
theorem BInv.step {L0 L : List PCell} {n j : Int} {t : List Int} {c : PCell} (h : BInv L0 n L (t ++ [j])) (h0 : 0 ≤ j) (hc : L[j.toNat]? = some c) (hv : c.1 = true) : BInv L0 n (L.set j.toNat (false, c.2)) (t ++ c.2) := by
  have hlen : L.length = L0.length := by have := congrArg List.length h.shape; simpa using this
  have hlt : j.toNat < L.length := (List.getElem?_eq_some_iff.1 hc).1
  obtain ⟨c0, hc0⟩ : ∃ c0, L0[j.toNat]? = some c0 := ⟨_, List.getElem?_eq_getElem (by omega)⟩
  have hsh : ∀ (i : Nat) (a b : PCell), L0[i]? = some a → L[i]? = some b → b.2 = a.2 := fun i a b ha hb => by
    have := congrArg (fun l : List (List Int) => l[i]?) h.shape
    simp only [List.getElem?_map, ha, hb, Option.map_some, Option.some.injEq] at this
    exact this
  have hget : ∀ (i : Nat) (d : PCell), (L.set j.toNat (false, c.2))[i]? = some d → (i = j.toNat ∧ d = (false, c.2)) ∨ (i ≠ j.toNat ∧ L[i]? = some d) := fun i d hd => by
    by_cases e : j.toNat = i
    · subst e; rw [List.getElem?_set_self hlt] at hd; exact .inl ⟨rfl, by simpa using hd.symm⟩
    · rw [List.getElem?_set_ne e] at hd; exact .inr ⟨fun h => e h.symm, hd⟩
  have hinv : ∀ (i : Nat), (∀ d : PCell, L[i]? = some d → d.1 = false) → ∀ d : PCell, (L.set j.toNat (false, c.2))[i]? = some d → d.1 = false := fun i hi d hd => by
    rcases hget i d hd with ⟨_, rfl⟩ | ⟨_, h1⟩
    · rfl
    · exact hi d h1
  refine ⟨?_, fun i a b ha hb hb1 => ?_, fun i a b ha hb h1 h2 => ?_, fun k hk => ?_, fun i a b ha hb h1 h2 k hk hk0 => ?_, fun hn => ?_, ?_⟩
  · rw [← h.shape, List.map_set]
    refine List.ext_getElem? fun i => ?_
    by_cases e : j.toNat = i
    · subst e; rw [List.getElem?_set_self (by simpa using hlt), List.getElem?_map, hc]; rfl
    · rw [List.getElem?_set_ne e]
  · rcases hget i b hb with ⟨_, rfl⟩ | ⟨_, hb'⟩
    · cases hb1
    · exact h.less i a b ha hb' hb1
  · rcases hget i b hb with ⟨rfl, rfl⟩ | ⟨_, hb'⟩
    · have := h.tdr j (by simp); rwa [Int.toNat_of_nonneg h0]
    · exact h.reach i a b ha hb' h1 h2
  · rcases List.mem_append.1 hk with hk | hk
    · exact h.tdr k (by simp [hk])
    · exact .step (h.tdr j (by simp)) h0 hc0 (by rw [← hsh _ _ _ hc0 hc]; exact hk)
  · rcases hget i b hb with ⟨rfl, rfl⟩ | ⟨_, hb'⟩
    · exact .inl (List.mem_append_right _ (by rw [hsh _ _ _ ha hc]; exact hk))
    · rcases h.all i a b ha hb' h1 h2 k hk hk0 with h3 | h3
      · simp only [List.mem_append, List.mem_singleton] at h3
        rcases h3 with h3 | rfl
        · exact .inl (List.mem_append_left _ h3)
        · refine .inr fun d hd => ?_
          rcases hget _ d hd with ⟨_, rfl⟩ | ⟨e, _⟩
          · rfl
          · exact absurd rfl e
      · exact .inr (hinv _ h3)
  · rcases h.it hn with h3 | h3
    · simp only [List.mem_append, List.mem_singleton] at h3
      rcases h3 with h3 | rfl
      · exact .inl (List.mem_append_left _ h3)
      · refine .inr fun d hd => ?_
        rcases hget _ d hd with ⟨_, rfl⟩ | ⟨e, _⟩
        · rfl
        · exact absurd rfl e
    · exact .inr (hinv _ h3)
  · have h1 := h.room
    have h2 := vsum_set hc hv
    simp at h1 ⊢; omega
theorem BInv.broke {L0 L : List PCell} {n : Int} (h : BInv L0 n L []) : Broke L0 L n :=
  ⟨h.shape, h.less, h.reach, fun i c c' a b d e j hj h0 => (h.all i c c' a b d e j hj h0).resolve_left (by simp), fun h0 => (h.it h0).resolve_left (by simp)⟩
structure BrkS where
  l : List CellL
  s : Gs
  todo : List Int
  m : Int
  j : Int
def BrkS.at (x : BrkS) (C : CellsL) : CellsL := ⟨C.p, C.s, x.l⟩
structure BrkI (C : CellsL) (n : Int) (x : BrkS) : Prop where
  inv : BInv C.abs n (x.l.map CellL.abs) x.todo
  ok : (x.at C).ok
  len : x.l.length = C.l.length
  sok : x.s.ok 1 x.todo.length (x.todo.map (Value.int .i64))
theorem BrkI.cap {C : CellsL} {n : Int} {x : BrkS} (h : BrkI C n x) : x.todo.length ≤ x.s.cap := by
  have := h.sok
  cases hs : x.s with
  | nil => rw [hs] at this; exact Nat.le_of_eq this.1
  | «at» g c => rw [hs] at this; exact this.1
def BrkS.μ (C : CellsL) (x : BrkS) : Nat := vcount (x.l.map CellL.abs) * (abv C.abs + 2) + x.todo.length
theorem Gs.ok_pop {s : Gs} {size n : Nat} {xs ys : List Value} (h : s.ok size (n + 1) (xs ++ ys)) (hl : xs.length = n * size) : s.ok size n xs := by
  cases s with
  | nil => have := h.1; omega
  | «at» g c => exact ⟨by have := h.1; omega, h.2.1, hl⟩
theorem CellsL.isV_false {C : CellsL} {j : Int} (h : C.isV j = false) (h0 : 0 ≤ j) : ∀ d : PCell, C.abs[j.toNat]? = some d → d.1 = false := by
  intro d hd
  simp only [CellsL.abs, List.getElem?_map, Option.map_eq_some_iff] at hd
  obtain ⟨c, hc, rfl⟩ := hd
  have hlt := (List.getElem?_eq_some_iff.1 hc).1
  rw [CellsL.isV_of ⟨h0, by omega⟩ hc] at h
  exact h
theorem CellsL.isV_true {C : CellsL} {j : Int} (h : C.isV j = true) : ∃ c, (0 ≤ j ∧ j < C.l.length) ∧ C.l[j.toNat]? = some c ∧ c.valid = true := by
  by_cases hj : 0 ≤ j ∧ j < C.l.length
  · obtain ⟨c, hc⟩ := CellsL.get hj
    exact ⟨c, hj, hc, by rw [← CellsL.isV_of hj hc]; exact h⟩
  · rw [CellsL.isV_out hj] at h; cases h
theorem brk_skip {C : CellsL} {n : Int} {l : List CellL} {s : Gs} {t : List Int} {j m j0 j1 : Int} (h : BrkI C n ⟨l, s, t ++ [j], m, j0⟩) (hv : CellsL.isV ⟨C.p, C.s, l⟩ j = false) :
    BrkS.μ C ⟨l, s, t, m, j1⟩ < BrkS.μ C ⟨l, s, t ++ [j], m, j0⟩ ∧ BrkI C n ⟨l, s, t, m, j1⟩ := by
  refine ⟨by simp [BrkS.μ], h.inv.skip (fun h0 => CellsL.isV_false hv h0), h.ok, h.len, ?_⟩
  have := h.sok
  simp only [List.length_append, List.length_singleton, List.map_append] at this
  exact Gs.ok_pop this (by simp)
theorem brk_room {C : CellsL} {n : Int} {l1 l2 : List CellL} {c : CellL} {s : Gs} {t : List Int} {j m j0 : Int} (h : BrkI C n ⟨l1 ++ c :: l2, s, t ++ [j], m, j0⟩) (hlen : l1.length = j.toNat) (h0 : 0 ≤ j) (hv : c.valid = true) :
    t.length + c.above.length ≤ abv C.abs ∧ t.length + 1 ≤ 1 + abv C.abs := by
  have h1 : ((l1 ++ c :: l2).map CellL.abs)[j.toNat]? = some c.abs := by rw [List.map_append, List.map_cons]; exact split_get (by simpa using hlen)
  have h2 := vsum_set h1 hv
  have h3 := h.inv.room
  simp only [List.length_append, List.length_singleton] at h3
  have : c.abs.2.length = c.above.length := rfl
  omega
theorem brk_step {C : CellsL} {n : Int} {l1 l2 : List CellL} {c : CellL} {s : Gs} {t : List Int} {j m j0 : Int} (h : BrkI C n ⟨l1 ++ c :: l2, s, t ++ [j], m, j0⟩) (hlen : l1.length = j.toNat) (h0 : 0 ≤ j) (hv : c.valid = true)
    (s' : Gs) (m' j1 : Int) (hs : s'.ok 1 (t ++ c.above).length ((t ++ c.above).map (Value.int .i64))) :
    BrkS.μ C ⟨l1 ++ ⟨false, c.ab, c.above⟩ :: l2, s', t ++ c.above, m', j1⟩ < BrkS.μ C ⟨l1 ++ c :: l2, s, t ++ [j], m, j0⟩ ∧ BrkI C n ⟨l1 ++ ⟨false, c.ab, c.above⟩ :: l2, s', t ++ c.above, m', j1⟩ := by
  have h1 : ((l1 ++ c :: l2).map CellL.abs)[j.toNat]? = some c.abs := by rw [List.map_append, List.map_cons]; exact split_get (by simpa using hlen)
  have h2 : ((l1 ++ ⟨false, c.ab, c.above⟩ :: l2).map CellL.abs) = ((l1 ++ c :: l2).map CellL.abs).set j.toNat (false, c.abs.2) := by
    rw [List.map_append, List.map_cons, List.map_append, List.map_cons, split_set (by simpa using hlen)]; rfl
  have hr := (brk_room h hlen h0 hv).1
  refine ⟨?_, by rw [h2]; exact h.inv.step h0 h1 hv, ⟨?_, ?_⟩, by have := h.len; simpa using this, hs⟩
  · have h3 := vcount_set h1 hv
    simp only [BrkS.μ, h2]
    rw [← h3, Nat.add_mul]
    simp; omega
  · refine Gs.ok.relen (xs := (BrkS.at ⟨l1 ++ c :: l2, s, t ++ [j], m, j0⟩ C).row) ?_ ?_
    · have := h.ok.row; simpa [BrkS.at] using this
    · simp [BrkS.at, CellsL.row, flat_len CellL.len, CellL.cells]
  · intro d hd
    simp only [BrkS.at, List.mem_append, List.mem_cons] at hd
    rcases hd with hd | rfl | hd
    · exact h.ok.each d (by simp [BrkS.at, hd])
    · exact h.ok.each c (by simp [BrkS.at])
    · exact h.ok.each d (by simp [BrkS.at, hd])
end Go.Proofs.Ytdfhbheipagnmaa
