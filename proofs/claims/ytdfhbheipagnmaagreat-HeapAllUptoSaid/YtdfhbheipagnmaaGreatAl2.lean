/-
  How package cells lies in memory, and what breaking a cell means. No condition.
-/
import Derived.Test.YtdfhbheipagnmaaGreatAl0
import Derived.Test.YtdfhbheipagnmaaGreatProg
import Derived.Test.YtdfhbheipagnmaaGreatAl1
set_option linter.unusedVariables false
set_option maxRecDepth 100000
set_option linter.unusedSimpArgs false
namespace Go.Proofs.YtdfhbheipagnmaaGreat
open Go.Sl

/-! ### cells.Cells in memory -/
structure CellL where
  valid : Bool
  ab : Gs
  above : List Int
def CellL.cells (c : CellL) : List Value := [.bool c.valid, c.ab.val c.above.length]
def CellL.ent (c : CellL) : Heaplet := c.ab.ent 3 1 (c.above.map (Value.int .i64))
def CellL.ok (c : CellL) : Prop := c.ab.ok 1 c.above.length (c.above.map (Value.int .i64))
structure CellsL where
  p : Nat
  s : Gs
  l : List CellL
def CellsL.row (C : CellsL) : List Value := C.l.flatMap CellL.cells
def CellsL.ent (C : CellsL) : Heaplet := (C.p, .cells 100 1 [C.s.val C.l.length]) :: (C.s.ent 143 2 C.row ++ C.l.flatMap CellL.ent)
structure CellsL.ok (C : CellsL) : Prop where
  row : C.s.ok 2 C.l.length C.row
  each : ∀ c ∈ C.l, c.ok

theorem CellL.len (c : CellL) : c.cells.length = 2 := rfl
theorem CellsL.head (C : CellsL) : (C.p, Blk.cells 100 1 [C.s.val C.l.length]) ∈ C.ent := List.mem_cons_self
theorem CellsL.mem_row (C : CellsL) : ∀ e ∈ C.s.ent 143 2 C.row, e ∈ C.ent := fun e he => List.mem_cons_of_mem _ (List.mem_append_left _ he)
theorem CellsL.ok.ne {C : CellsL} (h : C.ok) {i : Int} (h0 : 0 ≤ i) (h1 : i < C.l.length) : C.s ≠ .nil := Gs.ok.ne h.row (by omega)
/-- A cell's field. -/
theorem CellsL.at {C : CellsL} (h : C.ok) {W0 : World} {σ : Heaplet} (hm : ∀ e ∈ C.ent, e ∈ σ) {i j : Nat} {c : CellL} {v : Value} (hi : C.l[i]? = some c) (hj : j < 2) (hv : c.cells[j]? = some v) : Cell W0 σ C.s.blk (i * 2 + j) v :=
  Gs.cell h.row (fun e he => hm e (C.mem_row e he)) (by rw [CellsL.row, flat_get CellL.len C.l i j c hi hj]; exact hv)
def CellsL.isV (C : CellsL) (n : Int) : Bool := if 0 ≤ n ∧ n < C.l.length then (match C.l[n.toNat]? with | some c => c.valid | none => false) else false
theorem CellsL.get {C : CellsL} {n : Int} (h : 0 ≤ n ∧ n < C.l.length) : ∃ c, C.l[n.toNat]? = some c := ⟨_, List.getElem?_eq_getElem (by omega)⟩
theorem CellsL.isV_of {C : CellsL} {n : Int} {c : CellL} (h : 0 ≤ n ∧ n < C.l.length) (hc : C.l[n.toNat]? = some c) : C.isV n = c.valid := by
  unfold CellsL.isV; rw [if_pos h, hc]
theorem CellsL.isV_out {C : CellsL} {n : Int} (h : ¬ (0 ≤ n ∧ n < C.l.length)) : C.isV n = false := by
  unfold CellsL.isV; rw [if_neg h]
/-! what a cell is, without its places -/
abbrev PCell := Bool × List Int
def CellL.abs (c : CellL) : PCell := (c.valid, c.above)
def CellsL.abs (C : CellsL) : List PCell := C.l.map CellL.abs
theorem CellsL.abs_len (C : CellsL) : C.abs.length = C.l.length := by simp [CellsL.abs]
def mkP (l : List PCell) (n : Int) : List PCell :=
  if 0 ≤ n ∧ n < l.length then (match l[n.toNat]? with | some c => (l.set n.toNat (c.1, c.2 ++ [(l.length : Int)])) ++ [(c.1, [])] | none => l) else l ++ [(n == -1, [])]
theorem mkP_in {C : CellsL} {n : Int} {c : CellL} {l1 l2 : List CellL} (h : 0 ≤ n ∧ n < C.l.length) (hl : C.l = l1 ++ c :: l2) (hlen : l1.length = n.toNat) (s s' : Gs) :
    ((l1 ++ (CellL.mk c.valid s (c.above ++ [(C.l.length : Int)])) :: l2) ++ [CellL.mk c.valid s' []]).map CellL.abs = mkP C.abs n := by
  unfold mkP
  rw [if_pos (by rw [C.abs_len]; exact h)]
  have h1 : C.abs = l1.map CellL.abs ++ c.abs :: l2.map CellL.abs := by simp [CellsL.abs, hl]
  have h2 : C.abs[n.toNat]? = some c.abs := by rw [h1]; exact split_get (by simpa using hlen)
  rw [h2, C.abs_len]
  simp only []
  rw [h1, split_set (by simpa using hlen)]
  simp [CellL.abs]
theorem mkP_out {C : CellsL} {n : Int} (h : ¬ (0 ≤ n ∧ n < C.l.length)) (s : Gs) : (C.l ++ [CellL.mk (n == -1) s []]).map CellL.abs = mkP C.abs n := by
  unfold mkP
  rw [if_neg (by rw [C.abs_len]; exact h)]
  simp [CellsL.abs, CellL.abs]
/-- How many stand above others. -/
def abv (l : List PCell) : Nat := (l.map (·.2.length)).sum
inductive Reach (l : List PCell) (n : Int) : Int → Prop where
  | refl : Reach l n n
  | step {i j : Int} {c : PCell} : Reach l n i → 0 ≤ i → l[i.toNat]? = some c → j ∈ c.2 → Reach l n j
/-- What was broken: what stands on a cell, and no more. -/
structure Broke (l l' : List PCell) (n : Int) : Prop where
  shape : l'.map (·.2) = l.map (·.2)
  less : ∀ (i : Nat) (c c' : PCell), l[i]? = some c → l'[i]? = some c' → c'.1 = true → c.1 = true
  reach : ∀ (i : Nat) (c c' : PCell), l[i]? = some c → l'[i]? = some c' → c.1 = true → c'.1 = false → Reach l n i
  all : ∀ (i : Nat) (c c' : PCell), l[i]? = some c → l'[i]? = some c' → c.1 = true → c'.1 = false → ∀ j ∈ c.2, 0 ≤ j → ∀ d : PCell, l'[j.toNat]? = some d → d.1 = false
  it : 0 ≤ n → ∀ d : PCell, l'[n.toNat]? = some d → d.1 = false
def vsum (l : List PCell) : Nat := (l.map fun c => if c.1 then c.2.length else 0).sum
def vcount (l : List PCell) : Nat := l.countP (·.1)
theorem vsum_le (l : List PCell) : vsum l ≤ abv l := by
  induction l with
  | nil => simp [vsum, abv]
  | cons c l ih => simp only [vsum, abv, List.map_cons, List.sum_cons] at *; split <;> omega
theorem vsum_set {l : List PCell} {i : Nat} {c : PCell} (h : l[i]? = some c) (hc : c.1 = true) : vsum (l.set i (false, c.2)) + c.2.length = vsum l := by
  obtain ⟨l1, l2, rfl, rfl⟩ := split_at h
  rw [split_set rfl]
  simp [vsum, hc]; omega
theorem vcount_set {l : List PCell} {i : Nat} {c : PCell} (h : l[i]? = some c) (hc : c.1 = true) : vcount (l.set i (false, c.2)) + 1 = vcount l := by
  obtain ⟨l1, l2, rfl, rfl⟩ := split_at h
  rw [split_set rfl]
  simp [vcount, hc]; omega
theorem above_le {l : List PCell} {i : Nat} {c : PCell} (h : l[i]? = some c) : c.2.length ≤ abv l := by
  obtain ⟨l1, l2, rfl, rfl⟩ := split_at h
  simp [abv]; omega
/-- Breaking, on the way: what is to be looked at yet. -/
structure BInv (L0 : List PCell) (n : Int) (L : List PCell) (todo : List Int) : Prop where
  shape : L.map (·.2) = L0.map (·.2)
  less : ∀ (i : Nat) (c c' : PCell), L0[i]? = some c → L[i]? = some c' → c'.1 = true → c.1 = true
  reach : ∀ (i : Nat) (c c' : PCell), L0[i]? = some c → L[i]? = some c' → c.1 = true → c'.1 = false → Reach L0 n i
  tdr : ∀ j ∈ todo, Reach L0 n j
  all : ∀ (i : Nat) (c c' : PCell), L0[i]? = some c → L[i]? = some c' → c.1 = true → c'.1 = false → ∀ j ∈ c.2, 0 ≤ j → j ∈ todo ∨ ∀ d : PCell, L[j.toNat]? = some d → d.1 = false
  it : 0 ≤ n → n ∈ todo ∨ ∀ d : PCell, L[n.toNat]? = some d → d.1 = false
  room : todo.length + vsum L ≤ 1 + abv L0
theorem BInv.start (L0 : List PCell) (n : Int) : BInv L0 n L0 [n] := by
  refine ⟨rfl, fun i c c' h h' hc => ?_, fun i c c' h h' h1 h2 => ?_, fun j hj => ?_, fun i c c' h h' h1 h2 => ?_, fun _ => .inl (by simp), ?_⟩
  · rw [h] at h'; cases h'; exact hc
  · rw [h] at h'; cases h'; rw [h1] at h2; cases h2
  · simp only [List.mem_singleton] at hj; subst hj; exact .refl
  · rw [h] at h'; cases h'; rw [h1] at h2; cases h2
  · have := vsum_le L0; simp; omega
theorem BInv.skip {L0 L : List PCell} {n j : Int} {t : List Int} (h : BInv L0 n L (t ++ [j])) (hj : 0 ≤ j → ∀ d : PCell, L[j.toNat]? = some d → d.1 = false) : BInv L0 n L t := by
  refine ⟨h.shape, h.less, h.reach, fun k hk => h.tdr k (by simp [hk]), fun i c c' a b d e k hk h0 => ?_, fun h0 => ?_, ?_⟩
  · rcases h.all i c c' a b d e k hk h0 with h1 | h1
    · simp only [List.mem_append, List.mem_singleton] at h1
      rcases h1 with h1 | rfl
      · exact .inl h1
      · exact .inr (hj h0)
    · exact .inr h1
  · rcases h.it h0 with h1 | h1
    · simp only [List.mem_append, List.mem_singleton] at h1
      rcases h1 with h1 | rfl
      · exact .inl h1
      · exact .inr (hj h0)
    · exact .inr h1
  · have := h.room; simp at this; omega
theorem BInv.step {L0 L : List PCell} {n j : Int} {t : List Int} {c : PCell} (h : BInv L0 n L (t ++ [j])) (h0 : 0 ≤ j) (hc : L[j.toNat]? = some c) (hv : c.1 = true) : BInv L0 n (L.set j.toNat (false, c.2)) (t ++ c.2) := by
  have hlen : L.length = L0.length := by have := congrArg List.length h.shape; simpa using this
  have hlt : j.toNat < L.length := (List.getElem?_eq_some_iff.1 hc).1
  obtain ⟨c0, hc0⟩ : ∃ c0, L0[j.toNat]? = some c0 := ⟨_, List.getElem?_eq_getElem (by omega)⟩
  have hsh : ∀ (i : Nat) (a b : PCell), L0[i]? = some a → L[i]? = some b → b.2 = a.2 := fun i a b ha hb => by
    have := congrArg (fun l : List (List Int) => l[i]?) h.shape
    simp only [List.getElem?_map, ha, hb, Option.map_some, Option.some.injEq] at this
    exact this
  have hget : ∀ (i : Nat) (d : PCell), (L.set j.toNat (false, c.2))[i]? = some d → (i = j.toNat ∧ d = (false, c.2)) ∨ (i ≠ j.toNat ∧ L[i]? = some d) := fun i d hd => by
    by_cases e : j.toNat = i
    · subst e; rw [List.getElem?_set_self hlt] at hd; exact .inl ⟨rfl, by simpa using hd.symm⟩
    · rw [List.getElem?_set_ne e] at hd; exact .inr ⟨fun h => e h.symm, hd⟩
  have hinv : ∀ (i : Nat), (∀ d : PCell, L[i]? = some d → d.1 = false) → ∀ d : PCell, (L.set j.toNat (false, c.2))[i]? = some d → d.1 = false := fun i hi d hd => by
    rcases hget i d hd with ⟨_, rfl⟩ | ⟨_, h1⟩
    · rfl
    · exact hi d h1
  refine ⟨?_, fun i a b ha hb hb1 => ?_, fun i a b ha hb h1 h2 => ?_, fun k hk => ?_, fun i a b ha hb h1 h2 k hk hk0 => ?_, fun hn => ?_, ?_⟩
  · rw [← h.shape, List.map_set]
    refine List.ext_getElem? fun i => ?_
    by_cases e : j.toNat = i
    · subst e; rw [List.getElem?_set_self (by simpa using hlt), List.getElem?_map, hc]; rfl
    · rw [List.getElem?_set_ne e]
  · rcases hget i b hb with ⟨_, rfl⟩ | ⟨_, hb'⟩
    · cases hb1
    · exact h.less i a b ha hb' hb1
  · rcases hget i b hb with ⟨rfl, rfl⟩ | ⟨_, hb'⟩
    · have := h.tdr j (by simp); rwa [Int.toNat_of_nonneg h0]
    · exact h.reach i a b ha hb' h1 h2
  · rcases List.mem_append.1 hk with hk | hk
    · exact h.tdr k (by simp [hk])
    · exact .step (h.tdr j (by simp)) h0 hc0 (by rw [← hsh _ _ _ hc0 hc]; exact hk)
  · rcases hget i b hb with ⟨rfl, rfl⟩ | ⟨_, hb'⟩
    · exact .inl (List.mem_append_right _ (by rw [hsh _ _ _ ha hc]; exact hk))
    · rcases h.all i a b ha hb' h1 h2 k hk hk0 with h3 | h3
      · simp only [List.mem_append, List.mem_singleton] at h3
        rcases h3 with h3 | rfl
        · exact .inl (List.mem_append_left _ h3)
        · refine .inr fun d hd => ?_
          rcases hget _ d hd with ⟨_, rfl⟩ | ⟨e, _⟩
          · rfl
          · exact absurd rfl e
      · exact .inr (hinv _ h3)
  · rcases h.it hn with h3 | h3
    · simp only [List.mem_append, List.mem_singleton] at h3
      rcases h3 with h3 | rfl
      · exact .inl (List.mem_append_left _ h3)
      · refine .inr fun d hd => ?_
        rcases hget _ d hd with ⟨_, rfl⟩ | ⟨e, _⟩
        · rfl
        · exact absurd rfl e
    · exact .inr (hinv _ h3)
  · have h1 := h.room
    have h2 := vsum_set hc hv
    simp at h1 ⊢; omega
theorem BInv.broke {L0 L : List PCell} {n : Int} (h : BInv L0 n L []) : Broke L0 L n :=
  ⟨h.shape, h.less, h.reach, fun i c c' a b d e j hj h0 => (h.all i c c' a b d e j hj h0).resolve_left (by simp), fun h0 => (h.it h0).resolve_left (by simp)⟩
structure BrkS where
  l : List CellL
  s : Gs
  todo : List Int
  m : Int
  j : Int
def BrkS.at (x : BrkS) (C : CellsL) : CellsL := ⟨C.p, C.s, x.l⟩
structure BrkI (C : CellsL) (n : Int) (x : BrkS) : Prop where
  inv : BInv C.abs n (x.l.map CellL.abs) x.todo
  ok : (x.at C).ok
  len : x.l.length = C.l.length
  sok : x.s.ok 1 x.todo.length (x.todo.map (Value.int .i64))
theorem BrkI.cap {C : CellsL} {n : Int} {x : BrkS} (h : BrkI C n x) : x.todo.length ≤ x.s.cap := by
  have := h.sok
  cases hs : x.s with
  | nil => rw [hs] at this; exact Nat.le_of_eq this.1
  | «at» g c => rw [hs] at this; exact this.1
def BrkS.μ (C : CellsL) (x : BrkS) : Nat := vcount (x.l.map CellL.abs) * (abv C.abs + 2) + x.todo.length
theorem Gs.ok_pop {s : Gs} {size n : Nat} {xs ys : List Value} (h : s.ok size (n + 1) (xs ++ ys)) (hl : xs.length = n * size) : s.ok size n xs := by
  cases s with
  | nil => have := h.1; omega
  | «at» g c => exact ⟨by have := h.1; omega, h.2.1, hl⟩
theorem CellsL.isV_false {C : CellsL} {j : Int} (h : C.isV j = false) (h0 : 0 ≤ j) : ∀ d : PCell, C.abs[j.toNat]? = some d → d.1 = false := by
  intro d hd
  simp only [CellsL.abs, List.getElem?_map, Option.map_eq_some_iff] at hd
  obtain ⟨c, hc, rfl⟩ := hd
  have hlt := (List.getElem?_eq_some_iff.1 hc).1
  rw [CellsL.isV_of ⟨h0, by omega⟩ hc] at h
  exact h
theorem CellsL.isV_true {C : CellsL} {j : Int} (h : C.isV j = true) : ∃ c, (0 ≤ j ∧ j < C.l.length) ∧ C.l[j.toNat]? = some c ∧ c.valid = true := by
  by_cases hj : 0 ≤ j ∧ j < C.l.length
  · obtain ⟨c, hc⟩ := CellsL.get hj
    exact ⟨c, hj, hc, by rw [← CellsL.isV_of hj hc]; exact h⟩
  · rw [CellsL.isV_out hj] at h; cases h
theorem brk_skip {C : CellsL} {n : Int} {l : List CellL} {s : Gs} {t : List Int} {j m j0 j1 : Int} (h : BrkI C n ⟨l, s, t ++ [j], m, j0⟩) (hv : CellsL.isV ⟨C.p, C.s, l⟩ j = false) :
    BrkS.μ C ⟨l, s, t, m, j1⟩ < BrkS.μ C ⟨l, s, t ++ [j], m, j0⟩ ∧ BrkI C n ⟨l, s, t, m, j1⟩ := by
  refine ⟨by simp [BrkS.μ], h.inv.skip (fun h0 => CellsL.isV_false hv h0), h.ok, h.len, ?_⟩
  have := h.sok
  simp only [List.length_append, List.length_singleton, List.map_append] at this
  exact Gs.ok_pop this (by simp)
theorem brk_room {C : CellsL} {n : Int} {l1 l2 : List CellL} {c : CellL} {s : Gs} {t : List Int} {j m j0 : Int} (h : BrkI C n ⟨l1 ++ c :: l2, s, t ++ [j], m, j0⟩) (hlen : l1.length = j.toNat) (h0 : 0 ≤ j) (hv : c.valid = true) :
    t.length + c.above.length ≤ abv C.abs ∧ t.length + 1 ≤ 1 + abv C.abs := by
  have h1 : ((l1 ++ c :: l2).map CellL.abs)[j.toNat]? = some c.abs := by rw [List.map_append, List.map_cons]; exact split_get (by simpa using hlen)
  have h2 := vsum_set h1 hv
  have h3 := h.inv.room
  simp only [List.length_append, List.length_singleton] at h3
  have : c.abs.2.length = c.above.length := rfl
  omega
theorem brk_step {C : CellsL} {n : Int} {l1 l2 : List CellL} {c : CellL} {s : Gs} {t : List Int} {j m j0 : Int} (h : BrkI C n ⟨l1 ++ c :: l2, s, t ++ [j], m, j0⟩) (hlen : l1.length = j.toNat) (h0 : 0 ≤ j) (hv : c.valid = true)
    (s' : Gs) (m' j1 : Int) (hs : s'.ok 1 (t ++ c.above).length ((t ++ c.above).map (Value.int .i64))) :
    BrkS.μ C ⟨l1 ++ ⟨false, c.ab, c.above⟩ :: l2, s', t ++ c.above, m', j1⟩ < BrkS.μ C ⟨l1 ++ c :: l2, s, t ++ [j], m, j0⟩ ∧ BrkI C n ⟨l1 ++ ⟨false, c.ab, c.above⟩ :: l2, s', t ++ c.above, m', j1⟩ := by
  have h1 : ((l1 ++ c :: l2).map CellL.abs)[j.toNat]? = some c.abs := by rw [List.map_append, List.map_cons]; exact split_get (by simpa using hlen)
  have h2 : ((l1 ++ ⟨false, c.ab, c.above⟩ :: l2).map CellL.abs) = ((l1 ++ c :: l2).map CellL.abs).set j.toNat (false, c.abs.2) := by
    rw [List.map_append, List.map_cons, List.map_append, List.map_cons, split_set (by simpa using hlen)]; rfl
  have hr := (brk_room h hlen h0 hv).1
  refine ⟨?_, by rw [h2]; exact h.inv.step h0 h1 hv, ⟨?_, ?_⟩, by have := h.len; simpa using this, hs⟩
  · have h3 := vcount_set h1 hv
    simp only [BrkS.μ, h2]
    rw [← h3, Nat.add_mul]
    simp; omega
  · refine Gs.ok.relen (xs := (BrkS.at ⟨l1 ++ c :: l2, s, t ++ [j], m, j0⟩ C).row) ?_ ?_
    · have := h.ok.row; simpa [BrkS.at] using this
    · simp [BrkS.at, CellsL.row, flat_len CellL.len, CellL.cells]
  · intro d hd
    simp only [BrkS.at, List.mem_append, List.mem_cons] at hd
    rcases hd with hd | rfl | hd
    · exact h.ok.each d (by simp [BrkS.at, hd])
    · exact h.ok.each c (by simp [BrkS.at])
    · exact h.ok.each d (by simp [BrkS.at, hd])
end Go.Proofs.YtdfhbheipagnmaaGreat
namespace Go.Proofs.YtdfhbheipagnmaaGreat
open Go.Sl

theorem cells_there {W0 : World} {C : CellsL} (hC : C.ok) {σ : Heaplet} (hm : ∀ e ∈ C.ent, e ∈ σ) (n : Int) : SC Tryz.prog W0 87 #[.pointer (some ⟨C.p, 0, none⟩), .int .i64 n] σ (fun v σ' => v = .bool (decide (0 ≤ n ∧ n < C.l.length)) ∧ σ' = σ) := by
  refine SC_body (fn := Tryz.f87) (n := 16) Tryz.func87 rfl (by kernel_rfl) (ρ := [(0, .pointer (some ⟨C.p, 0, none⟩)), (1, .int .i64 n)]) rfl ?_
  refine SW_seq ?_
  refine SW_region ?_
  refine SL_segT 1 [(4, .bool false), (0, .pointer (some ⟨C.p, 0, none⟩)), (1, .int .i64 n)] (by intro δ w; kernel_rfl) ?_
  refine SL_nil (n_then ?_)
  refine SW_seq ?_
  refine SW_region ?_
  refine SL_segT 3 [(7, .bool (decide (n ≥ 0))), (4, .bool false), (0, .pointer (some ⟨C.p, 0, none⟩)), (1, .int .i64 n)] (by intro δ w; kernel_rfl) ?_
  refine SL_tb (decide (n ≥ 0)) (fun x => [(7, .bool x), (4, .bool false), (0, .pointer (some ⟨C.p, 0, none⟩)), (1, .int .i64 n)]) (fun hg1 => ?_) (fun hg1 => ?_)
  · skip
    replace hg1 := of_decide_eq_true hg1
    refine SL_segT 4 [(11, .pointer (some ⟨C.p, 0, none⟩)), (8, .int .i64 n), (7, .bool true), (4, .bool false), (0, .pointer (some ⟨C.p, 0, none⟩)), (1, .int .i64 n)] (by intro δ w; kernel_rfl) ?_
    refine SL_cons ⟨rfl, fun _ => rfl⟩ (O_load C.p 0 (Gs.val C.s C.l.length) (fun _ => rfl) (by kernel_rfl) (Cell.own (hm _ C.head) rfl) rfl ?_)
    refine SL_segT 4 [(4, .bool (decide (n < (C.l.length : Int)))), (0, .pointer (some ⟨C.p, 0, none⟩)), (1, .int .i64 n)] (by intro δ w; kernel_rfl) ?_
    refine SL_nil (n_then ?_)
    refine SW_ret ?_
    refine body_end (.bool (decide (n < (C.l.length : Int)))) (fun _ => rfl) ?_
    exact ⟨congrArg Value.bool (by simp; omega), rfl⟩
  · skip
    replace hg1 := of_decide_eq_false hg1
    refine SL_segT 9 [(4, .bool false), (0, .pointer (some ⟨C.p, 0, none⟩)), (1, .int .i64 n)] (by intro δ w; kernel_rfl) ?_
    refine SL_nil (n_then ?_)
    refine SW_ret ?_
    refine body_end (.bool false) (fun _ => rfl) ?_
    exact ⟨congrArg Value.bool (by simp; omega), rfl⟩

theorem cells_Valid {W0 : World} {C : CellsL} (hC : C.ok) {σ : Heaplet} (hm : ∀ e ∈ C.ent, e ∈ σ) (n : Int) : SC Tryz.prog W0 70 #[.pointer (some ⟨C.p, 0, none⟩), .int .i64 n] σ (fun v σ' => v = .bool (C.isV n) ∧ σ' = σ) := by
  refine SC_body (fn := Tryz.f70) (n := 18) Tryz.func70 rfl (by kernel_rfl) (ρ := [(0, .pointer (some ⟨C.p, 0, none⟩)), (1, .int .i64 n)]) rfl ?_
  refine SW_seq ?_
  refine SW_region ?_
  refine SL_segT 1 [(4, .bool false), (0, .pointer (some ⟨C.p, 0, none⟩)), (1, .int .i64 n)] (by intro δ w; kernel_rfl) ?_
  refine SL_nil (n_then ?_)
  refine SW_seq ?_
  refine SW_region ?_
  refine SL_segT 2 [(6, .int .i64 n), (5, .pointer (some ⟨C.p, 0, none⟩)), (4, .bool false), (0, .pointer (some ⟨C.p, 0, none⟩)), (1, .int .i64 n)] (by intro δ w; kernel_rfl) ?_
  refine SL_cons ⟨rfl, fun _ => rfl⟩ (O_call 87 #[.pointer (some ⟨C.p, 0, none⟩), .int .i64 n] rfl (by intro δ w; kernel_rfl) (cells_there hC hm n) ?_)
  rintro _ _ ⟨rfl, rfl⟩
  refine SL_segT 1 [(8, .bool (decide (0 ≤ n ∧ n < C.l.length))), (4, .bool false), (0, .pointer (some ⟨C.p, 0, none⟩)), (1, .int .i64 n)] (by intro δ w; kernel_rfl) ?_
  refine SL_tb (decide (0 ≤ n ∧ n < C.l.length)) (fun x => [(8, .bool x), (4, .bool false), (0, .pointer (some ⟨C.p, 0, none⟩)), (1, .int .i64 n)]) (fun hg1 => ?_) (fun hg1 => ?_)
  · skip
    replace hg1 := of_decide_eq_true hg1
    obtain ⟨c, hc⟩ := CellsL.get hg1
    refine SL_segT 3 [(11, .pointer (some ⟨C.p, 0, none⟩)), (8, .bool true), (4, .bool false), (0, .pointer (some ⟨C.p, 0, none⟩)), (1, .int .i64 n)] (by intro δ w; kernel_rfl) ?_
    refine SL_cons ⟨rfl, fun _ => rfl⟩ (O_load C.p 0 (Gs.val C.s C.l.length) (fun _ => rfl) (by kernel_rfl) (Cell.own (hm _ C.head) rfl) rfl ?_)
    refine SL_segT 1 [(13, .int .i64 n), (12, Gs.val C.s C.l.length), (8, .bool true), (4, .bool false), (0, .pointer (some ⟨C.p, 0, none⟩)), (1, .int .i64 n)] (by intro δ w; kernel_rfl) ?_
    refine SL_cons ⟨rfl, fun _ => rfl⟩ (O_indexAddr' n (((n).toNat) * 2) (Gs.blk C.s) 0 C.l.length (Gs.cap C.s) .i64 2 Tryz.underlying98 (by kernel_rfl) (fun _ => gs_slice (hC.ne (i := n) (by omega) (by omega))) (fun _ => rfl) (by omega) (by omega) (by omega) rfl ?_)
    refine SL_segT 1 [(15, .pointer (some ⟨(Gs.blk C.s), ((n).toNat) * 2, none⟩)), (8, .bool true), (4, .bool false), (0, .pointer (some ⟨C.p, 0, none⟩)), (1, .int .i64 n)] (by intro δ w; kernel_rfl) ?_
    refine SL_cons ⟨rfl, fun _ => rfl⟩ (O_load (Gs.blk C.s) (((n).toNat) * 2) (.bool c.valid) (fun _ => rfl) (by kernel_rfl) (CellsL.at hC hm (j := 0) hc (by decide) rfl) rfl ?_)
    refine SL_segT 2 [(4, .bool c.valid), (0, .pointer (some ⟨C.p, 0, none⟩)), (1, .int .i64 n)] (by intro δ w; kernel_rfl) ?_
    refine SL_nil (n_then ?_)
    refine SW_ret ?_
    refine body_end (.bool c.valid) (fun _ => rfl) ?_
    exact ⟨by rw [CellsL.isV_of hg1 hc], rfl⟩
  · skip
    replace hg1 := of_decide_eq_false hg1
    refine SL_segT 10 [(4, .bool false), (0, .pointer (some ⟨C.p, 0, none⟩)), (1, .int .i64 n)] (by intro δ w; kernel_rfl) ?_
    refine SL_nil (n_then ?_)
    refine SW_ret ?_
    refine body_end (.bool false) (fun _ => rfl) ?_
    exact ⟨by rw [CellsL.isV_out hg1], rfl⟩

theorem cells_New {W0 : World}  : SC Tryz.prog W0 9 #[] [] (fun v σ' => ∃ C : CellsL, σ'.Perm C.ent ∧ C.ok ∧ C.l = [] ∧ v = .pointer (some ⟨C.p, 0, none⟩)) := by
  refine SC_body (fn := Tryz.f9) (n := 3) Tryz.func9 rfl (by kernel_rfl) (ρ := []) rfl ?_
  refine SW_seq ?_
  refine SW_region ?_
  refine SL_segT 1 [(0, .pointer none)] (by intro δ w; kernel_rfl) ?_
  refine SL_nil (n_then ?_)
  refine SW_seq ?_
  refine SW_region ?_
  refine SL_segT 1 [(1, .agg #[.slice none 0 0]), (0, .pointer none)] (by intro δ w; kernel_rfl) ?_
  refine SL_cons ⟨rfl, fun _ => rfl⟩ (O_new (fun b => .pointer (some ⟨b, 0, none⟩)) (.cells #[.slice none 0 0] 100 (0, 0)) (.cells 100 1 [.slice none 0 0]) rfl (by intro δ w; kernel_rfl) ⟨rfl, rfl, rfl, rfl⟩ ?_)
  intro b1 hlb1 hnb1
  refine SL_segT 1 [(0, .pointer (some ⟨b1, 0, none⟩))] (by intro δ w; kernel_rfl) ?_
  refine SL_nil (n_then ?_)
  refine SW_ret ?_
  refine body_end (.pointer (some ⟨b1, 0, none⟩)) (fun _ => rfl) ?_
  exact ⟨⟨b1, .nil, []⟩, by simp [CellsL.ent, Gs.ent, Gs.val, Gs.addr, Gs.cap], ⟨⟨rfl, rfl⟩, by simp⟩, rfl, rfl⟩

theorem cells_Make {W0 : World} {C : CellsL} (hC : C.ok) (hr : C.l.length ≤ 1099511627776) (hab : ∀ c ∈ C.l, c.above.length ≤ C.l.length) (n : Int) : SC Tryz.prog W0 71 #[.pointer (some ⟨C.p, 0, none⟩), .int .i64 n] C.ent (fun v σ' => ∃ C' : CellsL, σ'.Perm C'.ent ∧ C'.ok ∧ C'.p = C.p ∧ v = .int .i64 C.l.length ∧ C'.abs = mkP C.abs n) := by
  refine SC_body (fn := Tryz.f71) (n := 55) Tryz.func71 rfl (by kernel_rfl) (ρ := [(0, .pointer (some ⟨C.p, 0, none⟩)), (1, .int .i64 n)]) rfl ?_
  refine SW_sig ((C.p, .cells 100 1 [Gs.val C.s C.l.length]) :: ((Gs.ent 143 2 C.s C.row) ++ ((C.l.flatMap CellL.ent) ++ ([])))) (by simp [CellsL.ent]) ?_
  refine SW_seq ?_
  refine SW_region ?_
  refine SL_segT 1 [(4, .int .i64 0), (0, .pointer (some ⟨C.p, 0, none⟩)), (1, .int .i64 n)] (by intro δ w; kernel_rfl) ?_
  refine SL_nil (n_then ?_)
  refine SW_seq ?_
  refine SW_region ?_
  refine SL_segT 3 [(9, .pointer (some ⟨C.p, 0, none⟩)), (4, .int .i64 0), (0, .pointer (some ⟨C.p, 0, none⟩)), (1, .int .i64 n)] (by intro δ w; kernel_rfl) ?_
  refine SL_cons ⟨rfl, fun _ => rfl⟩ (O_load C.p 0 (Gs.val C.s C.l.length) (fun _ => rfl) (by kernel_rfl) (Cell.own mem_z rfl) rfl ?_)
  refine SL_segT 2 [(5, .int .i64 (C.l.length : Int)), (4, .int .i64 0), (0, .pointer (some ⟨C.p, 0, none⟩)), (1, .int .i64 n)] (by intro δ w; kernel_rfl) ?_
  refine SL_nil (n_then ?_)
  refine SW_seq ?_
  refine SW_region ?_
  refine SL_segT 3 [(6, .bool (n == (-1))), (5, .int .i64 (C.l.length : Int)), (4, .int .i64 0), (0, .pointer (some ⟨C.p, 0, none⟩)), (1, .int .i64 n)] (by intro δ w; kernel_rfl) ?_
  refine SL_nil (n_then ?_)
  refine SW_seq ?_
  refine SW_seq ?_
  refine SW_region ?_
  refine SL_segT 2 [(15, .int .i64 n), (14, .pointer (some ⟨C.p, 0, none⟩)), (6, .bool (n == (-1))), (5, .int .i64 (C.l.length : Int)), (4, .int .i64 0), (0, .pointer (some ⟨C.p, 0, none⟩)), (1, .int .i64 n)] (by intro δ w; kernel_rfl) ?_
  refine SL_cons ⟨rfl, fun _ => rfl⟩ (O_call 87 #[.pointer (some ⟨C.p, 0, none⟩), .int .i64 n] rfl (by intro δ w; kernel_rfl) (cells_there hC (fun e he => by simpa [CellsL.ent] using he) n) ?_)
  rintro _ _ ⟨rfl, rfl⟩
  refine SL_nil (n_then ?_)
  refine SW_cond (decide (0 ≤ n ∧ n < C.l.length)) (fun _ => rfl) (fun hc1 => ?_) (fun hc1 => ?_)
  · skip
    replace hc1 := of_decide_eq_true hc1
    obtain ⟨c, hc⟩ := CellsL.get hc1
    obtain ⟨l1, l2, hl, hlen⟩ := split_at hc
    have hcok : c.ok := hC.each c (by rw [hl]; simp)
    have hble := hab c (by rw [hl]; simp)
    have hfl : C.l.flatMap CellL.ent = l1.flatMap CellL.ent ++ (CellL.ent c ++ l2.flatMap CellL.ent) := by rw [hl]; simp
    refine SW_sig ((C.p, .cells 100 1 [Gs.val C.s C.l.length]) :: ((Gs.ent 143 2 C.s C.row) ++ ((l1.flatMap CellL.ent) ++ ((Gs.ent 3 1 c.ab (c.above.map (Value.int .i64))) ++ ((l2.flatMap CellL.ent) ++ ([])))))) (by rw [hfl]; simp [CellL.ent]) ?_
    refine SW_seq ?_
    refine SW_region ?_
    refine SL_segT 3 [(19, .pointer (some ⟨C.p, 0, none⟩)), (16, .bool (decide (0 ≤ n ∧ n < C.l.length))), (6, .bool (n == (-1))), (5, .int .i64 (C.l.length : Int)), (4, .int .i64 0), (0, .pointer (some ⟨C.p, 0, none⟩)), (1, .int .i64 n)] (by intro δ w; kernel_rfl) ?_
    refine SL_cons ⟨rfl, fun _ => rfl⟩ (O_load C.p 0 (Gs.val C.s C.l.length) (fun _ => rfl) (by kernel_rfl) (Cell.own mem_z rfl) rfl ?_)
    refine SL_segT 1 [(21, .int .i64 n), (20, Gs.val C.s C.l.length), (16, .bool (decide (0 ≤ n ∧ n < C.l.length))), (6, .bool (n == (-1))), (5, .int .i64 (C.l.length : Int)), (4, .int .i64 0), (0, .pointer (some ⟨C.p, 0, none⟩)), (1, .int .i64 n)] (by intro δ w; kernel_rfl) ?_
    refine SL_cons ⟨rfl, fun _ => rfl⟩ (O_indexAddr' n (((n).toNat) * 2) (Gs.blk C.s) 0 C.l.length (Gs.cap C.s) .i64 2 Tryz.underlying98 (by kernel_rfl) (fun _ => gs_slice (hC.ne (i := n) (by omega) (by omega))) (fun _ => rfl) (by omega) (by omega) (by omega) rfl ?_)
    refine SL_segT 1 [(23, .pointer (some ⟨(Gs.blk C.s), ((n).toNat) * 2, none⟩)), (16, .bool (decide (0 ≤ n ∧ n < C.l.length))), (6, .bool (n == (-1))), (5, .int .i64 (C.l.length : Int)), (4, .int .i64 0), (0, .pointer (some ⟨C.p, 0, none⟩)), (1, .int .i64 n)] (by intro δ w; kernel_rfl) ?_
    refine SL_cons ⟨rfl, fun _ => rfl⟩ (O_load (Gs.blk C.s) (((n).toNat) * 2) (.bool c.valid) (fun _ => rfl) (by kernel_rfl) (Gs.cell hC.row (fun e he => (mem_c (mem_h he))) (by rw [CellsL.row]; exact flat_get CellL.len C.l _ 0 c hc (by decide))) rfl ?_)
    refine SL_segT 1 [(6, .bool c.valid), (16, .bool (decide (0 ≤ n ∧ n < C.l.length))), (5, .int .i64 (C.l.length : Int)), (4, .int .i64 0), (0, .pointer (some ⟨C.p, 0, none⟩)), (1, .int .i64 n)] (by intro δ w; kernel_rfl) ?_
    refine SL_nil (n_then ?_)
    refine SW_draw [(C.p, 0, Gs.val C.s C.l.length), (C.p, 0, Gs.val C.s C.l.length), ((Gs.blk C.s), ((n).toNat) * 2 + 1, Gs.val c.ab c.above.length)] [0, 1, 2, 3, 4, 5, 6, 7, 8, 9, 10, 11, 12, 13, 14, 15, 16, 17] (by kernel_rfl) (rd_cons (Cell.own mem_z rfl) (rd_cons (Cell.own mem_z rfl) (rd_cons (Gs.cell hC.row (fun e he => (mem_c (mem_h he))) (by rw [CellsL.row]; exact flat_get CellL.len C.l _ 1 c hc (by decide))) rd_nil))) ?_
    refine SA_take (li' := #[true, false, false, false, false, false, false, false, false, false, false, false, false, false, false, false, false, false, false]) 0 _ (.pointer (some ⟨C.p, 0, none⟩)) (fun _ _ _ h => h) rfl (by kernel_rfl) rfl (Or.inl ⟨fun _ => rfl, by intro δ w; kernel_rfl⟩) ?_
    refine SA_take (li' := #[true, true, false, false, false, false, false, false, false, false, false, false, false, false, false, false, false, false, false]) 1 _ (.pointer (some ⟨C.p, 0, none⟩)) (fun _ _ _ h => h) rfl (by kernel_rfl) rfl (Or.inl ⟨fun _ => rfl, by intro δ w; kernel_rfl⟩) ?_
    refine SA_trim [(26, .pointer (some ⟨C.p, 0, none⟩)), (6, .bool c.valid), (16, .bool (decide (0 ≤ n ∧ n < C.l.length))), (5, .int .i64 (C.l.length : Int)), (4, .int .i64 0), (0, .pointer (some ⟨C.p, 0, none⟩)), (1, .int .i64 n)] (fun _ => rfl) ?_
    refine SA_take (li' := #[true, true, true, false, false, false, false, false, false, false, false, false, false, false, false, false, false, false, false]) 2 _ (.pointer (some ⟨C.p, 0, none⟩)) (fun _ _ _ h => h) rfl (by kernel_rfl) rfl (Or.inl ⟨fun _ => rfl, by intro δ w; kernel_rfl⟩) ?_
    refine SA_trim [(27, .pointer (some ⟨C.p, 0, none⟩)), (6, .bool c.valid), (16, .bool (decide (0 ≤ n ∧ n < C.l.length))), (5, .int .i64 (C.l.length : Int)), (4, .int .i64 0), (0, .pointer (some ⟨C.p, 0, none⟩)), (1, .int .i64 n)] (fun _ => rfl) ?_
    refine SA_read (li' := #[true, true, true, true, false, false, false, false, false, false, false, false, false, false, false, false, false, false, false]) 3 _ (Gs.val C.s C.l.length) (fun _ _ _ h => h) rfl (by kernel_rfl) rfl (fun _ => rfl) (fun δ w hr => Rd_load C.p 0 (Gs.val C.s C.l.length) rfl (by kernel_rfl) List.mem_cons_self hr) ?_
    refine SA_trim [(28, Gs.val C.s C.l.length), (6, .bool c.valid), (16, .bool (decide (0 ≤ n ∧ n < C.l.length))), (5, .int .i64 (C.l.length : Int)), (4, .int .i64 0), (0, .pointer (some ⟨C.p, 0, none⟩)), (1, .int .i64 n)] (fun _ => rfl) ?_
    refine SA_take (li' := #[true, true, true, true, true, false, false, false, false, false, false, false, false, false, false, false, false, false, false]) 4 _ (.int .i64 n) (fun _ _ _ h => h) rfl (by kernel_rfl) rfl (Or.inl ⟨fun _ => rfl, by intro δ w; kernel_rfl⟩) ?_
    refine SA_take (li' := #[true, true, true, true, true, true, false, false, false, false, false, false, false, false, false, false, false, false, false]) 5 _ (.pointer (some ⟨C.p, 0, none⟩)) (fun _ _ _ h => h) rfl (by kernel_rfl) rfl (Or.inl ⟨fun _ => rfl, by intro δ w; kernel_rfl⟩) ?_
    refine SA_take (li' := #[true, true, true, true, true, true, true, false, false, false, false, false, false, false, false, false, false, false, false]) 6 _ (.pointer (some ⟨C.p, 0, none⟩)) (fun _ _ _ h => h) rfl (by kernel_rfl) rfl (Or.inl ⟨fun _ => rfl, by intro δ w; kernel_rfl⟩) ?_
    refine SA_trim [(31, .pointer (some ⟨C.p, 0, none⟩)), (29, .int .i64 n), (28, Gs.val C.s C.l.length), (6, .bool c.valid), (16, .bool (decide (0 ≤ n ∧ n < C.l.length))), (5, .int .i64 (C.l.length : Int)), (4, .int .i64 0), (0, .pointer (some ⟨C.p, 0, none⟩)), (1, .int .i64 n)] (fun _ => rfl) ?_
    refine SA_take (li' := #[true, true, true, true, true, true, true, true, false, false, false, false, false, false, false, false, false, false, false]) 7 _ (.pointer (some ⟨C.p, 0, none⟩)) (fun _ _ _ h => h) rfl (by kernel_rfl) rfl (Or.inl ⟨fun _ => rfl, by intro δ w; kernel_rfl⟩) ?_
    refine SA_trim [(32, .pointer (some ⟨C.p, 0, none⟩)), (29, .int .i64 n), (28, Gs.val C.s C.l.length), (6, .bool c.valid), (16, .bool (decide (0 ≤ n ∧ n < C.l.length))), (5, .int .i64 (C.l.length : Int)), (4, .int .i64 0), (0, .pointer (some ⟨C.p, 0, none⟩)), (1, .int .i64 n)] (fun _ => rfl) ?_
    refine SA_read (li' := #[true, true, true, true, true, true, true, true, true, false, false, false, false, false, false, false, false, false, false]) 8 _ (Gs.val C.s C.l.length) (fun _ _ _ h => h) rfl (by kernel_rfl) rfl (fun _ => rfl) (fun δ w hr => Rd_load C.p 0 (Gs.val C.s C.l.length) rfl (by kernel_rfl) List.mem_cons_self hr) ?_
    refine SA_trim [(33, Gs.val C.s C.l.length), (29, .int .i64 n), (28, Gs.val C.s C.l.length), (6, .bool c.valid), (16, .bool (decide (0 ≤ n ∧ n < C.l.length))), (5, .int .i64 (C.l.length : Int)), (4, .int .i64 0), (0, .pointer (some ⟨C.p, 0, none⟩)), (1, .int .i64 n)] (fun _ => rfl) ?_
    refine SA_take (li' := #[true, true, true, true, true, true, true, true, true, true, false, false, false, false, false, false, false, false, false]) 9 _ (.int .i64 n) (fun _ _ _ h => h) rfl (by kernel_rfl) rfl (Or.inl ⟨fun _ => rfl, by intro δ w; kernel_rfl⟩) ?_
    refine SA_take (li' := #[true, true, true, true, true, true, true, true, true, true, true, false, false, false, false, false, false, false, false]) 10 _ (.pointer (some ⟨(Gs.blk C.s), ((n).toNat) * 2, none⟩)) (fun _ _ _ h => h) rfl (by kernel_rfl) rfl (Or.inl ⟨fun _ => rfl, (fun δ w => run_indexAddr n (((n).toNat) * 2) (Gs.blk C.s) 0 C.l.length (Gs.cap C.s) .i64 2 Tryz.underlying98 (by kernel_rfl) (fun _ => gs_slice (hC.ne (i := n) (by omega) (by omega))) (fun _ => rfl) (by omega) (by omega) (by omega))⟩) ?_
    refine SA_trim [(35, .pointer (some ⟨(Gs.blk C.s), ((n).toNat) * 2, none⟩)), (29, .int .i64 n), (28, Gs.val C.s C.l.length), (6, .bool c.valid), (16, .bool (decide (0 ≤ n ∧ n < C.l.length))), (5, .int .i64 (C.l.length : Int)), (4, .int .i64 0), (0, .pointer (some ⟨C.p, 0, none⟩)), (1, .int .i64 n)] (fun _ => rfl) ?_
    refine SA_take (li' := #[true, true, true, true, true, true, true, true, true, true, true, true, false, false, false, false, false, false, false]) 11 _ (.pointer (some ⟨(Gs.blk C.s), ((n).toNat) * 2 + 1, none⟩)) (fun _ _ _ h => h) rfl (by kernel_rfl) rfl (Or.inl ⟨fun _ => rfl, by intro δ w; kernel_rfl⟩) ?_
    refine SA_trim [(36, .pointer (some ⟨(Gs.blk C.s), ((n).toNat) * 2 + 1, none⟩)), (29, .int .i64 n), (28, Gs.val C.s C.l.length), (6, .bool c.valid), (16, .bool (decide (0 ≤ n ∧ n < C.l.length))), (5, .int .i64 (C.l.length : Int)), (4, .int .i64 0), (0, .pointer (some ⟨C.p, 0, none⟩)), (1, .int .i64 n)] (fun _ => rfl) ?_
    refine SA_read (li' := #[true, true, true, true, true, true, true, true, true, true, true, true, true, false, false, false, false, false, false]) 12 _ (Gs.val c.ab c.above.length) (fun _ _ _ h => h) rfl (by kernel_rfl) rfl (fun _ => rfl) (fun δ w hr => Rd_load (Gs.blk C.s) (((n).toNat) * 2 + 1) (Gs.val c.ab c.above.length) rfl (by kernel_rfl) (List.mem_cons_of_mem _ (List.mem_cons_of_mem _ List.mem_cons_self)) hr) ?_
    refine SA_trim [(37, Gs.val c.ab c.above.length), (29, .int .i64 n), (28, Gs.val C.s C.l.length), (6, .bool c.valid), (16, .bool (decide (0 ≤ n ∧ n < C.l.length))), (5, .int .i64 (C.l.length : Int)), (4, .int .i64 0), (0, .pointer (some ⟨C.p, 0, none⟩)), (1, .int .i64 n)] (fun _ => rfl) ?_
    refine SA_take (li' := #[true, true, true, true, true, true, true, true, true, true, true, true, true, true, false, false, false, false, false]) 13 _ (.int .i64 (C.l.length : Int)) (fun _ _ _ h => h) rfl (by kernel_rfl) rfl (Or.inl ⟨fun _ => rfl, by intro δ w; kernel_rfl⟩) ?_
    refine SA_one true (li' := #[true, true, true, true, true, true, true, true, true, true, true, true, true, true, true, false, false, false, false]) 14 _ rfl rfl (by kernel_rfl) ⟨rfl, fun _ => rfl⟩ rfl (O_new (fun b => .slice (some ⟨b, 0, none⟩) 1 1) (.cells #[.int .i64 (C.l.length : Int)] 3 (0, 0)) (.cells 3 1 [.int .i64 (C.l.length : Int)]) rfl (by intro δ w; kernel_rfl) ⟨rfl, rfl, rfl, rfl⟩ ?_)
    intro b2 hlb2 hnb2
    refine ⟨fun hnd => (rd_cons (Cell.own (mem_c mem_z) rfl) (rd_cons (Cell.own (mem_c mem_z) rfl) (rd_cons (Gs.cell hC.row (fun e he => (mem_c (mem_c (mem_h he)))) (by rw [CellsL.row]; exact flat_get CellL.len C.l _ 1 c hc (by decide))) rd_nil))), ?_⟩
    refine SA_trim [(39, .slice (some ⟨b2, 0, none⟩) 1 1), (37, Gs.val c.ab c.above.length), (29, .int .i64 n), (28, Gs.val C.s C.l.length), (6, .bool c.valid), (16, .bool (decide (0 ≤ n ∧ n < C.l.length))), (5, .int .i64 (C.l.length : Int)), (4, .int .i64 0), (0, .pointer (some ⟨C.p, 0, none⟩)), (1, .int .i64 n)] (fun _ => rfl) ?_
    refine SA_perm ((Gs.ent 3 1 c.ab (c.above.map (Value.int .i64))) ++ ((b2, .cells 3 1 [.int .i64 (C.l.length : Int)]) :: ((C.p, .cells 100 1 [Gs.val C.s C.l.length]) :: ((Gs.ent 143 2 C.s C.row) ++ ((l1.flatMap CellL.ent) ++ ((l2.flatMap CellL.ent) ++ ([]))))))) (perm_cc (perm_cc (perm_ca (perm_ca perm_cz)))) ?_
    refine SA_one true (li' := #[true, true, true, true, true, true, true, true, true, true, true, true, true, true, true, true, false, false, false]) 15 _ rfl rfl (by kernel_rfl) ⟨rfl, fun _ => rfl⟩ rfl (O_append (size := 1) (bytes := 8) (z := .int .i64 0) c.ab c.above.length 1 (some ⟨b2, 0, none⟩) 1 (c.above.map (Value.int .i64)) ([.int .i64 (C.l.length : Int)]) ((c.above ++ [(C.l.length : Int)]).map (Value.int .i64)) (by simp) (fun _ => rfl) (fun _ => rfl) Tryz.underlying141 (by kernel_rfl) rfl (by decide) hcok rfl (.inr ⟨b2, 0, rfl, Cells.own (mem_a mem_z) rfl⟩) rfl (by omega) (by decide) rfl ?_)
    intro s3 hks3 hfs3
    refine ⟨fun hnd => (rd_cons (Cell.own (mem_a (mem_c mem_z)) rfl) (rd_cons (Cell.own (mem_a (mem_c mem_z)) rfl) (rd_cons (Gs.cell hC.row (fun e he => (mem_a (mem_c (mem_c (mem_h he))))) (by rw [CellsL.row]; exact flat_get CellL.len C.l _ 1 c hc (by decide))) rd_nil))), ?_⟩
    refine SA_trim [(40, Gs.val s3 (c.above.length + 1)), (29, .int .i64 n), (28, Gs.val C.s C.l.length), (6, .bool c.valid), (16, .bool (decide (0 ≤ n ∧ n < C.l.length))), (5, .int .i64 (C.l.length : Int)), (4, .int .i64 0), (0, .pointer (some ⟨C.p, 0, none⟩)), (1, .int .i64 n)] (fun _ => rfl) ?_
    refine SA_take (li' := #[true, true, true, true, true, true, true, true, true, true, true, true, true, true, true, true, true, false, false]) 16 _ (.pointer (some ⟨(Gs.blk C.s), ((n).toNat) * 2, none⟩)) (fun _ _ _ h => h) rfl (by kernel_rfl) rfl (Or.inl ⟨fun _ => rfl, (fun δ w => run_indexAddr n (((n).toNat) * 2) (Gs.blk C.s) 0 C.l.length (Gs.cap C.s) .i64 2 Tryz.underlying98 (by kernel_rfl) (fun _ => gs_slice (hC.ne (i := n) (by omega) (by omega))) (fun _ => rfl) (by omega) (by omega) (by omega))⟩) ?_
    refine SA_trim [(41, .pointer (some ⟨(Gs.blk C.s), ((n).toNat) * 2, none⟩)), (40, Gs.val s3 (c.above.length + 1)), (6, .bool c.valid), (16, .bool (decide (0 ≤ n ∧ n < C.l.length))), (5, .int .i64 (C.l.length : Int)), (4, .int .i64 0), (0, .pointer (some ⟨C.p, 0, none⟩)), (1, .int .i64 n)] (fun _ => rfl) ?_
    refine SA_take (li' := #[true, true, true, true, true, true, true, true, true, true, true, true, true, true, true, true, true, true, false]) 17 _ (.pointer (some ⟨(Gs.blk C.s), ((n).toNat) * 2 + 1, none⟩)) (fun _ _ _ h => h) rfl (by kernel_rfl) rfl (Or.inl ⟨fun _ => rfl, by intro δ w; kernel_rfl⟩) ?_
    refine SA_trim [(42, .pointer (some ⟨(Gs.blk C.s), ((n).toNat) * 2 + 1, none⟩)), (40, Gs.val s3 (c.above.length + 1)), (6, .bool c.valid), (16, .bool (decide (0 ≤ n ∧ n < C.l.length))), (5, .int .i64 (C.l.length : Int)), (4, .int .i64 0), (0, .pointer (some ⟨C.p, 0, none⟩)), (1, .int .i64 n)] (fun _ => rfl) ?_
    refine SA_perm ((Gs.ent 143 2 C.s C.row) ++ ((Gs.ent 3 1 s3 ((c.above ++ [(C.l.length : Int)]).map (Value.int .i64))) ++ ((b2, .cells 3 1 [.int .i64 (C.l.length : Int)]) :: ((C.p, .cells 100 1 [Gs.val C.s C.l.length]) :: ((l1.flatMap CellL.ent) ++ ((l2.flatMap CellL.ent) ++ ([]))))))) (perm_ca (perm_cc (perm_cc perm_cz))) ?_
    refine SA_one false (li' := #[true, true, true, true, true, true, true, true, true, true, true, true, true, true, true, true, true, true, true]) 18 _ rfl rfl (by kernel_rfl) ⟨rfl, fun _ => rfl⟩ rfl (O_storeG (ys := (l1 ++ (CellL.mk c.valid s3 (c.above ++ [(C.l.length : Int)])) :: l2).flatMap CellL.cells) C.s (((n).toNat) * 2 + 1) (Gs.val s3 (c.above.length + 1)) [Gs.val s3 (c.above.length + 1)] (hC.ne (i := n) (by omega) (by omega)) (fun _ => rfl) (fun _ => rfl) rfl (by kernel_rfl) rfl (by rw [CellsL.row, flat_len CellL.len]; simp; omega) (by rw [show C.row = (l1 ++ c :: l2).flatMap CellL.cells from by rw [CellsL.row, hl]]; exact flat_lay' (a := c) (j := 1) (vs := [Gs.val s3 (c.above.length + 1)]) CellL.len (CellL.mk c.valid s3 (c.above ++ [(C.l.length : Int)])) hlen (by simp) (by simp [lay, CellL.cells])) rfl ?_)
    refine ⟨fun hnd => (by cases hnd), ?_⟩
    refine SA_trim [(6, .bool c.valid), (16, .bool (decide (0 ≤ n ∧ n < C.l.length))), (5, .int .i64 (C.l.length : Int)), (4, .int .i64 0), (0, .pointer (some ⟨C.p, 0, none⟩)), (1, .int .i64 n)] (fun _ => rfl) ?_
    refine SA_done (by kernel_rfl) (n_then ?_)
    refine SW_seq ?_
    refine SW_region ?_
    refine SL_segT 4 [(46, .pointer (some ⟨C.p, 0, none⟩)), (43, .pointer (some ⟨C.p, 0, none⟩)), (6, .bool c.valid), (16, .bool (decide (0 ≤ n ∧ n < C.l.length))), (5, .int .i64 (C.l.length : Int)), (4, .int .i64 0), (0, .pointer (some ⟨C.p, 0, none⟩)), (1, .int .i64 n)] (by intro δ w; kernel_rfl) ?_
    refine SL_cons ⟨rfl, fun _ => rfl⟩ (O_load C.p 0 (Gs.val C.s C.l.length) (fun _ => rfl) (by kernel_rfl) (Cell.own (mem_a (mem_a (mem_c mem_z))) rfl) rfl ?_)
    refine SL_segT 2 [(49, .agg #[.bool c.valid, .slice none 0 0]), (47, Gs.val C.s C.l.length), (43, .pointer (some ⟨C.p, 0, none⟩)), (6, .bool c.valid), (16, .bool (decide (0 ≤ n ∧ n < C.l.length))), (5, .int .i64 (C.l.length : Int)), (4, .int .i64 0), (0, .pointer (some ⟨C.p, 0, none⟩)), (1, .int .i64 n)] (by intro δ w; kernel_rfl) ?_
    refine SL_cons ⟨rfl, fun _ => rfl⟩ (O_new (fun b => .slice (some ⟨b, 0, none⟩) 1 1) (.cells #[.bool c.valid, .slice none 0 0] 143 (0, 0)) (.cells 143 2 [.bool c.valid, .slice none 0 0]) rfl (by intro δ w; kernel_rfl) ⟨rfl, rfl, rfl, rfl⟩ ?_)
    intro b4 hlb4 hnb4
    refine SL_perm ((Gs.ent 143 2 C.s ((l1 ++ (CellL.mk c.valid s3 (c.above ++ [(C.l.length : Int)])) :: l2).flatMap CellL.cells)) ++ ((b4, .cells 143 2 [.bool c.valid, .slice none 0 0]) :: ((Gs.ent 3 1 s3 ((c.above ++ [(C.l.length : Int)]).map (Value.int .i64))) ++ ((b2, .cells 3 1 [.int .i64 (C.l.length : Int)]) :: ((C.p, .cells 100 1 [Gs.val C.s C.l.length]) :: ((l1.flatMap CellL.ent) ++ ((l2.flatMap CellL.ent) ++ ([])))))))) (perm_cc perm_cz) ?_
    refine SL_cons ⟨rfl, fun _ => rfl⟩ (O_append (size := 2) (bytes := 32) (z := .agg #[.bool false, .slice none 0 0]) C.s C.l.length 1 (some ⟨b4, 0, none⟩) 1 ((l1 ++ (CellL.mk c.valid s3 (c.above ++ [(C.l.length : Int)])) :: l2).flatMap CellL.cells) ([.bool c.valid, .slice none 0 0]) ((l1 ++ (CellL.mk c.valid s3 (c.above ++ [(C.l.length : Int)])) :: l2).flatMap CellL.cells ++ CellL.cells (CellL.mk c.valid Gs.nil [])) rfl (fun _ => rfl) (fun _ => rfl) Tryz.underlying98 (by kernel_rfl) rfl (by decide) (Gs.ok.relen hC.row (by rw [CellsL.row, hl, flat_len CellL.len, flat_len CellL.len]; simp)) rfl (.inr ⟨b4, 0, rfl, Cells.own (mem_a mem_z) rfl⟩) rfl (by omega) (by decide) rfl ?_)
    intro s5 hks5 hfs5
    refine SL_segT 2 [(53, .pointer (some ⟨C.p, 0, none⟩)), (51, Gs.val s5 (C.l.length + 1)), (6, .bool c.valid), (16, .bool (decide (0 ≤ n ∧ n < C.l.length))), (5, .int .i64 (C.l.length : Int)), (4, .int .i64 0), (0, .pointer (some ⟨C.p, 0, none⟩)), (1, .int .i64 n)] (by intro δ w; kernel_rfl) ?_
    refine SL_perm ((C.p, .cells 100 1 [Gs.val C.s C.l.length]) :: ((Gs.ent 143 2 s5 ((l1 ++ (CellL.mk c.valid s3 (c.above ++ [(C.l.length : Int)])) :: l2).flatMap CellL.cells ++ CellL.cells (CellL.mk c.valid Gs.nil []))) ++ ((b4, .cells 143 2 [.bool c.valid, .slice none 0 0]) :: ((Gs.ent 3 1 s3 ((c.above ++ [(C.l.length : Int)]).map (Value.int .i64))) ++ ((b2, .cells 3 1 [.int .i64 (C.l.length : Int)]) :: ((l1.flatMap CellL.ent) ++ ((l2.flatMap CellL.ent) ++ ([])))))))) (perm_a (perm_c (perm_a (perm_c perm_z)))) ?_
    refine SL_cons ⟨rfl, fun _ => rfl⟩ (O_store C.p 0 (Gs.val s5 (C.l.length + 1)) [Gs.val s5 (C.l.length + 1)] (fun _ => rfl) (fun _ => rfl) rfl (by kernel_rfl) rfl (by simp only [List.length_cons, List.length_nil]; omega) rfl ?_)
    refine SL_sig ((C.p, .cells 100 1 [Gs.val s5 (C.l.length + 1)]) :: ((Gs.ent 143 2 s5 ((l1 ++ (CellL.mk c.valid s3 (c.above ++ [(C.l.length : Int)])) :: l2).flatMap CellL.cells ++ CellL.cells (CellL.mk c.valid Gs.nil []))) ++ ((b4, .cells 143 2 [.bool c.valid, .slice none 0 0]) :: ((Gs.ent 3 1 s3 ((c.above ++ [(C.l.length : Int)]).map (Value.int .i64))) ++ ((b2, .cells 3 1 [.int .i64 (C.l.length : Int)]) :: ((l1.flatMap CellL.ent) ++ ((l2.flatMap CellL.ent) ++ ([])))))))) rfl ?_
    refine SL_nil (n_then ?_)
    refine SW_seq ?_
    refine SW_region ?_
    refine SL_segT 2 [(4, .int .i64 (C.l.length : Int)), (6, .bool c.valid), (16, .bool (decide (0 ≤ n ∧ n < C.l.length))), (5, .int .i64 (C.l.length : Int)), (0, .pointer (some ⟨C.p, 0, none⟩)), (1, .int .i64 n)] (by intro δ w; kernel_rfl) ?_
    refine SL_nil (n_then ?_)
    refine SW_perm ((b4, .cells 143 2 [.bool c.valid, .slice none 0 0]) :: ((C.p, .cells 100 1 [Gs.val s5 (C.l.length + 1)]) :: ((Gs.ent 143 2 s5 ((l1 ++ (CellL.mk c.valid s3 (c.above ++ [(C.l.length : Int)])) :: l2).flatMap CellL.cells ++ CellL.cells (CellL.mk c.valid Gs.nil []))) ++ ((Gs.ent 3 1 s3 ((c.above ++ [(C.l.length : Int)]).map (Value.int .i64))) ++ ((b2, .cells 3 1 [.int .i64 (C.l.length : Int)]) :: ((l1.flatMap CellL.ent) ++ ((l2.flatMap CellL.ent) ++ ([])))))))) (perm_c (perm_a perm_z)) ?_
    refine SW_forget ?_
    refine SW_perm ((b2, .cells 3 1 [.int .i64 (C.l.length : Int)]) :: ((C.p, .cells 100 1 [Gs.val s5 (C.l.length + 1)]) :: ((Gs.ent 143 2 s5 ((l1 ++ (CellL.mk c.valid s3 (c.above ++ [(C.l.length : Int)])) :: l2).flatMap CellL.cells ++ CellL.cells (CellL.mk c.valid Gs.nil []))) ++ ((Gs.ent 3 1 s3 ((c.above ++ [(C.l.length : Int)]).map (Value.int .i64))) ++ ((l1.flatMap CellL.ent) ++ ((l2.flatMap CellL.ent) ++ ([]))))))) (perm_c (perm_a (perm_a perm_z))) ?_
    refine SW_forget ?_
    refine SW_perm ((l2.flatMap CellL.ent) ++ ((C.p, .cells 100 1 [Gs.val s5 (C.l.length + 1)]) :: ((Gs.ent 143 2 s5 ((l1 ++ (CellL.mk c.valid s3 (c.above ++ [(C.l.length : Int)])) :: l2).flatMap CellL.cells ++ CellL.cells (CellL.mk c.valid Gs.nil []))) ++ ((Gs.ent 3 1 s3 ((c.above ++ [(C.l.length : Int)]).map (Value.int .i64))) ++ ((l1.flatMap CellL.ent) ++ ([])))))) (perm_cc (perm_ca (perm_ca (perm_ca perm_cz)))) ?_
    refine SW_perm ((Gs.ent 3 1 s3 ((c.above ++ [(C.l.length : Int)]).map (Value.int .i64))) ++ ((l2.flatMap CellL.ent) ++ ((C.p, .cells 100 1 [Gs.val s5 (C.l.length + 1)]) :: ((Gs.ent 143 2 s5 ((l1 ++ (CellL.mk c.valid s3 (c.above ++ [(C.l.length : Int)])) :: l2).flatMap CellL.cells ++ CellL.cells (CellL.mk c.valid Gs.nil []))) ++ ((l1.flatMap CellL.ent) ++ ([])))))) (perm_ca (perm_cc (perm_ca perm_cz))) ?_
    refine SW_perm ((l1.flatMap CellL.ent) ++ ((Gs.ent 3 1 s3 ((c.above ++ [(C.l.length : Int)]).map (Value.int .i64))) ++ ((l2.flatMap CellL.ent) ++ ((C.p, .cells 100 1 [Gs.val s5 (C.l.length + 1)]) :: ((Gs.ent 143 2 s5 ((l1 ++ (CellL.mk c.valid s3 (c.above ++ [(C.l.length : Int)])) :: l2).flatMap CellL.cells ++ CellL.cells (CellL.mk c.valid Gs.nil []))) ++ ([])))))) (perm_ca (perm_ca (perm_cc (perm_ca perm_cz)))) ?_
    refine SW_perm ((Gs.ent 143 2 s5 ((l1 ++ (CellL.mk c.valid s3 (c.above ++ [(C.l.length : Int)])) :: l2).flatMap CellL.cells ++ CellL.cells (CellL.mk c.valid Gs.nil []))) ++ ((l1.flatMap CellL.ent) ++ ((Gs.ent 3 1 s3 ((c.above ++ [(C.l.length : Int)]).map (Value.int .i64))) ++ ((l2.flatMap CellL.ent) ++ ((C.p, .cells 100 1 [Gs.val s5 (C.l.length + 1)]) :: ([])))))) (perm_ca (perm_ca (perm_ca (perm_cc perm_cz)))) ?_
    refine SW_perm ((C.p, .cells 100 1 [Gs.val s5 (C.l.length + 1)]) :: ((Gs.ent 143 2 s5 ((l1 ++ (CellL.mk c.valid s3 (c.above ++ [(C.l.length : Int)])) :: l2).flatMap CellL.cells ++ CellL.cells (CellL.mk c.valid Gs.nil []))) ++ ((l1.flatMap CellL.ent) ++ ((Gs.ent 3 1 s3 ((c.above ++ [(C.l.length : Int)]).map (Value.int .i64))) ++ ((l2.flatMap CellL.ent) ++ ([])))))) (perm_a (perm_a (perm_a (perm_a perm_z)))) ?_
    refine SW_ret ?_
    refine body_end (.int .i64 (C.l.length : Int)) (fun _ => rfl) ?_
    refine ⟨⟨C.p, s5, (l1 ++ (CellL.mk c.valid s3 (c.above ++ [(C.l.length : Int)])) :: l2) ++ [CellL.mk c.valid Gs.nil []]⟩, List.Perm.of_eq (by simp [CellsL.ent, CellsL.row, CellL.ent, Gs.ent, hl, Nat.add_assoc]), ⟨?_, ?_⟩, rfl, rfl, mkP_in hc1 hl hlen _ _⟩
    · simpa [CellsL.row, hl, Nat.add_assoc] using hks5
    · intro d hd
      simp only [List.mem_append, List.mem_cons, List.not_mem_nil, or_false] at hd
      rcases hd with (hd | rfl | hd) | rfl
      · exact hC.each d (by rw [hl]; simp [hd])
      · simpa [CellL.ok] using hks3
      · exact hC.each d (by rw [hl]; simp [hd])
      · exact ⟨rfl, rfl⟩
  · skip
    replace hc1 := of_decide_eq_false hc1
    refine SW_skip (n_then ?_)
    refine SW_seq ?_
    refine SW_region ?_
    refine SL_segT 4 [(46, .pointer (some ⟨C.p, 0, none⟩)), (43, .pointer (some ⟨C.p, 0, none⟩)), (16, .bool (decide (0 ≤ n ∧ n < C.l.length))), (6, .bool (n == (-1))), (5, .int .i64 (C.l.length : Int)), (4, .int .i64 0), (0, .pointer (some ⟨C.p, 0, none⟩)), (1, .int .i64 n)] (by intro δ w; kernel_rfl) ?_
    refine SL_cons ⟨rfl, fun _ => rfl⟩ (O_load C.p 0 (Gs.val C.s C.l.length) (fun _ => rfl) (by kernel_rfl) (Cell.own mem_z rfl) rfl ?_)
    refine SL_segT 2 [(49, .agg #[.bool (n == (-1)), .slice none 0 0]), (47, Gs.val C.s C.l.length), (43, .pointer (some ⟨C.p, 0, none⟩)), (16, .bool (decide (0 ≤ n ∧ n < C.l.length))), (6, .bool (n == (-1))), (5, .int .i64 (C.l.length : Int)), (4, .int .i64 0), (0, .pointer (some ⟨C.p, 0, none⟩)), (1, .int .i64 n)] (by intro δ w; kernel_rfl) ?_
    refine SL_cons ⟨rfl, fun _ => rfl⟩ (O_new (fun b => .slice (some ⟨b, 0, none⟩) 1 1) (.cells #[.bool (n == (-1)), .slice none 0 0] 143 (0, 0)) (.cells 143 2 [.bool (n == (-1)), .slice none 0 0]) rfl (by intro δ w; kernel_rfl) ⟨rfl, rfl, rfl, rfl⟩ ?_)
    intro b6 hlb6 hnb6
    refine SL_perm ((Gs.ent 143 2 C.s C.row) ++ ((b6, .cells 143 2 [.bool (n == (-1)), .slice none 0 0]) :: ((C.p, .cells 100 1 [Gs.val C.s C.l.length]) :: ((C.l.flatMap CellL.ent) ++ ([]))))) (perm_cc (perm_cc perm_cz)) ?_
    refine SL_cons ⟨rfl, fun _ => rfl⟩ (O_append (size := 2) (bytes := 32) (z := .agg #[.bool false, .slice none 0 0]) C.s C.l.length 1 (some ⟨b6, 0, none⟩) 1 C.row ([.bool (n == (-1)), .slice none 0 0]) (C.row ++ CellL.cells (CellL.mk (n == (-1)) Gs.nil [])) rfl (fun _ => rfl) (fun _ => rfl) Tryz.underlying98 (by kernel_rfl) rfl (by decide) hC.row rfl (.inr ⟨b6, 0, rfl, Cells.own (mem_a mem_z) rfl⟩) rfl (by omega) (by decide) rfl ?_)
    intro s7 hks7 hfs7
    refine SL_segT 2 [(53, .pointer (some ⟨C.p, 0, none⟩)), (51, Gs.val s7 (C.l.length + 1)), (16, .bool (decide (0 ≤ n ∧ n < C.l.length))), (6, .bool (n == (-1))), (5, .int .i64 (C.l.length : Int)), (4, .int .i64 0), (0, .pointer (some ⟨C.p, 0, none⟩)), (1, .int .i64 n)] (by intro δ w; kernel_rfl) ?_
    refine SL_perm ((C.p, .cells 100 1 [Gs.val C.s C.l.length]) :: ((Gs.ent 143 2 s7 (C.row ++ CellL.cells (CellL.mk (n == (-1)) Gs.nil []))) ++ ((b6, .cells 143 2 [.bool (n == (-1)), .slice none 0 0]) :: ((C.l.flatMap CellL.ent) ++ ([]))))) (perm_a (perm_c perm_z)) ?_
    refine SL_cons ⟨rfl, fun _ => rfl⟩ (O_store C.p 0 (Gs.val s7 (C.l.length + 1)) [Gs.val s7 (C.l.length + 1)] (fun _ => rfl) (fun _ => rfl) rfl (by kernel_rfl) rfl (by simp only [List.length_cons, List.length_nil]; omega) rfl ?_)
    refine SL_sig ((C.p, .cells 100 1 [Gs.val s7 (C.l.length + 1)]) :: ((Gs.ent 143 2 s7 (C.row ++ CellL.cells (CellL.mk (n == (-1)) Gs.nil []))) ++ ((b6, .cells 143 2 [.bool (n == (-1)), .slice none 0 0]) :: ((C.l.flatMap CellL.ent) ++ ([]))))) rfl ?_
    refine SL_nil (n_then ?_)
    refine SW_seq ?_
    refine SW_region ?_
    refine SL_segT 2 [(4, .int .i64 (C.l.length : Int)), (16, .bool (decide (0 ≤ n ∧ n < C.l.length))), (6, .bool (n == (-1))), (5, .int .i64 (C.l.length : Int)), (0, .pointer (some ⟨C.p, 0, none⟩)), (1, .int .i64 n)] (by intro δ w; kernel_rfl) ?_
    refine SL_nil (n_then ?_)
    refine SW_perm ((b6, .cells 143 2 [.bool (n == (-1)), .slice none 0 0]) :: ((C.p, .cells 100 1 [Gs.val s7 (C.l.length + 1)]) :: ((Gs.ent 143 2 s7 (C.row ++ CellL.cells (CellL.mk (n == (-1)) Gs.nil []))) ++ ((C.l.flatMap CellL.ent) ++ ([]))))) (perm_c (perm_a perm_z)) ?_
    refine SW_forget ?_
    refine SW_perm ((C.l.flatMap CellL.ent) ++ ((C.p, .cells 100 1 [Gs.val s7 (C.l.length + 1)]) :: ((Gs.ent 143 2 s7 (C.row ++ CellL.cells (CellL.mk (n == (-1)) Gs.nil []))) ++ ([])))) (perm_cc (perm_ca perm_cz)) ?_
    refine SW_perm ((Gs.ent 143 2 s7 (C.row ++ CellL.cells (CellL.mk (n == (-1)) Gs.nil []))) ++ ((C.l.flatMap CellL.ent) ++ ((C.p, .cells 100 1 [Gs.val s7 (C.l.length + 1)]) :: ([])))) (perm_ca (perm_cc perm_cz)) ?_
    refine SW_perm ((C.p, .cells 100 1 [Gs.val s7 (C.l.length + 1)]) :: ((Gs.ent 143 2 s7 (C.row ++ CellL.cells (CellL.mk (n == (-1)) Gs.nil []))) ++ ((C.l.flatMap CellL.ent) ++ ([])))) (perm_a (perm_a perm_z)) ?_
    refine SW_ret ?_
    refine body_end (.int .i64 (C.l.length : Int)) (fun _ => rfl) ?_
    refine ⟨⟨C.p, s7, C.l ++ [CellL.mk (n == (-1)) Gs.nil []]⟩, List.Perm.of_eq (by simp [CellsL.ent, CellsL.row, CellL.ent, Gs.ent]), ⟨?_, ?_⟩, rfl, rfl, mkP_out hc1 _⟩
    · simpa [CellsL.row] using hks7
    · intro d hd
      simp only [List.mem_append, List.mem_cons, List.not_mem_nil, or_false] at hd
      rcases hd with hd | rfl
      · exact hC.each d hd
      · exact ⟨rfl, rfl⟩

theorem cells_Break {W0 : World} {C : CellsL} (hC : C.ok) (hab : abv C.abs ≤ 1099511627776) (n : Int) : SC Tryz.prog W0 81 #[.pointer (some ⟨C.p, 0, none⟩), .int .i64 n] C.ent (fun v σ' => ∃ (m : Int) (l : List CellL), Own σ' (CellsL.ent ⟨C.p, C.s, l⟩) ∧ CellsL.ok ⟨C.p, C.s, l⟩ ∧ v = .int .i64 m ∧ Broke C.abs (l.map CellL.abs) n) := by
  refine SC_body (fn := Tryz.f81) (n := 47) Tryz.func81 rfl (by kernel_rfl) (ρ := [(0, .pointer (some ⟨C.p, 0, none⟩)), (1, .int .i64 n)]) rfl ?_
  refine SW_sig ((C.p, .cells 100 1 [Gs.val C.s C.l.length]) :: ((Gs.ent 143 2 C.s C.row) ++ ((C.l.flatMap CellL.ent) ++ ([])))) (by simp [CellsL.ent]) ?_
  refine SW_seq ?_
  refine SW_region ?_
  refine SL_segT 1 [(4, .int .i64 0), (0, .pointer (some ⟨C.p, 0, none⟩)), (1, .int .i64 n)] (by intro δ w; kernel_rfl) ?_
  refine SL_nil (n_then ?_)
  refine SW_scope ?_
  refine SW_seq ?_
  refine SW_region ?_
  refine SL_segT 1 [(5, .int .i64 0), (4, .int .i64 0), (0, .pointer (some ⟨C.p, 0, none⟩)), (1, .int .i64 n)] (by intro δ w; kernel_rfl) ?_
  refine SL_nil (n_then ?_)
  refine SW_seq ?_
  refine SW_region ?_
  refine SL_segT 1 [(7, .int .i64 n), (5, .int .i64 0), (4, .int .i64 0), (0, .pointer (some ⟨C.p, 0, none⟩)), (1, .int .i64 n)] (by intro δ w; kernel_rfl) ?_
  refine SL_cons ⟨rfl, fun _ => rfl⟩ (O_new (fun b => .slice (some ⟨b, 0, none⟩) 1 1) (.cells #[.int .i64 n] 3 (0, 0)) (.cells 3 1 [.int .i64 n]) rfl (by intro δ w; kernel_rfl) ⟨rfl, rfl, rfl, rfl⟩ ?_)
  intro b1 hlb1 hnb1
  refine SL_segT 1 [(6, .slice (some ⟨b1, 0, none⟩) 1 1), (5, .int .i64 0), (4, .int .i64 0), (0, .pointer (some ⟨C.p, 0, none⟩)), (1, .int .i64 n)] (by intro δ w; kernel_rfl) ?_
  refine SL_nil (n_then ?_)
  refine SW_seq ?_
  refine SW_label (n_then ?_)
  refine SW_seq ?_
  refine SW_block ?_
  refine SW_sig ((Gs.ent 3 1 (Gs.at b1 1) ([n].map (Value.int .i64))) ++ ((C.p, .cells 100 1 [Gs.val C.s C.l.length]) :: ((Gs.ent 143 2 C.s C.row) ++ ((C.l.flatMap CellL.ent) ++ ([]))))) rfl ?_
  refine SW_loop (α := BrkS) (fun x ρ σ => Fits ρ σ [(6, Gs.val x.s ((x.todo).length)), (5, .int .i64 x.m), (0, .pointer (some ⟨C.p, 0, none⟩)), (1, .int .i64 x.j), (4, .int .i64 0)] ((C.p, .cells 100 1 [Gs.val C.s ((x.l).length)]) :: ((Gs.ent 143 2 C.s ((x.l).flatMap CellL.cells)) ++ (((x.l).flatMap CellL.ent) ++ ((Gs.ent 3 1 x.s (x.todo.map (Value.int .i64))) ++ ([]))))) ∧ BrkI C n x) (BrkS.μ C) ⟨C.l, .at b1 1, [n], 0, n⟩ ⟨⟨fun _ => rfl, (own_mk (X := ((C.p, .cells 100 1 [Gs.val C.s C.l.length]) :: ((Gs.ent 143 2 C.s C.row) ++ ((C.l.flatMap CellL.ent) ++ ((Gs.ent 3 1 (Gs.at b1 1) ([n].map (Value.int .i64))) ++ ([])))))) (J := ([])) (List.Perm.trans (perm_a perm_z) (List.Perm.cons _ (List.Perm.trans (perm_ca perm_cz) (List.Perm.append_left _ (List.Perm.trans (perm_ca perm_cz) (List.Perm.append_left _ (List.Perm.refl _))))))) (by simp [CellsL.row]))⟩, BInv.start _ _, hC, rfl, ⟨Nat.le_refl _, by unfold maxLen; omega, rfl⟩⟩ ?_
  rintro ⟨l, s, todo, m, j0⟩ ρ σ ⟨hfit, hI⟩
  refine SW_fits hfit ?_
  clear hfit
  simp only [] at hI ⊢
  refine SW_seq ?_
  refine SW_seq ?_
  refine SW_region ?_
  refine SL_segT 3 [(11, .bool (decide (((((todo).length : Nat)) : Int) > 0))), (6, Gs.val s ((todo).length)), (5, .int .i64 m), (0, .pointer (some ⟨C.p, 0, none⟩)), (1, .int .i64 j0), (4, .int .i64 0)] (by intro δ w; kernel_rfl) ?_
  refine SL_nil (n_then ?_)
  refine SW_cond (decide (((((todo).length : Nat)) : Int) > 0)) (fun _ => rfl) (fun hc2 => ?_) (fun hc2 => ?_)
  · skip
    replace hc2 := of_decide_eq_true hc2
    obtain ⟨t, j, rfl⟩ : ∃ t j, todo = t ++ [j] := by
      rcases List.eq_nil_or_concat todo with rfl | ⟨t, j, rfl⟩
      · simp at hc2
      · exact ⟨t, j, by simp⟩
    have hlj : (t ++ [j]).length = t.length + 1 := by simp
    have hcap : (t ++ [j]).length ≤ s.cap := hI.cap
    have htm : t.length ≤ 2199023255552 := by have := hI.inv.room; have h2 := hab; simp only [List.length_append, List.length_singleton] at this; omega
    refine SW_sig ((C.p, .cells 100 1 [Gs.val C.s ((l).length)]) :: ((Gs.ent 143 2 C.s ((l).flatMap CellL.cells)) ++ (((l).flatMap CellL.ent) ++ ((Gs.ent 3 1 s (t.map (Value.int .i64) ++ [.int .i64 j])) ++ ([]))))) (by simp) ?_
    refine SW_skip (n_then ?_)
    refine SW_block ?_
    refine SW_seq ?_
    refine SW_draw [((Gs.blk s), t.length, .int .i64 j)] [0, 1, 2, 3, 4, 5, 6, 7, 8, 9, 10, 11, 12] (by kernel_rfl) (rd_cons (Gs.cell (by simpa using hI.sok) (fun e he => (mem_c (mem_a (mem_a (mem_h he))))) (by rw [show (t.length) = t.length from by omega]; simp)) rd_nil) ?_
    refine SA_take (li' := #[true, false, false, false, false, false, false, false, false, false, false, false, false]) 0 _ (Gs.val s ((t ++ [j]).length)) (fun _ _ _ h => h) rfl (by kernel_rfl) rfl (Or.inl ⟨fun _ => rfl, by intro δ w; kernel_rfl⟩) ?_
    refine SA_take (li' := #[true, true, false, false, false, false, false, false, false, false, false, false, false]) 1 _ (Gs.val s ((t ++ [j]).length)) (fun _ _ _ h => h) rfl (by kernel_rfl) rfl (Or.inl ⟨fun _ => rfl, by intro δ w; kernel_rfl⟩) ?_
    refine SA_take (li' := #[true, true, true, false, false, false, false, false, false, false, false, false, false]) 2 _ (.int .i64 ((((t ++ [j]).length : Nat)) : Int)) (fun _ _ _ h => h) rfl (by kernel_rfl) rfl (Or.inl ⟨fun _ => rfl, by intro δ w; kernel_rfl⟩) ?_
    refine SA_trim [(14, .int .i64 ((((t ++ [j]).length : Nat)) : Int)), (12, Gs.val s ((t ++ [j]).length)), (6, Gs.val s ((t ++ [j]).length)), (5, .int .i64 m), (0, .pointer (some ⟨C.p, 0, none⟩)), (1, .int .i64 j0), (4, .int .i64 0)] (fun _ => rfl) ?_
    refine SA_take (li' := #[true, true, true, true, false, false, false, false, false, false, false, false, false]) 3 _ (.int .i64 (IntKind.wrap .i64 (((((t ++ [j]).length : Nat)) : Int) - 1))) (fun _ _ _ h => h) rfl (by kernel_rfl) rfl (Or.inl ⟨fun _ => rfl, by intro δ w; kernel_rfl⟩) ?_
    rw [show IntKind.wrap .i64 (((((t ++ [j]).length : Nat)) : Int) - 1) = ((((t ++ [j]).length : Nat)) : Int) - 1 from IntWalk.i64_in _ (by omega)]
    refine SA_trim [(15, .int .i64 (((((t ++ [j]).length : Nat)) : Int) - 1)), (12, Gs.val s ((t ++ [j]).length)), (6, Gs.val s ((t ++ [j]).length)), (5, .int .i64 m), (0, .pointer (some ⟨C.p, 0, none⟩)), (1, .int .i64 j0), (4, .int .i64 0)] (fun _ => rfl) ?_
    refine SA_take (li' := #[true, true, true, true, true, false, false, false, false, false, false, false, false]) 4 _ (.pointer (some ⟨(Gs.blk s), t.length, none⟩)) (fun _ _ _ h => h) rfl (by kernel_rfl) rfl (Or.inl ⟨fun _ => rfl, (fun δ w => run_indexAddr (((((t ++ [j]).length : Nat)) : Int) - 1) (t.length) (Gs.blk s) 0 ((t ++ [j]).length) (Gs.cap s) .i64 1 Tryz.underlying141 (by kernel_rfl) (fun _ => gs_slice (Gs.ok.ne hI.sok (by simp))) (fun _ => rfl) (by omega) (by omega) (by omega))⟩) ?_
    refine SA_trim [(16, .pointer (some ⟨(Gs.blk s), t.length, none⟩)), (6, Gs.val s ((t ++ [j]).length)), (5, .int .i64 m), (0, .pointer (some ⟨C.p, 0, none⟩)), (1, .int .i64 j0), (4, .int .i64 0)] (fun _ => rfl) ?_
    refine SA_read (li' := #[true, true, true, true, true, true, false, false, false, false, false, false, false]) 5 _ (.int .i64 j) (fun _ _ _ h => h) rfl (by kernel_rfl) rfl (fun _ => rfl) (fun δ w hr => Rd_load (Gs.blk s) t.length (.int .i64 j) rfl (by kernel_rfl) List.mem_cons_self hr) ?_
    refine SA_trim [(17, .int .i64 j), (6, Gs.val s ((t ++ [j]).length)), (5, .int .i64 m), (0, .pointer (some ⟨C.p, 0, none⟩)), (1, .int .i64 j0), (4, .int .i64 0)] (fun _ => rfl) ?_
    refine SA_take (li' := #[true, true, true, true, true, true, true, false, false, false, false, false, false]) 6 _ (Gs.val s ((t ++ [j]).length)) (fun _ _ _ h => h) rfl (by kernel_rfl) rfl (Or.inl ⟨fun _ => rfl, by intro δ w; kernel_rfl⟩) ?_
    refine SA_take (li' := #[true, true, true, true, true, true, true, true, false, false, false, false, false]) 7 _ (Gs.val s ((t ++ [j]).length)) (fun _ _ _ h => h) rfl (by kernel_rfl) rfl (Or.inl ⟨fun _ => rfl, by intro δ w; kernel_rfl⟩) ?_
    refine SA_take (li' := #[true, true, true, true, true, true, true, true, true, false, false, false, false]) 8 _ (.int .i64 ((((t ++ [j]).length : Nat)) : Int)) (fun _ _ _ h => h) rfl (by kernel_rfl) rfl (Or.inl ⟨fun _ => rfl, by intro δ w; kernel_rfl⟩) ?_
    refine SA_trim [(20, .int .i64 ((((t ++ [j]).length : Nat)) : Int)), (18, Gs.val s ((t ++ [j]).length)), (17, .int .i64 j), (6, Gs.val s ((t ++ [j]).length)), (5, .int .i64 m), (0, .pointer (some ⟨C.p, 0, none⟩)), (1, .int .i64 j0), (4, .int .i64 0)] (fun _ => rfl) ?_
    refine SA_take (li' := #[true, true, true, true, true, true, true, true, true, true, false, false, false]) 9 _ (.int .i64 (IntKind.wrap .i64 (((((t ++ [j]).length : Nat)) : Int) - 1))) (fun _ _ _ h => h) rfl (by kernel_rfl) rfl (Or.inl ⟨fun _ => rfl, by intro δ w; kernel_rfl⟩) ?_
    rw [show IntKind.wrap .i64 (((((t ++ [j]).length : Nat)) : Int) - 1) = ((((t ++ [j]).length : Nat)) : Int) - 1 from IntWalk.i64_in _ (by omega)]
    refine SA_trim [(21, .int .i64 (((((t ++ [j]).length : Nat)) : Int) - 1)), (18, Gs.val s ((t ++ [j]).length)), (17, .int .i64 j), (6, Gs.val s ((t ++ [j]).length)), (5, .int .i64 m), (0, .pointer (some ⟨C.p, 0, none⟩)), (1, .int .i64 j0), (4, .int .i64 0)] (fun _ => rfl) ?_
    refine SA_take (li' := #[true, true, true, true, true, true, true, true, true, true, true, false, false]) 10 _ (.slice (Gs.addr s) (((((t ++ [j]).length : Nat)) : Int) - 1).toNat (Gs.cap s)) (fun _ _ _ h => h) rfl (by kernel_rfl) rfl (Or.inl ⟨fun _ => rfl, (fun δ w => run_slice_to (((((t ++ [j]).length : Nat)) : Int) - 1) (Gs.addr s) ((t ++ [j]).length) (Gs.cap s) .i64 Tryz.underlying141 (by kernel_rfl) rfl rfl (by omega) (by omega))⟩) ?_
    rw [show (((((t ++ [j]).length : Nat)) : Int) - 1).toNat = t.length from by omega]
    refine SA_trim [(22, Gs.val s t.length), (17, .int .i64 j), (6, Gs.val s ((t ++ [j]).length)), (5, .int .i64 m), (0, .pointer (some ⟨C.p, 0, none⟩)), (1, .int .i64 j0), (4, .int .i64 0)] (fun _ => rfl) ?_
    refine SA_take (li' := #[true, true, true, true, true, true, true, true, true, true, true, true, false]) 11 _ (.int .i64 j) (fun _ _ _ h => h) rfl (by kernel_rfl) rfl (Or.inl ⟨fun _ => rfl, by intro δ w; kernel_rfl⟩) ?_
    refine SA_trim [(1, .int .i64 j), (22, Gs.val s t.length), (6, Gs.val s ((t ++ [j]).length)), (5, .int .i64 m), (0, .pointer (some ⟨C.p, 0, none⟩)), (4, .int .i64 0)] (fun _ => rfl) ?_
    refine SA_take (li' := #[true, true, true, true, true, true, true, true, true, true, true, true, true]) 12 _ (Gs.val s t.length) (fun _ _ _ h => h) rfl (by kernel_rfl) rfl (Or.inl ⟨fun _ => rfl, by intro δ w; kernel_rfl⟩) ?_
    refine SA_trim [(6, Gs.val s t.length), (1, .int .i64 j), (5, .int .i64 m), (0, .pointer (some ⟨C.p, 0, none⟩)), (4, .int .i64 0)] (fun _ => rfl) ?_
    refine SA_done (by kernel_rfl) (n_then ?_)
    refine SW_seq ?_
    refine SW_seq ?_
    refine SW_perm ((Gs.ent 3 1 s (t.map (Value.int .i64) ++ [.int .i64 j])) ++ ((C.p, .cells 100 1 [Gs.val C.s ((l).length)]) :: ((Gs.ent 143 2 C.s ((l).flatMap CellL.cells)) ++ (((l).flatMap CellL.ent) ++ ([]))))) (perm_cc (perm_ca (perm_ca perm_cz))) ?_
    refine SW_weakG ?_
    refine SW_region ?_
    refine SL_segT 2 [(24, .int .i64 j), (23, .pointer (some ⟨C.p, 0, none⟩)), (6, Gs.val s t.length), (1, .int .i64 j), (5, .int .i64 m), (0, .pointer (some ⟨C.p, 0, none⟩)), (4, .int .i64 0)] (by intro δ w; kernel_rfl) ?_
    refine SL_cons ⟨rfl, fun _ => rfl⟩ (O_call 70 #[.pointer (some ⟨C.p, 0, none⟩), .int .i64 j] rfl (by intro δ w; kernel_rfl) (cells_Valid (C := ⟨C.p, C.s, l⟩) hI.ok (fun e he => (List.mem_cons.1 he).elim (fun h => h ▸ (mem_a mem_z)) (fun h => (List.mem_append.1 h).elim (fun h => (mem_a (mem_c (mem_h h)))) (fun h => (mem_a (mem_c (mem_a (mem_h h))))))) j) ?_)
    rintro _ _ ⟨rfl, rfl⟩
    refine SL_segT 1 [(26, .bool (!(CellsL.isV ⟨C.p, C.s, l⟩ j))), (6, Gs.val s t.length), (1, .int .i64 j), (5, .int .i64 m), (0, .pointer (some ⟨C.p, 0, none⟩)), (4, .int .i64 0)] (by intro δ w; kernel_rfl) ?_
    refine SL_nil (n_then ?_)
    refine SW_cond (!(CellsL.isV ⟨C.p, C.s, l⟩ j)) (fun _ => rfl) (fun hc3 => ?_) (fun hc3 => ?_)
    · skip
      replace hc3 : (CellsL.isV ⟨C.p, C.s, l⟩ j) = false := by simpa using hc3
      have hv := hc3
      refine SW_exit (x_then (x_in (n_then ?_)))
      exact ⟨⟨l, s, t, m, j⟩, (brk_skip hI hv).1, ⟨fun _ => rfl, (own_mk (X := ((C.p, .cells 100 1 [Gs.val C.s ((l).length)]) :: ((Gs.ent 143 2 C.s ((l).flatMap CellL.cells)) ++ (((l).flatMap CellL.ent) ++ ((Gs.ent 3 1 s (t.map (Value.int .i64))) ++ ([])))))) (J := ([])) (List.Perm.trans (perm_a perm_z) (List.Perm.cons _ (List.Perm.trans (perm_ca perm_cz) (List.Perm.append_left _ (List.Perm.trans (perm_ca perm_cz) (List.Perm.append_left _ (List.Perm.refl _))))))) (by simp [CellL.ent]))⟩, (brk_skip hI hv).2⟩
    · skip
      replace hc3 : (CellsL.isV ⟨C.p, C.s, l⟩ j) = true := by simpa using hc3
      obtain ⟨c, hj, hc, hcv⟩ := CellsL.isV_true hc3
      simp only [] at hc hj
      obtain ⟨l1, l2, rfl, hlen⟩ := split_at hc
      obtain ⟨hrm, hrm2⟩ := brk_room hI hlen hj.1 hcv
      have hcok : c.ok := hI.ok.each c (by simp [BrkS.at])
      refine SW_own (S := ((C.p, .cells 100 1 [Gs.val C.s ((l1 ++ c :: l2).length)]) :: ((Gs.ent 143 2 C.s ((l1 ++ c :: l2).flatMap CellL.cells)) ++ ((l1.flatMap CellL.ent) ++ ((Gs.ent 3 1 c.ab (c.above.map (Value.int .i64))) ++ ((l2.flatMap CellL.ent) ++ ((Gs.ent 3 1 s (t.map (Value.int .i64))) ++ ([])))))))) (own_mk (X := ((C.p, .cells 100 1 [Gs.val C.s ((l1 ++ c :: l2).length)]) :: ((Gs.ent 143 2 C.s ((l1 ++ c :: l2).flatMap CellL.cells)) ++ (((l1 ++ c :: l2).flatMap CellL.ent) ++ ((Gs.ent 3 1 s (t.map (Value.int .i64))) ++ ([])))))) (J := ([])) (List.Perm.trans (perm_a perm_z) (List.Perm.cons _ (List.Perm.trans (perm_ca perm_cz) (List.Perm.append_left _ (List.Perm.trans (perm_ca perm_cz) (List.Perm.append_left _ (List.Perm.refl _))))))) (by simp [CellL.ent])) ?_
      refine SW_skip (n_then ?_)
      refine SW_seq ?_
      refine SW_region ?_
      refine SL_segT 3 [(29, .pointer (some ⟨C.p, 0, none⟩)), (6, Gs.val s t.length), (1, .int .i64 j), (5, .int .i64 m), (0, .pointer (some ⟨C.p, 0, none⟩)), (4, .int .i64 0)] (by intro δ w; kernel_rfl) ?_
      refine SL_cons ⟨rfl, fun _ => rfl⟩ (O_load C.p 0 (Gs.val C.s ((l1 ++ c :: l2).length)) (fun _ => rfl) (by kernel_rfl) (Cell.own mem_z rfl) rfl ?_)
      refine SL_segT 1 [(31, .int .i64 j), (30, Gs.val C.s ((l1 ++ c :: l2).length)), (6, Gs.val s t.length), (1, .int .i64 j), (5, .int .i64 m), (0, .pointer (some ⟨C.p, 0, none⟩)), (4, .int .i64 0)] (by intro δ w; kernel_rfl) ?_
      refine SL_cons ⟨rfl, fun _ => rfl⟩ (O_indexAddr' j (((j).toNat) * 2) (Gs.blk C.s) 0 ((l1 ++ c :: l2).length) (Gs.cap C.s) .i64 2 Tryz.underlying98 (by kernel_rfl) (fun _ => gs_slice (Gs.ok.ne hI.ok.row (by simp [BrkS.at]; omega))) (fun _ => rfl) (by omega) (by omega) (by omega) rfl ?_)
      refine SL_segT 1 [(33, .pointer (some ⟨(Gs.blk C.s), ((j).toNat) * 2, none⟩)), (6, Gs.val s t.length), (1, .int .i64 j), (5, .int .i64 m), (0, .pointer (some ⟨C.p, 0, none⟩)), (4, .int .i64 0)] (by intro δ w; kernel_rfl) ?_
      refine SL_perm ((Gs.ent 143 2 C.s ((l1 ++ c :: l2).flatMap CellL.cells)) ++ ((C.p, .cells 100 1 [Gs.val C.s ((l1 ++ c :: l2).length)]) :: ((l1.flatMap CellL.ent) ++ ((Gs.ent 3 1 c.ab (c.above.map (Value.int .i64))) ++ ((l2.flatMap CellL.ent) ++ ((Gs.ent 3 1 s (t.map (Value.int .i64))) ++ ([]))))))) (perm_cc perm_cz) ?_
      refine SL_cons ⟨rfl, fun _ => rfl⟩ (O_storeG (ys := ((l1 ++ ⟨false, c.ab, c.above⟩ :: l2).flatMap CellL.cells)) C.s (((j).toNat) * 2) (.bool false) [.bool false] (Gs.ok.ne hI.ok.row (by simp [BrkS.at]; omega)) (fun _ => rfl) (fun _ => rfl) rfl (by kernel_rfl) rfl (by rw [flat_len CellL.len]; simp; omega) (flat_lay' (a := c) (j := 0) (vs := [.bool false]) CellL.len ⟨false, c.ab, c.above⟩ hlen (by simp) (by simp [lay, CellL.cells])) rfl ?_)
      refine SL_nil (n_then ?_)
      refine SW_seq ?_
      refine SW_region ?_
      refine SL_segT 3 [(5, .int .i64 (IntKind.wrap .i64 (m + 1))), (6, Gs.val s t.length), (1, .int .i64 j), (0, .pointer (some ⟨C.p, 0, none⟩)), (4, .int .i64 0)] (by intro δ w; kernel_rfl) ?_
      refine SL_nil (n_then ?_)
      refine SW_region ?_
      refine SL_segT 4 [(39, .pointer (some ⟨C.p, 0, none⟩)), (36, Gs.val s t.length), (5, .int .i64 (IntKind.wrap .i64 (m + 1))), (6, Gs.val s t.length), (1, .int .i64 j), (0, .pointer (some ⟨C.p, 0, none⟩)), (4, .int .i64 0)] (by intro δ w; kernel_rfl) ?_
      refine SL_cons ⟨rfl, fun _ => rfl⟩ (O_load C.p 0 (Gs.val C.s ((l1 ++ c :: l2).length)) (fun _ => rfl) (by kernel_rfl) (Cell.own (mem_a mem_z) rfl) rfl ?_)
      refine SL_segT 1 [(41, .int .i64 j), (40, Gs.val C.s ((l1 ++ c :: l2).length)), (36, Gs.val s t.length), (5, .int .i64 (IntKind.wrap .i64 (m + 1))), (6, Gs.val s t.length), (1, .int .i64 j), (0, .pointer (some ⟨C.p, 0, none⟩)), (4, .int .i64 0)] (by intro δ w; kernel_rfl) ?_
      refine SL_cons ⟨rfl, fun _ => rfl⟩ (O_indexAddr' j (((j).toNat) * 2) (Gs.blk C.s) 0 ((l1 ++ c :: l2).length) (Gs.cap C.s) .i64 2 Tryz.underlying98 (by kernel_rfl) (fun _ => gs_slice (Gs.ok.ne hI.ok.row (by simp [BrkS.at]; omega))) (fun _ => rfl) (by omega) (by omega) (by omega) rfl ?_)
      refine SL_segT 1 [(43, .pointer (some ⟨(Gs.blk C.s), ((j).toNat) * 2 + 1, none⟩)), (36, Gs.val s t.length), (5, .int .i64 (IntKind.wrap .i64 (m + 1))), (6, Gs.val s t.length), (1, .int .i64 j), (0, .pointer (some ⟨C.p, 0, none⟩)), (4, .int .i64 0)] (by intro δ w; kernel_rfl) ?_
      refine SL_cons ⟨rfl, fun _ => rfl⟩ (O_load (Gs.blk C.s) (((j).toNat) * 2 + 1) (Gs.val c.ab c.above.length) (fun _ => rfl) (by kernel_rfl) (Gs.cell (Gs.ok.relen hI.ok.row (by simp [BrkS.at, CellsL.row, flat_len CellL.len, CellL.cells])) (fun e he => (mem_h he)) (flat_get CellL.len _ _ 1 ⟨false, c.ab, c.above⟩ (split_get hlen) (by decide))) rfl ?_)
      refine SL_perm ((Gs.ent 3 1 s (t.map (Value.int .i64))) ++ ((Gs.ent 143 2 C.s ((l1 ++ ⟨false, c.ab, c.above⟩ :: l2).flatMap CellL.cells)) ++ ((C.p, .cells 100 1 [Gs.val C.s ((l1 ++ c :: l2).length)]) :: ((l1.flatMap CellL.ent) ++ ((Gs.ent 3 1 c.ab (c.above.map (Value.int .i64))) ++ ((l2.flatMap CellL.ent) ++ ([]))))))) (perm_ca (perm_cc (perm_ca (perm_ca (perm_ca perm_cz))))) ?_
      refine SL_cons ⟨rfl, fun _ => rfl⟩ (O_append (size := 1) (bytes := 8) (z := .int .i64 0) s t.length c.above.length (Gs.addr c.ab) (Gs.cap c.ab) (t.map (Value.int .i64)) (c.above.map (Value.int .i64)) ((t ++ c.above).map (Value.int .i64)) (by simp) (fun _ => rfl) (fun _ => rfl) Tryz.underlying141 (by kernel_rfl) rfl (by decide) (Gs.ok_pop (by simpa using hI.sok) (by simp)) (Gs.ok.len hcok) (Gs.src hcok (fun e he => (mem_a (mem_a (mem_c (mem_a (mem_h he))))))) (by simp [Value.oneCell']) (by omega) (by decide) rfl ?_)
      intro s4 hks4 hfs4
      rw [show t.length + c.above.length = (t ++ c.above).length from (by simp)]
      rw [show t.length + c.above.length = (t ++ c.above).length from (by simp)] at hks4
      refine SL_segT 1 [(6, Gs.val s4 ((t ++ c.above).length)), (5, .int .i64 (IntKind.wrap .i64 (m + 1))), (1, .int .i64 j), (0, .pointer (some ⟨C.p, 0, none⟩)), (4, .int .i64 0)] (by intro δ w; kernel_rfl) ?_
      refine SL_nil (n_in (n_then ?_))
      exact ⟨⟨l1 ++ ⟨false, c.ab, c.above⟩ :: l2, s4, t ++ c.above, _, j⟩, (brk_step hI hlen hj.1 hcv s4 _ j (by simpa using hks4)).1, ⟨fun _ => rfl, (own_mk (X := ((C.p, .cells 100 1 [Gs.val C.s ((l1 ++ c :: l2).length)]) :: ((Gs.ent 143 2 C.s ((l1 ++ ⟨false, c.ab, c.above⟩ :: l2).flatMap CellL.cells)) ++ ((l1.flatMap CellL.ent) ++ ((Gs.ent 3 1 c.ab (c.above.map (Value.int .i64))) ++ ((l2.flatMap CellL.ent) ++ ((Gs.ent 3 1 s4 ((t ++ c.above).map (Value.int .i64))) ++ ([])))))))) (J := ([])) (List.Perm.trans (perm_a (perm_a perm_z)) (List.Perm.cons _ (List.Perm.trans (perm_ca perm_cz) (List.Perm.append_left _ (List.Perm.trans (perm_ca perm_cz) (List.Perm.append_left _ (List.Perm.trans (perm_ca perm_cz) (List.Perm.append_left _ (List.Perm.trans (perm_ca perm_cz) (List.Perm.append_left _ (List.Perm.refl _))))))))))) (by simp [CellL.ent]))⟩, (brk_step hI hlen hj.1 hcv _ _ _ (by simpa using hks4)).2⟩
  · skip
    replace hc2 := of_decide_eq_false hc2
    obtain rfl : todo = [] := by cases todo with
      | nil => rfl
      | cons a b => simp at hc2
    refine SW_exit (x_then (x_then (x_in (n_then ?_))))
    refine SW_seq ?_
    refine SW_region ?_
    refine SL_segT 2 [(4, .int .i64 m), (6, Gs.val s (([] : List Int).length)), (5, .int .i64 m), (0, .pointer (some ⟨C.p, 0, none⟩)), (1, .int .i64 j0)] (by intro δ w; kernel_rfl) ?_
    refine SL_nil (n_then ?_)
    refine SW_ret (r_scope ?_)
    refine body_end (.int .i64 m) (fun _ => rfl) ?_
    exact ⟨_, l, (own_mk (X := ((C.p, .cells 100 1 [Gs.val C.s ((l).length)]) :: ((Gs.ent 143 2 C.s ((l).flatMap CellL.cells)) ++ (((l).flatMap CellL.ent) ++ ((Gs.ent 3 1 s (([] : List Int).map (Value.int .i64))) ++ ([])))))) (J := ((Gs.ent 3 1 s (([] : List Int).map (Value.int .i64))) ++ ([]))) (List.Perm.refl _) (by simp [CellsL.ent, CellsL.row])), hI.ok, rfl, hI.inv.broke⟩

end Go.Proofs.YtdfhbheipagnmaaGreat
namespace Go.Proofs.YtdfhbheipagnmaaGreat
open Go.Sl

/-! ### heap.Heap in memory -/
abbrev DescP := Int × Int × Int
def descCells (d : DescP) : List Value := [.int .u64 d.1, .int .u64 d.2.1, .int .i64 d.2.2]
theorem descCells_len (d : DescP) : (descCells d).length = 3 := rfl
structure ObjL where
  kind : Int
  proto : Int
  shut : Bool
  shape : Int
  ns : Gs
  names : List ByteArray
  vs : Gs
  vals : List DescP
  es : Gs
  elems : List Int
  is : Gs
  inner : List Int
  cell : Int
def ObjL.cells (x : ObjL) : List Value := [.int .i64 x.kind, .int .u64 x.proto, .bool x.shut, .int .i64 x.shape, x.ns.val x.names.length, x.vs.val x.vals.length, x.es.val x.elems.length, x.is.val x.inner.length, .int .i64 x.cell]
theorem ObjL.len (x : ObjL) : x.cells.length = 9 := rfl
abbrev ObjL.nsE (x : ObjL) : Heaplet := x.ns.ent 9 1 (x.names.map encS)
abbrev ObjL.vsE (x : ObjL) : Heaplet := x.vs.ent 35 3 (x.vals.flatMap descCells)
abbrev ObjL.esE (x : ObjL) : Heaplet := x.es.ent 33 1 (x.elems.map encU)
abbrev ObjL.isE (x : ObjL) : Heaplet := x.is.ent 33 1 (x.inner.map encU)
def ObjL.ent (x : ObjL) : Heaplet := x.nsE ++ (x.vsE ++ (x.esE ++ x.isE))
structure ObjL.ok (x : ObjL) : Prop where
  ns : x.ns.ok 1 x.names.length (x.names.map encS)
  vs : x.vs.ok 3 x.vals.length (x.vals.flatMap descCells)
  es : x.es.ok 1 x.elems.length (x.elems.map encU)
  is : x.is.ok 1 x.inner.length (x.inner.map encU)
structure HeapF where
  p : Nat
  kb : Nat
  T : TreeF
  cp : Nat
structure HeapV where
  s : Gs
  objs : List ObjL
  ts : Gs
  texts : List ByteArray
  known : List (ByteArray × Int)
  V : TreeV
  cs : Gs
  cl : List CellL
  br : Int
abbrev HeapV.C (H : HeapV) (F : HeapF) : CellsL := ⟨F.cp, H.cs, H.cl⟩
abbrev HeapV.head (H : HeapV) (F : HeapF) : List Value := [H.s.val H.objs.length, H.ts.val H.texts.length, .map (some F.kb), .pointer (some ⟨F.T.p, 0, none⟩), .pointer (some ⟨F.cp, 0, none⟩), .int .i64 H.br]
abbrev HeapV.row (H : HeapV) : Heaplet := H.s.ent 105 9 (H.objs.flatMap ObjL.cells)
def HeapV.ent (H : HeapV) (F : HeapF) : Heaplet := (F.p, .cells 48 6 (H.head F)) :: (H.row ++ (H.objs.flatMap ObjL.ent ++ (H.ts.ent 9 1 (H.texts.map encS) ++ ((F.kb, .map (kvs encS encU H.known)) :: (H.V.ent F.T ++ (CellsL.ent ⟨F.cp, H.cs, H.cl⟩ ++ []))))))
structure HeapV.ok (H : HeapV) (F : HeapF) : Prop where
  row : H.s.ok 9 H.objs.length (H.objs.flatMap ObjL.cells)
  each : ∀ x ∈ H.objs, x.ok
  ts : H.ts.ok 1 H.texts.length (H.texts.map encS)
  tree : H.V.ok F.T
  cells : CellsL.ok ⟨F.cp, H.cs, H.cl⟩
  objs : H.objs.length ≤ 65536
  texts : H.texts.length ≤ 16384
  small : ∀ x ∈ H.objs, x.elems.length ≤ 4096
variable {H : HeapV} {F : HeapF} {n : Nat} {x : ObjL}
theorem HeapV.eq {H : HeapV} {F : HeapF} {τ : Heaplet} : H.ent F ++ τ = (F.p, .cells 48 6 [H.s.val H.objs.length, H.ts.val H.texts.length, .map (some F.kb), pt F.T.p 0, pt F.cp 0, .int .i64 H.br]) :: (H.s.ent 105 9 (H.objs.flatMap ObjL.cells) ++ (H.objs.flatMap ObjL.ent ++ (H.ts.ent 9 1 (H.texts.map encS) ++ ((F.kb, .map (kvs encS encU H.known)) :: (H.V.ent F.T ++ (CellsL.ent ⟨F.cp, H.cs, H.cl⟩ ++ τ)))))) := by
  simp only [HeapV.ent, List.cons_append, List.append_assoc, List.nil_append]
theorem HeapV.eq0 {H : HeapV} {F : HeapF} : H.ent F = (F.p, .cells 48 6 [H.s.val H.objs.length, H.ts.val H.texts.length, .map (some F.kb), pt F.T.p 0, pt F.cp 0, .int .i64 H.br]) :: (H.s.ent 105 9 (H.objs.flatMap ObjL.cells) ++ (H.objs.flatMap ObjL.ent ++ (H.ts.ent 9 1 (H.texts.map encS) ++ ((F.kb, .map (kvs encS encU H.known)) :: (H.V.ent F.T ++ (CellsL.ent ⟨F.cp, H.cs, H.cl⟩ ++ [])))))) := rfl
theorem HeapV.pm {H : HeapV} {F : HeapF} {σ τ : Heaplet} (h : σ.Perm ((F.p, .cells 48 6 [H.s.val H.objs.length, H.ts.val H.texts.length, .map (some F.kb), pt F.T.p 0, pt F.cp 0, .int .i64 H.br]) :: (H.s.ent 105 9 (H.objs.flatMap ObjL.cells) ++ (H.objs.flatMap ObjL.ent ++ (H.ts.ent 9 1 (H.texts.map encS) ++ ((F.kb, .map (kvs encS encU H.known)) :: (H.V.ent F.T ++ (CellsL.ent ⟨F.cp, H.cs, H.cl⟩ ++ τ))))))) := by exact fn2) : σ.Perm (H.ent F ++ τ) := by rw [HeapV.eq]; exact h
theorem HeapV.own {H : HeapV} {F : HeapF} {σ J : Heaplet} (h : σ.Perm ((F.p, .cells 48 6 [H.s.val H.objs.length, H.ts.val H.texts.length, .map (some F.kb), pt F.T.p 0, pt F.cp 0, .int .i64 H.br]) :: (H.s.ent 105 9 (H.objs.flatMap ObjL.cells) ++ (H.objs.flatMap ObjL.ent ++ (H.ts.ent 9 1 (H.texts.map encS) ++ ((F.kb, .map (kvs encS encU H.known)) :: (H.V.ent F.T ++ (CellsL.ent ⟨F.cp, H.cs, H.cl⟩ ++ J))))))) := by exact fn2) : Own σ (H.ent F) := ⟨J, HeapV.pm h⟩
theorem HeapV.m0 (H : HeapV) (F : HeapF) : (F.p, Blk.cells 48 6 (H.head F)) ∈ H.ent F := List.mem_cons_self
theorem HeapV.m1 (H : HeapV) (F : HeapF) : ∀ e ∈ H.row, e ∈ H.ent F := fun e he => mem_c (mem_h he)
theorem HeapV.m2 (H : HeapV) (F : HeapF) : ∀ e ∈ H.objs.flatMap ObjL.ent, e ∈ H.ent F := fun e he => mem_c (mem_a (mem_h he))
theorem HeapV.m3 (H : HeapV) (F : HeapF) : ∀ e ∈ H.ts.ent 9 1 (H.texts.map encS), e ∈ H.ent F := fun e he => mem_c (mem_a (mem_a (mem_h he)))
theorem HeapV.m4 (H : HeapV) (F : HeapF) : (F.kb, Blk.map (kvs encS encU H.known)) ∈ H.ent F := mem_c (mem_a (mem_a (mem_a mem_z)))
theorem ObjL.mns {l : List ObjL} (hx : l[n]? = some x) : ∀ e ∈ x.nsE, e ∈ l.flatMap ObjL.ent := fun e he => List.mem_flatMap.2 ⟨x, List.mem_of_getElem? hx, mem_h he⟩
theorem ObjL.mvs {l : List ObjL} (hx : l[n]? = some x) : ∀ e ∈ x.vsE, e ∈ l.flatMap ObjL.ent := fun e he => List.mem_flatMap.2 ⟨x, List.mem_of_getElem? hx, mem_a (mem_h he)⟩
theorem ObjL.mes {l : List ObjL} (hx : l[n]? = some x) : ∀ e ∈ x.esE, e ∈ l.flatMap ObjL.ent := fun e he => List.mem_flatMap.2 ⟨x, List.mem_of_getElem? hx, mem_a (mem_a (mem_h he))⟩
theorem ObjL.mis {l : List ObjL} (hx : l[n]? = some x) : ∀ e ∈ x.isE, e ∈ l.flatMap ObjL.ent := fun e he => List.mem_flatMap.2 ⟨x, List.mem_of_getElem? hx, mem_a (mem_a (mem_a he))⟩
theorem HeapV.ok.at (h : H.ok F) (hx : H.objs[n]? = some x) : x.ok := h.each x (List.mem_of_getElem? hx)
/-- An object in hand, and back. -/
theorem obj_focus {l : List ObjL} (hx : l[n]? = some x) (τ : Heaplet) : (l.flatMap ObjL.ent ++ τ).Perm (x.nsE ++ (x.vsE ++ (x.esE ++ (x.isE ++ ((l.eraseIdx n).flatMap ObjL.ent ++ τ))))) := by
  have h := (flat_focus (f := ObjL.ent) hx).append_right τ
  simpa only [ObjL.ent, List.append_assoc] using h
theorem obj_unfocus {l : List ObjL} (hx : l[n]? = some x) (x' : ObjL) (τ : Heaplet) : (x'.nsE ++ (x'.vsE ++ (x'.esE ++ (x'.isE ++ ((l.eraseIdx n).flatMap ObjL.ent ++ τ))))).Perm ((l.set n x').flatMap ObjL.ent ++ τ) := by
  have h := (flat_unfocus (f := ObjL.ent) x' hx).append_right τ
  simpa only [ObjL.ent, List.append_assoc] using h
abbrev HeapV.put (H : HeapV) (n : Nat) (x : ObjL) : HeapV := ⟨H.s, H.objs.set n x, H.ts, H.texts, H.known, H.V, H.cs, H.cl, H.br⟩
abbrev HeapV.tree (H : HeapV) (V : TreeV) : HeapV := ⟨H.s, H.objs, H.ts, H.texts, H.known, V, H.cs, H.cl, H.br⟩
abbrev HeapV.break (H : HeapV) (cl : List CellL) (br : Int) : HeapV := ⟨H.s, H.objs, H.ts, H.texts, H.known, H.V, H.cs, cl, br⟩
theorem HeapV.ok.put (h : H.ok F) (hx : H.objs[n]? = some x) {x' : ObjL} (ho : x'.ok) (hs : x'.elems.length ≤ 4096) : (H.put n x').ok F := by
  refine ⟨?_, fun y hy => ?_, h.ts, h.tree, h.cells, by simpa using h.objs, h.texts, fun y hy => ?_⟩
  · simp only [List.length_set]
    exact Gs.ok.relen h.row (by simp [flat_len ObjL.len])
  · rcases List.mem_or_eq_of_mem_set hy with h1 | rfl
    · exact h.each y h1
    · exact ho
  · rcases List.mem_or_eq_of_mem_set hy with h1 | rfl
    · exact h.small y h1
    · exact hs
theorem HeapV.ok.withTree (h : H.ok F) {V : TreeV} (hV : V.ok F.T) : (H.tree V).ok F := ⟨h.row, h.each, h.ts, hV, h.cells, h.objs, h.texts, h.small⟩
theorem HeapV.ok.withCells (h : H.ok F) {cl : List CellL} (hc : CellsL.ok ⟨F.cp, H.cs, cl⟩) (br : Int) : (H.break cl br).ok F := ⟨h.row, h.each, h.ts, h.tree, hc, h.objs, h.texts, h.small⟩

theorem HeapV.back (F : HeapF) (hx : H.objs[n]? = some x) (x' : ObjL) : ((F.p, Blk.cells 48 6 (H.head F)) :: (H.s.ent 105 9 ((H.objs.set n x').flatMap ObjL.cells) ++ (x'.nsE ++ (x'.vsE ++ (x'.esE ++ (x'.isE ++ ((H.objs.eraseIdx n).flatMap ObjL.ent ++
    (H.ts.ent 9 1 (H.texts.map encS) ++ ((F.kb, .map (kvs encS encU H.known)) :: (H.V.ent F.T ++ (CellsL.ent ⟨F.cp, H.cs, H.cl⟩ ++ []))))))))))).Perm ((H.put n x').ent F) := by
  simp only [HeapV.ent, HeapV.head, HeapV.row, List.length_set]
  exact ((obj_unfocus hx x' _).append_left _).cons _

/-! words -/
/-- A word of a tag: its payload. -/
def tagOf (w tag : Int) : Option Nat := if w / 4294967296 = tag * 65536 then some (w % 4294967296).toNat else none
theorem or_add {t n : Int} (ht : 0 ≤ t ∧ t < 65536) (hn : 0 ≤ n ∧ n < 4294967296) : IntKind.wrap .u64 ((BitVec.ofInt 64 (t * 281474976710656) ||| BitVec.ofInt 64 n).toNat) = t * 281474976710656 + n := by
  obtain ⟨a, rfl⟩ := Int.eq_ofNat_of_zero_le ht.1
  obtain ⟨b, rfl⟩ := Int.eq_ofNat_of_zero_le hn.1
  have h1 : (BitVec.ofInt 64 ((a : Int) * 281474976710656)).toNat = 2 ^ 48 * a := by
    rw [BitVec.toNat_ofInt]; omega
  have h2 : (BitVec.ofInt 64 (b : Int)).toNat = b := by
    rw [BitVec.toNat_ofInt]; omega
  rw [BitVec.toNat_or, h1, h2, ← Nat.two_pow_add_eq_or_of_lt (by omega)]
  simp only [IntKind.wrap, IntKind.bits, IntKind.signed]
  simp
  omega
theorem tagOf_mk {t : Int} {n : Nat} (h0 : 0 ≤ t) (hn : n < 4294967296) : tagOf (t * 281474976710656 + n) t = some n := by
  unfold tagOf
  rw [if_pos (by omega)]
  congr 1; omega
theorem tagOf_lt {w tag : Int} {n : Nat} (h : tagOf w tag = some n) : n < 4294967296 := by
  unfold tagOf at h
  split at h
  · simp only [Option.some.injEq] at h; omega
  · cases h
/-- The number under which the shape of nothing is found. -/
def rootKey (proto kind : Int) : Int := IntKind.wrap .u64 ((BitVec.ofInt 64 (IntKind.wrap .u64 (proto * 8)) ||| BitVec.ofInt 64 (IntKind.wrap .u64 kind)).toNat)
/-- An object's place; none: there is none. -/
def objAt (w : Int) (len : Nat) : Option Nat := match tagOf w 65530 with
  | some n => if n < len then some n else none
  | none => none
theorem objAt_tag {w : Int} {len n : Nat} (h : objAt w len = some n) : tagOf w 65530 = some n ∧ n < len := by
  unfold objAt at h
  cases ht : tagOf w 65530 with
  | none => rw [ht] at h; cases h
  | some m =>
    rw [ht] at h
    simp only [] at h
    by_cases hl : m < len
    · rw [if_pos hl] at h; cases h; exact ⟨rfl, hl⟩
    · rw [if_neg hl] at h; cases h
theorem lawK : KeyLaw Tryz.prog 9 encS := keyLaw_string (by kernel_rfl)
/-- What is changed leans on nothing any more. -/
abbrev ObjL.chg (x : ObjL) : ObjL := ⟨x.kind, x.proto, x.shut, x.shape, x.ns, x.names, x.vs, x.vals, x.es, x.elems, x.is, x.inner, if 0 ≤ x.cell then -1 else x.cell⟩
abbrev ObjL.withShape (x : ObjL) (m : Int) : ObjL := ⟨x.kind, x.proto, x.shut, m, x.ns, x.names, x.vs, x.vals, x.es, x.elems, x.is, x.inner, x.cell⟩
abbrev ObjL.loosed (x : ObjL) (g : Gs) (ks : List ByteArray) : ObjL := ⟨x.kind, x.proto, x.shut, -1, g, ks, x.vs, x.vals, x.es, x.elems, x.is, x.inner, x.cell⟩
def ixS (l : List ByteArray) (key : ByteArray) : Int := ixFrom (fun a => decide (a = key)) l 0
def placeO (t : TreeP) (shape : Int) (names : List ByteArray) (key : ByteArray) : Int :=
  if shape < 0 then ixS names key else if (findP t shape key).2.2 = true then (findP t shape key).1 else -1
/-- What stands on a cell breaks, if there is one. -/
def Chg (cell : Int) (l l' : List CellL) : Prop := if 0 ≤ cell then Broke (l.map CellL.abs) (l'.map CellL.abs) cell else l' = l
theorem cells_break {W0 : World} {p : Nat} {s : Gs} {l : List CellL} (hC : CellsL.ok ⟨p, s, l⟩) (hab : abv (l.map CellL.abs) ≤ 1099511627776) (n : Int) : SC Tryz.prog W0 81 #[.pointer (some ⟨p, 0, none⟩), .int .i64 n] (CellsL.ent ⟨p, s, l⟩)
    (Ret (fun r : List CellL × Int => CellsL.ent ⟨p, s, r.1⟩) (fun v r => v = .int .i64 r.2 ∧ CellsL.ok ⟨p, s, r.1⟩ ∧ Broke (l.map CellL.abs) (r.1.map CellL.abs) n)) := by
  refine (cells_Break hC hab n).mono fun v σ' h => ?_
  obtain ⟨m, l', ho, hok, hv, hb⟩ := h
  exact ⟨(l', m), ho, hv, hok, hb⟩
theorem cells_make {W0 : World} {p : Nat} {s : Gs} {l : List CellL} (hC : CellsL.ok ⟨p, s, l⟩) (hr : l.length ≤ 1099511627776) (hab : ∀ c ∈ l, c.above.length ≤ l.length) (n : Int) : SC Tryz.prog W0 71 #[.pointer (some ⟨p, 0, none⟩), .int .i64 n] (CellsL.ent ⟨p, s, l⟩)
    (Ret (fun r : Gs × List CellL => CellsL.ent ⟨p, r.1, r.2⟩) (fun v r => v = .int .i64 l.length ∧ CellsL.ok ⟨p, r.1, r.2⟩ ∧ r.2.map CellL.abs = mkP (l.map CellL.abs) n)) := by
  refine (cells_Make hC hr hab n).mono fun v σ' h => ?_
  obtain ⟨⟨p', s', l'⟩, ho, hok, hp, hv, hb⟩ := h
  simp only [] at hp
  subst hp
  exact ⟨(s', l'), .of_perm ho, hv, hok, hb⟩
theorem cells_valid {W0 : World} {p : Nat} {s : Gs} {l : List CellL} (hC : CellsL.ok ⟨p, s, l⟩) (n : Int) : SC Tryz.prog W0 70 #[.pointer (some ⟨p, 0, none⟩), .int .i64 n] (CellsL.ent ⟨p, s, l⟩)
    (Ret (fun _ : Unit => CellsL.ent ⟨p, s, l⟩) (fun v _ => v = .bool (CellsL.isV ⟨p, s, l⟩ n))) := by
  refine (cells_Valid hC (fun e he => he) n).mono fun v σ' h => ?_
  obtain ⟨hv, rfl⟩ := h
  exact ⟨(), .refl _, hv⟩
theorem cells_new {W0 : World} : SC Tryz.prog W0 9 #[] [] (Ret (fun r : Nat × Gs => CellsL.ent ⟨r.1, r.2, []⟩) (fun v r => v = .pointer (some ⟨r.1, 0, none⟩) ∧ CellsL.ok ⟨r.1, r.2, []⟩)) := by
  refine (cells_New).mono fun v σ' h => ?_
  obtain ⟨⟨p, s, l⟩, ho, hok, hl, hv⟩ := h
  simp only [] at hl
  subst hl
  exact ⟨(p, s), .of_perm ho, hv, hok⟩
/-- What grows stays small enough. -/
structure HeapV.bud (H : HeapV) (k : Nat) : Prop where
  vals : ∀ x ∈ H.objs, x.vals.length ≤ k
  cl : H.cl.length ≤ k * 65537
  abv : abv (H.cl.map CellL.abs) ≤ H.cl.length
  each : ∀ c ∈ H.cl, c.above.length ≤ H.cl.length
/-- May an object be made? -/
def mayMake (H : HeapV) (kind proto : Int) : Prop := (0 ≤ kind ∧ kind ≤ 6) ∧ (proto = 18445336698825998337 ∨ objAt proto H.objs.length ≠ none) ∧ H.objs.length < 65536
abbrev newObj (kind proto shape : Int) : ObjL := ⟨kind, proto, false, shape, .nil, [], .nil, [], .nil, [], .nil, [], -1⟩
abbrev HeapV.add (H : HeapV) (s : Gs) (x : ObjL) (V : TreeV) : HeapV := ⟨s, H.objs ++ [x], H.ts, H.texts, H.known, V, H.cs, H.cl, H.br⟩
theorem newObj_ent (kind proto shape : Int) : (newObj kind proto shape).ent = [] := rfl
theorem newObj_ok (kind proto shape : Int) : (newObj kind proto shape).ok := ⟨⟨rfl, rfl⟩, ⟨rfl, rfl⟩, ⟨rfl, rfl⟩, ⟨rfl, rfl⟩⟩
theorem HeapV.ok.add (h : H.ok F) {s : Gs} {x : ObjL} {V : TreeV} (hs : s.ok 9 (H.objs ++ [x]).length ((H.objs ++ [x]).flatMap ObjL.cells)) (hx : x.ok) (he : x.elems.length ≤ 4096) (hV : V.ok F.T) (hl : H.objs.length < 65536) : (H.add s x V).ok F := by
  refine ⟨hs, fun y hy => ?_, h.ts, hV, h.cells, by simp only [List.length_append, List.length_singleton]; omega, h.texts, fun y hy => ?_⟩
  · rcases List.mem_append.1 hy with h1 | h1
    · exact h.each y h1
    · rw [List.mem_singleton.1 h1]; exact hx
  · rcases List.mem_append.1 hy with h1 | h1
    · exact h.small y h1
    · rw [List.mem_singleton.1 h1]; exact he
def keysOf (t : TreeP) (x : ObjL) : List ByteArray := if x.shape < 0 then x.names else keysP t x.shape
/-- What is true of each object: by its shape, if it has one. -/
structure OInv (t : TreeP) (x : ObjL) : Prop where
  fast : 0 ≤ x.shape → ∃ s, shapeAt t x.shape = some s ∧ s.proto = rootKey x.proto x.kind ∧ s.l.map (·.2) = x.vals.map (·.2.2)
  len : (keysOf t x).length = x.vals.length
  nodup : (keysOf t x).Nodup
  stale : 0 ≤ x.shape → x.names = []
theorem placeO_lt {t : TreeP} {x : ObjL} {key : ByteArray} (h : OInv t x) (h0 : 0 ≤ placeO t x.shape x.names key) : placeO t x.shape x.names key < x.vals.length := by
  have hl := h.len
  unfold placeO at *
  unfold keysOf at hl
  by_cases hs : x.shape < 0
  · rw [if_pos hs] at *
    rw [← hl]; exact ixFrom_lt h0
  · rw [if_neg hs] at *
    obtain ⟨s, h1, h2, h3⟩ := h.fast (by omega)
    simp only [findP, h1] at *
    by_cases hk : keyIx s.l key < 0
    · simp [if_pos hk] at h0
    · simp only [if_neg hk] at *
      have h4 := keyIx_lt (l := s.l) (key := key) (by omega)
      have h5 : s.l.length = x.vals.length := by have := congrArg List.length h3; simpa using this
      cases hg : s.l[(keyIx s.l key).toNat]? with
      | none => rw [hg] at h0; simp at h0
      | some p => rw [hg] at *; simp only [if_true] at *; omega
abbrev descV (d : DescP) : Value := .agg #[.int .u64 d.1, .int .u64 d.2.1, .int .i64 d.2.2]
def descR : Option DescP → Value
  | some d => .tuple #[descV d, .bool true]
  | none => .tuple #[descV (0, 0, 0), .bool false]
def getO (t : TreeP) (x : ObjL) (key : ByteArray) : Option DescP := if placeO t x.shape x.names key < 0 then none else x.vals[(placeO t x.shape x.names key).toNat]?
def slotO (x : ObjL) (n : Int) : Option DescP := if 0 ≤ n ∧ n < x.vals.length then x.vals[n.toNat]? else none
def elemO (l : List Int) (n : Int) : Int × Bool := if 0 ≤ n ∧ n < l.length then (match l[n.toNat]? with | some w => if w = 18445336698825998340 then (18445336698825998336, false) else (w, true) | none => (18445336698825998336, false)) else (18445336698825998336, false)
def setLenL (l : List Int) (n : Nat) : List Int := l.take n ++ List.replicate (n - l.length) 18445336698825998340
theorem setLenL_le {l : List Int} {n : Nat} (h : n ≤ l.length) : setLenL l n = l.take n := by unfold setLenL; rw [show n - l.length = 0 by omega]; simp
theorem setLenL_len (l : List Int) (n : Nat) : (setLenL l n).length = n := by unfold setLenL; simp; omega
theorem setLenL_self (l : List Int) : setLenL l l.length = l := by rw [setLenL_le (Nat.le_refl _), List.take_length]
theorem setLenL_snoc {l : List Int} {n : Nat} (h : l.length ≤ n) : setLenL l n ++ [18445336698825998340] = setLenL l (n + 1) := by
  unfold setLenL
  rw [List.take_of_length_le h, List.take_of_length_le (by omega), show n + 1 - l.length = (n - l.length) + 1 by omega, List.replicate_succ', List.append_assoc]
def textO (texts : List ByteArray) (w : Int) : Option ByteArray := match tagOf w 65532 with | some n => texts[n]? | none => none
def textR : Option ByteArray → Value
  | some t => .tuple #[.string t, .bool true]
  | none => .tuple #[.string ByteArray.empty, .bool false]
abbrev ObjL.withElems (x : ObjL) (g : Gs) (l : List Int) : ObjL := ⟨x.kind, x.proto, x.shut, x.shape, x.ns, x.names, x.vs, x.vals, g, l, x.is, x.inner, x.cell⟩
abbrev HeapV.text (H : HeapV) (g : Gs) (key : ByteArray) : HeapV := ⟨H.s, H.objs, g, H.texts ++ [key], mset H.known key (65532 * 281474976710656 + (H.texts.length : Int)), H.V, H.cs, H.cl, H.br⟩
/-! what Put does, without places -/
def fl15 (f : Int) : Int := IntKind.wrap .i64 ((BitVec.ofInt 64 f &&& BitVec.ofInt 64 15).toNat)
def normF (f : Int) : Int := if (IntKind.wrap .i64 ((BitVec.ofInt 64 (fl15 f) &&& BitVec.ofInt 64 8).toNat) != 0) = true then IntKind.wrap .i64 ((BitVec.ofInt 64 (fl15 f) &&& ~~~BitVec.ofInt 64 1).toNat) else fl15 f
structure PS where
  shape : Int
  names : List ByteArray
  vals : List DescP
def looseS (t : TreeP) (p : PS) : PS := if 0 ≤ p.shape then ⟨-1, keysP t p.shape, p.vals⟩ else p
def stepS (t : TreeP) (p : PS) (m : Int) (ok : Bool) : PS := if ok = true then ⟨m, p.names, p.vals⟩ else looseS t p
def putOld (t : TreeP) (p : PS) (key : ByteArray) (d o : DescP) : TreeP × PS :=
  if 0 ≤ p.shape ∧ (o.2.2 != d.2.2) = true then ((changeP t p.shape key d.2.2).1, stepS (changeP t p.shape key d.2.2).1 p (changeP t p.shape key d.2.2).2.1 (changeP t p.shape key d.2.2).2.2) else (t, p)
def putFast (t : TreeP) (p : PS) (key : ByteArray) (d : DescP) : TreeP × PS :=
  if 0 ≤ p.shape then ((addP t p.shape key d.2.2).1, stepS (addP t p.shape key d.2.2).1 p (addP t p.shape key d.2.2).2.1 (addP t p.shape key d.2.2).2.2) else (t, p)
def putName (p : PS) (key : ByteArray) : PS := if p.shape < 0 then ⟨p.shape, p.names ++ [key], p.vals⟩ else p
def putNew (t : TreeP) (p : PS) (key : ByteArray) (d : DescP) : TreeP × PS :=
  ((putFast t (if 16 ≤ p.vals.length then looseS t p else p) key d).1, ⟨(putName (putFast t (if 16 ≤ p.vals.length then looseS t p else p) key d).2 key).shape, (putName (putFast t (if 16 ≤ p.vals.length then looseS t p else p) key d).2 key).names, p.vals ++ [d]⟩)
def putS (t : TreeP) (p : PS) (key : ByteArray) (d : DescP) : TreeP × PS :=
  if 0 ≤ placeO t p.shape p.names key then
    match p.vals[(placeO t p.shape p.names key).toNat]? with
    | none => (t, p)
    | some o => ((putOld t p key d o).1, ⟨(putOld t p key d o).2.shape, (putOld t p key d o).2.names, p.vals.set (placeO t p.shape p.names key).toNat d⟩)
  else putNew t p key d
abbrev ObjL.ps (x : ObjL) : PS := ⟨x.shape, x.names, x.vals⟩
theorem HeapV.ok.chg (h : H.ok F) (hx : H.objs[n]? = some x) {cl : List CellL} (hc : CellsL.ok ⟨F.cp, H.cs, cl⟩) (br : Int) : ((H.break cl br).put n x.chg).ok F :=
  (h.withCells hc br).put (x := x) hx ⟨(h.at hx).ns, (h.at hx).vs, (h.at hx).es, (h.at hx).is⟩ (h.small x (List.mem_of_getElem? hx))
/-- What Put, Drop and their like leave of an object. -/
structure Same (x x' : ObjL) : Prop where
  kind : x'.kind = x.kind
  proto : x'.proto = x.proto
  shut : x'.shut = x.shut
  es : x'.es = x.es
  elems : x'.elems = x.elems
  is : x'.is = x.is
  inner : x'.inner = x.inner
  cell : x'.cell = if 0 ≤ x.cell then -1 else x.cell
abbrev HeapV.upd (H : HeapV) (n : Nat) (x : ObjL) (V : TreeV) (cl : List CellL) (br : Int) : HeapV := ⟨H.s, H.objs.set n x, H.ts, H.texts, H.known, V, H.cs, cl, br⟩
theorem keysP_len {V : TreeV} {T : TreeF} (h : V.ok T) (m : Int) : (keysP (V.abs T) m).length ≤ 1048576 := by
  unfold keysP shapeAt
  by_cases hm : 0 ≤ m ∧ m < (V.abs T).l.length
  · rw [if_pos hm]
    cases hs : (V.abs T).l[m.toNat]? with
    | none => simp
    | some s =>
      simp only [List.length_map]
      simp only [TreeV.abs, List.getElem?_map, Option.map_eq_some_iff] at hs
      obtain ⟨y, hy, rfl⟩ := hs
      have h1 := h.room _ _ hy
      have h2 := h.many
      have h3 := (List.getElem?_eq_some_iff.1 hy).1
      simp only [ShapeL.abs]; omega
  · rw [if_neg hm]; simp
theorem OInv.names {t : TreeP} {x : ObjL} (h : OInv t x) (hs : x.shape < 0) : x.names.length = x.vals.length := by
  have := h.len
  unfold keysOf at this
  rwa [if_pos hs] at this
theorem set_cells {l : List ObjL} {n : Nat} {a b : ObjL} (h : b.cells = a.cells) : (l.set n b).flatMap ObjL.cells = (l.set n a).flatMap ObjL.cells := by
  simp only [List.flatMap_def, List.map_set, h]
end Go.Proofs.YtdfhbheipagnmaaGreat
