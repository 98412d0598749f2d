/-
  How package shapes lies in memory, and its tree without places. No condition.
-/
import Derived.Test.YtdfhbheipagnmaaSl
import Derived.Test.YtdfhbheipagnmaaProg
set_option linter.unusedVariables false
set_option maxRecDepth 100000
namespace Go.Proofs.Ytdfhbheipagnmaa
open Go.Sl

/-! ### shapes.Tree in memory -/
abbrev PropP := ByteArray × Int
def propCells (p : PropP) : List Value := [.string p.1, .int .i64 p.2]
theorem propCells_len (p : PropP) : (propCells p).length = 2 := rfl
abbrev StepP := Bool × ByteArray × Int
def stepV (x : StepP) : Value := .agg #[.bool x.1, .string x.2.1, .int .i64 x.2.2]
abbrev encI (a : Int) : Value := .int .i64 a
abbrev encU (a : Int) : Value := .int .u64 a
abbrev encS (a : ByteArray) : Value := .string a

theorem lawU : KeyLaw Try.prog 23 encU := keyLaw_int (k := .u64) (by kernel_rfl)
theorem eqProp (d : Nat) (a b : ByteArray) (i j : Int) (w : World) : (Op.equalIn (d + 2) 136 (.agg #[.string a, .int .i64 i]) (.agg #[.string b, .int .i64 j])).run Try.prog w = .ok (decide (a = b) && (decide (i = j) && true)) w := by
  rw [run_equalIn_struct w (d + 1) _ _ _ (by kernel_rfl) (by kernel_rfl)]
  rw [show (Try.prog.fieldsOf 136).toList = [fldAt Try.prog 136 0, fldAt Try.prog 136 1] from by kernel_rfl]
  exact eqFields_cons (a := .string a) (b := .string b) (by decide) (by kernel_rfl) (by kernel_rfl) (equalIn_string (by kernel_rfl))
    (eqFields_cons (a := .int .i64 i) (b := .int .i64 j) (by decide) (by kernel_rfl) (by kernel_rfl) (equalIn_int (k' := .i64) (by kernel_rfl)) eqFields_nil)
theorem eqStep (d : Nat) (a b : StepP) (w : World) : (Op.equalIn (d + 3) 140 (stepV a) (stepV b)).run Try.prog w = .ok (decide (a.1 = b.1) && ((decide (a.2.1 = b.2.1) && (decide (a.2.2 = b.2.2) && true)) && true)) w := by
  unfold stepV
  rw [run_equalIn_struct w (d + 2) _ _ _ (by kernel_rfl) (by kernel_rfl)]
  rw [show (Try.prog.fieldsOf 140).toList = [fldAt Try.prog 140 0, fldAt Try.prog 140 1] from by kernel_rfl]
  exact eqFields_cons (a := .bool a.1) (b := .bool b.1) (by decide) (by kernel_rfl) (by kernel_rfl) (equalIn_bool (by kernel_rfl))
    (eqFields_cons (a := .agg #[.string a.2.1, .int .i64 a.2.2]) (b := .agg #[.string b.2.1, .int .i64 b.2.2]) (by decide) (by kernel_rfl) (by kernel_rfl) (eqProp d _ _ _ _ w) eqFields_nil)
theorem lawStep : KeyLaw Try.prog 140 stepV := by
  refine keyLaw_asking (d := .struct (Try.prog.fieldsOf 140)) (by kernel_rfl) (fun a b => rfl) (fun a b w => ?_) (fun b k w => by unfold stepV; kernel_rfl) (fun k => ?_)
  · refine (eqStep 9997 a b w).trans ?_
    congr 1
    obtain ⟨a1, a2, a3⟩ := a
    obtain ⟨b1, b2, b3⟩ := b
    rw [Bool.eq_iff_iff]
    simp
  · simp [stepV, Instr.sameBits, beq_ba]

structure ShapeL where
  proto : Int
  ls : Gs
  l : List PropP
  nb : Nat
  next : List (StepP × Int)
def ShapeL.cells (s : ShapeL) : List Value := [.int .u64 s.proto, s.ls.val s.l.length, .map (some s.nb)]
def ShapeL.ent (s : ShapeL) : Heaplet := s.ls.ent 136 2 (s.l.flatMap propCells) ++ ((s.nb, .map (kvs stepV encI s.next)) :: [])
def ShapeL.ok (s : ShapeL) : Prop := s.ls.ok 2 s.l.length (s.l.flatMap propCells)
theorem ShapeL.len (s : ShapeL) : s.cells.length = 3 := rfl
/-- What of a tree stays: where it is, how many it takes, its map. -/
structure TreeF where
  p : Nat
  most : Int
  rb : Nat
structure TreeV where
  s : Gs
  l : List ShapeL
  roots : List (Int × Int)
abbrev TreeV.head (V : TreeV) (F : TreeF) : List Value := [.int .i64 F.most, V.s.val V.l.length, .map (some F.rb)]
abbrev TreeV.row (V : TreeV) : Heaplet := V.s.ent 133 3 (V.l.flatMap ShapeL.cells)
def TreeV.ent (V : TreeV) (F : TreeF) : Heaplet := (F.p, .cells 122 3 (V.head F)) :: (V.row ++ (V.l.flatMap ShapeL.ent ++ ((F.rb, .map (kvs encU encI V.roots)) :: [])))
structure TreeV.ok (V : TreeV) (F : TreeF) : Prop where
  row : V.s.ok 3 V.l.length (V.l.flatMap ShapeL.cells)
  each : ∀ s ∈ V.l, s.ok
  room : ∀ (i : Nat) s, V.l[i]? = some s → s.l.length ≤ i
  most : F.most ≤ 1048576
  many : V.l.length ≤ 1048576
variable {V V' : TreeV} {F : TreeF} {i : Nat} {s : ShapeL}
theorem TreeV.m0 (V : TreeV) (F : TreeF) : (F.p, Blk.cells 122 3 (V.head F)) ∈ V.ent F := List.mem_cons_self
theorem TreeV.m1 (V : TreeV) (F : TreeF) : ∀ e ∈ V.row, e ∈ V.ent F := fun e he => mem_c (mem_h he)
theorem TreeV.m2 (F : TreeF) (hs : V.l[i]? = some s) : ∀ e ∈ s.ls.ent 136 2 (s.l.flatMap propCells), e ∈ V.ent F :=
  fun e he => mem_c (mem_a (mem_h (List.mem_flatMap.2 ⟨s, List.mem_of_getElem? hs, mem_h he⟩)))
theorem TreeV.m3 (F : TreeF) (hs : V.l[i]? = some s) : (s.nb, Blk.map (kvs stepV encI s.next)) ∈ V.ent F :=
  mem_c (mem_a (mem_h (List.mem_flatMap.2 ⟨s, List.mem_of_getElem? hs, mem_a mem_z⟩)))
theorem TreeV.m4 (V : TreeV) (F : TreeF) : (F.rb, Blk.map (kvs encU encI V.roots)) ∈ V.ent F := mem_c (mem_a (mem_a mem_z))
theorem TreeV.ok.at (h : V.ok F) (hs : V.l[i]? = some s) : s.ls.ok 2 s.l.length (s.l.flatMap propCells) := h.each s (List.mem_of_getElem? hs)
/-- A shape in hand. -/
theorem TreeV.focus (F : TreeF) (hs : V.l[i]? = some s) (τ : Heaplet) : (V.ent F ++ τ).Perm ((F.p, .cells 122 3 (V.head F)) :: (V.row ++
    (s.ls.ent 136 2 (s.l.flatMap propCells) ++ ((s.nb, .map (kvs stepV encI s.next)) :: ((V.l.eraseIdx i).flatMap ShapeL.ent ++ ((F.rb, .map (kvs encU encI V.roots)) :: τ)))))) := by
  have h := (flat_focus (f := ShapeL.ent) hs)
  simp only [TreeV.ent, List.cons_append, List.append_assoc, List.nil_append]
  refine ((List.Perm.append_left _ ?_).cons _)
  refine (h.append_right _).trans ?_
  simp only [ShapeL.ent, List.cons_append, List.append_assoc, List.nil_append]
  exact List.Perm.refl _
abbrev TreeV.next (V : TreeV) (i : Nat) (s : ShapeL) (m : List (StepP × Int)) : TreeV := ⟨V.s, V.l.set i ⟨s.proto, s.ls, s.l, s.nb, m⟩, V.roots⟩
/-- And back, its ways being others. -/
theorem TreeV.unfocus (F : TreeF) (hs : V.l[i]? = some s) (m : List (StepP × Int)) (τ : Heaplet) : ((F.p, .cells 122 3 (V.head F)) :: (V.row ++
    (s.ls.ent 136 2 (s.l.flatMap propCells) ++ ((s.nb, .map (kvs stepV encI m)) :: ((V.l.eraseIdx i).flatMap ShapeL.ent ++ ((F.rb, .map (kvs encU encI V.roots)) :: τ)))))).Perm
    ((V.next i s m).ent F ++ τ) := by
  have h := (flat_unfocus (f := ShapeL.ent) ⟨s.proto, s.ls, s.l, s.nb, m⟩ hs)
  simp only [TreeV.ent, TreeV.head, TreeV.row, List.cons_append, List.append_assoc, List.nil_append, List.length_set]
  rw [show (V.l.set i ⟨s.proto, s.ls, s.l, s.nb, m⟩).flatMap ShapeL.cells = V.l.flatMap ShapeL.cells from flat_same hs rfl]
  refine ((List.Perm.append_left _ ?_).cons _)
  refine List.Perm.trans ?_ (h.append_right _)
  simp only [ShapeL.ent, List.cons_append, List.append_assoc, List.nil_append]
  exact List.Perm.refl _
theorem TreeV.ok.next (h : V.ok F) (hs : V.l[i]? = some s) (m : List (StepP × Int)) : (V.next i s m).ok F := by
  refine ⟨?_, fun x hx => ?_, fun j x hx => ?_, h.most, by simpa using h.many⟩
  · simp only [List.length_set]
    rw [show (V.l.set i ⟨s.proto, s.ls, s.l, s.nb, m⟩).flatMap ShapeL.cells = V.l.flatMap ShapeL.cells from flat_same hs rfl]; exact h.row
  · rcases List.mem_or_eq_of_mem_set hx with h1 | rfl
    · exact h.each x h1
    · exact h.each s (List.mem_of_getElem? hs)
  · by_cases e : i = j
    · subst e
      rw [get_set hs] at hx; cases hx
      exact h.room i s hs
    · exact h.room j x (by rwa [List.getElem?_set_ne e] at hx)

theorem TreeV.ok.withRoots (h : V.ok F) (r : List (Int × Int)) : TreeV.ok ⟨V.s, V.l, r⟩ F := ⟨h.row, h.each, h.room, h.most, h.many⟩
abbrev TreeV.more (V : TreeV) (g : Gs) (x : ShapeL) : TreeV := ⟨g, V.l ++ [x], V.roots⟩
theorem TreeV.ok.more (h : V.ok F) {g : Gs} {x : ShapeL} (hs : g.ok 3 (V.l ++ [x]).length ((V.l ++ [x]).flatMap ShapeL.cells)) (hx : x.ok) (hr : x.l.length ≤ V.l.length) (hm : (V.l.length : Int) < F.most) : (V.more g x).ok F := by
  have := h.most
  refine ⟨hs, fun s hsm => ?_, fun i s hi => ?_, h.most, by simp only [List.length_append, List.length_singleton]; omega⟩
  · rcases List.mem_append.1 hsm with h1 | h1
    · exact h.each s h1
    · rw [List.mem_singleton.1 h1]; exact hx
  · by_cases hlt : i < V.l.length
    · rw [List.getElem?_append_left hlt] at hi; exact h.room i s hi
    · rw [List.getElem?_append_right (by omega)] at hi
      have h0 : i - V.l.length = 0 := by
        have := (List.getElem?_eq_some_iff.1 hi).1; simp at this; omega
      rw [h0] at hi
      simp only [List.getElem?_cons_zero, Option.some.injEq] at hi
      subst hi; omega

/-! what a tree is, without its places -/
structure ShapeP where
  proto : Int
  l : List PropP
  next : List (StepP × Int)
structure TreeP where
  most : Int
  l : List ShapeP
  roots : List (Int × Int)
def ShapeL.abs (s : ShapeL) : ShapeP := ⟨s.proto, s.l, s.next⟩
def TreeV.abs (V : TreeV) (F : TreeF) : TreeP := ⟨F.most, V.l.map ShapeL.abs, V.roots⟩
theorem TreeV.abs_at (F : TreeF) (hs : V.l[i]? = some s) : (V.abs F).l[i]? = some s.abs := by simp [TreeV.abs, hs]
theorem TreeV.abs_len (V : TreeV) (F : TreeF) : (V.abs F).l.length = V.l.length := by simp [TreeV.abs]
def layP (t : TreeP) (proto : Int) (l : List PropP) : TreeP × Int × Bool :=
  if t.most ≤ t.l.length then (t, 0, false) else (⟨t.most, t.l ++ [⟨proto, l, []⟩], t.roots⟩, t.l.length, true)
def rootP (t : TreeP) (proto : Int) : TreeP × Int × Bool :=
  match mget t.roots proto with
  | some n => (t, n, true)
  | none => match layP t proto [] with
    | (t', n, true) => (⟨t'.most, t'.l, mset t'.roots proto n⟩, n, true)
    | (t', n, false) => (t', n, false)
def keyIx (l : List PropP) (key : ByteArray) : Int := ixFrom (fun p => decide (p.1 = key)) l 0
/-- A step from a shape that is there. -/
def wayP (t : TreeP) (n : Nat) (x : StepP) (l : List PropP) : TreeP × Int × Bool :=
  match t.l[n]? with
  | none => (t, 0, false)
  | some s => match mget s.next x with
    | some m => (t, m, true)
    | none => match layP t s.proto l with
      | (t', m, true) => (⟨t'.most, t'.l.set n ⟨s.proto, s.l, mset s.next x m⟩, t'.roots⟩, m, true)
      | (t', m, false) => (t', m, false)
def shapeAt (t : TreeP) (n : Int) : Option ShapeP := if 0 ≤ n ∧ n < t.l.length then t.l[n.toNat]? else none
def addP (t : TreeP) (n : Int) (key : ByteArray) (flags : Int) : TreeP × Int × Bool :=
  match shapeAt t n with
  | none => (t, 0, false)
  | some s => if keyIx s.l key ≥ 0 then (t, 0, false) else wayP t n.toNat (false, key, flags) (s.l ++ [(key, flags)])
def changeP (t : TreeP) (n : Int) (key : ByteArray) (flags : Int) : TreeP × Int × Bool :=
  match shapeAt t n with
  | none => (t, 0, false)
  | some s => if keyIx s.l key < 0 then (t, 0, false) else match s.l[(keyIx s.l key).toNat]? with
    | none => (t, 0, false)
    | some p => if p.2 == flags then (t, n, true) else wayP t n.toNat (true, p.1, flags) (s.l.set (keyIx s.l key).toNat (p.1, flags))
def moveGo (t : TreeP) (m : Int) (ok : Bool) : List PropP → TreeP × Int × Bool
  | [] => (t, m, ok)
  | p :: r => if ok = false then (t, 0, false) else moveGo (addP t m p.1 p.2).1 (addP t m p.1 p.2).2.1 (addP t m p.1 p.2).2.2 r
theorem moveGo_stop {t : TreeP} {m : Int} {ok : Bool} {l : List PropP} {i : Nat} {x : PropP} (h : l[i]? = some x) (hok : ok = false) : moveGo t m ok (l.drop i) = (t, 0, false) := by
  obtain ⟨hlt, rfl⟩ := List.getElem?_eq_some_iff.1 h
  rw [List.drop_eq_getElem_cons hlt, moveGo, if_pos hok]
theorem moveGo_step {t t' : TreeP} {m m' : Int} {ok ok' : Bool} {l : List PropP} {i : Nat} {x : PropP} (h : l[i]? = some x) (hok : ok = true) (ha : addP t m x.1 x.2 = (t', m', ok')) : moveGo t m ok (l.drop i) = moveGo t' m' ok' (l.drop (i + 1)) := by
  obtain ⟨hlt, rfl⟩ := List.getElem?_eq_some_iff.1 h
  rw [List.drop_eq_getElem_cons hlt, moveGo, if_neg (by simp [hok]), ha]
theorem moveGo_end {t : TreeP} {m : Int} {ok : Bool} {l : List PropP} {i : Nat} (h : l.length ≤ i) : moveGo t m ok (l.drop i) = (t, m, ok) := by
  rw [List.drop_eq_nil_of_le h]; rfl
def moveP (t : TreeP) (n : Int) (proto : Int) : TreeP × Int × Bool :=
  match shapeAt t n with
  | none => (t, 0, false)
  | some s => moveGo (rootP t proto).1 (rootP t proto).2.1 (rootP t proto).2.2 s.l
def findP (t : TreeP) (n : Int) (key : ByteArray) : Int × Int × Bool :=
  match shapeAt t n with
  | none => (0, 0, false)
  | some s => if keyIx s.l key < 0 then (0, 0, false) else match s.l[(keyIx s.l key).toNat]? with
    | none => (0, 0, false)
    | some p => (keyIx s.l key, p.2, true)
def keysP (t : TreeP) (n : Int) : List ByteArray :=
  match shapeAt t n with
  | none => []
  | some s => s.l.map (·.1)
theorem shapeAt_in (F : TreeF) {n : Int} (h : 0 ≤ n ∧ n < V.l.length) (hs : V.l[n.toNat]? = some s) : shapeAt (V.abs F) n = some s.abs := by
  unfold shapeAt
  rw [if_pos (by rw [V.abs_len]; exact h), TreeV.abs_at F hs]
theorem shapeAt_out (F : TreeF) {n : Int} (h : ¬ (0 ≤ n ∧ n < V.l.length)) : shapeAt (V.abs F) n = none := by
  unfold shapeAt
  rw [if_neg (by rw [V.abs_len]; exact h)]
theorem keyIx_lt {l : List PropP} {key : ByteArray} (h : 0 ≤ keyIx l key) : keyIx l key < l.length := ixFrom_lt h
abbrev two (r : Int × Bool) : Value := .tuple #[.int .i64 r.1, .bool r.2]
abbrev three (r : Int × Int × Bool) : Value := .tuple #[.int .i64 r.1, .int .i64 r.2.1, .bool r.2.2]
/-- The shapes that were there stay where they are. -/
def Keep (V V' : TreeV) : Prop := ∀ (i : Nat) (s : ShapeL), V.l[i]? = some s → ∃ s', V'.l[i]? = some s' ∧ s'.ls = s.ls ∧ s'.l = s.l
theorem Keep.refl (V : TreeV) : Keep V V := fun i s h => ⟨s, h, rfl, rfl⟩
theorem Keep.trans {V V' V2 : TreeV} (h : Keep V V') (k : Keep V' V2) : Keep V V2 := fun i s hs => by
  obtain ⟨s', h1, h2, h3⟩ := h i s hs
  obtain ⟨s2, k1, k2, k3⟩ := k i s' h1
  exact ⟨s2, k1, k2.trans h2, k3.trans h3⟩
theorem Keep.snoc {x : ShapeL} (h : V'.l = V.l ++ [x]) : Keep V V' := fun i s hs => ⟨s, by rw [h, List.getElem?_append_left (List.getElem?_eq_some_iff.1 hs).1]; exact hs, rfl, rfl⟩
theorem Keep.set {n : Nat} {x : ShapeL} {m : List (StepP × Int)} (hx : V.l[n]? = some x) (h : V'.l = V.l.set n ⟨x.proto, x.ls, x.l, x.nb, m⟩) : Keep V V' := fun i s hs => by
  by_cases e : n = i
  · subst e; rw [hx] at hs; cases hs; exact ⟨⟨x.proto, x.ls, x.l, x.nb, m⟩, by rw [h]; exact get_set hx, rfl, rfl⟩
  · exact ⟨s, by rw [h]; exact get_ne hs e, rfl, rfl⟩
end Go.Proofs.Ytdfhbheipagnmaa
