/-
  How package heap lies in memory, and what its calls do, without places. No condition.
-/
import Derived.Test.YtdfhbheipagnmaaShapes2
import Derived.Test.YtdfhbheipagnmaaCells
set_option linter.unusedVariables false
set_option linter.unusedSimpArgs false
set_option maxRecDepth 100000
namespace Go.Proofs.Ytdfhbheipagnmaa
open Go.Sl

/-! ### heap.Heap in memory -/
abbrev DescP := Int × Int × Int
def descCells (d : DescP) : List Value := [.int .u64 d.1, .int .u64 d.2.1, .int .i64 d.2.2]
theorem descCells_len (d : DescP) : (descCells d).length = 3 := rfl
structure ObjL where
  kind : Int
  proto : Int
  shut : Bool
  shape : Int
  ns : Gs
  names : List ByteArray
  vs : Gs
  vals : List DescP
  es : Gs
  elems : List Int
  is : Gs
  inner : List Int
  cell : Int
def ObjL.cells (x : ObjL) : List Value := [.int .i64 x.kind, .int .u64 x.proto, .bool x.shut, .int .i64 x.shape, x.ns.val x.names.length, x.vs.val x.vals.length, x.es.val x.elems.length, x.is.val x.inner.length, .int .i64 x.cell]
theorem ObjL.len (x : ObjL) : x.cells.length = 9 := rfl
abbrev ObjL.nsE (x : ObjL) : Heaplet := x.ns.ent 9 1 (x.names.map encS)
abbrev ObjL.vsE (x : ObjL) : Heaplet := x.vs.ent 42 3 (x.vals.flatMap descCells)
abbrev ObjL.esE (x : ObjL) : Heaplet := x.es.ent 24 1 (x.elems.map encU)
abbrev ObjL.isE (x : ObjL) : Heaplet := x.is.ent 24 1 (x.inner.map encU)
def ObjL.ent (x : ObjL) : Heaplet := x.nsE ++ (x.vsE ++ (x.esE ++ x.isE))
structure ObjL.ok (x : ObjL) : Prop where
  ns : x.ns.ok 1 x.names.length (x.names.map encS)
  vs : x.vs.ok 3 x.vals.length (x.vals.flatMap descCells)
  es : x.es.ok 1 x.elems.length (x.elems.map encU)
  is : x.is.ok 1 x.inner.length (x.inner.map encU)
structure HeapF where
  p : Nat
  kb : Nat
  T : TreeF
  cp : Nat
structure HeapV where
  s : Gs
  objs : List ObjL
  ts : Gs
  texts : List ByteArray
  known : List (ByteArray × Int)
  V : TreeV
  cs : Gs
  cl : List CellL
  br : Int
abbrev HeapV.C (H : HeapV) (F : HeapF) : CellsL := ⟨F.cp, H.cs, H.cl⟩
abbrev HeapV.head (H : HeapV) (F : HeapF) : List Value := [H.s.val H.objs.length, H.ts.val H.texts.length, .map (some F.kb), .pointer (some ⟨F.T.p, 0, none⟩), .pointer (some ⟨F.cp, 0, none⟩), .int .i64 H.br]
abbrev HeapV.row (H : HeapV) : Heaplet := H.s.ent 89 9 (H.objs.flatMap ObjL.cells)
def HeapV.ent (H : HeapV) (F : HeapF) : Heaplet := (F.p, .cells 83 6 (H.head F)) :: (H.row ++ (H.objs.flatMap ObjL.ent ++ (H.ts.ent 9 1 (H.texts.map encS) ++ ((F.kb, .map (kvs encS encU H.known)) :: (H.V.ent F.T ++ (CellsL.ent ⟨F.cp, H.cs, H.cl⟩ ++ []))))))
structure HeapV.ok (H : HeapV) (F : HeapF) : Prop where
  row : H.s.ok 9 H.objs.length (H.objs.flatMap ObjL.cells)
  each : ∀ x ∈ H.objs, x.ok
  ts : H.ts.ok 1 H.texts.length (H.texts.map encS)
  tree : H.V.ok F.T
  cells : CellsL.ok ⟨F.cp, H.cs, H.cl⟩
  objs : H.objs.length ≤ 65536
  texts : H.texts.length ≤ 16384
  small : ∀ x ∈ H.objs, x.elems.length ≤ 4096
variable {H : HeapV} {F : HeapF} {n : Nat} {x : ObjL}
theorem HeapV.m0 (H : HeapV) (F : HeapF) : (F.p, Blk.cells 83 6 (H.head F)) ∈ H.ent F := List.mem_cons_self
theorem HeapV.m1 (H : HeapV) (F : HeapF) : ∀ e ∈ H.row, e ∈ H.ent F := fun e he => mem_c (mem_h he)
theorem HeapV.m2 (H : HeapV) (F : HeapF) : ∀ e ∈ H.objs.flatMap ObjL.ent, e ∈ H.ent F := fun e he => mem_c (mem_a (mem_h he))
theorem HeapV.m3 (H : HeapV) (F : HeapF) : ∀ e ∈ H.ts.ent 9 1 (H.texts.map encS), e ∈ H.ent F := fun e he => mem_c (mem_a (mem_a (mem_h he)))
theorem HeapV.m4 (H : HeapV) (F : HeapF) : (F.kb, Blk.map (kvs encS encU H.known)) ∈ H.ent F := mem_c (mem_a (mem_a (mem_a mem_z)))
theorem ObjL.mns {l : List ObjL} (hx : l[n]? = some x) : ∀ e ∈ x.nsE, e ∈ l.flatMap ObjL.ent := fun e he => List.mem_flatMap.2 ⟨x, List.mem_of_getElem? hx, mem_h he⟩
theorem ObjL.mvs {l : List ObjL} (hx : l[n]? = some x) : ∀ e ∈ x.vsE, e ∈ l.flatMap ObjL.ent := fun e he => List.mem_flatMap.2 ⟨x, List.mem_of_getElem? hx, mem_a (mem_h he)⟩
theorem ObjL.mes {l : List ObjL} (hx : l[n]? = some x) : ∀ e ∈ x.esE, e ∈ l.flatMap ObjL.ent := fun e he => List.mem_flatMap.2 ⟨x, List.mem_of_getElem? hx, mem_a (mem_a (mem_h he))⟩
theorem ObjL.mis {l : List ObjL} (hx : l[n]? = some x) : ∀ e ∈ x.isE, e ∈ l.flatMap ObjL.ent := fun e he => List.mem_flatMap.2 ⟨x, List.mem_of_getElem? hx, mem_a (mem_a (mem_a he))⟩
theorem HeapV.ok.at (h : H.ok F) (hx : H.objs[n]? = some x) : x.ok := h.each x (List.mem_of_getElem? hx)
/-- An object in hand, and back. -/
theorem obj_focus {l : List ObjL} (hx : l[n]? = some x) (τ : Heaplet) : (l.flatMap ObjL.ent ++ τ).Perm (x.nsE ++ (x.vsE ++ (x.esE ++ (x.isE ++ ((l.eraseIdx n).flatMap ObjL.ent ++ τ))))) := by
  have h := (flat_focus (f := ObjL.ent) hx).append_right τ
  simpa only [ObjL.ent, List.append_assoc] using h
theorem obj_unfocus {l : List ObjL} (hx : l[n]? = some x) (x' : ObjL) (τ : Heaplet) : (x'.nsE ++ (x'.vsE ++ (x'.esE ++ (x'.isE ++ ((l.eraseIdx n).flatMap ObjL.ent ++ τ))))).Perm ((l.set n x').flatMap ObjL.ent ++ τ) := by
  have h := (flat_unfocus (f := ObjL.ent) x' hx).append_right τ
  simpa only [ObjL.ent, List.append_assoc] using h
abbrev HeapV.put (H : HeapV) (n : Nat) (x : ObjL) : HeapV := ⟨H.s, H.objs.set n x, H.ts, H.texts, H.known, H.V, H.cs, H.cl, H.br⟩
abbrev HeapV.tree (H : HeapV) (V : TreeV) : HeapV := ⟨H.s, H.objs, H.ts, H.texts, H.known, V, H.cs, H.cl, H.br⟩
abbrev HeapV.break (H : HeapV) (cl : List CellL) (br : Int) : HeapV := ⟨H.s, H.objs, H.ts, H.texts, H.known, H.V, H.cs, cl, br⟩
theorem HeapV.ok.put (h : H.ok F) (hx : H.objs[n]? = some x) {x' : ObjL} (ho : x'.ok) (hs : x'.elems.length ≤ 4096) : (H.put n x').ok F := by
  refine ⟨?_, fun y hy => ?_, h.ts, h.tree, h.cells, by simpa using h.objs, h.texts, fun y hy => ?_⟩
  · simp only [List.length_set]
    exact Gs.ok.relen h.row (by simp [flat_len ObjL.len])
  · rcases List.mem_or_eq_of_mem_set hy with h1 | rfl
    · exact h.each y h1
    · exact ho
  · rcases List.mem_or_eq_of_mem_set hy with h1 | rfl
    · exact h.small y h1
    · exact hs
theorem HeapV.ok.withTree (h : H.ok F) {V : TreeV} (hV : V.ok F.T) : (H.tree V).ok F := ⟨h.row, h.each, h.ts, hV, h.cells, h.objs, h.texts, h.small⟩
theorem HeapV.ok.withCells (h : H.ok F) {cl : List CellL} (hc : CellsL.ok ⟨F.cp, H.cs, cl⟩) (br : Int) : (H.break cl br).ok F := ⟨h.row, h.each, h.ts, h.tree, hc, h.objs, h.texts, h.small⟩

theorem HeapV.back (F : HeapF) (hx : H.objs[n]? = some x) (x' : ObjL) : ((F.p, Blk.cells 83 6 (H.head F)) :: (H.s.ent 89 9 ((H.objs.set n x').flatMap ObjL.cells) ++ (x'.nsE ++ (x'.vsE ++ (x'.esE ++ (x'.isE ++ ((H.objs.eraseIdx n).flatMap ObjL.ent ++
    (H.ts.ent 9 1 (H.texts.map encS) ++ ((F.kb, .map (kvs encS encU H.known)) :: (H.V.ent F.T ++ (CellsL.ent ⟨F.cp, H.cs, H.cl⟩ ++ []))))))))))).Perm ((H.put n x').ent F) := by
  simp only [HeapV.ent, HeapV.head, HeapV.row, List.length_set]
  exact ((obj_unfocus hx x' _).append_left _).cons _

/-! words -/
/-- A word of a tag: its payload. -/
def tagOf (w tag : Int) : Option Nat := if w / 4294967296 = tag * 65536 then some (w % 4294967296).toNat else none
theorem or_add {t n : Int} (ht : 0 ≤ t ∧ t < 65536) (hn : 0 ≤ n ∧ n < 4294967296) : IntKind.wrap .u64 ((BitVec.ofInt 64 (t * 281474976710656) ||| BitVec.ofInt 64 n).toNat) = t * 281474976710656 + n := by
  obtain ⟨a, rfl⟩ := Int.eq_ofNat_of_zero_le ht.1
  obtain ⟨b, rfl⟩ := Int.eq_ofNat_of_zero_le hn.1
  have h1 : (BitVec.ofInt 64 ((a : Int) * 281474976710656)).toNat = 2 ^ 48 * a := by
    rw [BitVec.toNat_ofInt]; omega
  have h2 : (BitVec.ofInt 64 (b : Int)).toNat = b := by
    rw [BitVec.toNat_ofInt]; omega
  rw [BitVec.toNat_or, h1, h2, ← Nat.two_pow_add_eq_or_of_lt (by omega)]
  simp only [IntKind.wrap, IntKind.bits, IntKind.signed]
  simp
  omega
theorem tagOf_mk {t : Int} {n : Nat} (h0 : 0 ≤ t) (hn : n < 4294967296) : tagOf (t * 281474976710656 + n) t = some n := by
  unfold tagOf
  rw [if_pos (by omega)]
  congr 1; omega
theorem tagOf_lt {w tag : Int} {n : Nat} (h : tagOf w tag = some n) : n < 4294967296 := by
  unfold tagOf at h
  split at h
  · simp only [Option.some.injEq] at h; omega
  · cases h
/-- The number under which the shape of nothing is found. -/
def rootKey (proto kind : Int) : Int := IntKind.wrap .u64 ((BitVec.ofInt 64 (IntKind.wrap .u64 (proto * 8)) ||| BitVec.ofInt 64 (IntKind.wrap .u64 kind)).toNat)
/-- An object's place; none: there is none. -/
def objAt (w : Int) (len : Nat) : Option Nat := match tagOf w 65530 with
  | some n => if n < len then some n else none
  | none => none
theorem objAt_tag {w : Int} {len n : Nat} (h : objAt w len = some n) : tagOf w 65530 = some n ∧ n < len := by
  unfold objAt at h
  cases ht : tagOf w 65530 with
  | none => rw [ht] at h; cases h
  | some m =>
    rw [ht] at h
    simp only [] at h
    by_cases hl : m < len
    · rw [if_pos hl] at h; cases h; exact ⟨rfl, hl⟩
    · rw [if_neg hl] at h; cases h
theorem lawK : KeyLaw Try.prog 9 encS := keyLaw_string (by kernel_rfl)
/-- What is changed leans on nothing any more. -/
abbrev ObjL.chg (x : ObjL) : ObjL := ⟨x.kind, x.proto, x.shut, x.shape, x.ns, x.names, x.vs, x.vals, x.es, x.elems, x.is, x.inner, if 0 ≤ x.cell then -1 else x.cell⟩
abbrev ObjL.withShape (x : ObjL) (m : Int) : ObjL := ⟨x.kind, x.proto, x.shut, m, x.ns, x.names, x.vs, x.vals, x.es, x.elems, x.is, x.inner, x.cell⟩
abbrev ObjL.loosed (x : ObjL) (g : Gs) (ks : List ByteArray) : ObjL := ⟨x.kind, x.proto, x.shut, -1, g, ks, x.vs, x.vals, x.es, x.elems, x.is, x.inner, x.cell⟩
def ixS (l : List ByteArray) (key : ByteArray) : Int := ixFrom (fun a => decide (a = key)) l 0
def placeO (t : TreeP) (shape : Int) (names : List ByteArray) (key : ByteArray) : Int :=
  if shape < 0 then ixS names key else if (findP t shape key).2.2 = true then (findP t shape key).1 else -1
/-- What stands on a cell breaks, if there is one. -/
def Chg (cell : Int) (l l' : List CellL) : Prop := if 0 ≤ cell then Broke (l.map CellL.abs) (l'.map CellL.abs) cell else l' = l
theorem cells_break {W0 : World} {p : Nat} {s : Gs} {l : List CellL} (hC : CellsL.ok ⟨p, s, l⟩) (hab : abv (l.map CellL.abs) ≤ 1099511627776) (n : Int) : SC Try.prog W0 76 #[.pointer (some ⟨p, 0, none⟩), .int .i64 n] (CellsL.ent ⟨p, s, l⟩)
    (Ret (fun r : List CellL × Int => CellsL.ent ⟨p, s, r.1⟩) (fun v r => v = .int .i64 r.2 ∧ CellsL.ok ⟨p, s, r.1⟩ ∧ Broke (l.map CellL.abs) (r.1.map CellL.abs) n)) := by
  refine (cells_Break hC hab n).mono fun v σ' h => ?_
  obtain ⟨m, l', ho, hok, hv, hb⟩ := h
  exact ⟨(l', m), ho, hv, hok, hb⟩
theorem cells_make {W0 : World} {p : Nat} {s : Gs} {l : List CellL} (hC : CellsL.ok ⟨p, s, l⟩) (hr : l.length ≤ 1099511627776) (hab : ∀ c ∈ l, c.above.length ≤ l.length) (n : Int) : SC Try.prog W0 69 #[.pointer (some ⟨p, 0, none⟩), .int .i64 n] (CellsL.ent ⟨p, s, l⟩)
    (Ret (fun r : Gs × List CellL => CellsL.ent ⟨p, r.1, r.2⟩) (fun v r => v = .int .i64 l.length ∧ CellsL.ok ⟨p, r.1, r.2⟩ ∧ r.2.map CellL.abs = mkP (l.map CellL.abs) n)) := by
  refine (cells_Make hC hr hab n).mono fun v σ' h => ?_
  obtain ⟨⟨p', s', l'⟩, ho, hok, hp, hv, hb⟩ := h
  simp only [] at hp
  subst hp
  exact ⟨(s', l'), .of_perm ho, hv, hok, hb⟩
theorem cells_valid {W0 : World} {p : Nat} {s : Gs} {l : List CellL} (hC : CellsL.ok ⟨p, s, l⟩) (n : Int) : SC Try.prog W0 68 #[.pointer (some ⟨p, 0, none⟩), .int .i64 n] (CellsL.ent ⟨p, s, l⟩)
    (Ret (fun _ : Unit => CellsL.ent ⟨p, s, l⟩) (fun v _ => v = .bool (CellsL.isV ⟨p, s, l⟩ n))) := by
  refine (cells_Valid hC (fun e he => he) n).mono fun v σ' h => ?_
  obtain ⟨hv, rfl⟩ := h
  exact ⟨(), .refl _, hv⟩
theorem cells_new {W0 : World} : SC Try.prog W0 36 #[] [] (Ret (fun r : Nat × Gs => CellsL.ent ⟨r.1, r.2, []⟩) (fun v r => v = .pointer (some ⟨r.1, 0, none⟩) ∧ CellsL.ok ⟨r.1, r.2, []⟩)) := by
  refine (cells_New).mono fun v σ' h => ?_
  obtain ⟨⟨p, s, l⟩, ho, hok, hl, hv⟩ := h
  simp only [] at hl
  subst hl
  exact ⟨(p, s), .of_perm ho, hv, hok⟩
/-- What grows stays small enough. -/
structure HeapV.bud (H : HeapV) (k : Nat) : Prop where
  vals : ∀ x ∈ H.objs, x.vals.length ≤ k
  cl : H.cl.length ≤ k * 65537
  abv : abv (H.cl.map CellL.abs) ≤ H.cl.length
  each : ∀ c ∈ H.cl, c.above.length ≤ H.cl.length
/-- May an object be made? -/
def mayMake (H : HeapV) (kind proto : Int) : Prop := (0 ≤ kind ∧ kind ≤ 6) ∧ (proto = 18445336698825998337 ∨ objAt proto H.objs.length ≠ none) ∧ H.objs.length < 65536
abbrev newObj (kind proto shape : Int) : ObjL := ⟨kind, proto, false, shape, .nil, [], .nil, [], .nil, [], .nil, [], -1⟩
abbrev HeapV.add (H : HeapV) (s : Gs) (x : ObjL) (V : TreeV) : HeapV := ⟨s, H.objs ++ [x], H.ts, H.texts, H.known, V, H.cs, H.cl, H.br⟩
theorem newObj_ent (kind proto shape : Int) : (newObj kind proto shape).ent = [] := rfl
theorem newObj_ok (kind proto shape : Int) : (newObj kind proto shape).ok := ⟨⟨rfl, rfl⟩, ⟨rfl, rfl⟩, ⟨rfl, rfl⟩, ⟨rfl, rfl⟩⟩
theorem HeapV.ok.add (h : H.ok F) {s : Gs} {x : ObjL} {V : TreeV} (hs : s.ok 9 (H.objs ++ [x]).length ((H.objs ++ [x]).flatMap ObjL.cells)) (hx : x.ok) (he : x.elems.length ≤ 4096) (hV : V.ok F.T) (hl : H.objs.length < 65536) : (H.add s x V).ok F := by
  refine ⟨hs, fun y hy => ?_, h.ts, hV, h.cells, by simp only [List.length_append, List.length_singleton]; omega, h.texts, fun y hy => ?_⟩
  · rcases List.mem_append.1 hy with h1 | h1
    · exact h.each y h1
    · rw [List.mem_singleton.1 h1]; exact hx
  · rcases List.mem_append.1 hy with h1 | h1
    · exact h.small y h1
    · rw [List.mem_singleton.1 h1]; exact he
def keysOf (t : TreeP) (x : ObjL) : List ByteArray := if x.shape < 0 then x.names else keysP t x.shape
/-- What is true of each object: by its shape, if it has one. -/
structure OInv (t : TreeP) (x : ObjL) : Prop where
  fast : 0 ≤ x.shape → ∃ s, shapeAt t x.shape = some s ∧ s.proto = rootKey x.proto x.kind ∧ s.l.map (·.2) = x.vals.map (·.2.2)
  len : (keysOf t x).length = x.vals.length
  nodup : (keysOf t x).Nodup
  stale : 0 ≤ x.shape → x.names = []
theorem placeO_lt {t : TreeP} {x : ObjL} {key : ByteArray} (h : OInv t x) (h0 : 0 ≤ placeO t x.shape x.names key) : placeO t x.shape x.names key < x.vals.length := by
  have hl := h.len
  unfold placeO at *
  unfold keysOf at hl
  by_cases hs : x.shape < 0
  · rw [if_pos hs] at *
    rw [← hl]; exact ixFrom_lt h0
  · rw [if_neg hs] at *
    obtain ⟨s, h1, h2, h3⟩ := h.fast (by omega)
    simp only [findP, h1] at *
    by_cases hk : keyIx s.l key < 0
    · simp [if_pos hk] at h0
    · simp only [if_neg hk] at *
      have h4 := keyIx_lt (l := s.l) (key := key) (by omega)
      have h5 : s.l.length = x.vals.length := by have := congrArg List.length h3; simpa using this
      cases hg : s.l[(keyIx s.l key).toNat]? with
      | none => rw [hg] at h0; simp at h0
      | some p => rw [hg] at *; simp only [if_true] at *; omega
abbrev descV (d : DescP) : Value := .agg #[.int .u64 d.1, .int .u64 d.2.1, .int .i64 d.2.2]
def descR : Option DescP → Value
  | some d => .tuple #[descV d, .bool true]
  | none => .tuple #[descV (0, 0, 0), .bool false]
def getO (t : TreeP) (x : ObjL) (key : ByteArray) : Option DescP := if placeO t x.shape x.names key < 0 then none else x.vals[(placeO t x.shape x.names key).toNat]?
def slotO (x : ObjL) (n : Int) : Option DescP := if 0 ≤ n ∧ n < x.vals.length then x.vals[n.toNat]? else none
def elemO (l : List Int) (n : Int) : Int × Bool := if 0 ≤ n ∧ n < l.length then (match l[n.toNat]? with | some w => if w = 18445336698825998340 then (18445336698825998336, false) else (w, true) | none => (18445336698825998336, false)) else (18445336698825998336, false)
def setLenL (l : List Int) (n : Nat) : List Int := l.take n ++ List.replicate (n - l.length) 18445336698825998340
theorem setLenL_le {l : List Int} {n : Nat} (h : n ≤ l.length) : setLenL l n = l.take n := by unfold setLenL; rw [show n - l.length = 0 by omega]; simp
theorem setLenL_len (l : List Int) (n : Nat) : (setLenL l n).length = n := by unfold setLenL; simp; omega
theorem setLenL_self (l : List Int) : setLenL l l.length = l := by rw [setLenL_le (Nat.le_refl _), List.take_length]
theorem setLenL_snoc {l : List Int} {n : Nat} (h : l.length ≤ n) : setLenL l n ++ [18445336698825998340] = setLenL l (n + 1) := by
  unfold setLenL
  rw [List.take_of_length_le h, List.take_of_length_le (by omega), show n + 1 - l.length = (n - l.length) + 1 by omega, List.replicate_succ', List.append_assoc]
def textO (texts : List ByteArray) (w : Int) : Option ByteArray := match tagOf w 65532 with | some n => texts[n]? | none => none
def textR : Option ByteArray → Value
  | some t => .tuple #[.string t, .bool true]
  | none => .tuple #[.string ByteArray.empty, .bool false]
abbrev ObjL.withElems (x : ObjL) (g : Gs) (l : List Int) : ObjL := ⟨x.kind, x.proto, x.shut, x.shape, x.ns, x.names, x.vs, x.vals, g, l, x.is, x.inner, x.cell⟩
abbrev HeapV.text (H : HeapV) (g : Gs) (key : ByteArray) : HeapV := ⟨H.s, H.objs, g, H.texts ++ [key], mset H.known key (65532 * 281474976710656 + (H.texts.length : Int)), H.V, H.cs, H.cl, H.br⟩
/-! what Put does, without places -/
def fl15 (f : Int) : Int := IntKind.wrap .i64 ((BitVec.ofInt 64 f &&& BitVec.ofInt 64 15).toNat)
def normF (f : Int) : Int := if (IntKind.wrap .i64 ((BitVec.ofInt 64 (fl15 f) &&& BitVec.ofInt 64 8).toNat) != 0) = true then IntKind.wrap .i64 ((BitVec.ofInt 64 (fl15 f) &&& ~~~BitVec.ofInt 64 1).toNat) else fl15 f
structure PS where
  shape : Int
  names : List ByteArray
  vals : List DescP
def looseS (t : TreeP) (p : PS) : PS := if 0 ≤ p.shape then ⟨-1, keysP t p.shape, p.vals⟩ else p
def stepS (t : TreeP) (p : PS) (m : Int) (ok : Bool) : PS := if ok = true then ⟨m, p.names, p.vals⟩ else looseS t p
def putOld (t : TreeP) (p : PS) (key : ByteArray) (d o : DescP) : TreeP × PS :=
  if 0 ≤ p.shape ∧ (o.2.2 != d.2.2) = true then ((changeP t p.shape key d.2.2).1, stepS (changeP t p.shape key d.2.2).1 p (changeP t p.shape key d.2.2).2.1 (changeP t p.shape key d.2.2).2.2) else (t, p)
def putFast (t : TreeP) (p : PS) (key : ByteArray) (d : DescP) : TreeP × PS :=
  if 0 ≤ p.shape then ((addP t p.shape key d.2.2).1, stepS (addP t p.shape key d.2.2).1 p (addP t p.shape key d.2.2).2.1 (addP t p.shape key d.2.2).2.2) else (t, p)
def putName (p : PS) (key : ByteArray) : PS := if p.shape < 0 then ⟨p.shape, p.names ++ [key], p.vals⟩ else p
def putNew (t : TreeP) (p : PS) (key : ByteArray) (d : DescP) : TreeP × PS :=
  ((putFast t (if 16 ≤ p.vals.length then looseS t p else p) key d).1, ⟨(putName (putFast t (if 16 ≤ p.vals.length then looseS t p else p) key d).2 key).shape, (putName (putFast t (if 16 ≤ p.vals.length then looseS t p else p) key d).2 key).names, p.vals ++ [d]⟩)
def putS (t : TreeP) (p : PS) (key : ByteArray) (d : DescP) : TreeP × PS :=
  if 0 ≤ placeO t p.shape p.names key then
    match p.vals[(placeO t p.shape p.names key).toNat]? with
    | none => (t, p)
    | some o => ((putOld t p key d o).1, ⟨(putOld t p key d o).2.shape, (putOld t p key d o).2.names, p.vals.set (placeO t p.shape p.names key).toNat d⟩)
  else putNew t p key d
abbrev ObjL.ps (x : ObjL) : PS := ⟨x.shape, x.names, x.vals⟩
theorem HeapV.ok.chg (h : H.ok F) (hx : H.objs[n]? = some x) {cl : List CellL} (hc : CellsL.ok ⟨F.cp, H.cs, cl⟩) (br : Int) : ((H.break cl br).put n x.chg).ok F :=
  (h.withCells hc br).put (x := x) hx ⟨(h.at hx).ns, (h.at hx).vs, (h.at hx).es, (h.at hx).is⟩ (h.small x (List.mem_of_getElem? hx))
/-- What Put, Drop and their like leave of an object. -/
structure Same (x x' : ObjL) : Prop where
  kind : x'.kind = x.kind
  proto : x'.proto = x.proto
  shut : x'.shut = x.shut
  es : x'.es = x.es
  elems : x'.elems = x.elems
  is : x'.is = x.is
  inner : x'.inner = x.inner
  cell : x'.cell = if 0 ≤ x.cell then -1 else x.cell
abbrev HeapV.upd (H : HeapV) (n : Nat) (x : ObjL) (V : TreeV) (cl : List CellL) (br : Int) : HeapV := ⟨H.s, H.objs.set n x, H.ts, H.texts, H.known, V, H.cs, cl, br⟩
theorem keysP_len {V : TreeV} {T : TreeF} (h : V.ok T) (m : Int) : (keysP (V.abs T) m).length ≤ 1048576 := by
  unfold keysP shapeAt
  by_cases hm : 0 ≤ m ∧ m < (V.abs T).l.length
  · rw [if_pos hm]
    cases hs : (V.abs T).l[m.toNat]? with
    | none => simp
    | some s =>
      simp only [List.length_map]
      simp only [TreeV.abs, List.getElem?_map, Option.map_eq_some_iff] at hs
      obtain ⟨y, hy, rfl⟩ := hs
      have h1 := h.room _ _ hy
      have h2 := h.many
      have h3 := (List.getElem?_eq_some_iff.1 hy).1
      simp only [ShapeL.abs]; omega
  · rw [if_neg hm]; simp
theorem OInv.names {t : TreeP} {x : ObjL} (h : OInv t x) (hs : x.shape < 0) : x.names.length = x.vals.length := by
  have := h.len
  unfold keysOf at this
  rwa [if_pos hs] at this
theorem set_cells {l : List ObjL} {n : Nat} {a b : ObjL} (h : b.cells = a.cells) : (l.set n b).flatMap ObjL.cells = (l.set n a).flatMap ObjL.cells := by
  simp only [List.flatMap_def, List.map_set, h]
end Go.Proofs.Ytdfhbheipagnmaa
