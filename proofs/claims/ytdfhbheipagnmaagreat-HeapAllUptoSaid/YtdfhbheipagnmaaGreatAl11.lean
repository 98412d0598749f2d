/-
  Each call of the heap: what it makes of the objects as the document has them, and of the guards. No condition.
-/
import Derived.Test.YtdfhbheipagnmaaGreatAl10
import Derived.Test.YtdfhbheipagnmaaGreatAl9
set_option linter.unusedVariables false
set_option linter.unusedSimpArgs false
set_option maxRecDepth 100000
namespace Go.Proofs.YtdfhbheipagnmaaGreat
open Go.Sl
variable {k : Nat} {H : HeapV} {F : HeapF} {n : Nat} {x : ObjL} {W0 : World}
def modP (l : List ObjS) (w : Int) (f : ObjS → ObjS) : List ObjS := match objAt w l.length with
  | none => l
  | some n => match l[n]? with
    | none => l
    | some o => l.set n (f o)
theorem modP_none {l : List ObjS} {w : Int} {f : ObjS → ObjS} (h : objAt w l.length = none) : modP l w f = l := by unfold modP; rw [h]
theorem modP_some {l : List ObjS} {w : Int} {f : ObjS → ObjS} {n : Nat} {o : ObjS} (h : objAt w l.length = some n) (ho : l[n]? = some o) : modP l w f = l.set n (f o) := by
  unfold modP; rw [h]; simp only []; rw [ho]
theorem modP_len (l : List ObjS) (w : Int) (f : ObjS → ObjS) : (modP l w f).length = l.length := by
  unfold modP
  split
  · rfl
  · split
    · rfl
    · exact List.length_set
theorem obj_of {l : List ObjS} {w : Int} {n : Nat} (h : objAt w l.length = some n) : ∃ o, l[n]? = some o := ⟨_, List.getElem?_eq_getElem (objAt_tag h).2⟩
abbrev putO (key : ByteArray) (d : DescP) (o : ObjS) : ObjS := ⟨o.kind, o.proto, o.shut, putNm o.names key, putDs o.names o.descs key (normD d), o.elems, o.inner⟩
abbrev dropO (key : ByteArray) (o : ObjS) : ObjS := ⟨o.kind, o.proto, o.shut, dropNm o.names key, dropDs o.names o.descs key, o.elems, o.inner⟩
abbrev setO (m wd : Int) (o : ObjS) : ObjS := ⟨o.kind, o.proto, o.shut, o.names, o.descs, setElemL o.elems m wd, o.inner⟩
abbrev lenO (m : Int) (o : ObjS) : ObjS := ⟨o.kind, o.proto, o.shut, o.names, o.descs, setLenQ o.elems m, o.inner⟩
abbrev shutO (o : ObjS) : ObjS := ⟨o.kind, o.proto, true, o.names, o.descs, o.elems, o.inner⟩
abbrev innerO (l : List Int) (o : ObjS) : ObjS := ⟨o.kind, o.proto, o.shut, o.names, o.descs, o.elems, l⟩
def writeD (l : List DescP) (m wd : Int) : List DescP := if 0 ≤ m then (match l[m.toNat]? with | some d => l.set m.toNat (wd, d.2.1, d.2.2) | none => l) else l
abbrev writeO (m wd : Int) (o : ObjS) : ObjS := ⟨o.kind, o.proto, o.shut, o.names, writeD o.descs m wd, o.elems, o.inner⟩
def hasQ (l : List ObjS) (w : Int) (key : ByteArray) : Bool := match objAt w l.length with | none => false | some n => match l[n]? with | none => false | some o => decide (0 ≤ ixS o.names key)
def slotQ (l : List ObjS) (w m : Int) : Bool := match objAt w l.length with | none => false | some n => match l[n]? with | none => false | some o => decide (0 ≤ m ∧ m < o.descs.length)
theorem hasQ_some {l : List ObjS} {w : Int} {key : ByteArray} {n : Nat} {o : ObjS} (h : objAt w l.length = some n) (ho : l[n]? = some o) : hasQ l w key = decide (0 ≤ ixS o.names key) := by unfold hasQ; rw [h]; simp only []; rw [ho]
theorem hasQ_none {l : List ObjS} {w : Int} {key : ByteArray} (h : objAt w l.length = none) : hasQ l w key = false := by unfold hasQ; rw [h]
theorem slotQ_some {l : List ObjS} {w m : Int} {n : Nat} {o : ObjS} (h : objAt w l.length = some n) (ho : l[n]? = some o) : slotQ l w m = decide (0 ≤ m ∧ m < o.descs.length) := by unfold slotQ; rw [h]; simp only []; rw [ho]
theorem slotQ_none {l : List ObjS} {w m : Int} (h : objAt w l.length = none) : slotQ l w m = false := by unfold slotQ; rw [h]
/-! what happens to guards -/
def Touch (g g' : GdP) (n : Nat) : Prop := ∃ c, g.1[n]? = some c ∧ g'.1 = g.1.set n (if 0 ≤ c then -1 else c) ∧ (if 0 ≤ c then Broke g.2 g'.2 c else g'.2 = g.2)
def GdC (g g' : GdP) (on : Option Nat) (must : Prop) : Prop := (¬ must ∧ g' = g) ∨ ∃ n, on = some n ∧ Touch g g' n
theorem touch_upd (hx : H.objs[n]? = some x) {x' : ObjL} {V : TreeV} {cl : List CellL} {br : Int} (hc : x'.cell = if 0 ≤ x.cell then -1 else x.cell) (hg : Chg x.cell H.cl cl) : Touch H.gd (H.upd n x' V cl br).gd n := by
  refine ⟨x.cell, HeapV.gd_at hx, ?_, ?_⟩
  · show (H.objs.set n x').map ObjL.cell = (H.objs.map ObjL.cell).set n _
    rw [List.map_set, hc]
  · unfold Chg at hg
    by_cases h : 0 ≤ x.cell
    · rw [if_pos h] at hg ⊢; exact hg
    · rw [if_neg h] at hg ⊢; show cl.map CellL.abs = _; rw [hg]; rfl
structure Stp (k : Nat) (H H' : HeapV) (F : HeapF) (l : List ObjS) (t : List ByteArray) (w : Int) (must : Prop) : Prop where
  inv : HInv k H' F
  pub : H'.pub F = l
  texts : H'.texts = t
  gd : GdC H.gd H'.gd (objAt w (H.pub F).length) must
theorem Stp.same (h : HInv k H F) {l : List ObjS} (hl : H.pub F = l) (w : Int) {must : Prop} (hm : ¬ must) : Stp k H H F l H.texts w must := ⟨h, hl, rfl, .inl ⟨hm, rfl⟩⟩
theorem hq_Put (hk : k ≤ 8000000) (h : HInv k H F) (w : Int) (key : ByteArray) (d : DescP) :
    SC Tryz.prog W0 11 #[.pointer (some ⟨F.p, 0, none⟩), .int .u64 w, .string key, descV d] (H.ent F)
    (Ret (fun H' : HeapV => H'.ent F) (fun v H' => v = .tuple #[] ∧ Stp (k + 1) H H' F (modP (H.pub F) w (putO key d)) H.texts w (objAt w (H.pub F).length ≠ none))) := by
  cases h0 : objAt w (H.pub F).length with
  | none =>
    rw [modP_none h0]
    refine SC.ret (heap_Put_none h.ok (by rw [← HeapV.pub_len H F]; exact h0) key d) fun v _ hv => ⟨H, rfl, hv, Stp.same (h.mono (by omega)) rfl w (by simp)⟩
  | some n =>
    obtain ⟨o, ho⟩ := obj_of h0
    rw [modP_some h0 ho]
    have h1 := h0
    rw [HeapV.pub_len] at h0
    obtain ⟨x, hx, rfl⟩ := pub_obj ho
    have ho' := h.obj hx
    refine SC.ret (heap_Put_some h.ok h0 hx ho' h.bud hk key d) fun v r ⟨g1, h2, h3, h4, h5⟩ => ⟨_, rfl, g1, ?_⟩
    have p := putS_put h.tree ho'.ps key (normD d)
    rw [show putS (H.V.abs F.T) x.ps key (normD d) = _ from h4] at p
    simp only [] at p
    have hi : OInv (r.2.1.abs F.T) r.1 := PInv.obj (by rw [h3.proto, h3.kind]; exact p.obj)
    have hvl : r.1.vals = putDs (keysOf (H.V.abs F.T) x) x.vals key (normD d) := p.vals
    have hkl : keysOf (r.2.1.abs F.T) r.1 = putNm (keysOf (H.V.abs F.T) x) key := p.keys
    obtain ⟨a, b⟩ := h.upd hx (Nat.le_succ k) h2 p.inv p.ext hi (by rw [hvl]; have := putDs_len (keysOf (H.V.abs F.T) x) x.vals key (normD d); have := h.bud.vals x (List.mem_of_getElem? hx); omega) (by rw [h3.inner]; exact h.in' hx) h5
    exact ⟨a, by rw [b, h3.pub, hkl, hvl]; rfl, rfl, .inr ⟨n, h1, touch_upd hx h3.cell h5⟩⟩
theorem hq_Drop (hk : k ≤ 8000000) (h : HInv k H F) (w : Int) (key : ByteArray) :
    SC Tryz.prog W0 19 #[.pointer (some ⟨F.p, 0, none⟩), .int .u64 w, .string key] (H.ent F)
    (Ret (fun H' : HeapV => H'.ent F) (fun v H' => v = .bool (hasQ (H.pub F) w key) ∧ Stp k H H' F (modP (H.pub F) w (dropO key)) H.texts w (hasQ (H.pub F) w key = true))) := by
  cases h0 : objAt w (H.pub F).length with
  | none =>
    rw [modP_none h0, hasQ_none h0]
    refine SC.ret (heap_Drop_none h.ok (by rw [← HeapV.pub_len H F]; exact h0) key) fun v _ hv => ⟨H, rfl, hv, Stp.same h rfl w (by simp)⟩
  | some n =>
    obtain ⟨o, ho⟩ := obj_of h0
    rw [modP_some h0 ho, hasQ_some h0 ho]
    have h1 := h0
    rw [HeapV.pub_len] at h0
    obtain ⟨x, hx, rfl⟩ := pub_obj ho
    have ho' := h.obj hx
    have e := placePS ho'.ps key
    by_cases hn : ixS (keysOf (H.V.abs F.T) x) key < 0
    · have hno : placeO (H.V.abs F.T) x.shape x.names key < 0 := by
        rw [show placeO (H.V.abs F.T) x.shape x.names key = _ from e]
        show (if ixS (keysOf (H.V.abs F.T) x) key < 0 then (-1 : Int) else _) < 0
        rw [if_pos hn]; decide
      have hd : decide (0 ≤ ixS (pubO (H.V.abs F.T) x).names key) = false := decide_eq_false (by show ¬ 0 ≤ ixS (keysOf (H.V.abs F.T) x) key; omega)
      rw [hd]
      refine SC.ret (heap_Drop_no h.ok h0 hx hno) fun v _ hv => ⟨H, rfl, hv, Stp.same h ?_ w (by simp)⟩
      have d1 : dropNm (pubO (H.V.abs F.T) x).names key = (pubO (H.V.abs F.T) x).names := if_pos hn
      have d2 : dropDs (pubO (H.V.abs F.T) x).names (pubO (H.V.abs F.T) x).descs key = (pubO (H.V.abs F.T) x).descs := if_pos hn
      rw [show dropO key (pubO (H.V.abs F.T) x) = pubO (H.V.abs F.T) x from by unfold dropO; rw [d1, d2]]
      exact (set_same ho).symm
    · obtain ⟨q, hq⟩ := Int.eq_ofNat_of_zero_le (ixS_nn hn)
      have hqv : q < x.vals.length := by
        have q1 := (List.getElem?_eq_some_iff.1 (ixS_some (ixS_nn hn))).1
        rw [hq, ← ho'.len] at *
        exact q1
      have hp : placeO (H.V.abs F.T) x.shape x.names key = (q : Int) := by
        rw [show placeO (H.V.abs F.T) x.shape x.names key = _ from e]
        show (if ixS (keysOf (H.V.abs F.T) x) key < 0 then (-1 : Int) else ixS (keysOf (H.V.abs F.T) x) key) = q
        rw [if_neg hn]; exact hq
      have hd : decide (0 ≤ ixS (pubO (H.V.abs F.T) x).names key) = true := decide_eq_true (ixS_nn hn)
      rw [hd]
      refine SC.ret (heap_Drop_yes h.ok h0 hx ho' h.bud hk hp) fun v r ⟨g1, h2, h3, h4, h5⟩ => ⟨_, rfl, g1, ?_⟩
      obtain ⟨i1, i2, i3⟩ := drop_inv ho' h3 hqv h4
      have e3 : r.1.vals = x.vals.eraseIdx q := congrArg PS.vals h4
      obtain ⟨a, b⟩ := h.upd hx (Nat.le_refl k) h2 h.tree (Ext.refl _) i1 (by rw [e3]; exact Nat.le_trans (List.length_eraseIdx_le _ _) (h.bud.vals x (List.mem_of_getElem? hx))) (by rw [h3.inner]; exact h.in' hx) h5
      have d1 : dropNm (pubO (H.V.abs F.T) x).names key = (keysOf (H.V.abs F.T) x).eraseIdx q := (if_neg hn).trans (by show _ = _; rw [show ixS (pubO (H.V.abs F.T) x).names key = (q : Int) from hq]; rfl)
      have d2 : dropDs (pubO (H.V.abs F.T) x).names (pubO (H.V.abs F.T) x).descs key = x.vals.eraseIdx q := (if_neg hn).trans (by show _ = _; rw [show ixS (pubO (H.V.abs F.T) x).names key = (q : Int) from hq]; rfl)
      exact ⟨a, by rw [b, h3.pub, i2, e3, show dropO key (pubO (H.V.abs F.T) x) = _ from by unfold dropO; rw [d1, d2]]; rfl, rfl, .inr ⟨n, h1, touch_upd hx h3.cell h5⟩⟩
end Go.Proofs.YtdfhbheipagnmaaGreat
namespace Go.Proofs.YtdfhbheipagnmaaGreat
open Go.Sl
variable {k : Nat} {H : HeapV} {F : HeapF} {n : Nat} {x : ObjL} {W0 : World}
def setQ (l : List ObjS) (w m : Int) : Bool := decide (0 ≤ m ∧ m < 4096) && (objAt w l.length).isSome
def lenQ (l : List ObjS) (w m : Int) : Bool := decide (0 ≤ m ∧ m ≤ 4096) && (objAt w l.length).isSome
theorem hq_SetElem (hk : k ≤ 8000000) (h : HInv k H F) (w m wd : Int) :
    SC Tryz.prog W0 23 #[.pointer (some ⟨F.p, 0, none⟩), .int .u64 w, .int .i64 m, .int .u64 wd] (H.ent F)
    (Ret (fun H' : HeapV => H'.ent F) (fun v H' => v = .bool (setQ (H.pub F) w m) ∧ Stp k H H' F (modP (H.pub F) w (setO m wd)) H.texts w False)) := by
  cases h0 : objAt w (H.pub F).length with
  | none =>
    rw [modP_none h0, show setQ (H.pub F) w m = false from by unfold setQ; rw [h0]; simp]
    exact SC.ret (heap_SetElem_none h.ok (by rw [← HeapV.pub_len H F]; exact h0) m wd) fun v _ hv => ⟨H, rfl, hv, Stp.same h rfl w (by simp)⟩
  | some n =>
    obtain ⟨o, ho⟩ := obj_of h0
    rw [modP_some h0 ho, show setQ (H.pub F) w m = decide (0 ≤ m ∧ m < 4096) from by unfold setQ; rw [h0]; simp]
    have h1 := h0
    rw [HeapV.pub_len] at h0
    obtain ⟨x, hx, rfl⟩ := pub_obj ho
    have ho' := h.obj hx
    by_cases hm : 0 ≤ m ∧ m < 4096
    · obtain ⟨q, rfl⟩ := Int.eq_ofNat_of_zero_le hm.1
      have e1 : setElemL (pubO (H.V.abs F.T) x).elems (q : Int) wd = (setLenL x.elems (max x.elems.length (q + 1))).set q wd := by unfold setElemL; rw [if_pos hm]; rfl
      rw [decide_eq_true hm]
      have hr : SC Tryz.prog W0 23 #[.pointer (some ⟨F.p, 0, none⟩), .int .u64 w, .int .i64 (q : Int), .int .u64 wd] (H.ent F) (Ret (fun r : ObjL × List CellL × Int => (H.upd n r.1 H.V r.2.1 r.2.2).ent F) (fun v r => v = .bool true ∧ (H.upd n r.1 H.V r.2.1 r.2.2).ok F ∧ SameE x r.1 ((setLenL x.elems (max x.elems.length (q + 1))).set q wd) ∧ Chg x.cell H.cl r.2.1)) := by
        by_cases hl : q < x.elems.length
        · have e2 : setLenL x.elems (max x.elems.length (q + 1)) = x.elems := by rw [show max x.elems.length (q + 1) = x.elems.length by omega]; exact setLenL_self _
          rw [e2]
          exact heap_SetElem_fast h.ok h0 hx h.bud hk (by omega) hl
        · exact heap_SetElem_slow h.ok h0 hx h.bud hk (by omega) (by omega)
      refine SC.ret hr fun v r ⟨g1, h2, h3, h4⟩ => ⟨_, rfl, g1, ?_⟩
      obtain ⟨i1, i2⟩ := h3.inv ho'
      obtain ⟨a, b⟩ := h.upd hx (Nat.le_refl k) h2 h.tree (Ext.refl _) i1 (by rw [h3.vals]; exact h.bud.vals x (List.mem_of_getElem? hx)) (by rw [h3.inner]; exact h.in' hx) h4
      exact ⟨a, by rw [b, i2, show setO (q : Int) wd (pubO (H.V.abs F.T) x) = _ from by unfold setO; rw [e1]]; rfl, rfl, .inr ⟨n, h1, touch_upd hx h3.cell h4⟩⟩
    · have e1 : setElemL (pubO (H.V.abs F.T) x).elems m wd = (pubO (H.V.abs F.T) x).elems := by unfold setElemL; rw [if_neg hm]
      rw [decide_eq_false hm]
      exact SC.ret (heap_SetElem_bad h.ok hm) fun v _ hv => ⟨H, rfl, hv, Stp.same h (by rw [show setO m wd (pubO (H.V.abs F.T) x) = pubO (H.V.abs F.T) x from by unfold setO; rw [e1]]; exact (set_same ho).symm) w (by simp)⟩
theorem hq_SetLen (hk : k ≤ 8000000) (h : HInv k H F) (w m : Int) :
    SC Tryz.prog W0 26 #[.pointer (some ⟨F.p, 0, none⟩), .int .u64 w, .int .i64 m] (H.ent F)
    (Ret (fun H' : HeapV => H'.ent F) (fun v H' => v = .bool (lenQ (H.pub F) w m) ∧ Stp k H H' F (modP (H.pub F) w (lenO m)) H.texts w False)) := by
  cases h0 : objAt w (H.pub F).length with
  | none =>
    rw [modP_none h0, show lenQ (H.pub F) w m = false from by unfold lenQ; rw [h0]; simp]
    exact SC.ret (heap_SetLen_none h.ok (by rw [← HeapV.pub_len H F]; exact h0) m) fun v _ hv => ⟨H, rfl, hv, Stp.same h rfl w (by simp)⟩
  | some n =>
    obtain ⟨o, ho⟩ := obj_of h0
    rw [modP_some h0 ho, show lenQ (H.pub F) w m = decide (0 ≤ m ∧ m ≤ 4096) from by unfold lenQ; rw [h0]; simp]
    have h1 := h0
    rw [HeapV.pub_len] at h0
    obtain ⟨x, hx, rfl⟩ := pub_obj ho
    have ho' := h.obj hx
    by_cases hm : 0 ≤ m ∧ m ≤ 4096
    · obtain ⟨q, rfl⟩ := Int.eq_ofNat_of_zero_le hm.1
      have e1 : setLenQ (pubO (H.V.abs F.T) x).elems (q : Int) = setLenL x.elems q := by unfold setLenQ; rw [if_pos hm]; rfl
      rw [decide_eq_true hm]
      have hr : SC Tryz.prog W0 26 #[.pointer (some ⟨F.p, 0, none⟩), .int .u64 w, .int .i64 (q : Int)] (H.ent F) (Ret (fun r : Gs × List CellL × Int => (H.upd n ((ObjL.chg x).withElems r.1 (setLenL x.elems q)) H.V r.2.1 r.2.2).ent F) (fun v r => v = .bool true ∧ (H.upd n ((ObjL.chg x).withElems r.1 (setLenL x.elems q)) H.V r.2.1 r.2.2).ok F ∧ Chg x.cell H.cl r.2.1)) := by
        by_cases hl : q ≤ x.elems.length
        · exact heap_SetLen_short h.ok h0 hx h.bud hk (by omega) hl
        · exact heap_SetLen_long h.ok h0 hx h.bud hk (by omega) (by omega)
      refine SC.ret hr fun v r ⟨g1, h2, h3⟩ => ⟨_, rfl, g1, ?_⟩
      obtain ⟨a, b⟩ := h.upd hx (x' := (ObjL.chg x).withElems r.1 (setLenL x.elems q)) (Nat.le_refl k) h2 h.tree (Ext.refl _) ⟨ho'.fast, ho'.len, ho'.nodup, ho'.stale⟩ (show x.vals.length ≤ k from h.bud.vals x (List.mem_of_getElem? hx)) (show x.inner.length ≤ 1048576 from h.in' hx) h3
      exact ⟨a, by rw [b, show lenO (q : Int) (pubO (H.V.abs F.T) x) = _ from by unfold lenO; rw [e1]]; rfl, rfl, .inr ⟨n, h1, touch_upd hx rfl h3⟩⟩
    · have e1 : setLenQ (pubO (H.V.abs F.T) x).elems m = (pubO (H.V.abs F.T) x).elems := by unfold setLenQ; rw [if_neg hm]
      rw [decide_eq_false hm]
      exact SC.ret (heap_SetLen_bad h.ok h0 hx hm) fun v _ hv => ⟨H, rfl, hv, Stp.same h (by rw [show lenO m (pubO (H.V.abs F.T) x) = pubO (H.V.abs F.T) x from by unfold lenO; rw [e1]]; exact (set_same ho).symm) w (by simp)⟩
theorem moveS_inv {t : TreeP} (h : TInv t) {rk : Int} {p : PS} (hp : PInv t rk p) (rk' : Int) : TInv (moveS t p rk').1 ∧ Ext t (moveS t p rk').1 ∧ PInv (moveS t p rk').1 rk' (moveS t p rk').2 ∧ keysPS (moveS t p rk').1 (moveS t p rk').2 = keysPS t p ∧ (moveS t p rk').2.vals = p.vals := by
  unfold moveS
  by_cases h0 : p.shape < 0
  · rw [if_pos h0]
    exact ⟨h, Ext.refl t, ⟨fun q => absurd q (by show ¬ 0 ≤ p.shape; omega), hp.len, hp.nodup, hp.stale⟩, rfl, rfl⟩
  · rw [if_neg h0]
    obtain ⟨s, s1, s2, s3, s4⟩ := hp.shape_l (by omega)
    obtain ⟨g1, g2, g3⟩ := moveP_got h s1 rk'
    have hlen := hp.len
    have hnd := hp.nodup
    rw [s4] at hlen hnd
    simp only []
    unfold stepS
    by_cases hok : (moveP t p.shape rk').2.2 = true
    · rw [if_pos hok]
      obtain ⟨s', q1, q2, q3⟩ := g3 hok
      have h00 := (shapeAt_iff.1 q1).1
      have hk : keysPS (moveP t p.shape rk').1 ⟨(moveP t p.shape rk').2.1, p.names, p.vals⟩ = s.l.map (·.1) := by rw [keysPS_fast h00 q1, q3]
      exact ⟨g1, g2, ⟨fun _ => ⟨s', q1, q2, by rw [q3]; exact s3⟩, by rw [hk]; exact hlen, by rw [hk]; exact hnd, fun _ => hp.stale (by omega)⟩, by rw [hk, s4], rfl⟩
    · rw [if_neg hok]
      obtain ⟨e1, e2⟩ := hp.ext g2
      obtain ⟨l1, l2, l3, l4⟩ := e1.loose
      exact ⟨g1, g2, ⟨fun q => absurd q (by omega), l1.len, l1.nodup, fun q => absurd q (by omega)⟩, by rw [l2, e2], l3⟩
theorem hq_SetProto (hk : k ≤ 8000000) (h : HInv k H F) (w p : Int) (hE : Ends (H.pub F) p) :
    SC Tryz.prog W0 21 #[.pointer (some ⟨F.p, 0, none⟩), .int .u64 w, .int .u64 p] (H.ent F)
    (Ret (fun H' : HeapV => H'.ent F) (fun v H' => v = .tuple #[] ∧ Stp k H H' F (reproP (H.pub F) w p) H.texts w (protoW (reproP (H.pub F) w p) w ≠ protoW (H.pub F) w))) := by
  cases h0 : objAt w (H.pub F).length with
  | none =>
    rw [reproP_none h0]
    exact SC.ret (heap_SetProto_none h.ok (by rw [← HeapV.pub_len H F]; exact h0) p) fun v _ hv => ⟨H, rfl, hv, Stp.same h rfl w (by simp)⟩
  | some n =>
    obtain ⟨o, ho⟩ := obj_of h0
    have h1 := h0
    rw [HeapV.pub_len] at h0
    obtain ⟨x, hx, rfl⟩ := pub_obj ho
    have ho' := h.obj hx
    have hK := hE.bound
    rw [HeapV.pub_len] at hK
    by_cases hs : (p ≠ 18445336698825998337 ∧ objAt p H.objs.length = none) ∨ x.proto = p ∨ hitP (H.pub F) p w = true
    · have e : reproP (H.pub F) w p = H.pub F := by
        by_cases hq : (p ≠ 18445336698825998337 ∧ objAt p (H.pub F).length = none) ∨ hitP (H.pub F) p w = true
        · exact reproP_no hq
        · have hp : x.proto = p := by
            rcases hs with q | q | q
            · exact absurd (.inl (by rw [HeapV.pub_len]; exact q)) hq
            · exact q
            · exact absurd (.inr q) hq
          have h2 : hitP (H.pub F) p w = false := by cases q : hitP (H.pub F) p w with
            | false => rfl
            | true => exact absurd (.inr q) hq
          rw [reproP_yes h1 ho (fun q => hq (.inl q)) h2, show (pubO (H.V.abs F.T) x).under p = pubO (H.V.abs F.T) x from by unfold ObjS.under pubO; rw [hp]]
          exact set_same ho
      rw [e]
      exact SC.ret (heap_SetProto_same h.ok h0 hx hK (Nat.le_refl _) hs) fun v _ hv => ⟨H, rfl, hv, Stp.same h rfl w (by simp)⟩
    · have hq : ¬ (p ≠ 18445336698825998337 ∧ objAt p (H.pub F).length = none) := fun q => hs (.inl (by rw [← HeapV.pub_len H F]; exact q))
      have h2 : hitP (H.pub F) p w = false := by cases q : hitP (H.pub F) p w with
        | false => rfl
        | true => exact absurd (.inr (.inr q)) hs
      rw [reproP_yes h1 ho hq h2]
      refine SC.ret (heap_SetProto_move h.ok h0 hx hK (Nat.le_refl _) h.bud hk hs) fun v r ⟨g1, g2, g3, g4, g5⟩ => ⟨_, rfl, g1, ?_⟩
      obtain ⟨i1, i2, i3, i4, i5⟩ := moveS_inv h.tree ho'.ps (rootKey p x.kind)
      rw [g4] at i1 i2 i3 i4 i5
      simp only [] at i1 i2 i3 i4 i5
      have hi : OInv (r.2.1.abs F.T) r.1 := PInv.obj (by rw [g3.proto, g3.kind]; exact i3)
      obtain ⟨a, b⟩ := h.upd hx (Nat.le_refl k) g2 i1 i2 hi (by rw [show r.1.vals = x.vals from i5]; exact h.bud.vals x (List.mem_of_getElem? hx)) (by rw [g3.inner]; exact h.in' hx) g5
      refine ⟨a, ?_, rfl, .inr ⟨n, h1, touch_upd hx g3.cell g5⟩⟩
      rw [b]
      congr 1
      unfold pubO
      rw [g3.kind, g3.proto, g3.shut, g3.elems, g3.inner, show r.1.vals = x.vals from i5, show keysOf (r.2.1.abs F.T) r.1 = keysOf (H.V.abs F.T) x from i4]
theorem hq_Close (h : HInv k H F) (w : Int) : SC Tryz.prog W0 28 #[.pointer (some ⟨F.p, 0, none⟩), .int .u64 w] (H.ent F)
    (Ret (fun H' : HeapV => H'.ent F) (fun v H' => v = .tuple #[] ∧ Stp k H H' F (modP (H.pub F) w shutO) H.texts w False ∧ H'.gd = H.gd)) := by
  cases h0 : objAt w (H.pub F).length with
  | none =>
    rw [modP_none h0]
    exact SC.ret (heap_Close_none h.ok (by rw [← HeapV.pub_len H F]; exact h0)) fun v _ hv => ⟨H, rfl, hv, Stp.same h rfl w (by simp), rfl⟩
  | some n =>
    obtain ⟨o, ho⟩ := obj_of h0
    rw [modP_some h0 ho]
    rw [HeapV.pub_len] at h0
    obtain ⟨x, hx, rfl⟩ := pub_obj ho
    have ho' := h.obj hx
    refine SC.ret (heap_Close_some h.ok h0 hx) fun v _ hv => ⟨_, rfl, hv, ?_⟩
    obtain ⟨a, b⟩ := h.put hx (x' := ObjL.mk x.kind x.proto true x.shape x.ns x.names x.vs x.vals x.es x.elems x.is x.inner x.cell) ⟨(h.ok.at hx).ns, (h.ok.at hx).vs, (h.ok.at hx).es, (h.ok.at hx).is⟩ (h.ok.small x (List.mem_of_getElem? hx)) ⟨ho'.fast, ho'.len, ho'.nodup, ho'.stale⟩ (show x.vals.length ≤ k from h.bud.vals x (List.mem_of_getElem? hx)) (show x.inner.length ≤ 1048576 from h.in' hx)
    have hg : (H.put n (ObjL.mk x.kind x.proto true x.shape x.ns x.names x.vs x.vals x.es x.elems x.is x.inner x.cell)).gd = H.gd := by
      show ((H.objs.set n _).map ObjL.cell, _) = _
      rw [List.map_set, set_same (by simp [hx])]; rfl
    exact ⟨⟨a, by rw [b]; rfl, rfl, .inl ⟨id, hg⟩⟩, hg⟩
theorem hq_SetInner (h : HInv k H F) (w : Int) {τ : Heaplet} {l : List Int} {A : Option Addr} {c : Nat} (hs : Src W0 τ A (l.map encU)) (hl : l.length ≤ 1048576) :
    SC Tryz.prog W0 30 #[.pointer (some ⟨F.p, 0, none⟩), .int .u64 w, .slice A l.length c] (HeapV.ent H F ++ (τ ++ []))
    (Ret (fun H' : HeapV => H'.ent F ++ (τ ++ [])) (fun v H' => v = .tuple #[] ∧ Stp k H H' F (modP (H.pub F) w (innerO l)) H.texts w False ∧ H'.gd = H.gd)) := by
  cases h0 : objAt w (H.pub F).length with
  | none =>
    rw [modP_none h0]
    exact SC.ret (heap_SetInner_none h.ok (by rw [← HeapV.pub_len H F]; exact h0) hs (by omega)) fun v _ hv => ⟨H, rfl, hv, Stp.same h rfl w (by simp), rfl⟩
  | some n =>
    obtain ⟨o, ho⟩ := obj_of h0
    rw [modP_some h0 ho]
    rw [HeapV.pub_len] at h0
    obtain ⟨x, hx, rfl⟩ := pub_obj ho
    refine SC.ret (hi_SetInner h h0 hx hs hl) fun v g ⟨h1, h2, h3⟩ => ⟨_, rfl, h1, ?_⟩
    have hg : (H.put n (ObjL.mk x.kind x.proto x.shut x.shape x.ns x.names x.vs x.vals x.es x.elems g l x.cell)).gd = H.gd := by
      show ((H.objs.set n _).map ObjL.cell, _) = _
      rw [List.map_set, set_same (by simp [hx])]; rfl
    exact ⟨⟨h2, by rw [h3]; rfl, rfl, .inl ⟨id, hg⟩⟩, hg⟩
theorem hq_Write (hk : k ≤ 8000000) (h : HInv k H F) (w m wd : Int) : SC Tryz.prog W0 73 #[.pointer (some ⟨F.p, 0, none⟩), .int .u64 w, .int .i64 m, .int .u64 wd] (H.ent F)
    (Ret (fun H' : HeapV => H'.ent F) (fun v H' => v = .bool (slotQ (H.pub F) w m) ∧ Stp k H H' F (modP (H.pub F) w (writeO m wd)) H.texts w False)) := by
  cases h0 : objAt w (H.pub F).length with
  | none =>
    rw [modP_none h0, slotQ_none h0]
    exact SC.ret (heap_Write_none h.ok (by rw [← HeapV.pub_len H F]; exact h0) m wd) fun v _ hv => ⟨H, rfl, hv, Stp.same h rfl w (by simp)⟩
  | some n =>
    obtain ⟨o, ho⟩ := obj_of h0
    rw [modP_some h0 ho, slotQ_some h0 ho]
    have h1 := h0
    rw [HeapV.pub_len] at h0
    obtain ⟨x, hx, rfl⟩ := pub_obj ho
    have ho' := h.obj hx
    by_cases hm : 0 ≤ m ∧ m < x.vals.length
    · obtain ⟨q, rfl⟩ := Int.eq_ofNat_of_zero_le hm.1
      have hd : x.vals[q]? = some x.vals[q] := List.getElem?_eq_getElem (by omega)
      rw [decide_eq_true (show 0 ≤ (q : Int) ∧ (q : Int) < (pubO (H.V.abs F.T) x).descs.length from hm)]
      refine SC.ret (heap_Write_ok h.ok h0 hx h.bud hk hd wd) fun v r ⟨g1, h2, h3, h4, h5⟩ => ⟨_, rfl, g1, ?_⟩
      have e1 : r.1.shape = x.shape := congrArg PS.shape h4
      have e2 : r.1.names = x.names := congrArg PS.names h4
      have e3 : r.1.vals = x.vals.set q (wd, x.vals[q].2.1, x.vals[q].2.2) := congrArg PS.vals h4
      have hk' : keysOf (H.V.abs F.T) r.1 = keysOf (H.V.abs F.T) x := by unfold keysOf; rw [e1, e2]
      have hi : OInv (H.V.abs F.T) r.1 := by
        refine ⟨fun q0 => ?_, by rw [hk', e3, List.length_set]; exact ho'.len, by rw [hk']; exact ho'.nodup, fun q0 => by rw [e2]; exact ho'.stale (by rw [← e1]; exact q0)⟩
        obtain ⟨s, s1, s2, s3⟩ := ho'.fast (by rw [← e1]; exact q0)
        refine ⟨s, by rw [e1]; exact s1, by rw [h3.proto, h3.kind]; exact s2, ?_⟩
        rw [e3, List.map_set, s3]
        exact (set_same (by simp [hd])).symm
      obtain ⟨a, b⟩ := h.upd hx (Nat.le_refl k) h2 h.tree (Ext.refl _) hi (by rw [e3, List.length_set]; exact h.bud.vals x (List.mem_of_getElem? hx)) (by rw [h3.inner]; exact h.in' hx) h5
      have d1 : writeD (pubO (H.V.abs F.T) x).descs (q : Int) wd = x.vals.set q (wd, x.vals[q].2.1, x.vals[q].2.2) := by
        unfold writeD
        rw [if_pos hm.1]
        show (match x.vals[q]? with | some d => x.vals.set q (wd, d.2.1, d.2.2) | none => x.vals) = _
        rw [hd]
      exact ⟨a, by rw [b, h3.pub, hk', e3, show writeO (q : Int) wd (pubO (H.V.abs F.T) x) = _ from by unfold writeO; rw [d1]]; rfl, rfl, .inr ⟨n, h1, touch_upd hx h3.cell h5⟩⟩
    · have d1 : writeD (pubO (H.V.abs F.T) x).descs m wd = (pubO (H.V.abs F.T) x).descs := by
        unfold writeD
        by_cases q : 0 ≤ m
        · rw [if_pos q]
          show (match x.vals[m.toNat]? with | some d => x.vals.set m.toNat (wd, d.2.1, d.2.2) | none => x.vals) = x.vals
          rw [List.getElem?_eq_none (by omega)]
        · rw [if_neg q]
      rw [decide_eq_false (show ¬ (0 ≤ m ∧ m < (pubO (H.V.abs F.T) x).descs.length) from hm)]
      exact SC.ret (heap_Write_bad h.ok h0 hx wd hm) fun v _ hv => ⟨H, rfl, hv, Stp.same h (by rw [show writeO m wd (pubO (H.V.abs F.T) x) = pubO (H.V.abs F.T) x from by unfold writeO; rw [d1]]; exact (set_same ho).symm) w (by simp)⟩
theorem hq_Text (h : HInv k H F) (key : ByteArray) : SC Tryz.prog W0 32 #[.pointer (some ⟨F.p, 0, none⟩), .string key] (H.ent F)
    (Ret (fun H' : HeapV => H'.ent F) (fun v H' => v = .tuple #[.int .u64 (textP H.texts key).2.1, .bool (textP H.texts key).2.2] ∧ HInv k H' F ∧ H'.pub F = H.pub F ∧ H'.texts = (textP H.texts key).1 ∧ H'.gd = H.gd)) := by
  obtain ⟨i1, i2⟩ := h.known.ix (key := key)
  cases hm : mget H.known key with
  | some w =>
    obtain ⟨h0, rfl⟩ := i1 w hm
    have e : textP H.texts key = (H.texts, txtW (ixS H.texts key).toNat, true) := by unfold textP; rw [if_pos h0]
    rw [e]
    exact SC.ret (heap_Text_old h.ok hm) fun v _ hv => ⟨H, rfl, hv, h, rfl, rfl, rfl⟩
  | none =>
    have h0 := i2 hm
    by_cases hb : 4096 < key.size ∨ 16384 ≤ H.texts.length
    · have e : textP H.texts key = (H.texts, 18445336698825998336, false) := by unfold textP; rw [if_neg (by omega), if_pos hb]
      rw [e]
      exact SC.ret (heap_Text_no h.ok hm hb) fun v _ hv => ⟨H, rfl, hv, h, rfl, rfl, rfl⟩
    · have e : textP H.texts key = (H.texts ++ [key], txtW H.texts.length, true) := by unfold textP; rw [if_neg (by omega), if_neg hb]
      rw [e]
      refine SC.ret (heap_Text_new h.ok hm (by omega)) fun v g hv => ⟨H.text g key, rfl, hv.1, ⟨⟨h.ok.row, h.ok.each, hv.2, h.ok.tree, h.ok.cells, h.ok.objs, ?_, h.ok.small⟩, h.tree, h.objs, ⟨h.bud.vals, h.bud.cl, h.bud.abv, h.bud.each⟩, h.inner, h.known.more hm⟩, rfl, rfl, rfl⟩
      simp only [List.length_append, List.length_singleton]; omega
instance (l : List ObjS) (kind proto : Int) : Decidable (mayP l kind proto) := by unfold mayP; exact inferInstance
abbrev newS (kind proto : Int) : ObjS := ⟨kind, proto, false, [], [], [], []⟩
def makeL (l : List ObjS) (kind proto : Int) : List ObjS := if mayP l kind proto then l ++ [newS kind proto] else l
def makeV (l : List ObjS) (kind proto : Int) : Int × Bool := if mayP l kind proto then (objW l.length, true) else (18445336698825998336, false)
theorem hq_Make (h : HInv k H F) (kind proto : Int) : SC Tryz.prog W0 10 #[.pointer (some ⟨F.p, 0, none⟩), .int .i64 kind, .int .u64 proto] (H.ent F)
    (Ret (fun H' : HeapV => H'.ent F) (fun v H' => v = .tuple #[.int .u64 (makeV (H.pub F) kind proto).1, .bool (makeV (H.pub F) kind proto).2] ∧ HInv k H' F ∧ H'.pub F = makeL (H.pub F) kind proto ∧ H'.texts = H.texts ∧
      H'.gd = (if mayP (H.pub F) kind proto then (H.gd.1 ++ [-1], H.gd.2) else H.gd))) := by
  unfold makeV makeL
  by_cases hm : mayP (H.pub F) kind proto
  · rw [if_pos hm, if_pos hm, if_pos hm]
    refine SC.ret (hi_Make h (mayP_iff.1 hm)) fun v r ⟨h1, h2, h3, m, ok, h4, h5⟩ => ⟨_, rfl, by rw [HeapV.pub_len]; exact h1, h2, h3, rfl, ?_⟩
    show ((H.objs ++ [_]).map ObjL.cell, _) = _
    rw [List.map_append]; rfl
  · rw [if_neg hm, if_neg hm, if_neg hm]
    exact SC.ret (heap_Make_no h.ok (fun q => hm (mayP_iff.2 q))) fun v _ hv => ⟨H, rfl, hv, h, rfl, rfl, rfl⟩
theorem heap_Guard_all : ∀ (K : Nat), K ≤ 65537 → ∀ (w : Int), HInv k H F → k ≤ 8000000 → objAt (upN (H.pub F) w K) H.objs.length = none →
    SC Tryz.prog W0 34 #[.pointer (some ⟨F.p, 0, none⟩), .int .u64 w] (H.ent F)
      (Ret (fun r : List ObjL × Gs × List CellL => (H.reg r.1 r.2.1 r.2.2).ent F) (fun v r => v = .int .i64 (guardF (H.pub F) K w H.gd).2 ∧ GuardR F H K w r))
  | K, hK, w, h, hk, he => by
    cases h0 : objAt w H.objs.length with
    | none =>
      have e := guardF_none (l := H.pub F) (by rw [HeapV.pub_len]; exact h0) K H.gd
      refine SC.ret (heap_Guard_none h.ok h0) fun v _ hv => ⟨(H.objs, H.cs, H.cl), rfl, by rw [e]; exact hv, h.ok, rfl, by rw [e]; rfl, by simp only []; omega, h.bud.cb⟩
    | some n =>
      have hl := (objAt_tag h0).2
      have hx : H.objs[n]? = some H.objs[n] := List.getElem?_eq_getElem hl
      cases K with
      | zero => rw [show upN (H.pub F) w 0 = w from rfl, h0] at he; cases he
      | succ K =>
        refine heap_Guard_step h.ok h0 hx h.bud hk (by omega) (heap_Guard_all K (by omega) _ h hk ?_)
        have hp : protoW (H.pub F) w = H.objs[n].proto := protoW_some (by rw [HeapV.pub_len]; exact h0) (HeapV.pub_at F hx)
        rw [show K + 1 = 1 + K by omega, upN_add, show upN (H.pub F) w 1 = protoW (H.pub F) w from rfl, hp] at he
        exact he
theorem noC_inv {t : TreeP} {y z : ObjL} (h : z.noC = y.noC) (ho : OInv t y) : OInv t z ∧ pubO t z = pubO t y ∧ z.vals = y.vals ∧ z.inner = y.inner := by
  obtain ⟨k1, p1, s1, sh1, n1, nm1, v1, vl1, e1, el1, i1, in1, c1⟩ := z
  obtain ⟨k2, p2, s2, sh2, n2, nm2, v2, vl2, e2, el2, i2, in2, c2⟩ := y
  simp only [ObjL.mk.injEq] at h
  obtain ⟨rfl, rfl, rfl, rfl, rfl, rfl, rfl, rfl, rfl, rfl, rfl, rfl, -⟩ := h
  exact ⟨⟨ho.fast, ho.len, ho.nodup, ho.stale⟩, rfl, rfl, rfl⟩
theorem same_back {l l' : List ObjL} (h : l'.map ObjL.noC = l.map ObjL.noC) {z : ObjL} (hz : z ∈ l') : ∃ y ∈ l, z.noC = y.noC := by
  have : z.noC ∈ l.map ObjL.noC := by rw [← h]; exact List.mem_map_of_mem hz
  obtain ⟨y, h1, h2⟩ := List.mem_map.1 this
  exact ⟨y, h1, h2.symm⟩
theorem same_pub {t : TreeP} {l l' : List ObjL} (h : l'.map ObjL.noC = l.map ObjL.noC) : l'.map (pubO t) = l.map (pubO t) := by
  have e : ∀ x : ObjL, pubO t x = pubO t x.noC := fun x => rfl
  rw [show (pubO t : ObjL → ObjS) = pubO t ∘ ObjL.noC from funext e, ← List.map_map, ← List.map_map, h]
theorem hq_Guard (hk : k < 8000000) (h : HInv k H F) (w : Int) (hE : Ends (H.pub F) w) : SC Tryz.prog W0 34 #[.pointer (some ⟨F.p, 0, none⟩), .int .u64 w] (H.ent F)
    (Ret (fun H' : HeapV => H'.ent F) (fun v H' => v = .int .i64 (guardF (H.pub F) (H.pub F).length w H.gd).2 ∧ HInv (k + 1) H' F ∧ H'.pub F = H.pub F ∧ H'.texts = H.texts ∧ H'.gd = (guardF (H.pub F) (H.pub F).length w H.gd).1)) := by
  have hob := h.ok.objs
  have hb := hE.bound
  rw [HeapV.pub_len] at hb
  have hr := heap_Guard_all (W0 := W0) H.objs.length (by omega) w h (by omega) hb
  rw [HeapV.pub_len]
  refine SC.ret hr fun v r ⟨h1, h2⟩ => ⟨_, rfl, h1, ⟨h2.ok, h.tree, fun y hy => ?_, ⟨fun y hy => ?_, ?_, ?_, h2.cb.at⟩, fun y hy => ?_, h.known⟩, same_pub h2.same, rfl, h2.out⟩
  · obtain ⟨z, z1, z2⟩ := same_back h2.same hy
    exact (noC_inv z2 (h.objs z z1)).1
  · obtain ⟨z, z1, z2⟩ := same_back h2.same hy
    rw [(noC_inv z2 (h.objs z z1)).2.2.1]
    exact Nat.le_succ_of_le (h.bud.vals z z1)
  · have := h2.len
    have := h.bud.cl
    show r.2.2.length ≤ (k + 1) * 65537
    omega
  · have := h2.cb.abv
    rwa [List.length_map] at this
  · obtain ⟨z, z1, z2⟩ := same_back h2.same hy
    rw [(noC_inv z2 (h.objs z z1)).2.2.2]
    exact h.inner z z1
theorem hq_Valid (h : HInv k H F) (m : Int) : SC Tryz.prog W0 36 #[.pointer (some ⟨F.p, 0, none⟩), .int .i64 m] (H.ent F) (Ret (fun _ : Unit => H.ent F) (fun v _ => v = .bool (valP H.gd.2 m))) := heap_Valid h.ok m
end Go.Proofs.YtdfhbheipagnmaaGreat
namespace Go.Proofs.YtdfhbheipagnmaaGreat
open Go.Sl
variable {k : Nat} {H : HeapV} {F : HeapF} {R : RSt} {n : Nat} {W0 : World}
structure LOk (k : Nat) (l : List ObjS) : Prop where
  len : l.length ≤ 65536
  same : ∀ o ∈ l, o.names.length = o.descs.length
  descs : ∀ o ∈ l, o.descs.length ≤ k
  elems : ∀ o ∈ l, o.elems.length ≤ 4096
theorem HInv.lok (h : HInv k H F) : LOk k (H.pub F) := by
  refine ⟨by rw [HeapV.pub_len]; exact h.ok.objs, fun o ho => ?_, fun o ho => ?_, fun o ho => ?_⟩ <;> obtain ⟨x, hx, rfl⟩ := List.mem_map.1 ho
  · exact (h.objs x hx).len
  · exact h.bud.vals x hx
  · exact h.ok.small x hx
theorem RSt.put_val (R : RSt) (n : Nat) (x : RObj) : (R.put n x).val = R.val := by simp only [RSt.val, RSt.put, List.length_set]
theorem at_pub {w : Int} {o : Option Nat} (h : objAt w R.pub.length = o) : objAt w R.objs.length = o := by rw [← RSt.pub_len]; exact h
theorem rq_Put (hk : k ≤ 8000000) (hR : R.ok) (hL : LOk k R.pub) {w : Int} (hw : wordOk w) (key : ByteArray) (d : DescP) : SC Tryz.prog W0 18 #[R.val, .int .u64 w, .string key, descV d] R.ent
    (Ret (fun R' : RSt => R'.ent) (fun v R' => v = R'.val ∧ R'.ok ∧ R'.pub = modP R.pub w (putO key d) ∧ R'.texts = R.texts)) := by
  cases h0 : objAt w R.pub.length with
  | none => rw [modP_none h0]; exact SC.ret (rf_Put_none hR hw (at_pub h0) key d) fun v _ hv => ⟨R, rfl, hv, hR, rfl, rfl⟩
  | some n =>
    obtain ⟨o, ho⟩ := obj_of h0
    rw [modP_some h0 ho]
    obtain ⟨x, hx, rfl⟩ := robj_of ho
    have hm := List.mem_of_getElem? ho
    exact SC.ret (rf_Put_some hR hw (at_pub h0) hx (hL.same _ hm) (Nat.le_trans (hL.descs _ hm) hk) key d) fun v r ⟨h1, h2, h3⟩ => ⟨R.put n r, rfl, by rw [RSt.put_val]; exact h1, h2, by rw [RSt.pub_put, h3]; rfl, rfl⟩
theorem rq_Drop (hk : k ≤ 8000000) (hR : R.ok) (hL : LOk k R.pub) {w : Int} (hw : wordOk w) (key : ByteArray) : SC Tryz.prog W0 20 #[R.val, .int .u64 w, .string key] R.ent
    (Ret (fun R' : RSt => R'.ent) (fun v R' => v = .tuple #[R'.val, .bool (hasQ R.pub w key)] ∧ R'.ok ∧ R'.pub = modP R.pub w (dropO key) ∧ R'.texts = R.texts)) := by
  cases h0 : objAt w R.pub.length with
  | none => rw [modP_none h0, hasQ_none h0]; exact SC.ret (rf_Drop_none hR hw (at_pub h0) key) fun v _ hv => ⟨R, rfl, hv, hR, rfl, rfl⟩
  | some n =>
    obtain ⟨o, ho⟩ := obj_of h0
    rw [modP_some h0 ho, hasQ_some h0 ho]
    obtain ⟨x, hx, rfl⟩ := robj_of ho
    have hm := List.mem_of_getElem? ho
    by_cases hn : ixS x.names key < 0
    · rw [decide_eq_false (show ¬ 0 ≤ ixS x.pub.names key from by show ¬ 0 ≤ ixS x.names key; omega)]
      refine SC.ret (rf_Drop_no hR hw (at_pub h0) hx hn) fun v _ hv => ⟨R, rfl, hv, hR, ?_, rfl⟩
      have d1 : dropNm x.pub.names key = x.pub.names := if_pos hn
      have d2 : dropDs x.pub.names x.pub.descs key = x.pub.descs := if_pos hn
      rw [show dropO key x.pub = x.pub from by unfold dropO; rw [d1, d2]]
      exact (set_same ho).symm
    · obtain ⟨q, hq⟩ := Int.eq_ofNat_of_zero_le (ixS_nn hn)
      have hql : q < x.names.length := by
        have q1 := (List.getElem?_eq_some_iff.1 (ixS_some (ixS_nn hn))).1
        rw [hq] at q1
        exact q1
      rw [decide_eq_true (show 0 ≤ ixS x.pub.names key from ixS_nn hn)]
      refine SC.ret (rf_Drop_yes hR hw (at_pub h0) hx (hL.same _ hm) (Nat.le_trans (hL.descs _ hm) hk) hq hql) fun v r ⟨h1, h2, h3⟩ => ⟨R.put n r, rfl, by rw [RSt.put_val]; exact h1, h2, ?_, rfl⟩
      have d1 : dropNm x.pub.names key = x.names.eraseIdx q := (if_neg hn).trans (by rw [show ixS x.pub.names key = (q : Int) from hq]; rfl)
      have d2 : dropDs x.pub.names x.pub.descs key = x.descs.eraseIdx q := (if_neg hn).trans (by rw [show ixS x.pub.names key = (q : Int) from hq]; rfl)
      rw [RSt.pub_put, h3, show dropO key x.pub = _ from by unfold dropO; rw [d1, d2]]; rfl
theorem rq_SetElem (hR : R.ok) (hL : LOk k R.pub) {w : Int} (hw : wordOk w) (m wd : Int) : SC Tryz.prog W0 25 #[R.val, .int .u64 w, .int .i64 m, .int .u64 wd] R.ent
    (Ret (fun R' : RSt => R'.ent) (fun v R' => v = .tuple #[R'.val, .bool (setQ R.pub w m)] ∧ R'.ok ∧ R'.pub = modP R.pub w (setO m wd) ∧ R'.texts = R.texts)) := by
  cases h0 : objAt w R.pub.length with
  | none =>
    rw [modP_none h0, show setQ R.pub w m = false from by unfold setQ; rw [h0]; simp]
    exact SC.ret (rf_SetElem_none hR hw (at_pub h0) m wd) fun v _ hv => ⟨R, rfl, hv, hR, rfl, rfl⟩
  | some n =>
    obtain ⟨o, ho⟩ := obj_of h0
    rw [modP_some h0 ho, show setQ R.pub w m = decide (0 ≤ m ∧ m < 4096) from by unfold setQ; rw [h0]; simp]
    obtain ⟨x, hx, rfl⟩ := robj_of ho
    have hm := List.mem_of_getElem? ho
    by_cases hb : 0 ≤ m ∧ m < 4096
    · obtain ⟨q, rfl⟩ := Int.eq_ofNat_of_zero_le hb.1
      have e1 : setElemL x.pub.elems (q : Int) wd = (setLenL x.elems (max x.elems.length (q + 1))).set q wd := by unfold setElemL; rw [if_pos hb]; rfl
      rw [decide_eq_true hb, show setO (q : Int) wd x.pub = _ from by unfold setO; rw [e1]]
      by_cases hl : q < x.elems.length
      · rw [show setLenL x.elems (max x.elems.length (q + 1)) = x.elems from by rw [show max x.elems.length (q + 1) = x.elems.length by omega]; exact setLenL_self _]
        exact SC.ret (rf_SetElem_fast hR hw (at_pub h0) hx wd (hL.elems _ hm) (by omega) hl) fun v r ⟨h1, h2, h3⟩ => ⟨R.put n r, rfl, by rw [RSt.put_val]; exact h1, h2, by rw [RSt.pub_put, h3]; rfl, rfl⟩
      · rw [show max x.elems.length (q + 1) = q + 1 by omega]
        exact SC.ret (rf_SetElem_slow hR hw (at_pub h0) hx wd (hL.elems _ hm) (by omega) (by omega)) fun v r ⟨h1, h2, h3⟩ => ⟨R.put n r, rfl, by rw [RSt.put_val]; exact h1, h2, by rw [RSt.pub_put, h3]; rfl, rfl⟩
    · have e1 : setElemL x.pub.elems m wd = x.pub.elems := by unfold setElemL; rw [if_neg hb]
      rw [decide_eq_false hb]
      exact SC.ret (rf_SetElem_bad hR hw (at_pub h0) hx wd hb) fun v _ hv => ⟨R, rfl, hv, hR, by rw [show setO m wd x.pub = x.pub from by unfold setO; rw [e1]]; exact (set_same ho).symm, rfl⟩
theorem rq_SetLen (hR : R.ok) {w : Int} (hw : wordOk w) (m : Int) : SC Tryz.prog W0 27 #[R.val, .int .u64 w, .int .i64 m] R.ent
    (Ret (fun R' : RSt => R'.ent) (fun v R' => v = .tuple #[R'.val, .bool (lenQ R.pub w m)] ∧ R'.ok ∧ R'.pub = modP R.pub w (lenO m) ∧ R'.texts = R.texts)) := by
  cases h0 : objAt w R.pub.length with
  | none =>
    rw [modP_none h0, show lenQ R.pub w m = false from by unfold lenQ; rw [h0]; simp]
    exact SC.ret (rf_SetLen_none hR hw (at_pub h0) m) fun v _ hv => ⟨R, rfl, hv, hR, rfl, rfl⟩
  | some n =>
    obtain ⟨o, ho⟩ := obj_of h0
    rw [modP_some h0 ho, show lenQ R.pub w m = decide (0 ≤ m ∧ m ≤ 4096) from by unfold lenQ; rw [h0]; simp]
    obtain ⟨x, hx, rfl⟩ := robj_of ho
    by_cases hb : 0 ≤ m ∧ m ≤ 4096
    · obtain ⟨q, rfl⟩ := Int.eq_ofNat_of_zero_le hb.1
      have e1 : setLenQ x.pub.elems (q : Int) = setLenL x.elems q := by unfold setLenQ; rw [if_pos hb]; rfl
      rw [decide_eq_true hb, show lenO (q : Int) x.pub = _ from by unfold lenO; rw [e1]]
      exact SC.ret (rf_SetLen_some hR hw (at_pub h0) hx (m := q) (by omega)) fun v r ⟨h1, h2, h3⟩ => ⟨R.put n r, rfl, by rw [RSt.put_val]; exact h1, h2, by rw [RSt.pub_put, h3]; rfl, rfl⟩
    · have e1 : setLenQ x.pub.elems m = x.pub.elems := by unfold setLenQ; rw [if_neg hb]
      rw [decide_eq_false hb]
      exact SC.ret (rf_SetLen_bad hR hw (at_pub h0) hx hb) fun v _ hv => ⟨R, rfl, hv, hR, by rw [show lenO m x.pub = x.pub from by unfold lenO; rw [e1]]; exact (set_same ho).symm, rfl⟩
theorem rq_Shut (hR : R.ok) {w : Int} (hw : wordOk w) : SC Tryz.prog W0 29 #[R.val, .int .u64 w] R.ent
    (Ret (fun R' : RSt => R'.ent) (fun v R' => v = R'.val ∧ R'.ok ∧ R'.pub = modP R.pub w shutO ∧ R'.texts = R.texts)) := by
  cases h0 : objAt w R.pub.length with
  | none => rw [modP_none h0]; exact SC.ret (rf_Shut_none hR hw (at_pub h0)) fun v _ hv => ⟨R, rfl, hv, hR, rfl, rfl⟩
  | some n =>
    obtain ⟨o, ho⟩ := obj_of h0
    rw [modP_some h0 ho]
    obtain ⟨x, hx, rfl⟩ := robj_of ho
    exact SC.ret (rf_Shut_some hR hw (at_pub h0) hx) fun v r ⟨h1, h2, h3⟩ => ⟨R.put n r, rfl, by rw [RSt.put_val]; exact h1, h2, by rw [RSt.pub_put, h3]; rfl, rfl⟩
theorem rq_SetInner (hR : R.ok) {w : Int} (hw : wordOk w) {τ : Heaplet} {l : List Int} {A : Option Addr} {c : Nat} (hs : Src W0 τ A (l.map encU)) (hr : l.length ≤ 1048576) :
    SC Tryz.prog W0 31 #[R.val, .int .u64 w, .slice A l.length c] (R.ent ++ (τ ++ []))
    (Ret (fun R' : RSt => R'.ent ++ (τ ++ [])) (fun v R' => v = R'.val ∧ R'.ok ∧ R'.pub = modP R.pub w (innerO l) ∧ R'.texts = R.texts)) := by
  cases h0 : objAt w R.pub.length with
  | none => rw [modP_none h0]; exact SC.ret (rf_SetInner_none hR hw (at_pub h0) hs hr) fun v _ hv => ⟨R, rfl, hv, hR, rfl, rfl⟩
  | some n =>
    obtain ⟨o, ho⟩ := obj_of h0
    rw [modP_some h0 ho]
    obtain ⟨x, hx, rfl⟩ := robj_of ho
    exact SC.ret (rf_SetInner_some hR hw (at_pub h0) hx hs hr) fun v r ⟨h1, h2, h3⟩ => ⟨R.put n r, rfl, by rw [RSt.put_val]; exact h1, h2, by rw [RSt.pub_put, h3]; rfl, rfl⟩
theorem rq_Make (hR : R.ok) (kind : Int) {proto : Int} (hw : wordOk proto) : SC Tryz.prog W0 17 #[R.val, .int .i64 kind, .int .u64 proto] R.ent
    (Ret (fun R' : RSt => R'.ent) (fun v R' => v = .tuple #[R'.val, .int .u64 (makeV R.pub kind proto).1, .bool (makeV R.pub kind proto).2] ∧ R'.ok ∧ R'.pub = makeL R.pub kind proto ∧ R'.texts = R.texts)) := by
  unfold makeV makeL
  by_cases hm : mayP R.pub kind proto
  · rw [if_pos hm, if_pos hm]
    exact SC.ret (rf_Make_yes hR hw hm) fun v g ⟨h1, h2⟩ => ⟨_, rfl, by rw [RSt.pub_len]; exact h1, h2, by simp [RSt.pub, RObj.pub], rfl⟩
  · rw [if_neg hm, if_neg hm]
    exact SC.ret (rf_Make_no hR hw hm) fun v _ hv => ⟨R, rfl, hv, hR, rfl, rfl⟩
theorem rq_Text (hR : R.ok) (ht : R.texts.length ≤ 16384) (key : ByteArray) : SC Tryz.prog W0 33 #[R.val, .string key] R.ent
    (Ret (fun R' : RSt => R'.ent) (fun v R' => v = .tuple #[R'.val, .int .u64 (textP R.texts key).2.1, .bool (textP R.texts key).2.2] ∧ R'.ok ∧ R'.pub = R.pub ∧ R'.texts = (textP R.texts key).1)) :=
  SC.ret (rf_Text hR ht key) fun v R' ⟨h1, h2, h3, h4⟩ => ⟨R', rfl, h1, h2, by rw [RSt.pub, h3]; rfl, h4⟩
theorem rq_Reproto (hR : R.ok) (hL : LOk k R.pub) {w p : Int} (hw : wordOk w) (hp : wordOk p) (hP : protosOk R.pub) : SC Tryz.prog W0 22 #[R.val, .int .u64 w, .int .u64 p] R.ent
    (Ret (fun R' : RSt => R'.ent) (fun v R' => v = R'.val ∧ R'.ok ∧ R'.pub = reproP R.pub w p ∧ R'.texts = R.texts)) := by
  have hlen : R.objs.length ≤ 65536 := by rw [← RSt.pub_len]; exact hL.len
  cases h0 : objAt w R.objs.length with
  | none => exact rf_Reproto_none hR hlen hw h0 hp hP
  | some n => exact rf_Reproto_some hR hlen hw h0 (List.getElem?_eq_getElem (objAt_tag h0).2) hp hP
def atW (l : List ObjS) (w : Int) : Int := match objAt w l.length with | some n => (n : Int) | none => -1
theorem rq_At {w : Int} (hw : wordOk w) : SC Tryz.prog W0 35 #[R.val, .int .u64 w] [] (Ret (fun _ : Unit => []) (fun v _ => v = .int .i64 (atW R.pub w))) := by
  unfold atW; rw [RSt.pub_len]; exact rf_At hw
end Go.Proofs.YtdfhbheipagnmaaGreat
namespace Go.Proofs.YtdfhbheipagnmaaGreat
open Go.Sl
def Val (l : List PCell) (c : Int) : Prop := 0 ≤ c ∧ ∃ e, l[c.toNat]? = some e ∧ e.1 = true
theorem valP_iff {l : List PCell} {c : Int} : valP l c = true ↔ Val l c := by
  unfold valP Val
  by_cases h : 0 ≤ c ∧ c < l.length
  · rw [if_pos h, List.getElem?_eq_getElem (show c.toNat < l.length by omega)]
    simp [h.1]
  · rw [if_neg h]
    refine ⟨fun q => absurd q (by decide), fun ⟨h0, e, he, _⟩ => absurd ⟨h0, ?_⟩ h⟩
    have := (List.getElem?_eq_some_iff.1 he).1
    omega
theorem Val.lt {l : List PCell} {c : Int} (h : Val l c) : c < l.length := by
  obtain ⟨h0, e, he, _⟩ := h
  have := (List.getElem?_eq_some_iff.1 he).1
  omega
structure GInv (l : List ObjS) (g : GdP) : Prop where
  len : g.1.length = l.length
  lt : ∀ (n : Nat) c, g.1[n]? = some c → c < g.2.length
  alt : ∀ (i : Nat) e j, g.2[i]? = some e → j ∈ e.2 → j < g.2.length
  inj : ∀ (n m : Nat) c, g.1[n]? = some c → g.1[m]? = some c → 0 ≤ c → n = m
  link : ∀ (n : Nat) o c, l[n]? = some o → g.1[n]? = some c → Val g.2 c → objAt o.proto l.length = none ∨ ∃ m d e, objAt o.proto l.length = some m ∧ g.1[m]? = some d ∧ Val g.2 d ∧ g.2[d.toNat]? = some e ∧ c ∈ e.2
  edge : ∀ (i : Nat) e j, g.2[i]? = some e → j ∈ e.2 → Val g.2 j → ∃ (n : Nat) (o : ObjS) (m : Nat), l[n]? = some o ∧ g.1[n]? = some j ∧ objAt o.proto l.length = some m ∧ g.1[m]? = some (i : Int)
theorem GInv.nil : GInv [] ([], []) := ⟨rfl, fun n c h => by simp at h, fun i e j h => by simp at h, fun n m c h => by simp at h, fun n o c h => by simp at h, fun i e j h => by simp at h⟩
/-- A broken list has the same edges, and fewer valid ones. -/
theorem Broke.get {l l' : List PCell} {n : Int} (h : Broke l l' n) {i : Nat} {e : PCell} (he : l[i]? = some e) : ∃ e', l'[i]? = some e' ∧ e'.2 = e.2 := by
  have := congrArg (fun l => l[i]?) h.shape
  simp only [List.getElem?_map, he, Option.map_some] at this
  cases q : l'[i]? with
  | none => rw [q] at this; cases this
  | some e' => rw [q] at this; exact ⟨e', rfl, by simpa using this⟩
theorem Broke.len {l l' : List PCell} {n : Int} (h : Broke l l' n) : l'.length = l.length := by have := congrArg List.length h.shape; simpa using this
theorem Broke.back {l l' : List PCell} {n : Int} (h : Broke l l' n) {i : Nat} {e' : PCell} (he : l'[i]? = some e') : ∃ e, l[i]? = some e ∧ e'.2 = e.2 := by
  have := congrArg (fun l => l[i]?) h.shape
  simp only [List.getElem?_map, he, Option.map_some] at this
  cases q : l[i]? with
  | none => rw [q] at this; cases this
  | some e => rw [q] at this; exact ⟨e, rfl, by simpa using this⟩
theorem Broke.val {l l' : List PCell} {n c : Int} (h : Broke l l' n) (hv : Val l' c) : Val l c := by
  obtain ⟨h0, e', he, h1⟩ := hv
  obtain ⟨e, he2, _⟩ := h.back he
  exact ⟨h0, e, he2, h.less _ _ _ he2 he h1⟩
theorem Broke.not {l l' : List PCell} {n : Int} (h : Broke l l' n) (h0 : 0 ≤ n) : ¬ Val l' n := fun ⟨_, e, he, h1⟩ => by rw [h.it h0 e he] at h1; cases h1
/-- Above a cell that was broken there is none that is valid. -/
theorem Broke.up {l l' : List PCell} {n d c : Int} (h : Broke l l' n) {e : PCell} (he : l[d.toNat]? = some e) (hd : Val l d) (hn : ¬ Val l' d) (hc : c ∈ e.2) : ¬ Val l' c := fun ⟨c0, ec, hec, hc1⟩ => by
  obtain ⟨e', he', _⟩ := h.get he
  obtain ⟨d0, e2, he2, hv⟩ := hd
  rw [he] at he2; cases he2
  have hf : e'.1 = false := by
    cases q : e'.1 with
    | false => rfl
    | true => exact absurd ⟨d0, e', he', q⟩ hn
  have := h.all _ _ _ he he' hv hf c hc c0 ec hec
  rw [this] at hc1; cases hc1
theorem GInv.touch {l l' : List ObjS} {g g' : GdP} {n : Nat} (h : GInv l g) (hT : Touch g g' n) (hl : l'.length = l.length)
    (hp : ∀ (m : Nat) o', l'[m]? = some o' → ∃ o, l[m]? = some o ∧ (m ≠ n → o'.proto = o.proto)) : GInv l' g' := by
  have hp' : ∀ (m : Nat) o, l[m]? = some o → ∃ o', l'[m]? = some o' ∧ (m ≠ n → o'.proto = o.proto) := fun m o ho => by
    have hm := (List.getElem?_eq_some_iff.1 ho).1
    obtain ⟨o2, h1, h2⟩ := hp m l'[m] (List.getElem?_eq_getElem (by omega))
    rw [ho] at h1; cases h1
    exact ⟨_, List.getElem?_eq_getElem (by omega), h2⟩
  obtain ⟨c, hc, h1, h2⟩ := hT
  have hnl := (List.getElem?_eq_some_iff.1 hc).1
  by_cases h0 : 0 ≤ c
  · rw [if_pos h0] at h1 h2
    have hget : ∀ (m : Nat), m ≠ n → g'.1[m]? = g.1[m]? := fun m hm => by rw [h1, List.getElem?_set_ne (fun q => hm q.symm)]
    have hgn : g'.1[n]? = some (-1) := by rw [h1, List.getElem?_set_self hnl]
    have hno : ∀ (m : Nat) d, g'.1[m]? = some d → 0 ≤ d → m ≠ n := fun m d hd d0 q => by subst q; rw [hgn] at hd; cases hd; omega
    have hcv := h2.not h0
    refine ⟨by rw [h1, List.length_set, hl]; exact h.len, fun m d hd => ?_, fun i e j he hj => ?_, fun m1 m2 d hd1 hd2 d0 => ?_, fun m o d ho hd hv => ?_, fun i e' j he hj hv => ?_⟩
    · rw [h2.len]
      by_cases q : m = n
      · subst q; rw [hgn] at hd; cases hd
        have := h.lt _ _ hc; omega
      · rw [hget m q] at hd; exact h.lt m d hd
    · obtain ⟨e2, he2, q⟩ := h2.back he
      rw [h2.len]; rw [q] at hj
      exact h.alt i e2 j he2 hj
    · have q1 := hno m1 d hd1 d0
      have q2 := hno m2 d hd2 d0
      rw [hget _ q1] at hd1; rw [hget _ q2] at hd2
      exact h.inj m1 m2 d hd1 hd2 d0
    · have q1 := hno m d hd hv.1
      rw [hget m q1] at hd
      obtain ⟨o2, ho2, hpr⟩ := hp m o ho
      rw [hpr q1, hl]
      rcases h.link m o2 d ho2 hd (h2.val hv) with q | ⟨m2, d2, e, a1, a2, a3, a4, a5⟩
      · exact .inl q
      · have hv2 : Val g'.2 d2 := Classical.byContradiction fun q => h2.up a4 a3 q a5 hv
        have hm2 : m2 ≠ n := fun q => by subst q; rw [hc] at a2; cases a2; exact hcv hv2
        obtain ⟨e', he', q'⟩ := h2.get a4
        exact .inr ⟨m2, d2, e', a1, by rw [hget m2 hm2]; exact a2, hv2, he', by rw [q']; exact a5⟩
    · obtain ⟨e, he2, q⟩ := h2.back he
      rw [q] at hj
      have hvj := h2.val hv
      obtain ⟨m, o, m2, a1, a2, a3, a4⟩ := h.edge i e j he2 hj hvj
      have q1 : m ≠ n := fun z => by subst z; rw [hc] at a2; cases a2; exact hcv hv
      have hvi : Val g.2 (i : Int) := by
        rcases h.link m o j a1 a2 hvj with z | ⟨m3, d3, e3, b1, b2, b3, b4, b5⟩
        · rw [a3] at z; cases z
        · rw [a3] at b1; cases b1; rw [a4] at b2; cases b2; exact b3
      have hvi2 : Val g'.2 (i : Int) := Classical.byContradiction fun z => h2.up (by simpa using he2) hvi z hj hv
      have q2 : m2 ≠ n := fun z => by subst z; rw [hc] at a4; cases a4; exact hcv hvi2
      obtain ⟨o', ho', hpr⟩ := hp' m o a1
      exact ⟨m, o', m2, ho', by rw [hget m q1]; exact a2, by rw [hpr q1, hl]; exact a3, by rw [hget m2 q2]; exact a4⟩
  · rw [if_neg h0] at h1 h2
    rw [set_same hc] at h1
    have e : g' = g := Prod.ext h1 h2
    subst e
    have hno : ∀ (m : Nat) d, g'.1[m]? = some d → 0 ≤ d → m ≠ n := fun m d hd d0 q => by subst q; rw [hc] at hd; cases hd; omega
    refine ⟨by rw [hl]; exact h.len, h.lt, h.alt, h.inj, fun m o d ho hd hv => ?_, fun i e' j he hj hv => ?_⟩
    · obtain ⟨o2, ho2, hpr⟩ := hp m o ho
      rw [hpr (hno m d hd hv.1), hl]
      exact h.link m o2 d ho2 hd hv
    · obtain ⟨m, o, m2, a1, a2, a3, a4⟩ := h.edge i e' j he hj hv
      obtain ⟨o', ho', hpr⟩ := hp' m o a1
      exact ⟨m, o', m2, ho', a2, by rw [hpr (hno m j a2 hv.1), hl]; exact a3, a4⟩
theorem Touch.mono {g g' : GdP} {n : Nat} (hT : Touch g g' n) {c : Int} (hv : Val g'.2 c) : Val g.2 c := by
  obtain ⟨d, hd, h1, h2⟩ := hT
  by_cases h0 : 0 ≤ d
  · rw [if_pos h0] at h2; exact h2.val hv
  · rw [if_neg h0] at h2; rw [h2] at hv; exact hv
/-- What stands below is hit: so is what stands above. -/
theorem GInv.hit {l : List ObjS} {g g' : GdP} {n : Nat} (h : GInv l g) (hT : Touch g g' n) : ∀ (i : Nat) (p : Int) (np : Nat) (c : Int), objAt p l.length = some np → objAt (upN l p i) l.length = some n → g.1[np]? = some c → ¬ Val g'.2 c
  | 0, p, np, c, hp, hi, hc => by
    rw [show upN l p 0 = p from rfl, hp] at hi; cases hi
    obtain ⟨d, hd, h1, h2⟩ := hT
    rw [hc] at hd; cases hd
    intro hv
    rw [if_pos hv.1] at h2
    exact h2.not hv.1 hv
  | i + 1, p, np, c, hp, hi, hc => by
    intro hv
    have hv1 := hT.mono hv
    obtain ⟨o, ho⟩ := obj_of hp
    have hpp : protoW l p = o.proto := protoW_some hp ho
    rw [show i + 1 = 1 + i by omega, upN_add, show upN l p 1 = protoW l p from rfl, hpp] at hi
    rcases h.link np o c ho hc hv1 with z | ⟨m, d, e, a1, a2, a3, a4, a5⟩
    · have := upN_null (p := o.proto) (i := 0) z i
      rw [Nat.zero_add, hi] at this; cases this
    · have hn := GInv.hit h hT i o.proto m d a1 hi a2
      obtain ⟨t, ht, h1, h2⟩ := hT
      by_cases h0 : 0 ≤ t
      · rw [if_pos h0] at h2; exact h2.up a4 a3 hn a5 hv
      · rw [if_neg h0] at h2; rw [h2] at hn; exact hn a3
theorem GInv.reach {l : List ObjS} {g : GdP} (h : GInv l g) {a j : Int} (hr : Reach g.2 a j) : ∀ (q : Int) (nq : Nat), objAt q l.length = some nq → g.1[nq]? = some j → Val g.2 j → ∃ i nn, objAt (upN l q i) l.length = some nn ∧ g.1[nn]? = some a := by
  induction hr with
  | refl => intro q nq hq hc hv; exact ⟨0, nq, hq, hc⟩
  | @step i0 j0 e hr0 h0 he hj ih =>
    intro q nq hq hc hv
    obtain ⟨n1, o, m, a1, a2, a3, a4⟩ := h.edge i0.toNat e j0 he hj hv
    have hn : n1 = nq := h.inj n1 nq j0 a2 hc hv.1
    subst hn
    rw [Int.toNat_of_nonneg h0] at a4
    have hvi : Val g.2 i0 := by
      rcases h.link n1 o j0 a1 a2 hv with z | ⟨m3, d3, e3, b1, b2, b3, b4, b5⟩
      · rw [a3] at z; cases z
      · rw [a3] at b1; cases b1; rw [a4] at b2; cases b2; exact b3
    obtain ⟨i, nn, b1, b2⟩ := ih o.proto m a3 a4 hvi
    refine ⟨1 + i, nn, ?_, b2⟩
    rw [upN_add, show upN l q 1 = protoW l q from rfl, protoW_some hq a1]
    exact b1
/-- What does not stand below is no matter. -/
theorem GInv.quiet {l : List ObjS} {g g' : GdP} {n : Nat} (h : GInv l g) (hT : Touch g g' n) {p c : Int} {np : Nat} (hp : objAt p l.length = some np) (hne : ∀ i, objAt (upN l p i) l.length ≠ some n) (hc : g.1[np]? = some c) (hv : Val g.2 c) : Val g'.2 c := by
  apply Classical.byContradiction
  intro hn
  obtain ⟨t, ht, h1, h2⟩ := hT
  by_cases h0 : 0 ≤ t
  · rw [if_pos h0] at h2
    obtain ⟨c0, e, he, hev⟩ := id hv
    obtain ⟨e', he', _⟩ := h2.get he
    have hf : e'.1 = false := by
      cases q : e'.1 with
      | false => rfl
      | true => exact absurd ⟨c0, e', he', q⟩ hn
    have hr := h2.reach _ _ _ he he' hev hf
    rw [Int.toNat_of_nonneg c0] at hr
    obtain ⟨i, nn, b1, b2⟩ := h.reach hr p np hp hc hv
    rw [h.inj nn n t b2 ht h0] at b1
    exact hne i b1
  · rw [if_neg h0] at h2; rw [h2] at hn; exact hn hv
theorem Touch.keep {g g' : GdP} {n np : Nat} (hT : Touch g g' n) {c : Int} (hc : g.1[np]? = some c) (hv : Val g'.2 c) : g'.1[np]? = some c := by
  obtain ⟨d, hd, h1, h2⟩ := hT
  have hnl := (List.getElem?_eq_some_iff.1 hd).1
  by_cases q : np = n
  · subst q
    rw [hc] at hd; cases hd
    rw [if_pos hv.1] at h2
    exact absurd hv (h2.not hv.1)
  · rw [h1, List.getElem?_set_ne (fun z => q z.symm)]; exact hc
end Go.Proofs.YtdfhbheipagnmaaGreat
namespace Go.Proofs.YtdfhbheipagnmaaGreat
open Go.Sl
theorem no_loop {l : List ObjS} {w : Int} {n : Nat} (h0 : objAt w l.length = some n) (hE : Ends l w) (j : Nat) : objAt (upN l w (j + 1)) l.length ≠ some n := by
  intro h
  have e : upN l w (j + 1) = w := objAt_inj h h0
  have hno : ∀ K, objAt (upN l w K) l.length ≠ none := by
    intro K
    induction K using Nat.strongRecOn with
    | _ K ih =>
      intro hK
      by_cases hl : K ≤ j + 1
      · have := upN_null hK (j + 1 - K)
        rw [show K + (j + 1 - K) = j + 1 by omega, h] at this
        cases this
      · refine ih (K - (j + 1)) (by omega) ?_
        have e2 : upN l w K = upN l (upN l w (j + 1)) (K - (j + 1)) := by rw [← upN_add]; congr 1; omega
        rw [e2, e] at hK
        exact hK
  obtain ⟨i, hi⟩ := hE
  exact hno i hi
/-- What a list of cells becomes with one more. -/
theorem mkP_get {l : List PCell} {on : Int} (hon : on = -1 ∨ Val l on) : (mkP l on)[l.length]? = some (true, []) ∧
    (∀ (i : Nat) e, l[i]? = some e → ∃ e', (mkP l on)[i]? = some e' ∧ e'.1 = e.1 ∧ ((i : Int) = on → e'.2 = e.2 ++ [(l.length : Int)]) ∧ ((i : Int) ≠ on → e'.2 = e.2)) := by
  unfold mkP
  rcases hon with rfl | hv
  · rw [if_neg (by omega)]
    refine ⟨by simp, fun i e he => ⟨e, ?_, rfl, fun q => by omega, fun _ => rfl⟩⟩
    rw [List.getElem?_append_left (List.getElem?_eq_some_iff.1 he).1]; exact he
  · have hlt := hv.lt
    obtain ⟨h0, c, hc, hc1⟩ := hv
    rw [if_pos ⟨h0, hlt⟩, hc]
    simp only []
    refine ⟨by rw [List.getElem?_append_right (by simp), List.length_set, Nat.sub_self, hc1]; rfl, fun i e he => ?_⟩
    have hi := (List.getElem?_eq_some_iff.1 he).1
    by_cases q : on.toNat = i
    · subst q
      rw [hc] at he; cases he
      refine ⟨(c.1, c.2 ++ [(l.length : Int)]), ?_, rfl, fun _ => rfl, fun z => absurd (Int.toNat_of_nonneg h0) z⟩
      rw [List.getElem?_append_left (by simpa using hi), List.getElem?_set_self hi]
    · refine ⟨e, ?_, rfl, fun z => absurd (by omega) q, fun _ => rfl⟩
      rw [List.getElem?_append_left (by simpa using hi), List.getElem?_set_ne q]; exact he
theorem mkP_val {l : List PCell} {on : Int} (hon : on = -1 ∨ Val l on) (j : Int) : Val (mkP l on) j ↔ (Val l j ∨ j = l.length) := by
  obtain ⟨g1, g2⟩ := mkP_get hon
  constructor
  · rintro ⟨h0, e', he, h1⟩
    have hl := (List.getElem?_eq_some_iff.1 he).1
    rw [mkP_len] at hl
    by_cases q : j.toNat < l.length
    · obtain ⟨e2, a1, a2, _⟩ := g2 j.toNat l[j.toNat] (List.getElem?_eq_getElem q)
      rw [he] at a1; cases a1
      exact .inl ⟨h0, _, List.getElem?_eq_getElem q, by rw [← a2]; exact h1⟩
    · exact .inr (by omega)
  · rintro (⟨h0, e, he, h1⟩ | rfl)
    · obtain ⟨e2, a1, a2, _⟩ := g2 _ e he
      exact ⟨h0, e2, a1, by rw [a2]; exact h1⟩
    · exact ⟨by omega, _, by simpa using g1, rfl⟩
theorem mkP_back {l : List PCell} {on : Int} (hon : on = -1 ∨ Val l on) {i : Nat} {e' : PCell} (he : (mkP l on)[i]? = some e') : (i = l.length ∧ e'.2 = []) ∨ ∃ e, l[i]? = some e ∧ (e'.2 = e.2 ∨ ((i : Int) = on ∧ e'.2 = e.2 ++ [(l.length : Int)])) := by
  obtain ⟨g1, g2⟩ := mkP_get hon
  have hl := (List.getElem?_eq_some_iff.1 he).1
  rw [mkP_len] at hl
  by_cases q : i < l.length
  · obtain ⟨e2, a1, a2, a3, a4⟩ := g2 i l[i] (List.getElem?_eq_getElem q)
    rw [he] at a1; cases a1
    refine .inr ⟨_, List.getElem?_eq_getElem q, ?_⟩
    by_cases z : (i : Int) = on
    · exact .inr ⟨z, a3 z⟩
    · exact .inl (a4 z)
  · have : i = l.length := by omega
    subst this
    rw [g1] at he; cases he
    exact .inl ⟨rfl, rfl⟩
structure Grow (g g' : GdP) : Prop where
  len : g.2.length ≤ g'.2.length
  val : ∀ c : Int, c < g.2.length → (Val g'.2 c ↔ Val g.2 c)
  keep : ∀ (n : Nat) (c : Int), g.1[n]? = some c → Val g.2 c → g'.1[n]? = some c
theorem Grow.refl (g : GdP) : Grow g g := ⟨Nat.le_refl _, fun c _ => Iff.rfl, fun n c h _ => h⟩
theorem Grow.trans {g g' g2 : GdP} (h : Grow g g') (k : Grow g' g2) : Grow g g2 := ⟨Nat.le_trans h.len k.len, fun c hc => (k.val c (by have := h.len; omega)).trans (h.val c hc), fun n c hn hv => k.keep n c (h.keep n c hn hv) ((h.val c hv.lt).2 hv)⟩
/-- A guard is made. -/
theorem GInv.make {l : List ObjS} {g : GdP} (h : GInv l g) {n : Nat} {o : ObjS} {c on : Int} (ho : l[n]? = some o) (hc : g.1[n]? = some c) (hv : ¬ Val g.2 c)
    (hp : (objAt o.proto l.length = none ∧ on = -1) ∨ ∃ m, objAt o.proto l.length = some m ∧ m ≠ n ∧ g.1[m]? = some on ∧ Val g.2 on) :
    GInv l (g.1.set n g.2.length, mkP g.2 on) ∧ Grow g (g.1.set n g.2.length, mkP g.2 on) := by
  have hon : on = -1 ∨ Val g.2 on := by rcases hp with ⟨_, q⟩ | ⟨_, _, _, _, q⟩; exact .inl q; exact .inr q
  have hnl := (List.getElem?_eq_some_iff.1 hc).1
  have hV := mkP_val hon
  obtain ⟨g1, g2⟩ := mkP_get hon
  have hs : (g.1.set n (g.2.length : Int))[n]? = some (g.2.length : Int) := List.getElem?_set_self hnl
  have ht : ∀ (m : Nat), m ≠ n → (g.1.set n (g.2.length : Int))[m]? = g.1[m]? := fun m hm => List.getElem?_set_ne (fun q => hm q.symm)
  have hfresh : ∀ (m : Nat) d, g.1[m]? = some d → d ≠ g.2.length := fun m d hd => by have := h.lt m d hd; omega
  have hold : ∀ (m : Nat) d, (g.1.set n (g.2.length : Int))[m]? = some d → m ≠ n → Val (mkP g.2 on) d → Val g.2 d := fun m d hd hm hvd => by
    rw [ht m hm] at hd
    rcases (hV d).1 hvd with q | q
    · exact q
    · exact absurd q (hfresh m d hd)
  refine ⟨⟨by show (g.1.set n _).length = _; rw [List.length_set]; exact h.len, fun m d hd => ?_, fun i e' j he hj => ?_, fun m1 m2 d hd1 hd2 d0 => ?_, fun m o1 d ho1 hd hvd => ?_, fun i e' j he hj hvj => ?_⟩, by show _ ≤ (mkP g.2 on).length; rw [mkP_len]; omega, fun d hd => ?_, fun m d hd hvd => ?_⟩
  · show d < (mkP g.2 on).length
    rw [mkP_len]
    by_cases q : m = n
    · subst q; rw [hs] at hd; cases hd; omega
    · rw [ht m q] at hd; have := h.lt m d hd; omega
  · show j < (mkP g.2 on).length
    rw [mkP_len]
    rcases mkP_back hon he with ⟨_, q⟩ | ⟨e, he2, q | ⟨_, q⟩⟩
    · rw [q] at hj; cases hj
    · rw [q] at hj; have := h.alt i e j he2 hj; omega
    · rw [q] at hj
      rcases List.mem_append.1 hj with z | z
      · have := h.alt i e j he2 z; omega
      · have := List.mem_singleton.1 z; omega
  · by_cases q1 : m1 = n
    · by_cases q2 : m2 = n
      · rw [q1, q2]
      · subst q1; rw [hs] at hd1; cases hd1; rw [ht m2 q2] at hd2; exact absurd rfl (hfresh m2 _ hd2)
    · by_cases q2 : m2 = n
      · subst q2; rw [hs] at hd2; cases hd2; rw [ht m1 q1] at hd1; exact absurd rfl (hfresh m1 _ hd1)
      · rw [ht m1 q1] at hd1; rw [ht m2 q2] at hd2; exact h.inj m1 m2 d hd1 hd2 d0
  · by_cases q : m = n
    · subst q
      rw [hs] at hd; cases hd
      rw [ho] at ho1; cases ho1
      rcases hp with ⟨a, _⟩ | ⟨m2, a1, a2, a3, a4⟩
      · exact .inl a
      · obtain ⟨b0, e, be, b1⟩ := id a4
        obtain ⟨e', c1, c2, c3, _⟩ := g2 _ e be
        refine .inr ⟨m2, on, e', a1, by show (g.1.set m _)[m2]? = _; rw [ht m2 a2]; exact a3, (hV on).2 (.inl a4), c1, ?_⟩
        rw [c3 (Int.toNat_of_nonneg b0)]; simp
    · have hvd2 := hold m d hd q hvd
      rw [ht m q] at hd
      rcases h.link m o1 d ho1 hd hvd2 with z | ⟨m2, d2, e, a1, a2, a3, a4, a5⟩
      · exact .inl z
      · have hm2 : m2 ≠ n := fun z => by subst z; rw [hc] at a2; cases a2; exact hv a3
        obtain ⟨e', c1, c2, c3, c4⟩ := g2 _ e a4
        refine .inr ⟨m2, d2, e', a1, by show (g.1.set n _)[m2]? = _; rw [ht m2 hm2]; exact a2, (hV d2).2 (.inl a3), c1, ?_⟩
        by_cases z : ((d2.toNat : Nat) : Int) = on
        · rw [c3 z]; exact List.mem_append_left _ a5
        · rw [c4 z]; exact a5
  · have main : ∀ e, g.2[i]? = some e → j ∈ e.2 → ∃ (n1 : Nat) (o1 : ObjS) (m1 : Nat), l[n1]? = some o1 ∧ (g.1.set n (g.2.length : Int))[n1]? = some j ∧ objAt o1.proto l.length = some m1 ∧ (g.1.set n (g.2.length : Int))[m1]? = some (i : Int) := fun e he2 hj2 => by
      have hj3 : Val g.2 j := by
        rcases (hV j).1 hvj with z | z
        · exact z
        · have := h.alt i e j he2 hj2; omega
      obtain ⟨n1, o1, m1, a1, a2, a3, a4⟩ := h.edge i e j he2 hj2 hj3
      have q1 : n1 ≠ n := fun z => by subst z; rw [hc] at a2; cases a2; exact hv hj3
      have hvi : Val g.2 (i : Int) := by
        rcases h.link n1 o1 j a1 a2 hj3 with z | ⟨m3, d3, e3, b1, b2, b3, b4, b5⟩
        · rw [a3] at z; cases z
        · rw [a3] at b1; cases b1; rw [a4] at b2; cases b2; exact b3
      have q2 : m1 ≠ n := fun z => by subst z; rw [hc] at a4; cases a4; exact hv hvi
      exact ⟨n1, o1, m1, a1, by rw [ht n1 q1]; exact a2, a3, by rw [ht m1 q2]; exact a4⟩
    rcases mkP_back hon he with ⟨_, q⟩ | ⟨e, he2, q | ⟨z, q⟩⟩
    · rw [q] at hj; cases hj
    · rw [q] at hj; exact main e he2 hj
    · rw [q] at hj
      rcases List.mem_append.1 hj with y | y
      · exact main e he2 y
      · have hjn := List.mem_singleton.1 y
        subst hjn
        rcases hp with ⟨a, b⟩ | ⟨m2, a1, a2, a3, a4⟩
        · omega
        · exact ⟨n, o, m2, ho, hs, a1, by show (g.1.set n _)[m2]? = _; rw [ht m2 a2, z]; exact a3⟩
  · rw [hV d]
    exact ⟨fun q => q.elim id (fun z => absurd hd (by omega)), .inl⟩
  · show (g.1.set n _)[m]? = _
    have hm : m ≠ n := fun z => by subst z; rw [hc] at hd; cases hd; exact hv hvd
    rw [ht m hm]; exact hd
theorem guardF_ok {l : List ObjS} : ∀ (K : Nat) (w : Int) (g : GdP), GInv l g → objAt (upN l w K) l.length = none →
    GInv l (guardF l K w g).1 ∧ Grow g (guardF l K w g).1 ∧ (objAt w l.length = none → (guardF l K w g).2 = -1) ∧ (∀ n, objAt w l.length = some n → (guardF l K w g).1.1[n]? = some (guardF l K w g).2 ∧ Val (guardF l K w g).1.2 (guardF l K w g).2) ∧
    (∀ i, (∀ j, objAt (upN l w j) l.length ≠ some i) → (guardF l K w g).1.1[i]? = g.1[i]?)
  | K, w, g, h, he => by
    cases h0 : objAt w l.length with
    | none => rw [guardF_none h0]; exact ⟨h, Grow.refl g, fun _ => rfl, fun n hn => (by cases hn), fun i _ => rfl⟩
    | some n =>
      have hl := (objAt_tag h0).2
      have ho : l[n]? = some l[n] := List.getElem?_eq_getElem hl
      have hcl : n < g.1.length := by rw [h.len]; exact hl
      have hc : g.1[n]? = some g.1[n] := List.getElem?_eq_getElem hcl
      have hE : Ends l w := ⟨K, he⟩
      cases K with
      | zero => rw [show upN l w 0 = w from rfl, h0] at he; cases he
      | succ K =>
        have hpp : upN l w 1 = l[n].proto := protoW_some h0 ho
        by_cases hv : 0 ≤ g.1[n] ∧ valP g.2 g.1[n] = true
        · rw [guardF_old h0 ho hc hv]
          refine ⟨h, Grow.refl g, fun q => (by cases q), fun m hm => ?_, fun i _ => rfl⟩
          cases hm
          exact ⟨hc, valP_iff.1 hv.2⟩
        · rw [guardF_new h0 ho hc hv]
          have hv2 : ¬ Val g.2 g.1[n] := fun q => hv ⟨q.1, valP_iff.2 q⟩
          have he2 : objAt (upN l l[n].proto K) l.length = none := by
            rw [show K + 1 = 1 + K by omega, upN_add, hpp] at he; exact he
          obtain ⟨a1, a2, a3, a4, a5⟩ := guardF_ok K l[n].proto g h he2
          have hnl : ∀ j, objAt (upN l l[n].proto j) l.length ≠ some n := fun j => by
            have := no_loop h0 hE j
            rwa [show j + 1 = 1 + j by omega, upN_add, hpp] at this
          have hc1 := (a5 n hnl).trans hc
          have hv3 : ¬ Val (guardF l K l[n].proto g).1.2 g.1[n] := fun q => hv2 ((a2.val _ (h.lt n _ hc)).1 q)
          have hp : (objAt l[n].proto l.length = none ∧ (guardF l K l[n].proto g).2 = -1) ∨ ∃ m, objAt l[n].proto l.length = some m ∧ m ≠ n ∧ (guardF l K l[n].proto g).1.1[m]? = some (guardF l K l[n].proto g).2 ∧ Val (guardF l K l[n].proto g).1.2 (guardF l K l[n].proto g).2 := by
            cases hq : objAt l[n].proto l.length with
            | none => exact .inl ⟨rfl, a3 hq⟩
            | some m =>
              obtain ⟨b1, b2⟩ := a4 m hq
              exact .inr ⟨m, rfl, fun z => hnl 0 (by rw [show upN l l[n].proto 0 = l[n].proto from rfl, hq, z]), b1, b2⟩
          obtain ⟨m1, m2⟩ := a1.make ho hc1 hv3 hp
          have hon : (guardF l K l[n].proto g).2 = -1 ∨ Val (guardF l K l[n].proto g).1.2 (guardF l K l[n].proto g).2 := by
            rcases hp with ⟨_, q⟩ | ⟨_, _, _, _, q⟩
            · exact .inl q
            · exact .inr q
          refine ⟨m1, a2.trans m2, fun q => (by cases q), fun m hm => ?_, fun i hi => ?_⟩
          · cases hm
            exact ⟨List.getElem?_set_self (List.getElem?_eq_some_iff.1 hc1).1, (mkP_val hon _).2 (.inr rfl)⟩
          · have hne : i ≠ n := fun z => hi 0 (by rw [show upN l w 0 = w from rfl, h0, z])
            show ((guardF l K l[n].proto g).1.1.set n _)[i]? = _
            rw [List.getElem?_set_ne (fun z => hne z.symm)]
            exact a5 i fun j => by have := hi (1 + j); rwa [upN_add, hpp] at this
/-- Prototypes that there are. -/
def ProtosIn (l : List ObjS) : Prop := ∀ o ∈ l, o.proto = 18445336698825998337 ∨ objAt o.proto l.length ≠ none
theorem objAt_more {w : Int} {a b n : Nat} (h : objAt w a = some n) (hab : a ≤ b) : objAt w b = some n := by
  obtain ⟨h1, h2⟩ := objAt_tag h
  unfold objAt
  rw [h1]
  simp only []
  rw [if_pos (by omega)]
theorem ProtosIn.more {l : List ObjS} (h : ProtosIn l) {o : ObjS} (ho : o ∈ l) {b : Nat} (hb : l.length ≤ b) : objAt o.proto b = objAt o.proto l.length := by
  rcases h o ho with q | q
  · rw [q, objAt_null, objAt_null]
  · cases z : objAt o.proto l.length with
    | none => exact absurd z q
    | some n => exact objAt_more z hb
theorem GInv.grow {l : List ObjS} {g : GdP} (h : GInv l g) (hP : ProtosIn l) (o : ObjS) : GInv (l ++ [o]) (g.1 ++ [-1], g.2) := by
  have hget : ∀ (m : Nat) d, (g.1 ++ [-1])[m]? = some d → 0 ≤ d → g.1[m]? = some d := fun m d hd d0 => by
    by_cases q : m < g.1.length
    · rwa [List.getElem?_append_left q] at hd
    · rw [List.getElem?_append_right (by omega)] at hd
      have := List.mem_of_getElem? hd
      rw [List.mem_singleton] at this; omega
  have hput : ∀ (m : Nat) d, g.1[m]? = some d → (g.1 ++ [-1])[m]? = some d := fun m d hd => by rw [List.getElem?_append_left (List.getElem?_eq_some_iff.1 hd).1]; exact hd
  have hl : ∀ (m : Nat) o' d, (l ++ [o])[m]? = some o' → g.1[m]? = some d → l[m]? = some o' := fun m o' d ho hd => by
    have := (List.getElem?_eq_some_iff.1 hd).1
    rw [h.len] at this
    rwa [List.getElem?_append_left this] at ho
  have hll : l.length ≤ (l ++ [o]).length := by simp
  refine ⟨by simp [h.len], fun m d hd => ?_, h.alt, fun m1 m2 d h1 h2 d0 => h.inj m1 m2 d (hget _ _ h1 d0) (hget _ _ h2 d0) d0, fun m o' d ho hd hv => ?_, fun i e j he hj hv => ?_⟩
  · by_cases q : 0 ≤ d
    · exact h.lt m d (hget m d hd q)
    · show d < (g.2.length : Int); omega
  · have hd2 := hget m d hd hv.1
    have ho2 := hl m o' d ho hd2
    rw [hP.more (List.mem_of_getElem? ho2) hll]
    rcases h.link m o' d ho2 hd2 hv with z | ⟨m2, d2, e, a1, a2, a3, a4, a5⟩
    · exact .inl z
    · exact .inr ⟨m2, d2, e, a1, hput m2 d2 a2, a3, a4, a5⟩
  · obtain ⟨n, o', m, a1, a2, a3, a4⟩ := h.edge i e j he hj hv
    refine ⟨n, o', m, by rw [List.getElem?_append_left (List.getElem?_eq_some_iff.1 a1).1]; exact a1, hput n j a2, ?_, hput m _ a4⟩
    rw [hP.more (List.mem_of_getElem? a1) hll]; exact a3
/-- Prototypes alone count. -/
theorem GInv.congr {l l' : List ObjS} {g : GdP} (h : GInv l g) (hp : l'.map ObjS.proto = l.map ObjS.proto) : GInv l' g := by
  have hlen : l'.length = l.length := by have := congrArg List.length hp; simpa using this
  have hg : ∀ {a b : List ObjS}, a.map ObjS.proto = b.map ObjS.proto → ∀ (m : Nat) o, a[m]? = some o → ∃ o', b[m]? = some o' ∧ o'.proto = o.proto := fun e m o ho => by
    have := congrArg (fun l => l[m]?) e
    simp only [List.getElem?_map, ho, Option.map_some] at this
    cases q : (_ : List ObjS)[m]? with
    | none => rw [q] at this; cases this
    | some o' => rw [q] at this; exact ⟨o', rfl, by have z := Option.some.inj this; exact z.symm⟩
  refine ⟨by rw [hlen]; exact h.len, h.lt, h.alt, h.inj, fun m o d ho hd hv => ?_, fun i e j he hj hv => ?_⟩
  · obtain ⟨o', ho', q⟩ := hg hp m o ho
    rw [hlen, ← q]; exact h.link m o' d ho' hd hv
  · obtain ⟨n, o, m, a1, a2, a3, a4⟩ := h.edge i e j he hj hv
    obtain ⟨o', ho', q⟩ := hg hp.symm n o a1
    exact ⟨n, o', m, ho', a2, by rw [q, hlen]; exact a3, a4⟩
end Go.Proofs.YtdfhbheipagnmaaGreat
namespace Go.Proofs.YtdfhbheipagnmaaGreat
open Go.Sl
/-- A call of a script; where its words lie. -/
structure OpP where
  kind : Int
  o : Int
  p : Int
  key : ByteArray
  d : DescP
  n : Int
  A : Option Addr
  w : List Int
  c : Nat
def OpP.cells (x : OpP) : List Value := [.int .i64 x.kind, .int .u64 x.o, .int .u64 x.p, .string x.key, .int .u64 x.d.1, .int .u64 x.d.2.1, .int .i64 x.d.2.2, .int .i64 x.n, .slice x.A x.w.length x.c]
theorem OpP.len (x : OpP) : x.cells.length = 9 := rfl
abbrev OpP.first (x : OpP) : Int := x.w.headD 18445336698825998336
structure OpOk (W0 : World) (x : OpP) : Prop where
  o : wordOk x.o
  p : wordOk x.p
  src : ∀ σ, Src W0 σ x.A (x.w.map encU)
  len : x.w.length ≤ 1048576
abbrev DocS := List ObjS × List ByteArray
def docStep (D : DocS) (x : OpP) : DocS :=
  if x.kind = 0 then (makeL D.1 x.n x.p, D.2)
  else if x.kind = 1 then (modP D.1 x.o (putO x.key x.d), D.2)
  else if x.kind = 2 then (modP D.1 x.o (dropO x.key), D.2)
  else if x.kind = 3 then (reproP D.1 x.o x.p, D.2)
  else if x.kind = 4 then (modP D.1 x.o (setO x.n x.first), D.2)
  else if x.kind = 5 then (modP D.1 x.o (lenO x.n), D.2)
  else if x.kind = 6 then (modP D.1 x.o shutO, D.2)
  else if x.kind = 7 then (modP D.1 x.o (innerO x.w), D.2)
  else if x.kind = 8 then (D.1, (textP D.2 x.key).1)
  else if x.kind = 9 then D
  else if x.kind = 10 then (modP D.1 x.o (writeO x.n x.first), D.2)
  else D
/-- What a call does to the guards. -/
def GdS (D D' : DocS) (g g' : GdP) (x : OpP) : Prop :=
  if x.kind = 0 then g' = (if mayP D.1 x.n x.p then (g.1 ++ [-1], g.2) else g)
  else if x.kind = 9 then g' = (guardF D.1 D.1.length x.p g).1
  else if x.kind = 6 ∨ x.kind = 7 ∨ x.kind = 8 then g' = g
  else GdC g g' (objAt x.o D.1.length) ((x.kind = 1 ∧ objAt x.o D.1.length ≠ none) ∨ (x.kind = 2 ∧ hasQ D.1 x.o x.key = true) ∨ (x.kind = 3 ∧ protoW D'.1 x.o ≠ protoW D.1 x.o))
structure DOk (l : List ObjS) : Prop where
  kinds : ∀ o ∈ l, 0 ≤ o.kind ∧ o.kind ≤ 6
  protos : ProtosIn l
  words : protosOk l
  ends : ∀ p, Ends l p
  flags : ∀ o ∈ l, ∀ d ∈ o.descs, normF d.2.2 = d.2.2
theorem normF_idem (f : Int) : normF (normF f) = normF f := by
  obtain ⟨k, hk, e⟩ := fl15_lt f
  rw [refF_norm f]
  unfold refF
  rw [e]
  have : ∀ k : Fin 16, normF (if ((k.val : Nat) : Int) ≥ 8 then IntKind.wrap .i64 ((BitVec.ofInt 64 ((k.val : Nat) : Int) &&& BitVec.ofInt 64 14).toNat) else ((k.val : Nat) : Int)) =
      if ((k.val : Nat) : Int) ≥ 8 then IntKind.wrap .i64 ((BitVec.ofInt 64 ((k.val : Nat) : Int) &&& BitVec.ofInt 64 14).toNat) else ((k.val : Nat) : Int) := by decide
  exact this ⟨k, hk⟩
/-! prototypes alone count -/
theorem protoW_congr {l l' : List ObjS} (hp : l'.map ObjS.proto = l.map ObjS.proto) (w : Int) : protoW l' w = protoW l w := by
  have hlen : l'.length = l.length := by have := congrArg List.length hp; simpa using this
  unfold protoW
  rw [hlen]
  cases h : objAt w l.length with
  | none => rfl
  | some n =>
    have hn := (objAt_tag h).2
    have := congrArg (fun l => l[n]?) hp
    simp only [List.getElem?_map, List.getElem?_eq_getElem hn, List.getElem?_eq_getElem (show n < l'.length by omega), Option.map_some] at this
    simp only [List.getElem?_eq_getElem hn, List.getElem?_eq_getElem (show n < l'.length by omega)]
    exact Option.some.inj this
theorem upN_congr {l l' : List ObjS} (hp : l'.map ObjS.proto = l.map ObjS.proto) (p : Int) : ∀ i, upN l' p i = upN l p i
  | 0 => rfl
  | i + 1 => by
    show protoW l' (upN l' p i) = protoW l (upN l p i)
    rw [upN_congr hp p i]; exact protoW_congr hp _
theorem Ends.congr {l l' : List ObjS} (hp : l'.map ObjS.proto = l.map ObjS.proto) {p : Int} (h : Ends l p) : Ends l' p := by
  have hlen : l'.length = l.length := by have := congrArg List.length hp; simpa using this
  obtain ⟨i, hi⟩ := h
  exact ⟨i, by rw [upN_congr hp, hlen]; exact hi⟩
theorem modP_map {α : Type} (f : ObjS → α) {l : List ObjS} {w : Int} {m : ObjS → ObjS} (h : ∀ o, f (m o) = f o) : (modP l w m).map f = l.map f := by
  unfold modP
  split
  · rfl
  · split
    · rfl
    · next n o ho =>
      rw [List.map_set, h]
      exact set_same (by simp [ho])
theorem modP_mem {l : List ObjS} {w : Int} {m : ObjS → ObjS} {o' : ObjS} (h : o' ∈ modP l w m) : o' ∈ l ∨ ∃ o ∈ l, o' = m o := by
  unfold modP at h
  split at h
  · exact .inl h
  · split at h
    · exact .inl h
    · next n o ho =>
      rcases List.mem_or_eq_of_mem_set h with q | q
      · exact .inl q
      · exact .inr ⟨o, List.mem_of_getElem? ho, q⟩
theorem DOk.mod {l : List ObjS} (h : DOk l) {w : Int} {m : ObjS → ObjS} (hk : ∀ o, (m o).kind = o.kind) (hp : ∀ o, (m o).proto = o.proto) (hf : ∀ o, (∀ d ∈ o.descs, normF d.2.2 = d.2.2) → ∀ d ∈ (m o).descs, normF d.2.2 = d.2.2) : DOk (modP l w m) := by
  have e := modP_map ObjS.proto (l := l) (w := w) hp
  refine ⟨fun o ho => ?_, fun o ho => ?_, fun o ho => ?_, fun p => (h.ends p).congr e, fun o ho => ?_⟩
  · rcases modP_mem ho with q | ⟨a, q, rfl⟩
    · exact h.kinds o q
    · rw [hk]; exact h.kinds a q
  · rw [modP_len]
    rcases modP_mem ho with q | ⟨a, q, rfl⟩
    · exact h.protos o q
    · rw [hp]; exact h.protos a q
  · rcases modP_mem ho with q | ⟨a, q, rfl⟩
    · exact h.words o q
    · rw [hp]; exact h.words a q
  · rcases modP_mem ho with q | ⟨a, q, rfl⟩
    · exact h.flags o q
    · exact hf a (h.flags a q)
theorem Ends.grow {l : List ObjS} (hP : ProtosIn l) {o : ObjS} (ho : o.proto = 18445336698825998337 ∨ objAt o.proto l.length ≠ none) (h : ∀ p, Ends l p) (p : Int) : Ends (l ++ [o]) p := by
  have hll : l.length ≤ (l ++ [o]).length := by simp
  have key : ∀ (q : Int), (q = 18445336698825998337 ∨ objAt q l.length ≠ none) → ∀ i, upN (l ++ [o]) q i = upN l q i ∧ (upN l q i = 18445336698825998337 ∨ objAt (upN l q i) l.length ≠ none) := by
    intro q hq i
    induction i with
    | zero => exact ⟨rfl, hq⟩
    | succ i ih =>
      obtain ⟨a, b⟩ := ih
      show protoW (l ++ [o]) (upN (l ++ [o]) q i) = protoW l (upN l q i) ∧ _
      rw [a]
      show _ ∧ (protoW l (upN l q i) = _ ∨ objAt (protoW l (upN l q i)) l.length ≠ none)
      rcases b with b | b
      · rw [b, protoW_none (objAt_null _), protoW_none (objAt_null _)]
        exact ⟨rfl, .inl rfl⟩
      · cases hm : objAt (upN l q i) l.length with
        | none => exact absurd hm b
        | some m =>
          have hml := (objAt_tag hm).2
          have hg : l[m]? = some l[m] := List.getElem?_eq_getElem hml
          rw [protoW_some hm hg, protoW_some (objAt_more hm hll) (by rw [List.getElem?_append_left hml]; exact hg)]
          exact ⟨rfl, hP _ (List.mem_of_getElem? hg)⟩
  have main : ∀ (q : Int), (q = 18445336698825998337 ∨ objAt q l.length ≠ none) → Ends (l ++ [o]) q := fun q hq => by
    obtain ⟨i, hi⟩ := h q
    obtain ⟨a, b⟩ := key q hq i
    rcases b with b | b
    · exact ⟨i, by rw [a, b]; exact objAt_null _⟩
    · exact absurd hi b
  cases hp : objAt p (l ++ [o]).length with
  | none => exact ⟨0, hp⟩
  | some m =>
    by_cases hm : m < l.length
    · refine main p (.inr ?_)
      obtain ⟨a, _⟩ := objAt_tag hp
      unfold objAt; rw [a]; simp only []; rw [if_pos hm]; simp
    · have hm2 := (objAt_tag hp).2
      have : m = l.length := by simp at hm2; omega
      subst this
      obtain ⟨i, hi⟩ := main o.proto ho
      refine ⟨1 + i, ?_⟩
      rw [upN_add, show upN (l ++ [o]) p 1 = protoW (l ++ [o]) p from rfl, protoW_some hp (o := o) (by simp)]
      exact hi
theorem Ends.repro {l : List ObjS} {w q : Int} {n : Nat} {o : ObjS} (h0 : objAt w l.length = some n) (ho : l[n]? = some o) (hh : hitP l q w = false) (h : ∀ p, Ends l p) (p : Int) : Ends (l.set n (o.under q)) p := by
  have hl : (l.set n (o.under q)).length = l.length := List.length_set
  have hnl := (List.getElem?_eq_some_iff.1 ho).1
  have hpw : ∀ v, v ≠ w → protoW (l.set n (o.under q)) v = protoW l v := fun v hv => by
    cases hm : objAt v l.length with
    | none => rw [protoW_none hm, protoW_none (by rw [hl]; exact hm)]
    | some m =>
      have hml := (objAt_tag hm).2
      have hmn : m ≠ n := fun z => hv (objAt_inj hm (by rw [z]; exact h0))
      have hg : l[m]? = some l[m] := List.getElem?_eq_getElem hml
      rw [protoW_some hm hg, protoW_some (by rw [hl]; exact hm) (by rw [List.getElem?_set_ne (fun z => hmn z.symm)]; exact hg)]
  have same : ∀ (v : Int) i, (∀ j, j < i → upN l v j ≠ w) → upN (l.set n (o.under q)) v i = upN l v i := fun v i => by
    induction i with
    | zero => intro _; rfl
    | succ i ih =>
      intro hj
      show protoW (l.set n (o.under q)) (upN (l.set n (o.under q)) v i) = protoW l (upN l v i)
      rw [ih fun j hji => hj j (by omega)]
      exact hpw _ (hj i (by omega))
  have hq : ∀ i, upN l q i ≠ w := fun i z => by
    by_cases hi : i ≤ l.length
    · rw [hitP_iff.2 ⟨i, hi, z⟩] at hh; cases hh
    · have := upN_null (h q).bound (i - l.length)
      rw [show l.length + (i - l.length) = i by omega, z, h0] at this
      cases this
  have hqe : Ends (l.set n (o.under q)) q := by
    obtain ⟨i, hi⟩ := h q
    exact ⟨i, by rw [same q i fun j _ => hq j, hl]; exact hi⟩
  obtain ⟨i, hi⟩ := h p
  by_cases hex : ∃ j, upN l p j = w
  · obtain ⟨j, hj, hmin⟩ : ∃ j, upN l p j = w ∧ ∀ k, k < j → upN l p k ≠ w := by
      obtain ⟨j, hj⟩ := hex
      induction j using Nat.strongRecOn with
      | _ j ih =>
        by_cases hk : ∃ k, k < j ∧ upN l p k = w
        · obtain ⟨k, k1, k2⟩ := hk; exact ih k k1 k2
        · exact ⟨j, hj, fun k k1 k2 => hk ⟨k, k1, k2⟩⟩
    obtain ⟨k, hk⟩ := hqe
    refine ⟨j + 1 + k, ?_⟩
    rw [upN_add, show upN (l.set n (o.under q)) p (j + 1) = protoW (l.set n (o.under q)) (upN (l.set n (o.under q)) p j) from rfl, same p j hmin, hj,
      protoW_some (by rw [hl]; exact h0) (List.getElem?_set_self hnl)]
    exact hk
  · exact ⟨i, by rw [same p i fun j _ z => hex ⟨j, z⟩, hl]; exact hi⟩
theorem put_flags {names : List ByteArray} {descs : List DescP} {key : ByteArray} {d : DescP} (h : ∀ d ∈ descs, normF d.2.2 = d.2.2) : ∀ d' ∈ putDs names descs key (normD d), normF d'.2.2 = d'.2.2 := by
  intro d' hd
  unfold putDs at hd
  split at hd
  · rcases List.mem_append.1 hd with q | q
    · exact h d' q
    · rw [List.mem_singleton.1 q]; exact normF_idem _
  · rcases List.mem_or_eq_of_mem_set hd with q | q
    · exact h d' q
    · rw [q]; exact normF_idem _
theorem DOk.step {D : DocS} (h : DOk D.1) (x : OpP) (hp : wordOk x.p) : DOk (docStep D x).1 := by
  unfold docStep
  have e : ∀ {m : ObjS → ObjS} {w : Int}, (∀ o, (m o).kind = o.kind) → (∀ o, (m o).proto = o.proto) → (∀ o, (m o).descs = o.descs) → DOk (modP D.1 w m) := fun a b c => h.mod a b (fun o q => by rw [c]; exact q)
  split
  · show DOk (makeL D.1 x.n x.p)
    unfold makeL
    split
    · next hm =>
      obtain ⟨m1, m2, m3⟩ := hm
      have hll : D.1.length ≤ (D.1 ++ [newS x.n x.p]).length := by simp
      refine ⟨fun o ho => ?_, fun o ho => ?_, fun o ho => ?_, Ends.grow h.protos m2 h.ends, fun o ho => ?_⟩ <;> rcases List.mem_append.1 ho with q | q
      · exact h.kinds o q
      · rw [List.mem_singleton.1 q]; exact m1
      · rw [h.protos.more q hll]; exact h.protos o q
      · rw [List.mem_singleton.1 q]
        rcases m2 with z | z
        · exact .inl z
        · refine .inr fun y => ?_
          cases hz : objAt x.p D.1.length with
          | none => exact z hz
          | some i => rw [show objAt (newS x.n x.p).proto _ = _ from objAt_more hz hll] at y; cases y
      · exact h.words o q
      · rw [List.mem_singleton.1 q]; exact hp
      · exact h.flags o q
      · rw [List.mem_singleton.1 q]; intro d hd; cases hd
    · exact h
  split
  · exact h.mod (fun _ => rfl) (fun _ => rfl) (fun o q => put_flags q)
  split
  · refine h.mod (fun _ => rfl) (fun _ => rfl) (fun o q d hd => ?_)
    simp only [dropO] at hd
    unfold dropDs at hd
    split at hd
    · exact q d hd
    · exact q d (List.mem_of_mem_eraseIdx hd)
  split
  · show DOk (reproP D.1 x.o x.p)
    cases h0 : objAt x.o D.1.length with
    | none => rw [reproP_none h0]; exact h
    | some n =>
      obtain ⟨o, ho⟩ := obj_of h0
      by_cases hq : (x.p ≠ 18445336698825998337 ∧ objAt x.p D.1.length = none) ∨ hitP D.1 x.p x.o = true
      · rw [reproP_no hq]; exact h
      · have hh : hitP D.1 x.p x.o = false := by cases z : hitP D.1 x.p x.o with
          | false => rfl
          | true => exact absurd (.inr z) hq
        rw [reproP_yes h0 ho (fun z => hq (.inl z)) hh]
        have hm := List.mem_of_getElem? ho
        refine ⟨fun a ha => ?_, fun a ha => ?_, fun a ha => ?_, Ends.repro h0 ho hh h.ends, fun a ha => ?_⟩ <;> rcases List.mem_or_eq_of_mem_set ha with q | q
        · exact h.kinds a q
        · rw [q]; exact h.kinds o hm
        · rw [List.length_set]; exact h.protos a q
        · rw [List.length_set, q]
          by_cases z : x.p = 18445336698825998337
          · exact .inl z
          · exact .inr fun y => hq (.inl ⟨z, y⟩)
        · exact h.words a q
        · rw [q]; exact hp
        · exact h.flags a q
        · rw [q]; exact h.flags o hm
  split
  · exact e (fun _ => rfl) (fun _ => rfl) (fun _ => rfl)
  split
  · exact e (fun _ => rfl) (fun _ => rfl) (fun _ => rfl)
  split
  · exact e (fun _ => rfl) (fun _ => rfl) (fun _ => rfl)
  split
  · exact e (fun _ => rfl) (fun _ => rfl) (fun _ => rfl)
  split
  · exact h
  split
  · exact h
  split
  · refine h.mod (fun _ => rfl) (fun _ => rfl) (fun o q d hd => ?_)
    simp only [writeO] at hd
    unfold writeD at hd
    split at hd
    · split at hd
      · next d0 hd0 =>
        rcases List.mem_or_eq_of_mem_set hd with z | z
        · exact q d z
        · rw [z]; exact q d0 (List.mem_of_getElem? hd0)
      · exact q d hd
    · exact q d hd
  · exact h
end Go.Proofs.YtdfhbheipagnmaaGreat
namespace Go.Proofs.YtdfhbheipagnmaaGreat
open Go.Sl
theorem docStep_len (D : DocS) (x : OpP) : D.1.length ≤ (docStep D x).1.length := by
  unfold docStep
  split
  · show _ ≤ (makeL D.1 x.n x.p).length
    unfold makeL; split <;> simp
  split
  · rw [modP_len]; exact Nat.le_refl _
  split
  · rw [modP_len]; exact Nat.le_refl _
  split
  · show _ ≤ (reproP D.1 x.o x.p).length
    unfold reproP
    split
    · exact Nat.le_refl _
    · split
      · exact Nat.le_refl _
      · split
        · exact Nat.le_refl _
        · rw [List.length_set]; exact Nat.le_refl _
  split
  · rw [modP_len]; exact Nat.le_refl _
  split
  · rw [modP_len]; exact Nat.le_refl _
  split
  · rw [modP_len]; exact Nat.le_refl _
  split
  · rw [modP_len]; exact Nat.le_refl _
  split
  · exact Nat.le_refl _
  split
  · exact Nat.le_refl _
  split
  · rw [modP_len]; exact Nat.le_refl _
  · exact Nat.le_refl _
/-- Calls that are neither 0 nor 3 leave all prototypes. -/
theorem docStep_protos (D : DocS) (x : OpP) (h0 : x.kind ≠ 0) (h3 : x.kind ≠ 3) : (docStep D x).1.map ObjS.proto = D.1.map ObjS.proto := by
  unfold docStep
  rw [if_neg h0]
  split
  · exact modP_map ObjS.proto fun _ => rfl
  split
  · exact modP_map ObjS.proto fun _ => rfl
  split
  · exact modP_map ObjS.proto fun _ => rfl
  split
  · exact modP_map ObjS.proto fun _ => rfl
  split
  · exact modP_map ObjS.proto fun _ => rfl
  split
  · exact modP_map ObjS.proto fun _ => rfl
  split
  · rfl
  split
  · rfl
  split
  · exact modP_map ObjS.proto fun _ => rfl
  · rfl
theorem docStep_3 (D : DocS) (x : OpP) (h3 : x.kind = 3) : docStep D x = (reproP D.1 x.o x.p, D.2) := by
  unfold docStep
  rw [if_neg (by omega), if_neg (by omega), if_neg (by omega), if_pos h3]
theorem map_proto_get {l l' : List ObjS} (hp : l'.map ObjS.proto = l.map ObjS.proto) (m : Nat) (o' : ObjS) (h : l'[m]? = some o') : ∃ o, l[m]? = some o ∧ o'.proto = o.proto := by
  have := congrArg (fun l => l[m]?) hp
  simp only [List.getElem?_map, h, Option.map_some] at this
  cases q : l[m]? with
  | none => rw [q] at this; cases this
  | some o => rw [q] at this; exact ⟨o, rfl, Option.some.inj this⟩
/-- A prototype's change, from one object's. -/
theorem repro_get (l : List ObjS) (w p : Int) : (reproP l w p).length = l.length ∧ ∀ (n : Nat), objAt w l.length = some n → ∀ (m : Nat) o', (reproP l w p)[m]? = some o' → ∃ o, l[m]? = some o ∧ (m ≠ n → o'.proto = o.proto) := by
  unfold reproP
  cases h0 : objAt w l.length with
  | none => exact ⟨rfl, fun n hn => by cases hn⟩
  | some n0 =>
    simp only []
    cases ho : l[n0]? with
    | none => exact ⟨rfl, fun n hn m o' h => ⟨o', h, fun _ => rfl⟩⟩
    | some o =>
      simp only []
      split
      · exact ⟨rfl, fun n hn m o' h => ⟨o', h, fun _ => rfl⟩⟩
      · refine ⟨List.length_set, fun n hn m o' h => ?_⟩
        cases hn
        by_cases q : m = n0
        · subst q
          exact ⟨o, ho, fun z => absurd rfl z⟩
        · rw [List.getElem?_set_ne (fun z => q z.symm)] at h
          exact ⟨o', h, fun _ => rfl⟩
theorem repro_same {l : List ObjS} {w p : Int} (h : protoW (reproP l w p) w = protoW l w) : (reproP l w p).map ObjS.proto = l.map ObjS.proto := by
  cases h0 : objAt w l.length with
  | none => rw [reproP_none h0]
  | some n =>
    obtain ⟨o, ho⟩ := obj_of h0
    by_cases hq : (p ≠ 18445336698825998337 ∧ objAt p l.length = none) ∨ hitP l p w = true
    · rw [reproP_no hq]
    · have hh : hitP l p w = false := by cases z : hitP l p w with
        | false => rfl
        | true => exact absurd (.inr z) hq
      have e := reproP_yes h0 ho (fun z => hq (.inl z)) hh
      rw [e] at h ⊢
      have hnl := (List.getElem?_eq_some_iff.1 ho).1
      rw [protoW_some h0 ho, protoW_some (by rw [List.length_set]; exact h0) (List.getElem?_set_self hnl)] at h
      have h' : p = o.proto := h
      rw [List.map_set]
      exact set_same (by simp [ho, h'])
theorem GdS.cases {D D' : DocS} {g g' : GdP} {x : OpP} (h : GdS D D' g g' x) (h0 : x.kind ≠ 0) (h9 : x.kind ≠ 9) :
    ((x.kind = 6 ∨ x.kind = 7 ∨ x.kind = 8) ∧ g' = g) ∨ (¬ (x.kind = 6 ∨ x.kind = 7 ∨ x.kind = 8) ∧ GdC g g' (objAt x.o D.1.length) ((x.kind = 1 ∧ objAt x.o D.1.length ≠ none) ∨ (x.kind = 2 ∧ hasQ D.1 x.o x.key = true) ∨ (x.kind = 3 ∧ protoW D'.1 x.o ≠ protoW D.1 x.o))) := by
  unfold GdS at h
  rw [if_neg h0, if_neg h9] at h
  by_cases hq : x.kind = 6 ∨ x.kind = 7 ∨ x.kind = 8
  · rw [if_pos hq] at h; exact .inl ⟨hq, h⟩
  · rw [if_neg hq] at h; exact .inr ⟨hq, h⟩
theorem GInv.step {D : DocS} {g g' : GdP} {x : OpP} (h : GInv D.1 g) (hD : DOk D.1) (hS : GdS D (docStep D x) g g' x) : GInv (docStep D x).1 g' := by
  by_cases h0 : x.kind = 0
  · unfold GdS at hS
    rw [if_pos h0] at hS
    rw [hS]
    unfold docStep
    rw [if_pos h0]
    show GInv (makeL D.1 x.n x.p) _
    unfold makeL
    split
    · exact h.grow hD.protos _
    · exact h
  by_cases h9 : x.kind = 9
  · unfold GdS at hS
    rw [if_neg h0, if_pos h9] at hS
    rw [hS]
    have e : (docStep D x).1 = D.1 := by
      unfold docStep
      rw [if_neg h0, if_neg (by omega), if_neg (by omega), if_neg (by omega), if_neg (by omega), if_neg (by omega), if_neg (by omega), if_neg (by omega), if_neg (by omega), if_pos h9]
    rw [e]
    exact (guardF_ok _ _ _ h (hD.ends x.p).bound).1
  rcases hS.cases h0 h9 with ⟨hq, rfl⟩ | ⟨hq, hc⟩
  · exact h.congr (docStep_protos D x h0 (by omega))
  · by_cases h3 : x.kind = 3
    · rw [docStep_3 D x h3] at hc ⊢
      rcases hc with ⟨hm, rfl⟩ | ⟨n, hn, hT⟩
      · refine h.congr (repro_same ?_)
        exact Classical.byContradiction fun q => hm (.inr (.inr ⟨h3, q⟩))
      · obtain ⟨r1, r2⟩ := repro_get D.1 x.o x.p
        exact h.touch hT r1 (r2 n hn)
    · have e := docStep_protos D x h0 h3
      rcases hc with ⟨hm, rfl⟩ | ⟨n, hn, hT⟩
      · exact h.congr e
      · exact h.touch hT (by have := congrArg List.length e; simpa using this) (fun m o' ho => by
          obtain ⟨o, h1, h2⟩ := map_proto_get e m o' ho
          exact ⟨o, h1, fun _ => h2⟩)
/-- What is known of a guard: as long as it is valid it is its object's. -/
structure Held (l : List ObjS) (g : GdP) (p c : Int) : Prop where
  obj : ∃ np, objAt p l.length = some np ∧ (Val g.2 c → g.1[np]? = some c)
  lt : c < g.2.length
def onQ (l : List ObjS) (p w : Int) : Bool := (objAt w l.length).isSome && hitP l p w
theorem onQ_iff {l : List ObjS} {p w : Int} : onQ l p w = true ↔ ∃ n i, objAt w l.length = some n ∧ i ≤ l.length ∧ upN l p i = w := by
  unfold onQ
  rw [Bool.and_eq_true, hitP_iff]
  constructor
  · rintro ⟨h, i, h1, h2⟩
    obtain ⟨n, hn⟩ := Option.isSome_iff_exists.1 h
    exact ⟨n, i, hn, h1, h2⟩
  · rintro ⟨n, i, hn, h1, h2⟩
    exact ⟨by rw [hn]; rfl, i, h1, h2⟩
theorem GInv.held {D : DocS} {g g' : GdP} {x : OpP} {p c : Int} (h : GInv D.1 g) (hD : DOk D.1) (hS : GdS D (docStep D x) g g' x) (hH : Held D.1 g p c) :
    Held (docStep D x).1 g' p c ∧
    (onQ D.1 p x.o = true → (x.kind = 1 ∨ (x.kind = 2 ∧ hasQ D.1 x.o x.key = true) ∨ (x.kind = 3 ∧ protoW (docStep D x).1 x.o ≠ protoW D.1 x.o)) → ¬ Val g'.2 c) ∧
    ((x.kind = 0 ∨ x.kind = 6 ∨ x.kind = 7 ∨ x.kind = 8 ∨ x.kind = 9 ∨ onQ D.1 p x.o = false) → (Val g'.2 c ↔ Val g.2 c)) := by
  obtain ⟨⟨np, hnp, hv⟩, hlt⟩ := hH
  have hob : objAt p (docStep D x).1.length = some np := objAt_more hnp (docStep_len D x)
  by_cases h0 : x.kind = 0
  · unfold GdS at hS
    rw [if_pos h0] at hS
    have e2 : g'.2 = g.2 := by rw [hS]; split <;> rfl
    refine ⟨⟨⟨np, hob, fun q => ?_⟩, by rw [e2]; exact hlt⟩, fun _ q => ?_, fun _ => by rw [e2]⟩
    · rw [e2] at q
      have := hv q
      rw [hS]
      split
      · show (g.1 ++ [-1])[np]? = _
        rw [List.getElem?_append_left (List.getElem?_eq_some_iff.1 this).1]; exact this
      · exact this
    · omega
  by_cases h9 : x.kind = 9
  · unfold GdS at hS
    rw [if_neg h0, if_pos h9] at hS
    obtain ⟨a1, a2, _⟩ := guardF_ok _ _ _ h (hD.ends x.p).bound
    rw [← hS] at a1 a2
    refine ⟨⟨⟨np, hob, fun q => ?_⟩, by have := a2.len; omega⟩, fun _ q => ?_, fun _ => a2.val c hlt⟩
    · have q2 := (a2.val c hlt).1 q
      exact a2.keep np c (hv q2) q2
    · omega
  rcases hS.cases h0 h9 with ⟨hq, rfl⟩ | ⟨hq, hc⟩
  · exact ⟨⟨⟨np, hob, hv⟩, hlt⟩, fun _ q => by omega, fun _ => Iff.rfl⟩
  · rcases hc with ⟨hm, rfl⟩ | ⟨n, hn, hT⟩
    · refine ⟨⟨⟨np, hob, hv⟩, hlt⟩, fun ho q => ?_, fun _ => Iff.rfl⟩
      obtain ⟨n, i, b1, b2, b3⟩ := onQ_iff.1 ho
      refine absurd ?_ hm
      rcases q with q | q | q
      · exact .inl ⟨q, by rw [b1]; simp⟩
      · exact .inr (.inl q)
      · exact .inr (.inr q)
    · have hmono := fun (q : Val g'.2 c) => hT.mono q
      refine ⟨⟨⟨np, hob, fun q => hT.keep (hv (hmono q)) q⟩, ?_⟩, fun ho _ q => ?_, fun hz => ⟨hmono, fun q => ?_⟩⟩
      · obtain ⟨d, hd, h1, h2⟩ := hT
        by_cases z : 0 ≤ d
        · rw [if_pos z] at h2; rw [h2.len]; exact hlt
        · rw [if_neg z] at h2; rw [h2]; exact hlt
      · obtain ⟨n', i, b1, b2, b3⟩ := onQ_iff.1 ho
        rw [hn] at b1; cases b1
        exact h.hit hT i p np c hnp (by rw [b3]; exact hn) (hv (hmono q)) q
      · rcases hz with z | z | z | z | z | z
        · omega
        · omega
        · omega
        · omega
        · omega
        · refine h.quiet hT hnp (fun i hi => ?_) (hv q) q
          have hi2 : upN D.1 p i = x.o := objAt_inj hi hn
          have hb : i ≤ D.1.length := by
            apply Classical.byContradiction
            intro hb
            have := upN_null (hD.ends p).bound (i - D.1.length)
            rw [show D.1.length + (i - D.1.length) = i by omega, hi] at this
            cases this
          rw [onQ_iff.2 ⟨n, i, hn, hb, hi2⟩] at z
          cases z
/-- A new guard. -/
theorem GInv.new {l : List ObjS} {g : GdP} (h : GInv l g) (hD : DOk l) (p : Int) : GInv l (guardF l l.length p g).1 ∧ ((guardF l l.length p g).2 = -1 ↔ objAt p l.length = none) ∧ (objAt p l.length ≠ none → Held l (guardF l l.length p g).1 p (guardF l l.length p g).2 ∧ Val (guardF l l.length p g).1.2 (guardF l l.length p g).2) := by
  obtain ⟨a1, a2, a3, a4, _⟩ := guardF_ok _ _ _ h (hD.ends p).bound
  cases hp : objAt p l.length with
  | none => exact ⟨a1, ⟨fun _ => rfl, fun _ => a3 hp⟩, fun q => absurd rfl q⟩
  | some n =>
    obtain ⟨b1, b2⟩ := a4 n hp
    refine ⟨a1, ⟨fun q => ?_, fun q => by cases q⟩, fun _ => ⟨⟨⟨n, hp, fun _ => b1⟩, b2.lt⟩, b2⟩⟩
    have := b2.1
    omega
end Go.Proofs.YtdfhbheipagnmaaGreat
namespace Go.Proofs.YtdfhbheipagnmaaGreat
open Go.Sl
structure Sim (k : Nat) (H : HeapV) (F : HeapF) (R : RSt) : Prop where
  inv : HInv k H F
  ok : R.ok
  objs : H.pub F = R.pub
  texts : H.texts = R.texts
  doc : DOk R.pub
  gds : GInv R.pub H.gd
variable {k : Nat} {H H2 : HeapV} {F : HeapF} {R R2 : RSt} {n : Nat} {W0 : World} {x : OpP}
theorem Sim.lok (h : Sim k H F R) : LOk k R.pub := h.objs ▸ h.inv.lok
abbrev RSt.D (R : RSt) : DocS := (R.pub, R.texts)
/-- What a step leaves. -/
structure Did (k : Nat) (H : HeapV) (F : HeapF) (R : RSt) (x : OpP) (H2 : HeapV) (R2 : RSt) : Prop where
  sim : Sim k H2 F R2
  doc : R2.D = docStep R.D x
  gd : GdS R.D (docStep R.D x) H.gd H2.gd x
theorem Did.mk' (hS : Sim k H F R) (hp : wordOk x.p) {l : List ObjS} {t : List ByteArray} {k' : Nat} (hd : docStep R.D x = (l, t)) (hk : k' ≤ k + 1) (hi : HInv k' H2 F) (hpub : H2.pub F = l) (htx : H2.texts = t) (hR : R2.ok) (hp2 : R2.pub = l) (ht2 : R2.texts = t)
    (hg : GdS R.D (docStep R.D x) H.gd H2.gd x) : Did (k + 1) H F R x H2 R2 := by
  have hdoc : R2.D = docStep R.D x := by rw [hd]; exact Prod.ext hp2 ht2
  have h1 := DOk.step (D := R.D) hS.doc x hp
  have h2 := GInv.step (D := R.D) hS.gds hS.doc hg
  rw [← hdoc] at h1 h2
  exact ⟨⟨hi.mono hk, hR, hpub.trans hp2.symm, htx.trans ht2.symm, h1, h2⟩, hdoc, hg⟩
theorem ds0 {D : DocS} (h : x.kind = 0) : docStep D x = (makeL D.1 x.n x.p, D.2) := by unfold docStep; simp [h]
theorem ds1 {D : DocS} (h : x.kind = 1) : docStep D x = (modP D.1 x.o (putO x.key x.d), D.2) := by unfold docStep; simp [h]
theorem ds2 {D : DocS} (h : x.kind = 2) : docStep D x = (modP D.1 x.o (dropO x.key), D.2) := by unfold docStep; simp [h]
theorem ds3 {D : DocS} (h : x.kind = 3) : docStep D x = (reproP D.1 x.o x.p, D.2) := by unfold docStep; simp [h]
theorem ds4 {D : DocS} (h : x.kind = 4) : docStep D x = (modP D.1 x.o (setO x.n x.first), D.2) := by unfold docStep; simp [h]
theorem ds5 {D : DocS} (h : x.kind = 5) : docStep D x = (modP D.1 x.o (lenO x.n), D.2) := by unfold docStep; simp [h]
theorem ds6 {D : DocS} (h : x.kind = 6) : docStep D x = (modP D.1 x.o shutO, D.2) := by unfold docStep; simp [h]
theorem ds7 {D : DocS} (h : x.kind = 7) : docStep D x = (modP D.1 x.o (innerO x.w), D.2) := by unfold docStep; simp [h]
theorem ds8 {D : DocS} (h : x.kind = 8) : docStep D x = (D.1, (textP D.2 x.key).1) := by unfold docStep; simp [h]
theorem ds9 {D : DocS} (h : x.kind = 9) : docStep D x = D := by unfold docStep; simp [h]
theorem ds10 {D : DocS} (h : x.kind = 10) : docStep D x = (modP D.1 x.o (writeO x.n x.first), D.2) := by unfold docStep; simp [h]
theorem dsE {D : DocS} (h : ∀ c, 0 ≤ c → c ≤ 10 → x.kind ≠ c) : docStep D x = D := by
  unfold docStep
  simp [h 0 (by decide) (by decide), h 1 (by decide) (by decide), h 2 (by decide) (by decide), h 3 (by decide) (by decide), h 4 (by decide) (by decide), h 5 (by decide) (by decide), h 6 (by decide) (by decide), h 7 (by decide) (by decide), h 8 (by decide) (by decide), h 9 (by decide) (by decide), h 10 (by decide) (by decide)]
theorem gs_touch {D D' : DocS} {g g' : GdP} {must : Prop} (h0 : x.kind ≠ 0) (h9 : x.kind ≠ 9) (h6 : ¬ (x.kind = 6 ∨ x.kind = 7 ∨ x.kind = 8)) (hc : GdC g g' (objAt x.o D.1.length) must)
    (hm : ((x.kind = 1 ∧ objAt x.o D.1.length ≠ none) ∨ (x.kind = 2 ∧ hasQ D.1 x.o x.key = true) ∨ (x.kind = 3 ∧ protoW D'.1 x.o ≠ protoW D.1 x.o)) → must) : GdS D D' g g' x := by
  unfold GdS
  rw [if_neg h0, if_neg h9, if_neg h6]
  rcases hc with ⟨q, e⟩ | q
  · exact .inl ⟨fun z => q (hm z), e⟩
  · exact .inr q
theorem gs_same {D D' : DocS} {g g' : GdP} (h0 : x.kind ≠ 0) (h9 : x.kind ≠ 9) (h1 : x.kind ≠ 1) (h2 : x.kind ≠ 2) (h3 : x.kind ≠ 3) (he : g' = g) : GdS D D' g g' x := by
  unfold GdS
  rw [if_neg h0, if_neg h9]
  split
  · exact he
  · exact .inl ⟨by rintro (⟨q, _⟩ | ⟨q, _⟩ | ⟨q, _⟩); exact h1 q; exact h2 q; exact h3 q, he⟩
theorem gs_guard {D D' : DocS} {g g' : GdP} (h : x.kind = 9) (he : g' = (guardF D.1 D.1.length x.p g).1) : GdS D D' g g' x := by
  unfold GdS; rw [if_neg (by omega), if_pos h]; exact he
theorem gs_make {D D' : DocS} {g g' : GdP} (h : x.kind = 0) (he : g' = (if mayP D.1 x.n x.p then (g.1 ++ [-1], g.2) else g)) : GdS D D' g g' x := by
  unfold GdS; rw [if_pos h]; exact he
/-! written -/
theorem writeD_out {l : List DescP} {m wd : Int} (h : ¬ (0 ≤ m ∧ m < l.length)) : writeD l m wd = l := by
  unfold writeD
  by_cases q : 0 ≤ m
  · rw [if_pos q, List.getElem?_eq_none (by omega)]
  · rw [if_neg q]
theorem write_out {o : ObjS} {m wd : Int} (h : ¬ (0 ≤ m ∧ m < o.descs.length)) : writeO m wd o = o := by unfold writeO; rw [writeD_out h]
theorem ixS_at {l : List ByteArray} {m : Nat} {key : ByteArray} (hn : l.Nodup) (hk : l[m]? = some key) : ixS l key = m := by
  have hm := List.mem_of_getElem? hk
  have h0 : 0 ≤ ixS l key := by
    by_cases q : ixS l key < 0
    · exact absurd hm (ixS_none.1 q)
    · omega
  have h1 := ixS_some h0
  have hlt := (List.getElem?_eq_some_iff.1 hk).1
  have hlt2 := (List.getElem?_eq_some_iff.1 h1).1
  have hp := List.pairwise_iff_getElem.1 hn
  have g1 := (List.getElem?_eq_some_iff.1 h1).2
  have g2 := (List.getElem?_eq_some_iff.1 hk).2
  rcases Nat.lt_trichotomy (ixS l key).toNat m with q | q | q
  · exact absurd (g1.trans g2.symm) (hp _ _ hlt2 hlt q)
  · omega
  · exact absurd (g2.trans g1.symm) (hp _ _ hlt hlt2 q)
theorem put_write {o : ObjS} {m wd : Int} {key : ByteArray} {d : DescP} (h0 : 0 ≤ m) (hn : o.names.Nodup) (hk : o.names[m.toNat]? = some key) (hd : o.descs[m.toNat]? = some d) (hf : normF d.2.2 = d.2.2) : putO key (wd, d.2.1, d.2.2) o = writeO m wd o := by
  have e := ixS_at hn hk
  have hneg : ¬ ixS o.names key < 0 := by omega
  unfold putO writeO
  have e1 : putNm o.names key = o.names := if_neg hneg
  have e2 : putDs o.names o.descs key (normD (wd, d.2.1, d.2.2)) = o.descs.set m.toNat (wd, d.2.1, d.2.2) := by
    refine (if_neg hneg).trans ?_
    rw [e]
    unfold normD
    simp only []
    rw [hf]; rfl
  have e3 : writeD o.descs m wd = o.descs.set m.toNat (wd, d.2.1, d.2.2) := by unfold writeD; rw [if_pos h0, hd]
  rw [e1, e2, e3]
theorem HInv.nodup (h : HInv k H F) {o : ObjS} (ho : o ∈ H.pub F) : o.names.Nodup := by
  obtain ⟨x, hx, rfl⟩ := List.mem_map.1 ho
  exact (h.objs x hx).nodup
theorem onQ_at {l : List ObjS} {p w : Int} : onQ l p w = true ↔ ∃ i, i ≤ l.length ∧ (∀ j, j ≤ i → objAt (upN l p j) l.length ≠ none) ∧ upN l p i = w := by
  rw [onQ_iff]
  constructor
  · rintro ⟨n, i, h1, h2, h3⟩
    refine ⟨i, h2, fun j hj hn => ?_, h3⟩
    have := upN_null hn (i - j)
    rw [show j + (i - j) = i by omega, h3, h1] at this
    cases this
  · rintro ⟨i, h1, h2, h3⟩
    have := h2 i (Nat.le_refl i)
    rw [h3] at this
    cases hn : objAt w l.length with
    | none => exact absurd hn this
    | some n => exact ⟨n, i, rfl, h1, h3⟩
theorem onQ_no {l : List ObjS} {p w : Int} {i : Nat} (hb : ∀ j, j < i → upN l p j ≠ w) (he : l.length < i ∨ objAt (upN l p i) l.length = none) : onQ l p w = false := by
  cases h : onQ l p w with
  | false => rfl
  | true =>
    obtain ⟨j, h1, h2, h3⟩ := onQ_at.1 h
    by_cases hj : j < i
    · exact absurd h3 (hb j hj)
    · rcases he with q | q
      · omega
      · exact absurd q (h2 i (by omega))
theorem atW_neg {l : List ObjS} {w : Int} : atW l w < 0 ↔ objAt w l.length = none := by
  unfold atW
  cases objAt w l.length with
  | none => simp
  | some n => simp
theorem Sim.guard (hS : Sim k H F R) (p : Int) : (((guardF R.pub R.pub.length p H.gd).2 == (-1)) == decide (atW R.pub p < 0)) = true ∧ ((guardF R.pub R.pub.length p H.gd).2 ≠ -1 → valP (guardF R.pub R.pub.length p H.gd).1.2 (guardF R.pub R.pub.length p H.gd).2 = true) := by
  obtain ⟨h1, h2, h3⟩ := hS.gds.new hS.doc p
  refine ⟨?_, fun q => ?_⟩
  · rw [beq_iff_eq, Bool.eq_iff_iff, beq_iff_eq, decide_eq_true_eq, atW_neg]
    exact h2
  · exact valP_iff.2 (h3 fun z => q (h2.2 z)).2
theorem hq_SetInner0 (h : HInv k H F) (w : Int) {l : List Int} {A : Option Addr} {c : Nat} (hs : ∀ σ, Src W0 σ A (l.map encU)) (hl : l.length ≤ 1048576) :
    SC Tryz.prog W0 30 #[.pointer (some ⟨F.p, 0, none⟩), .int .u64 w, .slice A l.length c] (HeapV.ent H F)
    (Ret (fun H' : HeapV => H'.ent F) (fun v H' => v = .tuple #[] ∧ Stp k H H' F (modP (H.pub F) w (innerO l)) H.texts w False ∧ H'.gd = H.gd)) := by
  have := hq_SetInner h w (τ := []) (c := c) (hs []) hl
  simp only [List.append_nil] at this
  exact this
theorem rq_SetInner0 (hR : R.ok) {w : Int} (hw : wordOk w) {l : List Int} {A : Option Addr} {c : Nat} (hs : ∀ σ, Src W0 σ A (l.map encU)) (hr : l.length ≤ 1048576) :
    SC Tryz.prog W0 31 #[R.val, .int .u64 w, .slice A l.length c] R.ent
    (Ret (fun R' : RSt => R'.ent) (fun v R' => v = R'.val ∧ R'.ok ∧ R'.pub = modP R.pub w (innerO l) ∧ R'.texts = R.texts)) := by
  have := rq_SetInner (W0 := W0) hR hw (τ := []) (c := c) (hs []) hr
  simp only [List.append_nil] at this
  exact this
end Go.Proofs.YtdfhbheipagnmaaGreat
