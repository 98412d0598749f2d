/-
  Elements, told by what the objects are; what laying some and cutting comes to. No condition.
-/
import Derived.Test.YtdfhbheipagnmaaHeapJ
import Derived.Test.YtdfhbheipagnmaaHeap8
set_option linter.unusedVariables false
set_option linter.unusedSimpArgs false
set_option maxRecDepth 100000
namespace Go.Proofs.Ytdfhbheipagnmaa
open Go.Sl
variable {k : Nat} {H : HeapV} {F : HeapF} {n : Nat} {x : ObjL} {W0 : World}
def setElemL (l : List Int) (m : Int) (w : Int) : List Int := if 0 ≤ m ∧ m < 4096 then (setLenL l (max l.length (m.toNat + 1))).set m.toNat w else l
def setLenQ (l : List Int) (m : Int) : List Int := if 0 ≤ m ∧ m ≤ 4096 then setLenL l m.toNat else l
theorem SameE.inv {t : TreeP} {x x' : ObjL} {l : List Int} (h : SameE x x' l) (ho : OInv t x) : OInv t x' ∧ pubO t x' = ⟨x.kind, x.proto, x.shut, keysOf t x, x.vals, l, x.inner⟩ := by
  obtain ⟨kind, proto, shut, shape, ns, names, vs, vals, es, elems, is, inner, cell⟩ := x'
  obtain ⟨rfl, rfl, rfl, rfl, rfl, rfl, rfl, rfl, rfl, rfl, rfl, rfl⟩ := h
  exact ⟨⟨ho.fast, ho.len, ho.nodup, ho.stale⟩, rfl⟩
theorem hp_SetElem (hk : k ≤ 8000000) (h : HInv k H F) {w : Int} {o : ObjS} (h0 : objAt w (H.pub F).length = some n) (ho : (H.pub F)[n]? = some o) (m wd : Int) :
    SC Try.prog W0 23 #[.pointer (some ⟨F.p, 0, none⟩), .int .u64 w, .int .i64 m, .int .u64 wd] (H.ent F)
    (Ret (fun H' : HeapV => H'.ent F) (fun v H' => v = .bool (decide (0 ≤ m ∧ m < 4096)) ∧ HInv k H' F ∧ H'.pub F = (H.pub F).set n ⟨o.kind, o.proto, o.shut, o.names, o.descs, setElemL o.elems m wd, o.inner⟩ ∧ H'.texts = H.texts)) := by
  rw [HeapV.pub_len] at h0
  obtain ⟨x, hx, rfl⟩ := pub_obj ho
  have ho' := h.obj hx
  by_cases hm : 0 ≤ m ∧ m < 4096
  · obtain ⟨q, rfl⟩ := Int.eq_ofNat_of_zero_le hm.1
    have e1 : setElemL (pubO (H.V.abs F.T) x).elems (q : Int) wd = (setLenL x.elems (max x.elems.length (q + 1))).set q wd := by unfold setElemL; rw [if_pos hm]; rfl
    rw [e1, decide_eq_true hm]
    have hr : SC Try.prog W0 23 #[.pointer (some ⟨F.p, 0, none⟩), .int .u64 w, .int .i64 (q : Int), .int .u64 wd] (H.ent F) (Ret (fun r : ObjL × List CellL × Int => (H.upd n r.1 H.V r.2.1 r.2.2).ent F) (fun v r => v = .bool true ∧ (H.upd n r.1 H.V r.2.1 r.2.2).ok F ∧ SameE x r.1 ((setLenL x.elems (max x.elems.length (q + 1))).set q wd) ∧ Chg x.cell H.cl r.2.1)) := by
      by_cases hl : q < x.elems.length
      · have e2 : setLenL x.elems (max x.elems.length (q + 1)) = x.elems := by rw [show max x.elems.length (q + 1) = x.elems.length by omega]; exact setLenL_self _
        rw [e2]
        exact heap_SetElem_fast h.ok h0 hx h.bud hk (by omega) hl
      · exact heap_SetElem_slow h.ok h0 hx h.bud hk (by omega) (by omega)
    refine SC.ret hr fun v r ⟨h1, h2, h3, h4⟩ => ⟨_, rfl, h1, ?_⟩
    obtain ⟨i1, i2⟩ := h3.inv ho'
    obtain ⟨a, b⟩ := h.upd hx (Nat.le_refl k) h2 h.tree (Ext.refl _) i1 (by rw [h3.vals]; exact h.bud.vals x (List.mem_of_getElem? hx)) (by rw [h3.inner]; exact h.in' hx) h4
    exact ⟨a, by rw [b, i2]; rfl, rfl⟩
  · have e1 : setElemL (pubO (H.V.abs F.T) x).elems m wd = x.elems := by unfold setElemL; rw [if_neg hm]; rfl
    rw [e1, decide_eq_false hm]
    exact SC.ret (heap_SetElem_bad h.ok hm) fun v _ hv => ⟨H, rfl, hv, h, (set_same ho).symm, rfl⟩
theorem hp_SetLenQ (hk : k ≤ 8000000) (h : HInv k H F) {w : Int} {o : ObjS} (h0 : objAt w (H.pub F).length = some n) (ho : (H.pub F)[n]? = some o) (m : Int) :
    SC Try.prog W0 25 #[.pointer (some ⟨F.p, 0, none⟩), .int .u64 w, .int .i64 m] (H.ent F)
    (Ret (fun H' : HeapV => H'.ent F) (fun v H' => v = .bool (decide (0 ≤ m ∧ m ≤ 4096)) ∧ HInv k H' F ∧ H'.pub F = (H.pub F).set n ⟨o.kind, o.proto, o.shut, o.names, o.descs, setLenQ o.elems m, o.inner⟩ ∧ H'.texts = H.texts)) := by
  by_cases hm : 0 ≤ m ∧ m ≤ 4096
  · obtain ⟨q, rfl⟩ := Int.eq_ofNat_of_zero_le hm.1
    rw [decide_eq_true hm, show setLenQ o.elems (q : Int) = setLenL o.elems q from by unfold setLenQ; rw [if_pos hm]; rfl]
    exact hp_SetLen hk h h0 ho (by omega)
  · rw [decide_eq_false hm, show setLenQ o.elems m = o.elems from by unfold setLenQ; rw [if_neg hm]]
    exact SC.ret (hp_SetLen_bad h h0 ho hm) fun v _ hv => ⟨H, rfl, hv, h, (set_same ho).symm, rfl⟩
theorem setElemL_len (l : List Int) (m w : Int) (hl : l.length ≤ 4096) : (setElemL l m w).length = if 0 ≤ m ∧ m < 4096 then max l.length (m.toNat + 1) else l.length := by
  unfold setElemL
  split
  · rw [List.length_set, setLenL_len]
  · rfl
/-- Where the loop over the places stands. -/
structure ElI (l : List Int) (w : Int) (i : Nat) (E : List Int) : Prop where
  len : E.length ≤ 4096
  laid : ∀ j m, j < i → l[j]? = some m → 0 ≤ m → m < 4096 → E[m.toNat]? = some w
theorem ElI.start (l : List Int) (w : Int) : ElI l w 0 [] := ⟨Nat.zero_le _, fun j m h => by omega⟩
theorem ElI.step {l : List Int} {w m : Int} {i : Nat} {E : List Int} (h : ElI l w i E) (hm : l[i]? = some m) : ElI l w (i + 1) (setElemL E m w) := by
  have hl := h.len
  refine ⟨by rw [setElemL_len E m w hl]; split <;> omega, fun j q hj hq h0 h1 => ?_⟩
  have hold : ∀ q : Int, E[q.toNat]? = some w → (setElemL E m w)[q.toNat]? = some w := fun q hq => by
    unfold setElemL
    split
    · by_cases e : m.toNat = q.toNat
      · rw [e, List.getElem?_set_self]
        have := (List.getElem?_eq_some_iff.1 hq).1
        rw [setLenL_len]; omega
      · rw [List.getElem?_set_ne e]
        have h2 := (List.getElem?_eq_some_iff.1 hq).1
        unfold setLenL
        rw [List.take_of_length_le (by omega), List.getElem?_append_left h2]; exact hq
    · exact hq
  by_cases e : j = i
  · subst e
    rw [hm] at hq; cases hq
    unfold setElemL
    rw [if_pos ⟨h0, h1⟩, List.getElem?_set_self]
    rw [setLenL_len]; omega
  · exact hold q (h.laid j q (by omega) hq h0 h1)
/-- What is told of a place at the end. -/
theorem ElI.tells {l : List Int} {w m : Int} {i : Nat} {E : List Int} (h : ElI l w l.length E) (hm : l[i]? = some m) {many : Nat} (hmany : many ≤ 4096) :
    elemO (setLenL E many) m = if 0 ≤ m ∧ m < many ∧ w ≠ 18445336698825998340 then (w, true) else (18445336698825998336, false) := by
  have hi := (List.getElem?_eq_some_iff.1 hm).1
  unfold elemO
  rw [setLenL_len]
  by_cases h0 : 0 ≤ m ∧ m < many
  · rw [if_pos h0]
    have h1 := h.laid i m hi hm h0.1 (by omega)
    have h2 := (List.getElem?_eq_some_iff.1 h1).1
    have h3 : (setLenL E many)[m.toNat]? = some w := by
      unfold setLenL
      rw [List.getElem?_append_left (by rw [List.length_take]; omega), List.getElem?_take_of_lt (by omega)]
      exact h1
    rw [h3]
    simp only []
    by_cases hw : w = 18445336698825998340
    · rw [if_pos hw, if_neg (fun q => q.2.2 hw)]
    · rw [if_neg hw, if_pos ⟨h0.1, h0.2, hw⟩]
  · rw [if_neg h0, if_neg (fun q => h0 ⟨q.1, q.2.1⟩)]
end Go.Proofs.Ytdfhbheipagnmaa
