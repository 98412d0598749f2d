/-
  Properties, told by what the objects are: put, get, drop, keys. No condition.
-/
import Derived.Test.YtdfhbheipagnmaaHeapI
import Derived.Test.YtdfhbheipagnmaaHeap5
import Derived.Test.YtdfhbheipagnmaaHeap9
set_option linter.unusedVariables false
set_option linter.unusedSimpArgs false
set_option maxRecDepth 100000
namespace Go.Proofs.Ytdfhbheipagnmaa
open Go.Sl
variable {k : Nat} {H : HeapV} {F : HeapF} {n : Nat} {x : ObjL} {W0 : World}
def putNm (names : List ByteArray) (key : ByteArray) : List ByteArray := if ixS names key < 0 then names ++ [key] else names
def putDs (names : List ByteArray) (descs : List DescP) (key : ByteArray) (d : DescP) : List DescP := if ixS names key < 0 then descs ++ [d] else descs.set (ixS names key).toNat d
def normD (d : DescP) : DescP := (d.1, d.2.1, normF d.2.2)
def getP (names : List ByteArray) (descs : List DescP) (key : ByteArray) : Option DescP := if ixS names key < 0 then none else descs[(ixS names key).toNat]?
theorem putDs_len (names : List ByteArray) (descs : List DescP) (key : ByteArray) (d : DescP) : (putDs names descs key d).length ≤ descs.length + 1 := by unfold putDs; split <;> simp
theorem getO_pub {t : TreeP} (h : OInv t x) (key : ByteArray) : getO t x key = getP (keysOf t x) x.vals key := by
  have e : placeO t x.shape x.names key = if ixS (keysOf t x) key < 0 then -1 else ixS (keysOf t x) key := placePS h.ps key
  unfold getO getP
  rw [e]
  by_cases hk : ixS (keysOf t x) key < 0
  · rw [if_pos hk, if_pos hk, if_pos (by decide)]
  · rw [if_neg hk, if_neg hk]
theorem Same.pub {t : TreeP} {x x' : ObjL} (h : Same x x') : pubO t x' = ⟨x.kind, x.proto, x.shut, keysOf t x', x'.vals, x.elems, x.inner⟩ := by
  unfold pubO
  rw [h.kind, h.proto, h.shut, h.elems, h.inner]
/-- How a put turns an object, and the tree. -/
structure PutR (H H' : HeapV) (F : HeapF) (n : Nat) (key : ByteArray) (d : DescP) (x x' : ObjL) : Prop where
  was : H.objs[n]? = some x
  now : H'.objs = H.objs.set n x'
  put : putS (H.V.abs F.T) x.ps key (normD d) = (H'.V.abs F.T, x'.ps)
  same : Same x x'
theorem hp_Put (hk : k ≤ 8000000) (h : HInv k H F) {w : Int} {o : ObjS} (h0 : objAt w (H.pub F).length = some n) (ho : (H.pub F)[n]? = some o) (key : ByteArray) (d : DescP) :
    SC Try.prog W0 17 #[.pointer (some ⟨F.p, 0, none⟩), .int .u64 w, .string key, descV d] (H.ent F)
    (Ret (fun H' : HeapV => H'.ent F) (fun v H' => v = .tuple #[] ∧ HInv (k + 1) H' F ∧ H'.pub F = (H.pub F).set n ⟨o.kind, o.proto, o.shut, putNm o.names key, putDs o.names o.descs key (normD d), o.elems, o.inner⟩ ∧ H'.texts = H.texts ∧ ∃ x x', PutR H H' F n key d x x')) := by
  rw [HeapV.pub_len] at h0
  obtain ⟨x, hx, rfl⟩ := pub_obj ho
  have ho' := h.obj hx
  refine SC.ret (heap_Put_some h.ok h0 hx ho' h.bud hk key d) fun v r ⟨h1, h2, h3, h4, h5⟩ => ⟨_, rfl, h1, ?_⟩
  have p := putS_put h.tree ho'.ps key (normD d)
  rw [show putS (H.V.abs F.T) x.ps key (normD d) = _ from h4] at p
  simp only [] at p
  have hi : OInv (r.2.1.abs F.T) r.1 := PInv.obj (by rw [h3.proto, h3.kind]; exact p.obj)
  have hvl : r.1.vals = putDs (keysOf (H.V.abs F.T) x) x.vals key (normD d) := p.vals
  have hkl : keysOf (r.2.1.abs F.T) r.1 = putNm (keysOf (H.V.abs F.T) x) key := p.keys
  obtain ⟨a, b⟩ := h.upd hx (Nat.le_succ k) h2 p.inv p.ext hi (by rw [hvl]; have := putDs_len (keysOf (H.V.abs F.T) x) x.vals key (normD d); have := h.bud.vals x (List.mem_of_getElem? hx); omega) (by rw [h3.inner]; exact h.in' hx) h5
  exact ⟨a, by rw [b, h3.pub, hkl, hvl]; rfl, rfl, x, r.1, hx, rfl, h4, h3⟩
theorem hp_Get (h : HInv k H F) {w : Int} {o : ObjS} (h0 : objAt w (H.pub F).length = some n) (ho : (H.pub F)[n]? = some o) (key : ByteArray) :
    SC Try.prog W0 22 #[.pointer (some ⟨F.p, 0, none⟩), .int .u64 w, .string key] (H.ent F) (Ret (fun _ : Unit => H.ent F) (fun v _ => v = descR (getP o.names o.descs key))) := by
  rw [HeapV.pub_len] at h0
  obtain ⟨x, hx, rfl⟩ := pub_obj ho
  have := heap_Get_some (W0 := W0) h.ok h0 hx (h.obj hx) key
  rw [getO_pub (h.obj hx)] at this
  exact this
def dropNm (names : List ByteArray) (key : ByteArray) : List ByteArray := if ixS names key < 0 then names else names.eraseIdx (ixS names key).toNat
def dropDs (names : List ByteArray) (descs : List DescP) (key : ByteArray) : List DescP := if ixS names key < 0 then descs else descs.eraseIdx (ixS names key).toNat
theorem drop_inv {t : TreeP} {x x' : ObjL} {q : Nat} (ho : OInv t x) (hs : Same x x') (hq : q < x.vals.length) (hp : x'.ps = ⟨if 0 ≤ x.shape then -1 else x.shape, (keysOf t x).eraseIdx q, x.vals.eraseIdx q⟩) : OInv t x' ∧ keysOf t x' = (keysOf t x).eraseIdx q ∧ x'.shape < 0 := by
  have e1 : x'.shape = if 0 ≤ x.shape then -1 else x.shape := congrArg PS.shape hp
  have e2 : x'.names = (keysOf t x).eraseIdx q := congrArg PS.names hp
  have e3 : x'.vals = x.vals.eraseIdx q := congrArg PS.vals hp
  have hneg : x'.shape < 0 := by rw [e1]; split <;> omega
  have hk : keysOf t x' = (keysOf t x).eraseIdx q := by unfold keysOf at e2 ⊢; rw [if_pos hneg]; exact e2
  have hl := ho.len
  refine ⟨⟨fun h => by omega, ?_, ?_, fun h => by omega⟩, hk, hneg⟩
  · rw [hk, e3, List.length_eraseIdx, List.length_eraseIdx, hl]
  · rw [hk]; exact ho.nodup.sublist (List.eraseIdx_sublist _ _)
theorem hp_Drop (hk : k ≤ 8000000) (h : HInv k H F) {w : Int} {o : ObjS} (h0 : objAt w (H.pub F).length = some n) (ho : (H.pub F)[n]? = some o) (key : ByteArray) :
    SC Try.prog W0 20 #[.pointer (some ⟨F.p, 0, none⟩), .int .u64 w, .string key] (H.ent F)
    (Ret (fun H' : HeapV => H'.ent F) (fun v H' => v = .bool (decide (0 ≤ ixS o.names key)) ∧ HInv k H' F ∧ H'.pub F = (H.pub F).set n ⟨o.kind, o.proto, o.shut, dropNm o.names key, dropDs o.names o.descs key, o.elems, o.inner⟩ ∧ H'.texts = H.texts ∧ H'.V = H.V ∧
      ∃ x x', H.objs[n]? = some x ∧ H'.objs = H.objs.set n x' ∧ (0 ≤ ixS o.names key → x'.shape < 0))) := by
  rw [HeapV.pub_len] at h0
  obtain ⟨x, hx, rfl⟩ := pub_obj ho
  have ho' := h.obj hx
  have e := placePS ho'.ps key
  by_cases hn : ixS (keysOf (H.V.abs F.T) x) key < 0
  · have hno : placeO (H.V.abs F.T) x.shape x.names key < 0 := by
      rw [show placeO (H.V.abs F.T) x.shape x.names key = _ from e]
      show (if ixS (keysOf (H.V.abs F.T) x) key < 0 then (-1 : Int) else _) < 0
      rw [if_pos hn]; decide
    refine SC.ret (heap_Drop_no h.ok h0 hx hno) fun v _ hv => ⟨H, rfl, ?_, h, ?_, rfl, rfl, x, x, hx, (set_same hx).symm, fun q => absurd q (by simp only [pubO]; omega)⟩
    · rw [hv, decide_eq_false]
      simp only [pubO]; omega
    · have d1 : dropNm (pubO (H.V.abs F.T) x).names key = keysOf (H.V.abs F.T) x := if_pos hn
      have d2 : dropDs (pubO (H.V.abs F.T) x).names (pubO (H.V.abs F.T) x).descs key = x.vals := if_pos hn
      rw [d1, d2]
      exact (set_same ho).symm
  · obtain ⟨q, hq⟩ := Int.eq_ofNat_of_zero_le (show 0 ≤ ixS (keysOf (H.V.abs F.T) x) key by omega)
    have hyes : placeO (H.V.abs F.T) x.shape x.names key = q := by
      rw [show placeO (H.V.abs F.T) x.shape x.names key = _ from e]
      show (if ixS (keysOf (H.V.abs F.T) x) key < 0 then (-1 : Int) else ixS (keysOf (H.V.abs F.T) x) key) = q
      rw [if_neg hn]; exact hq
    have hql : q < x.vals.length := by
      have := (List.getElem?_eq_some_iff.1 (ixS_some (show 0 ≤ ixS (keysOf (H.V.abs F.T) x) key by omega))).1
      rw [ho'.len, hq] at this
      simpa using this
    refine SC.ret (heap_Drop_yes h.ok h0 hx ho' h.bud hk hyes) fun v r ⟨h1, h2, h3, h4, h5⟩ => ⟨_, rfl, ?_, ?_⟩
    · rw [h1, decide_eq_true]
      simp only [pubO]; omega
    · obtain ⟨i1, i2, i3⟩ := drop_inv ho' h3 hql h4
      have e3 : r.1.vals = x.vals.eraseIdx q := congrArg PS.vals h4
      obtain ⟨a, b⟩ := h.upd hx (Nat.le_refl k) h2 h.tree (Ext.refl _) i1 (by rw [e3, List.length_eraseIdx]; have := h.bud.vals x (List.mem_of_getElem? hx); split <;> omega) (by rw [h3.inner]; exact h.in' hx) h5
      refine ⟨a, ?_, rfl, rfl, x, r.1, hx, rfl, fun _ => i3⟩
      have d1 : dropNm (pubO (H.V.abs F.T) x).names key = (keysOf (H.V.abs F.T) x).eraseIdx q := (if_neg hn).trans (by show _ = _; rw [show ixS (pubO (H.V.abs F.T) x).names key = (q : Int) from hq]; rfl)
      have d2 : dropDs (pubO (H.V.abs F.T) x).names (pubO (H.V.abs F.T) x).descs key = x.vals.eraseIdx q := (if_neg hn).trans (by show _ = _; rw [show ixS (pubO (H.V.abs F.T) x).names key = (q : Int) from hq]; rfl)
      rw [b, h3.pub, i2, e3, d1, d2]; rfl
theorem hp_Keys (hk : k ≤ 8000000) (h : HInv k H F) {w : Int} {o : ObjS} (h0 : objAt w (H.pub F).length = some n) (ho : (H.pub F)[n]? = some o) :
    SC Try.prog W0 21 #[.pointer (some ⟨F.p, 0, none⟩), .int .u64 w] (H.ent F)
    (Ret (fun g : Gs => g.ent 9 1 (o.names.map encS) ++ H.ent F) (fun v g => v = g.val o.names.length ∧ g.ok 1 o.names.length (o.names.map encS))) := by
  rw [HeapV.pub_len] at h0
  obtain ⟨x, hx, rfl⟩ := pub_obj ho
  by_cases hs : x.shape < 0
  · have := (h.obj hx).names hs
    have := h.bud.vals x (List.mem_of_getElem? hx)
    exact heap_Keys_slow h.ok h0 hx hs (by omega)
  · exact heap_Keys_fast h.ok h0 hx hs
/-- Has it a shape afterwards, where there is room for one more? -/
theorem putS_shape {t : TreeP} (hT : TInv t) {rk : Int} {p : PS} (h : PInv t rk p) (hroom : (t.l.length : Int) < t.most) (key : ByteArray) (d : DescP) :
    0 ≤ (putS t p key d).2.shape ↔ (0 ≤ p.shape ∧ (ixS (keysPS t p) key < 0 → p.vals.length < 16)) := by
  unfold putS
  rw [placePS h]
  by_cases hk : ixS (keysPS t p) key < 0
  · rw [if_pos hk, if_neg (by decide)]
    have hkn := ixS_none.1 hk
    unfold putNew
    by_cases h16 : 16 ≤ p.vals.length
    · rw [if_pos h16]
      obtain ⟨l1, l2, l3, l4⟩ := h.loose
      have e : putFast t (looseS t p) key d = (t, looseS t p) := by unfold putFast; rw [if_neg (by omega)]
      rw [e]
      have e2 : (putName (looseS t p) key).shape = (looseS t p).shape := by unfold putName; split <;> rfl
      simp only [e2]
      refine ⟨fun q => by omega, fun q => absurd (q.2 hk) (by omega)⟩
    · rw [if_neg h16]
      by_cases hs : 0 ≤ p.shape
      · obtain ⟨s, g1, g2, g3, g4⟩ := h.shape_l hs
        have g := addP_got hT g1 (key := key) d.2.2 (by rw [← g4]; exact hkn)
        have hok := g.full hroom
        obtain ⟨s', a1, a2, a3⟩ := g.it hok
        have h0 := (shapeAt_iff.1 a1).1
        have e : putFast t p key d = ((addP t p.shape key d.2.2).1, ⟨(addP t p.shape key d.2.2).2.1, p.names, p.vals⟩) := by
          unfold putFast stepS; rw [if_pos hs, if_pos hok]
        rw [e]
        have e2 : ∀ y : PS, (putName y key).shape = y.shape := fun y => by unfold putName; split <;> rfl
        simp only [e2]
        exact ⟨fun _ => ⟨hs, fun _ => by omega⟩, fun _ => h0⟩
      · have e : putFast t p key d = (t, p) := by unfold putFast; rw [if_neg hs]
        rw [e]
        have e2 : (putName p key).shape = p.shape := by unfold putName; split <;> rfl
        simp only [e2]
        exact ⟨fun q => absurd q hs, fun q => absurd q.1 hs⟩
  · rw [if_neg hk, if_pos (by omega)]
    have hlt : (ixS (keysPS t p) key).toNat < p.vals.length := by
      have := (List.getElem?_eq_some_iff.1 (ixS_some (ixS_nn hk))).1
      rw [h.len] at this; exact this
    obtain ⟨o, ho⟩ : ∃ o, p.vals[(ixS (keysPS t p) key).toNat]? = some o := ⟨_, List.getElem?_eq_getElem hlt⟩
    rw [ho]
    simp only []
    have hkm : key ∈ keysPS t p := List.mem_of_getElem? (ixS_some (ixS_nn hk))
    unfold putOld
    by_cases hc : 0 ≤ p.shape ∧ (o.2.2 != d.2.2) = true
    · rw [if_pos hc]
      obtain ⟨s, g1, g2, g3, g4⟩ := h.shape_l hc.1
      have g := changeP_got hT g1 (key := key) d.2.2 (by rw [← g4]; exact hkm)
      have hok := g.full hroom
      obtain ⟨s', a1, a2, a3⟩ := g.it hok
      have h0 := (shapeAt_iff.1 a1).1
      unfold stepS
      rw [if_pos hok]
      exact ⟨fun _ => ⟨hc.1, fun q => absurd q hk⟩, fun _ => h0⟩
    · rw [if_neg hc]
      exact ⟨fun q => ⟨q, fun r => absurd r hk⟩, fun q => q.1⟩
end Go.Proofs.Ytdfhbheipagnmaa
