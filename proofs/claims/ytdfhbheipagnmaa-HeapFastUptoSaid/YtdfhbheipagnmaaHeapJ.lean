/-
  Texts and elements, told by what the objects and texts are. No condition.
-/
import Derived.Test.YtdfhbheipagnmaaHeapI
import Derived.Test.YtdfhbheipagnmaaHeap7
set_option linter.unusedVariables false
set_option linter.unusedSimpArgs false
set_option maxRecDepth 100000
namespace Go.Proofs.Ytdfhbheipagnmaa
open Go.Sl
variable {k : Nat} {H : HeapV} {F : HeapF} {n : Nat} {x : ObjL} {W0 : World}
def textP (texts : List ByteArray) (key : ByteArray) : List ByteArray × Int × Bool :=
  if 0 ≤ ixS texts key then (texts, txtW (ixS texts key).toNat, true)
  else if 4096 < key.size ∨ 16384 ≤ texts.length then (texts, 18445336698825998336, false) else (texts ++ [key], txtW texts.length, true)
theorem Known.ix {texts : List ByteArray} {known : List (ByteArray × Int)} (h : Known texts known) {key : ByteArray} : (∀ w, mget known key = some w → 0 ≤ ixS texts key ∧ w = txtW (ixS texts key).toNat) ∧ (mget known key = none → ixS texts key < 0) := by
  refine ⟨fun w hw => ?_, fun hn => ?_⟩
  · obtain ⟨i, h1, h2⟩ := h.to key w hw
    have h0 : 0 ≤ ixS texts key := by
      by_cases q : ixS texts key < 0
      · exact absurd (List.mem_of_getElem? h1) (ixS_none.1 q)
      · omega
    refine ⟨h0, ?_⟩
    have := h.back _ _ (ixS_some h0)
    rw [hw] at this
    exact Option.some.inj this
  · refine ixS_none.2 fun hm => ?_
    obtain ⟨i, hi⟩ := List.getElem?_of_mem hm
    rw [h.back i key hi] at hn
    cases hn
theorem Known.more {texts : List ByteArray} {known : List (ByteArray × Int)} (h : Known texts known) {key : ByteArray} (hn : mget known key = none) : Known (texts ++ [key]) (mset known key (txtW texts.length)) := by
  have hk := ixS_none.1 (h.ix.2 hn)
  refine ⟨fun s w hw => ?_, fun i s hs => ?_⟩
  · rw [mget_mset] at hw
    by_cases e : key = s
    · rw [if_pos e] at hw; cases hw; subst e
      exact ⟨texts.length, by simp, rfl⟩
    · rw [if_neg e] at hw
      obtain ⟨i, h1, h2⟩ := h.to s w hw
      exact ⟨i, by rw [List.getElem?_append_left (List.getElem?_eq_some_iff.1 h1).1]; exact h1, h2⟩
  · rw [mget_mset]
    by_cases hi : i < texts.length
    · rw [List.getElem?_append_left hi] at hs
      rw [if_neg (fun e => hk (by rw [e]; exact List.mem_of_getElem? hs))]
      exact h.back i s hs
    · rw [List.getElem?_append_right (by omega)] at hs
      have h1 := (List.getElem?_eq_some_iff.1 hs).1
      simp at h1
      have e : i = texts.length := by omega
      subst e
      simp at hs
      rw [if_pos hs]
theorem hp_Text (h : HInv k H F) (key : ByteArray) : SC Try.prog W0 15 #[.pointer (some ⟨F.p, 0, none⟩), .string key] (H.ent F)
    (Ret (fun H' : HeapV => H'.ent F) (fun v H' => v = .tuple #[.int .u64 (textP H.texts key).2.1, .bool (textP H.texts key).2.2] ∧ HInv k H' F ∧ H'.pub F = H.pub F ∧ H'.texts = (textP H.texts key).1)) := by
  obtain ⟨i1, i2⟩ := h.known.ix (key := key)
  cases hm : mget H.known key with
  | some w =>
    obtain ⟨h0, rfl⟩ := i1 w hm
    have e : textP H.texts key = (H.texts, txtW (ixS H.texts key).toNat, true) := by unfold textP; rw [if_pos h0]
    rw [e]
    exact SC.ret (heap_Text_old h.ok hm) fun v _ hv => ⟨H, rfl, hv, h, rfl, rfl⟩
  | none =>
    have h0 := i2 hm
    by_cases hb : 4096 < key.size ∨ 16384 ≤ H.texts.length
    · have e : textP H.texts key = (H.texts, 18445336698825998336, false) := by unfold textP; rw [if_neg (by omega), if_pos hb]
      rw [e]
      exact SC.ret (heap_Text_no h.ok hm hb) fun v _ hv => ⟨H, rfl, hv, h, rfl, rfl⟩
    · have e : textP H.texts key = (H.texts ++ [key], txtW H.texts.length, true) := by unfold textP; rw [if_neg (by omega), if_neg hb]
      rw [e]
      refine SC.ret (heap_Text_new h.ok hm (by omega)) fun v g hv => ⟨H.text g key, rfl, hv.1, ⟨⟨h.ok.row, h.ok.each, hv.2, h.ok.tree, h.ok.cells, h.ok.objs, ?_, h.ok.small⟩, h.tree, h.objs, ⟨h.bud.vals, h.bud.cl, h.bud.abv, h.bud.each⟩, h.inner, h.known.more hm⟩, rfl, rfl⟩
      simp only [List.length_append, List.length_singleton]; omega
theorem hp_TextOf (h : HInv k H F) (w : Int) : SC Try.prog W0 16 #[.pointer (some ⟨F.p, 0, none⟩), .int .u64 w] (H.ent F) (Ret (fun _ : Unit => H.ent F) (fun v _ => v = textR (textO H.texts w))) := heap_TextOf h.ok w
theorem hp_Len (h : HInv k H F) {w : Int} {o : ObjS} (h0 : objAt w (H.pub F).length = some n) (ho : (H.pub F)[n]? = some o) : SC Try.prog W0 24 #[.pointer (some ⟨F.p, 0, none⟩), .int .u64 w] (H.ent F)
    (Ret (fun _ : Unit => H.ent F) (fun v _ => v = .int .i64 o.elems.length)) := by
  rw [HeapV.pub_len] at h0
  obtain ⟨x, hx, rfl⟩ := pub_obj ho
  exact heap_Len_some h.ok h0 hx
theorem hp_Elem (h : HInv k H F) {w : Int} {o : ObjS} (h0 : objAt w (H.pub F).length = some n) (ho : (H.pub F)[n]? = some o) (m : Int) : SC Try.prog W0 26 #[.pointer (some ⟨F.p, 0, none⟩), .int .u64 w, .int .i64 m] (H.ent F)
    (Ret (fun _ : Unit => H.ent F) (fun v _ => v = .tuple #[.int .u64 (elemO o.elems m).1, .bool (elemO o.elems m).2])) := by
  rw [HeapV.pub_len] at h0
  obtain ⟨x, hx, rfl⟩ := pub_obj ho
  exact heap_Elem_some h.ok h0 hx m
theorem HInv.elems (h : HInv k H F) {o : ObjS} (ho : (H.pub F)[n]? = some o) : o.elems.length ≤ 4096 := by
  obtain ⟨x, hx, rfl⟩ := pub_obj ho
  exact h.ok.small x (List.mem_of_getElem? hx)
theorem hp_SetLen_bad (h : HInv k H F) {w : Int} {o : ObjS} (h0 : objAt w (H.pub F).length = some n) (ho : (H.pub F)[n]? = some o) {m : Int} (hbad : ¬ (0 ≤ m ∧ m ≤ 4096)) :
    SC Try.prog W0 25 #[.pointer (some ⟨F.p, 0, none⟩), .int .u64 w, .int .i64 m] (H.ent F) (Ret (fun _ : Unit => H.ent F) (fun v _ => v = .bool false)) := by
  rw [HeapV.pub_len] at h0
  obtain ⟨x, hx, rfl⟩ := pub_obj ho
  exact heap_SetLen_bad h.ok h0 hx hbad
theorem hp_SetLen (hk : k ≤ 8000000) (h : HInv k H F) {w : Int} {o : ObjS} (h0 : objAt w (H.pub F).length = some n) (ho : (H.pub F)[n]? = some o) {m : Nat} (hm : m ≤ 4096) :
    SC Try.prog W0 25 #[.pointer (some ⟨F.p, 0, none⟩), .int .u64 w, .int .i64 (m : Int)] (H.ent F)
    (Ret (fun H' : HeapV => H'.ent F) (fun v H' => v = .bool true ∧ HInv k H' F ∧ H'.pub F = (H.pub F).set n ⟨o.kind, o.proto, o.shut, o.names, o.descs, setLenL o.elems m, o.inner⟩ ∧ H'.texts = H.texts)) := by
  rw [HeapV.pub_len] at h0
  obtain ⟨x, hx, rfl⟩ := pub_obj ho
  have ho' := h.obj hx
  have hr : SC Try.prog W0 25 #[.pointer (some ⟨F.p, 0, none⟩), .int .u64 w, .int .i64 (m : Int)] (H.ent F) (Ret (fun r : Gs × List CellL × Int => (H.upd n ((ObjL.chg x).withElems r.1 (setLenL x.elems m)) H.V r.2.1 r.2.2).ent F) (fun v r => v = .bool true ∧ (H.upd n ((ObjL.chg x).withElems r.1 (setLenL x.elems m)) H.V r.2.1 r.2.2).ok F ∧ Chg x.cell H.cl r.2.1)) := by
    by_cases hl : m ≤ x.elems.length
    · exact heap_SetLen_short h.ok h0 hx h.bud hk hm hl
    · exact heap_SetLen_long h.ok h0 hx h.bud hk hm (by omega)
  refine SC.ret hr fun v r ⟨h1, h2, h3⟩ => ⟨_, rfl, h1, ?_⟩
  obtain ⟨a, b⟩ := h.upd hx (x' := (ObjL.chg x).withElems r.1 (setLenL x.elems m)) (Nat.le_refl k) h2 h.tree (Ext.refl _) ⟨ho'.fast, ho'.len, ho'.nodup, ho'.stale⟩ (show x.vals.length ≤ k from h.bud.vals x (List.mem_of_getElem? hx)) (show x.inner.length ≤ 1048576 from h.in' hx) h3
  exact ⟨a, b, rfl⟩
end Go.Proofs.Ytdfhbheipagnmaa
