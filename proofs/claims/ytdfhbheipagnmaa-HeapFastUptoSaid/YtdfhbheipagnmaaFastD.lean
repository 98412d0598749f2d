/-
  An object that is put into, again and again; then dropped from: what is told of its shape and its keys. No condition.
-/
import Derived.Test.YtdfhbheipagnmaaHeapK
import Derived.Test.YtdfhbheipagnmaaAliveD
import Derived.Test.YtdfhbheipagnmaaTextsD
set_option linter.unusedVariables false
set_option linter.unusedSimpArgs false
set_option maxRecDepth 100000
namespace Go.Proofs.Ytdfhbheipagnmaa
open Go.Sl
variable {H : HeapV} {F : HeapF} {W0 : World} {i : Nat} {U : List ByteArray}
abbrev trueW : Int := 18445336698825998339
structure FastI (i : Nat) (H : HeapV) (F : HeapF) (U : List ByteArray) : Prop where
  inv : HInv i H F
  obj : ∃ D, H.pub F = [⟨0, nullW, false, U, D, [], []⟩]
  most : (H.V.abs F.T).most = 256
  many : (H.V.abs F.T).l.length ≤ i + 1
  fast : ∃ x, H.objs = [x] ∧ (0 ≤ x.shape ↔ U.length ≤ 16)
  small : U.length ≤ i
theorem FastI.x (h : FastI i H F U) : ∃ x, H.objs = [x] ∧ (0 ≤ x.shape ↔ U.length ≤ 16) ∧ keysOf (H.V.abs F.T) x = U ∧ OInv (H.V.abs F.T) x := by
  obtain ⟨x, h1, h2⟩ := h.fast
  obtain ⟨D, h3⟩ := h.obj
  refine ⟨x, h1, h2, ?_, h.inv.objs x (by rw [h1]; simp)⟩
  rw [HeapV.pub, h1] at h3
  simp only [List.map_cons, List.map_nil, List.cons.injEq, and_true] at h3
  exact congrArg ObjS.names h3
theorem FastI.nodup (h : FastI i H F U) : U.Nodup := by
  obtain ⟨x, _, _, h3, h4⟩ := h.x
  rw [← h3]; exact h4.nodup
theorem fs_Make (h : HInv 0 H F) (hp : H.pub F = []) (ht : H.V.abs F.T = ⟨256, [], []⟩) (ho : H.objs = []) : SC Try.prog W0 11 #[.pointer (some ⟨F.p, 0, none⟩), .int .i64 0, .int .u64 nullW] (H.ent F)
    (Ret (fun H' : HeapV => H'.ent F) (fun v H' => v = .tuple #[.int .u64 (objW 0), .bool true] ∧ FastI 0 H' F [])) := by
  refine SC.ret (hp_Make h (by rw [hp]; exact ⟨by omega, .inl rfl, by decide⟩)) fun v H' ⟨h1, h2, h3, h4, m, ok, h5, h6⟩ => ⟨H', rfl, by rw [hp] at h1; exact h1, h2, ⟨[], by rw [h3, hp]; rfl⟩, ?_, ?_, ?_, Nat.le_refl _⟩
  all_goals
    have g := rootP_got h.tree (rootKey nullW 0)
    rw [h5] at g
    simp only [] at g
  · rw [g.ext.most, ht]
  · have := g.more; rw [ht] at this; exact this
  · have hok : ok = true := g.full (by rw [ht]; decide)
    obtain ⟨s, a1, _, _⟩ := g.it hok
    have h0 := (shapeAt_iff.1 a1).1
    refine ⟨newObj 0 nullW m, by rw [h6, ho, if_pos hok]; rfl, fun _ => Nat.zero_le _, fun _ => h0⟩
theorem fs_Put (hi : i < 250) (h : FastI i H F U) (key : ByteArray) (d : DescP) : SC Try.prog W0 17 #[.pointer (some ⟨F.p, 0, none⟩), .int .u64 (objW 0), .string key, descV d] (H.ent F)
    (Ret (fun H' : HeapV => H'.ent F) (fun v H' => v = .tuple #[] ∧ FastI (i + 1) H' F (putNm U key))) := by
  obtain ⟨D, hD⟩ := h.obj
  refine SC.ret (hp_Put (by omega) h.inv (n := 0) (o := ⟨0, nullW, false, U, D, [], []⟩) (by rw [hD]; exact objA 1 (by decide) (by decide)) (by rw [hD]; rfl) key d) fun v H' ⟨h1, h2, h3, h4, x, x', h5⟩ => ⟨H', rfl, h1, h2, ⟨_, by rw [h3, hD]; rfl⟩, ?_, ?_, ?_, ?_⟩
  all_goals
    obtain ⟨y, y1, y2, y3, y4⟩ := h.x
    have ex : x = y := by have q := h5.was; rw [y1] at q; exact (Option.some.inj q).symm
    subst ex
    have p := putS_put h.inv.tree y4.ps key (normD d)
    rw [h5.put] at p
    simp only [] at p
  · rw [p.ext.most]; exact h.most
  · have := p.more; have := h.many; omega
  · refine ⟨x', by rw [h5.now, y1]; rfl, ?_⟩
    have q := putS_shape h.inv.tree y4.ps (by rw [h.most]; have := h.many; omega) key (normD d)
    rw [h5.put] at q
    have e1 : keysPS (H.V.abs F.T) x.ps = U := y3
    have hl : x.vals.length = U.length := by rw [← y4.len, y3]
    rw [e1] at q
    show 0 ≤ x'.ps.shape ↔ _
    rw [q]
    show (0 ≤ x.shape ∧ (ixS U key < 0 → x.vals.length < 16)) ↔ _
    rw [y2, hl]
    unfold putNm
    split
    · next hk => rw [List.length_append, List.length_singleton]; exact ⟨fun r => by have := r.2 hk; omega, fun r => ⟨by omega, fun _ => by omega⟩⟩
    · next hk => exact ⟨fun r => r.1, fun r => ⟨r, fun z => absurd z hk⟩⟩
  · have := h.small
    unfold putNm
    split <;> simp <;> omega
theorem fs_Shape (h : FastI i H F U) : SC Try.prog W0 19 #[.pointer (some ⟨F.p, 0, none⟩), .int .u64 (objW 0)] (H.ent F)
    (Ret (fun _ : Int => H.ent F) (fun v m => v = .tuple #[.int .i64 m, .bool (decide (U.length ≤ 16))])) := by
  obtain ⟨x, y1, y2, y3, y4⟩ := h.x
  refine SC.ret (heap_Shape_some h.inv.ok (objA _ (by rw [y1]; exact Nat.zero_lt_one) (by rw [y1]; exact Nat.le_of_ble_eq_true rfl)) (x := x) (by rw [y1]; rfl)) fun v _ hv => ?_
  by_cases hs : x.shape < 0
  · rw [if_pos hs] at hv
    exact ⟨0, rfl, by rw [hv, decide_eq_false (fun q => by have := y2.2 q; omega)]⟩
  · rw [if_neg hs] at hv
    exact ⟨x.shape, rfl, by rw [hv, decide_eq_true (y2.1 (by omega))]⟩
/-- It has none any more. -/
structure SlowI (i : Nat) (H : HeapV) (F : HeapF) (U : List ByteArray) (D : List DescP) : Prop where
  inv : HInv i H F
  obj : H.pub F = [⟨0, nullW, false, U, D, [], []⟩]
  slow : ∃ x, H.objs = [x] ∧ x.shape < 0
theorem SlowI.len {D : List DescP} (h : SlowI i H F U D) : U.length = D.length := by
  obtain ⟨x, h1, _⟩ := h.slow
  have ho := h.inv.objs x (by rw [h1]; simp)
  have h3 := h.obj
  rw [HeapV.pub, h1] at h3
  simp only [List.map_cons, List.map_nil, List.cons.injEq, and_true] at h3
  rw [← show keysOf (H.V.abs F.T) x = U from congrArg ObjS.names h3, ← show x.vals = D from congrArg ObjS.descs h3]
  exact ho.len
theorem fs_Drop (hi : i < 250) (h : FastI i H F U) {q : Nat} {key : ByteArray} (hq : U[q]? = some key) : SC Try.prog W0 20 #[.pointer (some ⟨F.p, 0, none⟩), .int .u64 (objW 0), .string key] (H.ent F)
    (Ret (fun r : HeapV × List ByteArray × List DescP => r.1.ent F) (fun v r => v = .bool true ∧ SlowI i r.1 F r.2.1 r.2.2 ∧ key ∉ r.2.1 ∧ r.2.1.length + 1 = U.length ∧ ((r.1.V.abs F.T).l.length < 256 ∧ (r.1.V.abs F.T).most = 256))) := by
  obtain ⟨D, hD⟩ := h.obj
  have hm : key ∈ U := List.mem_of_getElem? hq
  have h0 : ¬ ixS U key < 0 := fun z => absurd hm (ixS_none.1 z)
  refine SC.ret (hp_Drop (by omega) h.inv (n := 0) (o := ⟨0, nullW, false, U, D, [], []⟩) (by rw [hD]; exact objA 1 (by decide) (by decide)) (by rw [hD]; rfl) key) fun v H' ⟨h1, h2, h3, h4, h5, x, x', h6, h7, h8⟩ => ⟨(H', dropNm U key, dropDs U D key), rfl, ?_, ⟨h2, by rw [h3, hD]; rfl, x', ?_, h8 (by simp only []; omega)⟩, ?_, ?_, by rw [h5]; exact ⟨by have := h.many; omega, h.most⟩⟩
  · rw [h1, decide_eq_true]; simp only []; omega
  · obtain ⟨y, y1, _⟩ := h.x
    rw [h7, y1]; rfl
  · show key ∉ dropNm U key
    unfold dropNm
    rw [if_neg h0]
    have hs := ixS_some (ixS_nn h0)
    intro hk
    obtain ⟨j, hj⟩ := List.getElem?_of_mem hk
    rw [List.getElem?_eraseIdx] at hj
    have hn := h.nodup
    have hu : ∀ a b : Nat, U[a]? = some key → U[b]? = some key → a = b := fun a b ha hb => by
      have h1 := (List.getElem?_eq_some_iff.1 ha).1
      exact (List.getElem?_inj h1 hn).1 (ha.trans hb.symm)
    split at hj
    · next hlt => have := hu _ _ hj hs; omega
    · next hge => have := hu _ _ hj hs; omega
  · show (dropNm U key).length + 1 = U.length
    unfold dropNm
    rw [if_neg h0, List.length_eraseIdx, if_pos (List.getElem?_eq_some_iff.1 (ixS_some (ixS_nn h0))).1]
    have := (List.getElem?_eq_some_iff.1 hq).1
    omega
theorem normT : normD (trueW, 0, 0) = (trueW, 0, 0) := by kernel_rfl
theorem fs_Put2 (hi : i < 250) {D : List DescP} (h : SlowI i H F U D) {key : ByteArray} (hn : key ∉ U) (hr : (H.V.abs F.T).l.length < 256 ∧ (H.V.abs F.T).most = 256) : SC Try.prog W0 17 #[.pointer (some ⟨F.p, 0, none⟩), .int .u64 (objW 0), .string key, descV (trueW, 0, 0)] (H.ent F)
    (Ret (fun H' : HeapV => H'.ent F) (fun v H' => v = .tuple #[] ∧ SlowI (i + 1) H' F (U ++ [key]) (D ++ [(trueW, 0, 0)]))) := by
  have h0 : ixS U key < 0 := ixS_none.2 hn
  have hD := h.obj
  refine SC.ret (hp_Put (by omega) h.inv (n := 0) (o := ⟨0, nullW, false, U, D, [], []⟩) (by rw [hD]; exact objA 1 (by decide) (by decide)) (by rw [hD]; rfl) key (trueW, 0, 0)) fun v H' ⟨h1, h2, h3, h4, x, x', h5⟩ => ⟨H', rfl, h1, h2, ?_, ?_⟩
  · rw [h3, hD, normT]
    simp only [putNm, putDs, if_pos h0, List.set_cons_zero]
  · obtain ⟨y, y1, y2⟩ := h.slow
    have ex : x = y := by have q := h5.was; rw [y1] at q; exact (Option.some.inj q).symm
    subst ex
    have ho := h.inv.objs x (by rw [y1]; simp)
    refine ⟨x', by rw [h5.now, y1]; rfl, ?_⟩
    have q := putS_shape h.inv.tree ho.ps (by rw [hr.2]; have := hr.1; omega) key (normD (trueW, 0, 0))
    rw [h5.put] at q
    show x'.ps.shape < 0
    have : ¬ 0 ≤ x'.ps.shape := fun z => by have := (q.1 z).1; have : 0 ≤ x.shape := this; omega
    omega
theorem sl_Shape {D : List DescP} (h : SlowI i H F U D) : SC Try.prog W0 19 #[.pointer (some ⟨F.p, 0, none⟩), .int .u64 (objW 0)] (H.ent F)
    (Ret (fun _ : Unit => H.ent F) (fun v _ => v = .tuple #[.int .i64 0, .bool false])) := by
  obtain ⟨x, y1, y2⟩ := h.slow
  refine SC.ret (heap_Shape_some h.inv.ok (objA _ (by rw [y1]; exact Nat.zero_lt_one) (by rw [y1]; exact Nat.le_of_ble_eq_true rfl)) (x := x) (by rw [y1]; rfl)) fun v _ hv => ⟨(), rfl, ?_⟩
  rw [if_pos y2] at hv
  exact hv
theorem sl_Keys (hi : i < 1000) {D : List DescP} (h : SlowI i H F U D) : SC Try.prog W0 21 #[.pointer (some ⟨F.p, 0, none⟩), .int .u64 (objW 0)] (H.ent F)
    (Ret (fun g : Gs => g.ent 9 1 (U.map encS) ++ H.ent F) (fun v g => v = g.val U.length ∧ g.ok 1 U.length (U.map encS))) :=
  hp_Keys (by omega) h.inv (n := 0) (o := ⟨0, nullW, false, U, D, [], []⟩) (by rw [h.obj]; exact objA 1 (by decide) (by decide)) (by rw [h.obj]; rfl)
theorem sl_Get {D : List DescP} {key : ByteArray} {d : DescP} (h : SlowI i H F (U ++ [key]) (D ++ [d])) (hn : key ∉ U) : SC Try.prog W0 22 #[.pointer (some ⟨F.p, 0, none⟩), .int .u64 (objW 0), .string key] (H.ent F)
    (Ret (fun _ : Unit => H.ent F) (fun v _ => v = .tuple #[descV d, .bool true])) := by
  refine SC.ret (hp_Get h.inv (n := 0) (o := ⟨0, nullW, false, U ++ [key], D ++ [d], [], []⟩) (by rw [h.obj]; exact objA 1 (by decide) (by decide)) (by rw [h.obj]; rfl) key) fun v _ hv => ⟨(), rfl, ?_⟩
  have hl := h.len
  simp only [List.length_append, List.length_singleton] at hl
  have e : getP (U ++ [key]) (D ++ [d]) key = some d := by
    unfold getP
    rw [ixS_app_new (ixS_none.2 hn), if_neg (by omega)]
    rw [show ((U.length : Int)).toNat = D.length by omega]
    simp
  rw [hv, e]; rfl
theorem putNm_new {key : ByteArray} (h : key ∉ U) : putNm U key = U ++ [key] := by unfold putNm; rw [if_pos (ixS_none.2 h)]
theorem putNm_old {key : ByteArray} (h : key ∈ U) : putNm U key = U := by unfold putNm; rw [if_neg (fun z => ixS_none.1 z h)]
end Go.Proofs.Ytdfhbheipagnmaa
