/-
  The heap of 'alive', step by step. No condition.
-/
import Derived.Test.YtdfhbheipagnmaaHeapI
import Derived.Test.YtdfhbheipagnmaaHeap5
set_option linter.unusedVariables false
set_option linter.unusedSimpArgs false
set_option maxRecDepth 100000
namespace Go.Proofs.Ytdfhbheipagnmaa
open Go.Sl
abbrev keyA : ByteArray := ⟨#[97]⟩
abbrev nullW : Int := 18445336698825998337
abbrev rkA : Int := rootKey nullW 0
abbrev dA : DescP := (18444773748872577031, 0, 7)
abbrev tA0 : TreeP := ⟨5, [], []⟩
abbrev tA1 : TreeP := ⟨5, [⟨rkA, [], []⟩], [(rkA, 0)]⟩
abbrev tA2 : TreeP := ⟨5, [⟨rkA, [], [((false, keyA, 7), 1)]⟩, ⟨rkA, [(keyA, 7)], []⟩], [(rkA, 0)]⟩
theorem rootA : rootP tA0 rkA = (tA1, 0, true) := by kernel_rfl
theorem putA : putS tA1 ⟨0, [], []⟩ keyA dA = (tA2, ⟨1, [], [dA]⟩) := by kernel_rfl
theorem findA : findP tA2 1 keyA = (0, 7, true) := by kernel_rfl
theorem placeA : placeO tA2 1 [] keyA = 0 := by kernel_rfl
theorem normA : normF 7 = 7 := by kernel_rfl
theorem objA (len : Nat) (h : 0 < len) (hl : len ≤ 65536) : objAt (objW 0) len = some 0 := objAt_mk h hl
structure A0 (H : HeapV) (F : HeapF) : Prop where
  inv : HInv 0 H F
  objs : H.objs = []
  tree : H.V.abs F.T = tA0
structure A1 (H : HeapV) (F : HeapF) : Prop where
  inv : HInv 0 H F
  objs : H.objs = [newObj 0 nullW 0]
  tree : H.V.abs F.T = tA1
structure A2 (H : HeapV) (F : HeapF) : Prop where
  ok : H.ok F
  len : H.objs.length = 1
  obj : ∃ x, H.objs[0]? = some x ∧ x.ps = ⟨1, [], [dA]⟩ ∧ OInv (H.V.abs F.T) x
  tree : H.V.abs F.T = tA2
variable {H : HeapV} {F : HeapF} {W0 : World}
theorem al_New : SC Try.prog W0 9 #[.int .i64 5] [] (Ret (fun r : HeapV × HeapF => r.1.ent r.2) (fun v r => v = .pointer (some ⟨r.2.p, 0, none⟩) ∧ A0 r.1 r.2)) := by
  refine SC.ret (hp_New 5) fun v r ⟨h1, h2, h3, h4, h5, h6, h7⟩ => ⟨r, rfl, h1, h2, h6, h5⟩
theorem al_Make (h : A0 H F) : SC Try.prog W0 11 #[.pointer (some ⟨F.p, 0, none⟩), .int .i64 0, .int .u64 nullW] (H.ent F)
    (Ret (fun H' : HeapV => H'.ent F) (fun v H' => v = .tuple #[.int .u64 (objW 0), .bool true] ∧ A1 H' F)) := by
  have hp : H.pub F = [] := by rw [HeapV.pub, h.objs]; rfl
  refine SC.ret (hp_Make h.inv ⟨by omega, .inl rfl, by rw [hp]; decide⟩) fun v H' ⟨h1, h2, h3, h4, m, ok, h5, h6⟩ => ⟨H', rfl, by rw [hp] at h1; exact h1, h2, ?_, ?_⟩
  all_goals
    rw [h.tree] at h5
    have e := h5.symm.trans rootA
    simp only [Prod.mk.injEq] at e
    obtain ⟨e1, rfl, rfl⟩ := e
  · rw [h6, h.objs]; rfl
  · exact e1
theorem al_Put (h : A1 H F) : SC Try.prog W0 17 #[.pointer (some ⟨F.p, 0, none⟩), .int .u64 (objW 0), .string keyA, descV dA] (H.ent F)
    (Ret (fun H' : HeapV => H'.ent F) (fun v H' => v = .tuple #[] ∧ A2 H' F)) := by
  have hl : H.objs.length = 1 := by rw [h.objs]; rfl
  have hx : H.objs[0]? = some (newObj 0 nullW 0) := by rw [h.objs]; rfl
  have hI := h.inv.obj hx
  refine SC.ret (heap_Put_some h.inv.ok (objA _ (by omega) (by omega)) hx hI h.inv.bud (by omega) keyA dA) fun v r ⟨h1, h2, h3, h4, h5⟩ => ⟨_, rfl, h1, h2, by simp [h.objs], ?_, ?_⟩
  all_goals
    rw [h.tree] at h4 hI
    have h4' := h4
    rw [show ((dA.1, dA.2.1, normF dA.2.2) : DescP) = dA from by rw [normA]] at h4'
    have e := h4'.symm.trans putA
    simp only [Prod.mk.injEq] at e
    obtain ⟨e1, e2⟩ := e
  · refine ⟨r.1, by simp [h.objs], e2, ?_⟩
    have ht := h.inv.tree
    rw [h.tree] at ht
    have p := putS_put ht hI.ps keyA dA
    rw [h4'] at p
    refine PInv.obj ?_
    have := p.obj
    simp only [] at this
    rw [h3.proto, h3.kind]
    exact this
  · exact e1
theorem al_Get (h : A2 H F) : SC Try.prog W0 22 #[.pointer (some ⟨F.p, 0, none⟩), .int .u64 (objW 0), .string keyA] (H.ent F)
    (Ret (fun _ : Unit => H.ent F) (fun v _ => v = .tuple #[descV dA, .bool true])) := by
  obtain ⟨x, hx, hp, ho⟩ := h.obj
  refine SC.ret (heap_Get_some h.ok (objA _ (by rw [h.len]; decide) (by rw [h.len]; decide)) hx ho keyA) fun v _ e => ⟨(), rfl, e.trans ?_⟩
  have h1 : x.shape = 1 := congrArg PS.shape hp
  have h2 : x.names = [] := congrArg PS.names hp
  have h3 : x.vals = [dA] := congrArg PS.vals hp
  unfold getO
  rw [h.tree, h1, h2, placeA, h3]; rfl
theorem al_Shape (h : A2 H F) : SC Try.prog W0 19 #[.pointer (some ⟨F.p, 0, none⟩), .int .u64 (objW 0)] (H.ent F)
    (Ret (fun _ : Unit => H.ent F) (fun v _ => v = .tuple #[.int .i64 1, .bool true])) := by
  obtain ⟨x, hx, hp, ho⟩ := h.obj
  refine SC.ret (heap_Shape_some h.ok (objA _ (by rw [h.len]; decide) (by rw [h.len]; decide)) hx) fun v _ e => ⟨(), rfl, e.trans ?_⟩
  rw [show x.shape = 1 from congrArg PS.shape hp]; rfl
theorem al_Find (h : A2 H F) : SC Try.prog W0 28 #[.pointer (some ⟨F.p, 0, none⟩), .int .i64 1, .string keyA] (H.ent F)
    (Ret (fun _ : Unit => H.ent F) (fun v _ => v = .tuple #[.int .i64 0, .int .i64 7, .bool true])) := by
  refine SC.ret (heap_Find h.ok 1 keyA) fun v _ e => ⟨(), rfl, e.trans ?_⟩
  rw [h.tree, findA]
theorem al_Objects (h : A2 H F) : SC Try.prog W0 37 #[.pointer (some ⟨F.p, 0, none⟩)] (H.ent F)
    (Ret (fun _ : Unit => H.ent F) (fun v _ => v = .int .i64 1)) := by
  refine SC.ret (heap_Objects h.ok) fun v _ e => ⟨(), rfl, e.trans ?_⟩
  rw [h.len]; rfl
def refInt (n : Int) : Int := IntKind.wrap .u64 (18444773748872577024 + IntKind.wrap .u64 (IntKind.wrap .u32 n))
theorem refInt7 : refInt 7 = 18444773748872577031 := by decide
end Go.Proofs.Ytdfhbheipagnmaa
