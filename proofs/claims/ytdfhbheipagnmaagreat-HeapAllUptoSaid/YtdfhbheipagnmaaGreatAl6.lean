/-
  The heap of 'alive', step by step. No condition.
-/
import Derived.Test.YtdfhbheipagnmaaGreatAl4
import Derived.Test.YtdfhbheipagnmaaGreatAl5
import Derived.Test.YtdfhbheipagnmaaGreatAl1
set_option linter.unusedVariables false
set_option linter.unusedSimpArgs false
set_option maxRecDepth 100000
set_option maxHeartbeats 4000000
namespace Go.Proofs.YtdfhbheipagnmaaGreat
open Go.Sl
abbrev keyA : ByteArray := ⟨#[97]⟩
abbrev nullW : Int := 18445336698825998337
abbrev rkA : Int := rootKey nullW 0
abbrev dA : DescP := (18444773748872577031, 0, 7)
abbrev tA0 : TreeP := ⟨5, [], []⟩
abbrev tA1 : TreeP := ⟨5, [⟨rkA, [], []⟩], [(rkA, 0)]⟩
abbrev tA2 : TreeP := ⟨5, [⟨rkA, [], [((false, keyA, 7), 1)]⟩, ⟨rkA, [(keyA, 7)], []⟩], [(rkA, 0)]⟩
theorem rootA : rootP tA0 rkA = (tA1, 0, true) := by kernel_rfl
theorem putA : putS tA1 ⟨0, [], []⟩ keyA dA = (tA2, ⟨1, [], [dA]⟩) := by kernel_rfl
theorem findA : findP tA2 1 keyA = (0, 7, true) := by kernel_rfl
theorem placeA : placeO tA2 1 [] keyA = 0 := by kernel_rfl
theorem normA : normF 7 = 7 := by kernel_rfl
theorem objA (len : Nat) (h : 0 < len) (hl : len ≤ 65536) : objAt (objW 0) len = some 0 := objAt_mk h hl
structure A0 (H : HeapV) (F : HeapF) : Prop where
  inv : HInv 0 H F
  objs : H.objs = []
  tree : H.V.abs F.T = tA0
structure A1 (H : HeapV) (F : HeapF) : Prop where
  inv : HInv 0 H F
  objs : H.objs = [newObj 0 nullW 0]
  tree : H.V.abs F.T = tA1
structure A2 (H : HeapV) (F : HeapF) : Prop where
  ok : H.ok F
  len : H.objs.length = 1
  obj : ∃ x, H.objs[0]? = some x ∧ x.ps = ⟨1, [], [dA]⟩ ∧ OInv (H.V.abs F.T) x
  tree : H.V.abs F.T = tA2
variable {H : HeapV} {F : HeapF} {W0 : World}
theorem al_New : SC Tryz.prog W0 4 #[.int .i64 5] [] (Ret (fun r : HeapV × HeapF => r.1.ent r.2) (fun v r => v = .pointer (some ⟨r.2.p, 0, none⟩) ∧ A0 r.1 r.2)) := by
  refine SC.ret (hp_New 5) fun v r ⟨h1, h2, h3, h4, h5, h6, h7⟩ => ⟨r, rfl, h1, h2, h6, h5⟩
theorem al_Make (h : A0 H F) : SC Tryz.prog W0 10 #[.pointer (some ⟨F.p, 0, none⟩), .int .i64 0, .int .u64 nullW] (H.ent F)
    (Ret (fun H' : HeapV => H'.ent F) (fun v H' => v = .tuple #[.int .u64 (objW 0), .bool true] ∧ A1 H' F)) := by
  have hp : H.pub F = [] := by rw [HeapV.pub, h.objs]; rfl
  refine SC.ret (hp_Make h.inv ⟨by omega, .inl rfl, by rw [hp]; decide⟩) fun v H' ⟨h1, h2, h3, h4, m, ok, h5, h6⟩ => ⟨H', rfl, by rw [hp] at h1; exact h1, h2, ?_, ?_⟩
  all_goals
    rw [h.tree] at h5
    have e := h5.symm.trans rootA
    simp only [Prod.mk.injEq] at e
    obtain ⟨e1, rfl, rfl⟩ := e
  · rw [h6, h.objs]; rfl
  · exact e1
theorem al_Put (h : A1 H F) : SC Tryz.prog W0 11 #[.pointer (some ⟨F.p, 0, none⟩), .int .u64 (objW 0), .string keyA, descV dA] (H.ent F)
    (Ret (fun H' : HeapV => H'.ent F) (fun v H' => v = .tuple #[] ∧ A2 H' F)) := by
  have hl : H.objs.length = 1 := by rw [h.objs]; rfl
  have hx : H.objs[0]? = some (newObj 0 nullW 0) := by rw [h.objs]; rfl
  have hI := h.inv.obj hx
  refine SC.ret (heap_Put_some h.inv.ok (objA _ (by omega) (by omega)) hx hI h.inv.bud (by omega) keyA dA) fun v r ⟨h1, h2, h3, h4, h5⟩ => ⟨_, rfl, h1, h2, by simp [h.objs], ?_, ?_⟩
  all_goals
    rw [h.tree] at h4 hI
    have h4' := h4
    rw [show ((dA.1, dA.2.1, normF dA.2.2) : DescP) = dA from by rw [normA]] at h4'
    have e := h4'.symm.trans putA
    simp only [Prod.mk.injEq] at e
    obtain ⟨e1, e2⟩ := e
  · refine ⟨r.1, by simp [h.objs], e2, ?_⟩
    have ht := h.inv.tree
    rw [h.tree] at ht
    have p := putS_put ht hI.ps keyA dA
    rw [h4'] at p
    refine PInv.obj ?_
    have := p.obj
    simp only [] at this
    rw [h3.proto, h3.kind]
    exact this
  · exact e1
theorem al_Get (h : A2 H F) : SC Tryz.prog W0 13 #[.pointer (some ⟨F.p, 0, none⟩), .int .u64 (objW 0), .string keyA] (H.ent F)
    (Ret (fun _ : Unit => H.ent F) (fun v _ => v = .tuple #[descV dA, .bool true])) := by
  obtain ⟨x, hx, hp, ho⟩ := h.obj
  refine SC.ret (heap_Get_some h.ok (objA _ (by rw [h.len]; decide) (by rw [h.len]; decide)) hx ho keyA) fun v _ e => ⟨(), rfl, e.trans ?_⟩
  have h1 : x.shape = 1 := congrArg PS.shape hp
  have h2 : x.names = [] := congrArg PS.names hp
  have h3 : x.vals = [dA] := congrArg PS.vals hp
  unfold getO
  rw [h.tree, h1, h2, placeA, h3]; rfl
theorem al_Shape (h : A2 H F) : SC Tryz.prog W0 14 #[.pointer (some ⟨F.p, 0, none⟩), .int .u64 (objW 0)] (H.ent F)
    (Ret (fun _ : Unit => H.ent F) (fun v _ => v = .tuple #[.int .i64 1, .bool true])) := by
  obtain ⟨x, hx, hp, ho⟩ := h.obj
  refine SC.ret (heap_Shape_some h.ok (objA _ (by rw [h.len]; decide) (by rw [h.len]; decide)) hx) fun v _ e => ⟨(), rfl, e.trans ?_⟩
  rw [show x.shape = 1 from congrArg PS.shape hp]; rfl
theorem al_Find (h : A2 H F) : SC Tryz.prog W0 15 #[.pointer (some ⟨F.p, 0, none⟩), .int .i64 1, .string keyA] (H.ent F)
    (Ret (fun _ : Unit => H.ent F) (fun v _ => v = .tuple #[.int .i64 0, .int .i64 7, .bool true])) := by
  refine SC.ret (heap_Find h.ok 1 keyA) fun v _ e => ⟨(), rfl, e.trans ?_⟩
  rw [h.tree, findA]
theorem al_Objects (h : A2 H F) : SC Tryz.prog W0 16 #[.pointer (some ⟨F.p, 0, none⟩)] (H.ent F)
    (Ret (fun _ : Unit => H.ent F) (fun v _ => v = .int .i64 1)) := by
  refine SC.ret (heap_Objects h.ok) fun v _ e => ⟨(), rfl, e.trans ?_⟩
  rw [h.len]; rfl
def refInt (n : Int) : Int := IntKind.wrap .u64 (18444773748872577024 + IntKind.wrap .u64 (IntKind.wrap .u32 n))
theorem refInt7 : refInt 7 = 18444773748872577031 := by decide
end Go.Proofs.YtdfhbheipagnmaaGreat
namespace Go.Proofs.YtdfhbheipagnmaaGreat
open Go.Sl

theorem rf_Int {W0 : World} {n : Int} : SC Tryz.prog W0 12 #[.int .i32 n] [] (Ret (fun _ : Unit => []) (fun v _ => v = .int .u64 (refInt n))) := by
 refine SC_body (fn := Tryz.f12) (n := 7) Tryz.func12 rfl (by kernel_rfl) (ρ := [(0, .int .i32 n)]) rfl ?_
 refine sr ?_
 refine os 1 ?_
 refine nsr ?_
 refine os 1 ?_
 refine oV (.int .u32 (IntKind.wrap .u32 (n))) ?_
 refine oV (.int .u64 (IntKind.wrap .u64 (IntKind.wrap .u32 (n)))) ?_
 refine oV (.int .u64 (IntKind.wrap .u64 (18444773748872577024 + (IntKind.wrap .u64 (IntKind.wrap .u32 (n)))))) ?_
 refine os 1 ?_
 refine kp [2, 0] ?_
 refine nt ?_
 refine SW_ret ?_
 refine body_end (.int .u64 (IntKind.wrap .u64 (18444773748872577024 + (IntKind.wrap .u64 (IntKind.wrap .u32 (n)))))) (fun _ => rfl) ?_
 exact ⟨(), Own.of_perm (List.Perm.refl _), rfl⟩

theorem fl_Floor {W0 : World} (b : Nat) : SC Tryz.prog W0 97 #[.float .f64 b] [] (Ret (fun _ : Nat => []) (fun v m => v = .float .f64 m)) := by
 refine SC_body (fn := Tryz.f97) (n := 7) Tryz.func97 rfl (by kernel_rfl) (ρ := [(0, .float .f64 b)]) rfl ?_
 refine sr ?_
 refine os 1 ?_
 refine nq ?_
 refine ct ?_
 refine sr ?_
 refine os 1 ?_
 refine L (O_floor (nm := "math.archFloor") (way := .down) b 100 rfl Tryz.func100 (by kernel_rfl) (by kernel_rfl) (by kernel_rfl) (by kernel_rfl) (fun δ w => by kernel_rfl) ?_)
 intro fl1
 refine os 1 ?_
 refine nt ?_
 refine SW_ret (r_then ?_)
 refine body_end (.float .f64 fl1) (fun _ => rfl) ?_
 exact ⟨fl1, ⟨_, List.Perm.refl _⟩, rfl⟩

theorem fl_Signbit {W0 : World} (b : Nat) : SC Tryz.prog W0 98 #[.float .f64 b] [] (Ret (fun _ : Bool => []) (fun v m => v = .bool m)) := by
 refine SC_body (fn := Tryz.f98) (n := 7) Tryz.func98 rfl (by kernel_rfl) (ρ := [(0, .float .f64 b)]) rfl ?_
 refine sr ?_
 refine os 1 ?_
 refine nsr ?_
 refine os 1 ?_
 refine L (O_val (.int .u64 (b : Int)) rfl (fun δ w _ => by kernel_rfl) ?_)
 refine oV (.int .i64 (IntKind.wrap .i64 ((b : Int)))) ?_
 refine os 2 ?_
 refine kp [2, 0] ?_
 refine nt ?_
 refine SW_ret ?_
 refine body_end (.bool (decide ((IntKind.wrap .i64 ((b : Int))) < 0))) (fun _ => rfl) ?_
 exact ⟨decide ((IntKind.wrap .i64 ((b : Int))) < 0), ⟨_, List.Perm.refl _⟩, rfl⟩

theorem ref_Float {W0 : World} (b : Nat) : SC Tryz.prog W0 95 #[.float .f64 b] [] (Ret (fun _ : Int => []) (fun v m => v = .int .u64 m)) := by
 refine SC_body (fn := Tryz.f95) (n := 32) Tryz.func95 rfl (by kernel_rfl) (ρ := [(0, .float .f64 b)]) rfl ?_
 refine sr ?_
 refine os 1 ?_
 refine nq ?_
 refine sr ?_
 refine os 2 ?_
 refine oV (.bool ((FloatKind.f64.format.order b b) != some .eq)) ?_
 refine nt ?_
 refine cd (fun hc1 : ((FloatKind.f64.format.order b b) != some .eq) = true => ?_) (fun hc1 => ?_)
 ·skip
  refine sr ?_
  refine os 1 ?_
  refine nt ?_
  refine SW_ret (r_then ?_)
  refine body_end (.int .u64 9221120237041090560) (fun _ => rfl) ?_
  exact ⟨9221120237041090560, ⟨_, List.Perm.refl _⟩, rfl⟩
 ·skip
  refine SW_skip (n_then ?_)
  refine SW_seq ?_
  refine sr ?_
  refine os 1 ?_
  refine oV (.bool ((FloatKind.f64.format.order b 13970166044103278592) == some .gt || (FloatKind.f64.format.order b 13970166044103278592) == some .eq)) ?_
  refine os 1 ?_
  refine tb 8 (fun hg2 => ?_) (fun hg2 => ?_)
  ·skip
   replace hg2 : ((FloatKind.f64.format.order b 13970166044103278592) == some .gt || (FloatKind.f64.format.order b 13970166044103278592) == some .eq) = true := hg2
   refine os 1 ?_
   refine oV (.bool ((FloatKind.f64.format.order b 4746794007244308480) == some .lt || (FloatKind.f64.format.order b 4746794007244308480) == some .eq)) ?_
   refine os 2 ?_
   refine kp [12, 5, 2, 0] ?_
   refine tb 12 (fun hg3 => ?_) (fun hg3 => ?_)
   ·skip
    replace hg3 : ((FloatKind.f64.format.order b 4746794007244308480) == some .lt || (FloatKind.f64.format.order b 4746794007244308480) == some .eq) = true := hg3
    refine os 2 ?_
    refine L (cl (fl_Floor b) ?_)
    rintro _ fm1 rfl
    refine un ?_
    refine oV (.bool ((FloatKind.f64.format.order b fm1) == some .eq)) ?_
    refine os 2 ?_
    refine kp [18, 5, 2, 0] ?_
    refine tb 18 (fun hg4 => ?_) (fun hg4 => ?_)
    ·skip
     replace hg4 : ((FloatKind.f64.format.order b fm1) == some .eq) = true := hg4
     refine os 1 ?_
     refine oV (.bool ((FloatKind.f64.format.order b 0) != some .eq)) ?_
     refine os 1 ?_
     refine tb 21 (fun hg5 => ?_) (fun hg5 => ?_)
     ·skip
      replace hg5 : ((FloatKind.f64.format.order b 0) != some .eq) = true := hg5
      refine os 5 ?_
      refine kp [26, 5, 2, 0] ?_
      refine nt ?_
      refine ct ?_
      refine sr ?_
      refine os 1 ?_
      refine L (O_f2i b (fun _ => rfl) (by kernel_rfl) Tryz.underlying21 (by decide) ?_)
      intro cv1
      refine L (cl (rf_Int (n := cv1)) ?_)
      rintro _ _ rfl
      refine un ?_
      refine os 1 ?_
      refine kp [2, 26, 5, 0] ?_
      refine nt ?_
      refine SW_ret (r_then ?_)
      refine body_end (.int .u64 (refInt cv1)) (fun _ => rfl) ?_
      exact ⟨refInt cv1, ⟨_, List.Perm.refl _⟩, rfl⟩
     ·skip
      replace hg5 : ((FloatKind.f64.format.order b 0) != some .eq) = false := hg5
      refine os 1 ?_
      refine L (cl (fl_Signbit b) ?_)
      rintro _ sm1 rfl
      refine un ?_
      refine os 3 ?_
      refine kp [26, 5, 2, 0] ?_
      refine nt ?_
      refine cd (fun hc6 : (!sm1) = true => ?_) (fun hc6 => ?_)
      ·skip
       replace hc6 := bnot_t hc6
       refine sr ?_
       refine os 1 ?_
       refine L (O_f2i b (fun _ => rfl) (by kernel_rfl) Tryz.underlying21 (by decide) ?_)
       intro cv1
       refine L (cl (rf_Int (n := cv1)) ?_)
       rintro _ _ rfl
       refine un ?_
       refine os 1 ?_
       refine kp [2, 26, 5, 0] ?_
       refine nt ?_
       refine SW_ret (r_then ?_)
       refine body_end (.int .u64 (refInt cv1)) (fun _ => rfl) ?_
       exact ⟨refInt cv1, ⟨_, List.Perm.refl _⟩, rfl⟩
      ·skip
       replace hc6 := bnot_f hc6
       refine SW_skip (n_then ?_)
       refine sr ?_
       refine os 1 ?_
       refine L (O_val (.int .u64 (b : Int)) rfl (fun δ w _ => by kernel_rfl) ?_)
       refine os 1 ?_
       refine nt ?_
       refine SW_ret ?_
       refine body_end (.int .u64 (b : Int)) (fun _ => rfl) ?_
       exact ⟨(b : Int), ⟨_, List.Perm.refl _⟩, rfl⟩
    ·skip
     replace hg4 : ((FloatKind.f64.format.order b fm1) == some .eq) = false := hg4
     refine os 8 ?_
     refine kp [26, 5, 2, 0] ?_
     refine nt ?_
     refine cf ?_
     refine SW_skip (n_then ?_)
     refine sr ?_
     refine os 1 ?_
     refine L (O_val (.int .u64 (b : Int)) rfl (fun δ w _ => by kernel_rfl) ?_)
     refine os 1 ?_
     refine nt ?_
     refine SW_ret ?_
     refine body_end (.int .u64 (b : Int)) (fun _ => rfl) ?_
     exact ⟨(b : Int), ⟨_, List.Perm.refl _⟩, rfl⟩
   ·skip
    replace hg3 : ((FloatKind.f64.format.order b 4746794007244308480) == some .lt || (FloatKind.f64.format.order b 4746794007244308480) == some .eq) = false := hg3
    refine os 14 ?_
    refine kp [26, 5, 2, 0] ?_
    refine nt ?_
    refine cf ?_
    refine SW_skip (n_then ?_)
    refine sr ?_
    refine os 1 ?_
    refine L (O_val (.int .u64 (b : Int)) rfl (fun δ w _ => by kernel_rfl) ?_)
    refine os 1 ?_
    refine nt ?_
    refine SW_ret ?_
    refine body_end (.int .u64 (b : Int)) (fun _ => rfl) ?_
    exact ⟨(b : Int), ⟨_, List.Perm.refl _⟩, rfl⟩
  ·skip
   replace hg2 : ((FloatKind.f64.format.order b 13970166044103278592) == some .gt || (FloatKind.f64.format.order b 13970166044103278592) == some .eq) = false := hg2
   refine os 18 ?_
   refine kp [26, 5, 2, 0] ?_
   refine nt ?_
   refine cf ?_
   refine SW_skip (n_then ?_)
   refine sr ?_
   refine os 1 ?_
   refine L (O_val (.int .u64 (b : Int)) rfl (fun δ w _ => by kernel_rfl) ?_)
   refine os 1 ?_
   refine nt ?_
   refine SW_ret ?_
   refine body_end (.int .u64 (b : Int)) (fun _ => rfl) ?_
   exact ⟨(b : Int), ⟨_, List.Perm.refl _⟩, rfl⟩

theorem ref_Number {W0 : World} (w : Int) : SC Tryz.prog W0 94 #[.int .u64 w] [] (Ret (fun _ : Int => []) (fun v m => v = .int .u64 m)) := by
 refine SC_body (fn := Tryz.f94) (n := 6) Tryz.func94 rfl (by kernel_rfl) (ρ := [(0, .int .u64 w)]) rfl ?_
 refine sr ?_
 refine os 1 ?_
 refine nsr ?_
 refine os 1 ?_
 refine L (O_val (.float .f64 ((w).toNat)) rfl (fun δ w _ => by kernel_rfl) ?_)
 refine L (cl (ref_Float ((w).toNat)) ?_)
 rintro _ fw1 rfl
 refine un ?_
 refine os 1 ?_
 refine kp [2, 0] ?_
 refine nt ?_
 refine SW_ret ?_
 refine body_end (.int .u64 fw1) (fun _ => rfl) ?_
 exact ⟨fw1, ⟨_, List.Perm.refl _⟩, rfl⟩

end Go.Proofs.YtdfhbheipagnmaaGreat
namespace Go.Proofs.YtdfhbheipagnmaaGreat
open Go.Sl
structure RObj where
  kind : Int
  proto : Int
  shut : Bool
  ns : Gs
  names : List ByteArray
  ds : Gs
  descs : List DescP
  es : Gs
  elems : List Int
  is : Gs
  inner : List Int
def RObj.cells (x : RObj) : List Value := [.int .i64 x.kind, .int .u64 x.proto, .bool x.shut, x.ns.val x.names.length, x.ds.val x.descs.length, x.es.val x.elems.length, x.is.val x.inner.length]
theorem RObj.len (x : RObj) : x.cells.length = 7 := rfl
abbrev RObj.nsE (x : RObj) : Heaplet := x.ns.ent 9 1 (x.names.map encS)
abbrev RObj.dsE (x : RObj) : Heaplet := x.ds.ent 35 3 (x.descs.flatMap descCells)
abbrev RObj.esE (x : RObj) : Heaplet := x.es.ent 33 1 (x.elems.map encU)
abbrev RObj.isE (x : RObj) : Heaplet := x.is.ent 33 1 (x.inner.map encU)
def RObj.ent (x : RObj) : Heaplet := x.nsE ++ (x.dsE ++ (x.esE ++ x.isE))
structure RObj.ok (x : RObj) : Prop where
  ns : x.ns.ok 1 x.names.length (x.names.map encS)
  ds : x.ds.ok 3 x.descs.length (x.descs.flatMap descCells)
  es : x.es.ok 1 x.elems.length (x.elems.map encU)
  is : x.is.ok 1 x.inner.length (x.inner.map encU)
def RObj.pub (x : RObj) : ObjS := ⟨x.kind, x.proto, x.shut, x.names, x.descs, x.elems, x.inner⟩
structure RSt where
  s : Gs
  objs : List RObj
  ts : Gs
  texts : List ByteArray
abbrev RSt.val (R : RSt) : Value := .agg #[R.s.val R.objs.length, R.ts.val R.texts.length]
def RSt.ent (R : RSt) : Heaplet := R.s.ent 83 7 (R.objs.flatMap RObj.cells) ++ (R.objs.flatMap RObj.ent ++ (R.ts.ent 9 1 (R.texts.map encS) ++ []))
structure RSt.ok (R : RSt) : Prop where
  row : R.s.ok 7 R.objs.length (R.objs.flatMap RObj.cells)
  each : ∀ x ∈ R.objs, x.ok
  ts : R.ts.ok 1 R.texts.length (R.texts.map encS)
def RSt.pub (R : RSt) : List ObjS := R.objs.map RObj.pub
variable {R : RSt} {n : Nat} {x : RObj}
theorem RSt.ok.at (h : R.ok) (hx : R.objs[n]? = some x) : x.ok := h.each x (List.mem_of_getElem? hx)
theorem RObj.mns {l : List RObj} (hx : l[n]? = some x) : ∀ e ∈ x.nsE, e ∈ l.flatMap RObj.ent := fun e he => List.mem_flatMap.2 ⟨x, List.mem_of_getElem? hx, mem_h he⟩
theorem RObj.mds {l : List RObj} (hx : l[n]? = some x) : ∀ e ∈ x.dsE, e ∈ l.flatMap RObj.ent := fun e he => List.mem_flatMap.2 ⟨x, List.mem_of_getElem? hx, mem_a (mem_h he)⟩
theorem RObj.mes {l : List RObj} (hx : l[n]? = some x) : ∀ e ∈ x.esE, e ∈ l.flatMap RObj.ent := fun e he => List.mem_flatMap.2 ⟨x, List.mem_of_getElem? hx, mem_a (mem_a (mem_h he))⟩
theorem RObj.mis {l : List RObj} (hx : l[n]? = some x) : ∀ e ∈ x.isE, e ∈ l.flatMap RObj.ent := fun e he => List.mem_flatMap.2 ⟨x, List.mem_of_getElem? hx, mem_a (mem_a (mem_a he))⟩
theorem robj_focus {l : List RObj} (hx : l[n]? = some x) (τ : Heaplet) : (l.flatMap RObj.ent ++ τ).Perm (x.nsE ++ (x.dsE ++ (x.esE ++ (x.isE ++ ((l.eraseIdx n).flatMap RObj.ent ++ τ))))) := by
  have h := (flat_focus (f := RObj.ent) hx).append_right τ
  simpa only [RObj.ent, List.append_assoc] using h
theorem robj_unfocus {l : List RObj} (hx : l[n]? = some x) (x' : RObj) (τ : Heaplet) : (x'.nsE ++ (x'.dsE ++ (x'.esE ++ (x'.isE ++ ((l.eraseIdx n).flatMap RObj.ent ++ τ))))).Perm ((l.set n x').flatMap RObj.ent ++ τ) := by
  have h := (flat_unfocus (f := RObj.ent) x' hx).append_right τ
  simpa only [RObj.ent, List.append_assoc] using h
abbrev RSt.put (R : RSt) (n : Nat) (x : RObj) : RSt := ⟨R.s, R.objs.set n x, R.ts, R.texts⟩
theorem RSt.ok.put (h : R.ok) (hx : R.objs[n]? = some x) {x' : RObj} (ho : x'.ok) : (R.put n x').ok := by
  refine ⟨?_, fun y hy => ?_, h.ts⟩
  · simp only [List.length_set]
    exact Gs.ok.relen h.row (by simp [flat_len RObj.len])
  · rcases List.mem_or_eq_of_mem_set hy with h1 | rfl
    · exact h.each y h1
    · exact ho
theorem RSt.back (hx : R.objs[n]? = some x) (x' : RObj) : (R.s.ent 83 7 ((R.objs.set n x').flatMap RObj.cells) ++ (x'.nsE ++ (x'.dsE ++ (x'.esE ++ (x'.isE ++ ((R.objs.eraseIdx n).flatMap RObj.ent ++
    (R.ts.ent 9 1 (R.texts.map encS) ++ []))))))).Perm ((R.put n x').ent) := by
  simp only [RSt.ent]
  exact (robj_unfocus hx x' _).append_left _
theorem RSt.pub_put (R : RSt) (n : Nat) (x' : RObj) : (R.put n x').pub = R.pub.set n x'.pub := by simp [RSt.pub, List.map_set]
theorem RSt.pub_len (R : RSt) : R.pub.length = R.objs.length := by simp [RSt.pub]
theorem RSt.pub_at (hx : R.objs[n]? = some x) : R.pub[n]? = some x.pub := by simp [RSt.pub, hx]
theorem robj_of {o : ObjS} (ho : R.pub[n]? = some o) : ∃ x, R.objs[n]? = some x ∧ x.pub = o := by
  simp only [RSt.pub, List.getElem?_map, Option.map_eq_some_iff] at ho
  exact ho
theorem RSt.m1 (R : RSt) : ∀ e ∈ R.s.ent 83 7 (R.objs.flatMap RObj.cells), e ∈ R.ent := fun e he => mem_h he
/-- The number of a word's object; -1: there is none. -/
def atI (l : Nat) (w : Int) : Int := match objAt w l with | some n => (n : Int) | none => -1
/-- The tag that a word would have, and its payload. -/
def tagP (w : Int) : Int × Int := if w / 281474976710656 < 65529 ∨ w / 281474976710656 > 65532 then (0, 0) else (w / 281474976710656, w % 4294967296)
def tagV (w tag : Int) : Value := match tagOf w tag with | some n => .tuple #[.int .u32 (n : Int), .bool true] | none => .tuple #[.int .u32 0, .bool false]
abbrev wordOk (w : Int) : Prop := 0 ≤ w ∧ w < 18446744073709551616
theorem tagOf_lt' {w tag : Int} {n : Nat} (h : tagOf w tag = some n) : n < 4294967296 := tagOf_lt h
theorem RSt.eq {R : RSt} {τ : Heaplet} : R.ent ++ τ = R.s.ent 83 7 (R.objs.flatMap RObj.cells) ++ (R.objs.flatMap RObj.ent ++ (R.ts.ent 9 1 (R.texts.map encS) ++ τ)) := by
  simp only [RSt.ent, List.append_assoc, List.nil_append]
theorem RSt.eq0 {R : RSt} : R.ent = R.s.ent 83 7 (R.objs.flatMap RObj.cells) ++ (R.objs.flatMap RObj.ent ++ (R.ts.ent 9 1 (R.texts.map encS) ++ [])) := rfl
theorem RSt.pm {R : RSt} {σ τ : Heaplet} (h : σ.Perm (R.s.ent 83 7 (R.objs.flatMap RObj.cells) ++ (R.objs.flatMap RObj.ent ++ (R.ts.ent 9 1 (R.texts.map encS) ++ τ))) := by exact fn2) : σ.Perm (R.ent ++ τ) := by rw [RSt.eq]; exact h
theorem RSt.own {R : RSt} {σ J : Heaplet} (h : σ.Perm (R.s.ent 83 7 (R.objs.flatMap RObj.cells) ++ (R.objs.flatMap RObj.ent ++ (R.ts.ent 9 1 (R.texts.map encS) ++ J))) := by exact fn2) : Own σ R.ent := ⟨J, RSt.pm h⟩
end Go.Proofs.YtdfhbheipagnmaaGreat
namespace Go.Proofs.YtdfhbheipagnmaaGreat
open Go.Sl

theorem rf_Tag {W0 : World} {w : Int} (hw : wordOk w) : SC Tryz.prog W0 88 #[.int .u64 w] [] (Ret (fun _ : Unit => []) (fun v _ => v = .tuple #[.int .u64 (tagP w).1, .int .u32 (tagP w).2])) := by
 refine SC_body (fn := Tryz.f88) (n := 19) Tryz.func88 rfl (by kernel_rfl) (ρ := [(0, .int .u64 w)]) rfl ?_
 obtain ⟨hw0, hw1⟩ := hw
 refine sr ?_
 refine os 2 ?_
 refine nsr ?_
 refine os 1 ?_
 refine oX (.int .u64 (IntKind.wrap .u64 (Int.tdiv w 65536))) (.int .u64 (w / 65536)) (congrArg (Value.int .u64) (quo_u64 (by omega) (by omega) (by decide))) ?_
 refine oX (.int .u64 (IntKind.wrap .u64 (Int.tdiv (w / 65536) 65536))) (.int .u64 ((w / 65536) / 65536)) (congrArg (Value.int .u64) (quo_u64 (by omega) (by omega) (by decide))) ?_
 refine oX (.int .u64 (IntKind.wrap .u64 (Int.tdiv ((w / 65536) / 65536) 65536))) (.int .u64 (((w / 65536) / 65536) / 65536)) (congrArg (Value.int .u64) (quo_u64 (by omega) (by omega) (by decide))) ?_
 refine os 1 ?_
 refine kp [4, 3, 2, 0] ?_
 refine nq ?_
 refine sr ?_
 refine os 3 ?_
 refine tbp 11 (fun hg1 => ?_) (fun hg1 => ?_)
 ·skip
  replace hg1 : (((w / 65536) / 65536) / 65536) < 65529 := hg1
  refine os 3 ?_
  refine kp [14, 4, 3, 2, 0] ?_
  refine nt ?_
  refine ct ?_
  refine sr ?_
  refine os 2 ?_
  refine nt ?_
  refine SW_ret (r_then ?_)
  refine body_end (.tuple #[.int .u64 0, .int .u32 0]) (fun _ => rfl) ?_
  exact ⟨(), ⟨_, List.Perm.refl _⟩, by unfold tagP; rw [if_pos (by omega)]⟩
 ·skip
  replace hg1 : ¬ ((((w / 65536) / 65536) / 65536) < 65529) := hg1
  refine os 3 ?_
  refine kp [14, 4, 3, 2, 0] ?_
  refine nt ?_
  refine cdp (fun hc2 : (((w / 65536) / 65536) / 65536) > 65532 => ?_) (fun hc2 => ?_)
  ·skip
   refine sr ?_
   refine os 2 ?_
   refine nt ?_
   refine SW_ret (r_then ?_)
   refine body_end (.tuple #[.int .u64 0, .int .u32 0]) (fun _ => rfl) ?_
   exact ⟨(), ⟨_, List.Perm.refl _⟩, by unfold tagP; rw [if_pos (by omega)]⟩
  ·skip
   refine SW_skip (n_then ?_)
   refine sr ?_
   refine os 2 ?_
   refine oX (.int .u64 (Int.tmod w 4294967296)) (.int .u64 (w % 4294967296)) (congrArg (Value.int .u64) (rem_nn (by omega))) ?_
   refine os 3 ?_
   refine kp [3, 2, 14, 4, 0] ?_
   refine nt ?_
   refine SW_ret ?_
   refine body_end (.tuple #[.int .u64 (((w / 65536) / 65536) / 65536), .int .u32 (w % 4294967296)]) (fun _ => rfl) ?_
   exact ⟨(), ⟨_, List.Perm.refl _⟩, by unfold tagP; rw [if_neg (by omega), show ((w / 65536) / 65536) / 65536 = w / 281474976710656 from by omega]⟩

theorem rf_Right {W0 : World} {w : Int} (hw : wordOk w) : SC Tryz.prog W0 89 #[.int .u64 w] [] (Ret (fun _ : Bool => []) (fun v b => v = .bool b ∧ ((tagP w).1 ≠ 0 → (b = true ↔ (w / 4294967296 % 65536 = 0 ∧ ((tagP w).1 = 65531 → w % 4294967296 ≤ 4)))))) := by
 refine SC_body (fn := Tryz.f89) (n := 26) Tryz.func89 rfl (by kernel_rfl) (ρ := [(0, .int .u64 w)]) rfl ?_
 obtain ⟨hw0, hw1⟩ := id hw
 refine sr ?_
 refine os 1 ?_
 refine nsr ?_
 refine os 1 ?_
 refine L (cl (rf_Tag hw) ?_)
 rintro _ _ rfl
 refine un ?_
 refine os 5 ?_
 refine kp [4, 3, 2, 0] ?_
 refine nq ?_
 refine sr ?_
 refine os 2 ?_
 refine nt ?_
 refine cd (fun hc1 : (((tagP w).1) == 0) = true => ?_) (fun hc1 => ?_)
 ·skip
  simp only [beq_iff_eq, bne_iff_ne, ne_eq, beq_eq_false_iff_ne, bne_eq_false_iff_eq] at hc1
  refine sr ?_
  refine os 1 ?_
  refine L (cl (ref_Number w) ?_)
  rintro _ nw1 rfl
  refine un ?_
  refine os 3 ?_
  refine kp [2, 11, 4, 3, 0] ?_
  refine nt ?_
  refine SW_ret (r_then ?_)
  refine body_end (.bool (nw1 == w)) (fun _ => rfl) ?_
  exact ⟨_, ⟨_, List.Perm.refl _⟩, rfl, fun q => absurd hc1 q⟩
 ·skip
  simp only [beq_iff_eq, bne_iff_ne, ne_eq, beq_eq_false_iff_ne, bne_eq_false_iff_eq] at hc1
  refine SW_skip (n_then ?_)
  refine SW_seq ?_
  refine sr ?_
  refine os 1 ?_
  refine oX (.int .u64 (IntKind.wrap .u64 (Int.tdiv w 4294967296))) (.int .u64 (w / 4294967296)) (congrArg (Value.int .u64) (quo_u64 (by omega) (by omega) (by decide))) ?_
  refine oX (.int .u64 (Int.tmod (w / 4294967296) 65536)) (.int .u64 ((w / 4294967296) % 65536)) (congrArg (Value.int .u64) (rem_nn (by omega))) ?_
  refine os 1 ?_
  refine kp [19, 11, 4, 3, 2, 0] ?_
  refine nt ?_
  refine cd (fun hc2 : (((w / 4294967296) % 65536) != 0) = true => ?_) (fun hc2 => ?_)
  ·skip
   simp only [beq_iff_eq, bne_iff_ne, ne_eq, beq_eq_false_iff_ne, bne_eq_false_iff_eq] at hc2
   refine sr ?_
   refine os 1 ?_
   refine nt ?_
   refine SW_ret (r_then ?_)
   refine body_end (.bool false) (fun _ => rfl) ?_
   exact ⟨false, ⟨_, List.Perm.refl _⟩, rfl, fun _ => ⟨fun q => absurd q (by decide), fun q => absurd q.1 (by omega)⟩⟩
  ·skip
   simp only [beq_iff_eq, bne_iff_ne, ne_eq, beq_eq_false_iff_ne, bne_eq_false_iff_eq] at hc2
   refine SW_skip (n_then ?_)
   refine sr ?_
   refine os 3 ?_
   refine tb 22 (fun hg3 => ?_) (fun hg3 => ?_)
   ·skip
    replace hg3 : (((tagP w).1) != 65531) = true := hg3
    simp only [beq_iff_eq, bne_iff_ne, ne_eq, beq_eq_false_iff_ne, bne_eq_false_iff_eq] at hg3
    refine os 4 ?_
    refine kp [2, 19, 11, 4, 3, 0] ?_
    refine nt ?_
    refine SW_ret ?_
    refine body_end (.bool true) (fun _ => rfl) ?_
    refine ⟨_, ⟨_, List.Perm.refl _⟩, rfl, fun _ => ?_⟩
    have e2 : (tagP w).1 ≠ 0 → (tagP w).2 = w % 4294967296 := by unfold tagP; split <;> simp
    have e3 := e2 hc1
    exact ⟨fun _ => ⟨by omega, fun q => absurd q (by omega)⟩, fun _ => rfl⟩
   ·skip
    replace hg3 : (((tagP w).1) != 65531) = false := hg3
    simp only [beq_iff_eq, bne_iff_ne, ne_eq, beq_eq_false_iff_ne, bne_eq_false_iff_eq] at hg3
    refine os 4 ?_
    refine kp [2, 19, 11, 4, 3, 0] ?_
    refine nt ?_
    refine SW_ret ?_
    refine body_end (.bool (decide (((tagP w).2) ≤ 4))) (fun _ => rfl) ?_
    refine ⟨_, ⟨_, List.Perm.refl _⟩, rfl, fun _ => ?_⟩
    have e2 : (tagP w).1 ≠ 0 → (tagP w).2 = w % 4294967296 := by unfold tagP; split <;> simp
    have e3 := e2 hc1
    rw [e3]
    simp only [decide_eq_true_eq]
    exact ⟨fun q => ⟨by omega, fun _ => q⟩, fun q => q.2 (by omega)⟩

theorem rf_IsTag {W0 : World} {w : Int} (hw : wordOk w) {tag : Int} (ht : 65529 ≤ tag ∧ tag ≤ 65532 ∧ tag ≠ 65531) : SC Tryz.prog W0 72 #[.int .u64 w, .int .u64 tag] [] (Ret (fun _ : Unit => []) (fun v _ => v = tagV w tag)) := by
 refine SC_body (fn := Tryz.f72) (n := 24) Tryz.func72 rfl (by kernel_rfl) (ρ := [(0, .int .u64 w), (1, .int .u64 tag)]) rfl ?_
 obtain ⟨hw0, hw1⟩ := id hw
 refine sr ?_
 refine os 2 ?_
 refine nsr ?_
 refine os 1 ?_
 refine L (cl (rf_Tag hw) ?_)
 rintro _ _ rfl
 refine un ?_
 refine os 5 ?_
 refine kp [7, 6, 5, 4, 0, 1] ?_
 refine nsr ?_
 refine os 1 ?_
 refine L (cl (rf_Right hw) ?_)
 rintro _ rb ⟨rfl, hrb⟩
 refine un ?_
 refine os 1 ?_
 refine nq ?_
 refine sr ?_
 refine os 4 ?_
 refine tb 19 (fun hg1 => ?_) (fun hg1 => ?_)
 ·skip
  replace hg1 : (((tagP w).1) != tag) = true := hg1
  simp only [beq_iff_eq, bne_iff_ne, ne_eq, beq_eq_false_iff_ne, bne_eq_false_iff_eq] at hg1
  refine os 3 ?_
  refine kp [22, 8, 7, 6, 5, 4, 0, 1] ?_
  refine nt ?_
  refine ct ?_
  refine sr ?_
  refine os 2 ?_
  refine nt ?_
  refine SW_ret (r_then ?_)
  refine body_end (.tuple #[.int .u32 0, .bool false]) (fun _ => rfl) ?_
  have e1 : (tagP w).1 = if w / 281474976710656 < 65529 ∨ w / 281474976710656 > 65532 then 0 else w / 281474976710656 := by unfold tagP; split <;> rfl
  have e2 : (tagP w).1 ≠ 0 → (tagP w).2 = w % 4294967296 := by unfold tagP; split <;> simp
  refine ⟨(), ⟨_, List.Perm.refl _⟩, ?_⟩
  have hn : ¬ w / 4294967296 = tag * 65536 := fun q => (by have e4 : (tagP w).1 = tag := (by rw [e1, if_neg (by omega)]; omega); exact hg1 e4)
  unfold tagV tagOf; rw [if_neg hn]
 ·skip
  replace hg1 : (((tagP w).1) != tag) = false := hg1
  simp only [beq_iff_eq, bne_iff_ne, ne_eq, beq_eq_false_iff_ne, bne_eq_false_iff_eq] at hg1
  refine os 3 ?_
  refine kp [22, 8, 7, 6, 5, 4, 0, 1] ?_
  refine nt ?_
  refine cd (fun hc2 : (!rb) = true => ?_) (fun hc2 => ?_)
  ·skip
   replace hc2 := bnot_t hc2
   refine sr ?_
   refine os 2 ?_
   refine nt ?_
   refine SW_ret (r_then ?_)
   refine body_end (.tuple #[.int .u32 0, .bool false]) (fun _ => rfl) ?_
   have e1 : (tagP w).1 = if w / 281474976710656 < 65529 ∨ w / 281474976710656 > 65532 then 0 else w / 281474976710656 := by unfold tagP; split <;> rfl
   have e2 : (tagP w).1 ≠ 0 → (tagP w).2 = w % 4294967296 := by unfold tagP; split <;> simp
   refine ⟨(), ⟨_, List.Perm.refl _⟩, ?_⟩
   have hn : ¬ w / 4294967296 = tag * 65536 := fun q => (by have e4 : (tagP w).1 = tag := (by rw [e1, if_neg (by omega)]; omega); have e5 := (hrb (by omega)).2 ⟨by omega, fun z => absurd z (by omega)⟩; rw [e5] at hc2; cases hc2)
   unfold tagV tagOf; rw [if_neg hn]
  ·skip
   replace hc2 := bnot_f hc2
   refine SW_skip (n_then ?_)
   refine sr ?_
   refine os 3 ?_
   refine nt ?_
   refine SW_ret ?_
   refine body_end (.tuple #[.int .u32 ((tagP w).2), .bool true]) (fun _ => rfl) ?_
   have e1 : (tagP w).1 = if w / 281474976710656 < 65529 ∨ w / 281474976710656 > 65532 then 0 else w / 281474976710656 := by unfold tagP; split <;> rfl
   have e2 : (tagP w).1 ≠ 0 → (tagP w).2 = w % 4294967296 := by unfold tagP; split <;> simp
   refine ⟨(), ⟨_, List.Perm.refl _⟩, ?_⟩
   have e4 := e2 (by omega)
   have e5 := (hrb (by omega)).1 hc2
   have e6 : w / 281474976710656 = tag := by rw [e1] at hg1; split at hg1 <;> omega
   have hy : w / 4294967296 = tag * 65536 := by omega
   unfold tagV tagOf; rw [if_pos hy, e4]
   simp only []
   rw [Int.toNat_of_nonneg (by omega)]

theorem rf_At {W0 : World} {R : RSt} {w : Int} (hw : wordOk w) : SC Tryz.prog W0 35 #[R.val, .int .u64 w] [] (Ret (fun _ : Unit => []) (fun v _ => v = .int .i64 (atI R.objs.length w))) := by
 refine SC_body (fn := Tryz.f35) (n := 24) Tryz.func35 rfl (by kernel_rfl) (ρ := [(0, .agg #[Gs.val R.s R.objs.length, Gs.val R.ts R.texts.length]), (1, .int .u64 w)]) rfl ?_
 refine sr ?_
 refine L (nw 28 2 [Gs.val R.s R.objs.length, Gs.val R.ts R.texts.length] ?_)
 intro b1
 refine os 1 ?_
 refine nsr ?_
 refine os 1 ?_
 rcases hm1 : tagOf w 65530 with _ | m1
 ·skip
  refine L (cl (rf_IsTag hw (tag := 65530) (by omega)) ?_)
  rintro v1 _ hv1
  obtain rfl : v1 = .tuple #[.int .u32 0, .bool false] := hv1.trans (by unfold tagV; rw [hm1])
  refine un ?_
  refine os 5 ?_
  refine kp [6, 5, 4, 2, 0, 1] ?_
  refine nq ?_
  refine sr ?_
  refine os 1 ?_
  refine oV (.bool true) ?_
  refine os 8 ?_
  refine kp [21, 6, 5, 4, 2, 0, 1] ?_
  refine nt ?_
  refine ct ?_
  refine sr ?_
  refine os 1 ?_
  refine nt ?_
  refine SW_ret (r_then ?_)
  refine body_end (.int .i64 (-1)) (fun _ => rfl) ?_
  exact ⟨(), ⟨_, List.Perm.refl _⟩, by unfold atI objAt; rw [hm1]⟩
 ·skip
  have hlt := tagOf_lt hm1
  refine L (cl (rf_IsTag hw (tag := 65530) (by omega)) ?_)
  rintro v2 _ hv2
  obtain rfl : v2 = .tuple #[.int .u32 (m1 : Int), .bool true] := hv2.trans (by unfold tagV; rw [hm1])
  refine un ?_
  refine os 5 ?_
  refine kp [6, 5, 4, 2, 0, 1] ?_
  refine nq ?_
  refine sr ?_
  refine os 1 ?_
  refine oV (.bool false) ?_
  refine os 4 ?_
  refine L (ld ?_)
  refine os 3 ?_
  refine kp [21, 6, 5, 4, 2, 0, 1] ?_
  refine nt ?_
  refine cdp (fun hc2 : (m1 : Int) ≥ (R.objs.length : Int) => ?_) (fun hc2 => ?_)
  ·skip
   refine sr ?_
   refine os 1 ?_
   refine nt ?_
   refine SW_ret (r_then ?_)
   refine body_end (.int .i64 (-1)) (fun _ => rfl) ?_
   exact ⟨(), ⟨_, List.Perm.refl _⟩, by unfold atI objAt; rw [hm1]; simp only []; rw [if_neg (by omega)]⟩
  ·skip
   refine SW_skip (n_then ?_)
   refine sr ?_
   refine os 3 ?_
   refine nt ?_
   refine SW_ret ?_
   refine body_end (.int .i64 (m1 : Int)) (fun _ => rfl) ?_
   exact ⟨(), ⟨_, List.Perm.refl _⟩, by unfold atI objAt; rw [hm1]; simp only []; rw [if_pos (by omega)]⟩

end Go.Proofs.YtdfhbheipagnmaaGreat
namespace Go.Proofs.YtdfhbheipagnmaaGreat
open Go.Sl

theorem rf_place {W0 : World} {x : RObj} (hl : x.ns.ok 1 x.names.length (x.names.map encS)) (key : ByteArray) : SC Tryz.prog W0 60 #[.agg #[.int .i64 x.kind, .int .u64 x.proto, .bool x.shut, x.ns.val x.names.length, x.ds.val x.descs.length, x.es.val x.elems.length, x.is.val x.inner.length], .string key] (Gs.ent 9 1 x.ns (x.names.map encS)) (Ret (fun _ : Unit => Gs.ent 9 1 x.ns (x.names.map encS)) (fun v _ => v = .int .i64 (ixS x.names key))) := by
 refine SC_body (fn := Tryz.f60) (n := 21) Tryz.func60 rfl (by kernel_rfl) (ρ := [(0, .agg #[.int .i64 x.kind, .int .u64 x.proto, .bool x.shut, Gs.val x.ns x.names.length, Gs.val x.ds x.descs.length, Gs.val x.es x.elems.length, Gs.val x.is x.inner.length]), (1, .string key)]) rfl ?_
 refine SW_sig ((Gs.ent 9 1 x.ns (x.names.map encS)) ++ ([])) (by simp only [List.append_nil, List.append_assoc]) ?_
 have hcap : x.names.length ≤ maxLen := Nat.le_trans (Gs.ok.cap_le hl) (Gs.ok.cap_max hl)
 unfold maxLen at hcap
 refine sr ?_
 refine L (nw 83 7 [.int .i64 x.kind, .int .u64 x.proto, .bool x.shut, Gs.val x.ns x.names.length, Gs.val x.ds x.descs.length, Gs.val x.es x.elems.length, Gs.val x.is x.inner.length] ?_)
 intro b1
 refine os 1 ?_
 refine nq ?_
 refine sr ?_
 refine os 1 ?_
 refine nt ?_
 refine SW_block ?_
 refine SW_loop (α := Nat) (fun z_ ρ_ σ_ => Fits ρ_ σ_ [(1, .string key), (2, pt b1 0), (5, .int .i64 (z_ : Int))] ((b1, .cells 83 7 [.int .i64 x.kind, .int .u64 x.proto, .bool x.shut, Gs.val x.ns x.names.length, Gs.val x.ds x.descs.length, Gs.val x.es x.elems.length, Gs.val x.is x.inner.length]) :: ((Gs.ent 9 1 x.ns (x.names.map encS)) ++ ([]))) ∧ z_ ≤ x.names.length ∧ ixS x.names key = ixFrom (fun a : ByteArray => decide (a = key)) (x.names.drop z_) z_) (fun z_ => x.names.length - z_) 0 ⟨⟨fun _ => rfl, ow⟩, Nat.zero_le _, rfl⟩ ?_
 rintro i ρ_ σ_ ⟨hfit, hi0, hi1⟩
 refine SW_fits hfit ?_
 clear hfit
 refine SW_seq ?_
 refine sr ?_
 refine os 2 ?_
 refine L (ld ?_)
 refine os 2 ?_
 refine kp [10, 1, 2, 5] ?_
 refine nt ?_
 refine cdp (fun hc2 : (i : Int) < (x.names.length : Int) => ?_) (fun hc2 => ?_)
 ·skip
  refine SW_skip (n_then ?_)
  refine SW_seq ?_
  refine SW_block ?_
  refine sr ?_
  refine os 1 ?_
  refine L (ld ?_)
  refine os 1 ?_
  refine L (ixg (i : Int) (i) hl Tryz.underlying26 ?_)
  obtain ⟨e1, he1⟩ : ∃ y_, x.names[i]? = some y_ := ⟨_, List.getElem?_eq_getElem (by omega)⟩
  refine L (ld ?_ (hc := Gs.cell hl (fun e he => (mem_c (mem_h he))) (map_cell he1 rfl)))
  refine os 1 ?_
  refine oX (.bool (e1.toList == key.toList)) (.bool (decide (e1 = key))) (congrArg Value.bool (by rw [str_eq])) ?_
  refine kp [19, 10, 1, 2, 5] ?_
  refine nt ?_
  refine cdp (fun hc3 : e1 = key => ?_) (fun hc3 => ?_)
  ·skip
   refine sr ?_
   refine os 2 ?_
   refine nt ?_
   refine SW_ret (r_in (r_then (r_then (r_in (r_then ?_)))))
   refine body_end (.int .i64 (i : Int)) (fun _ => rfl) ?_
   exact ⟨(), ow, congrArg (Value.int .i64) (by rw [hi1, ixFrom_at he1, if_pos (by simpa using hc3)])⟩
  ·skip
   refine SW_skip (n_in (n_then ?_))
   refine SW_region ?_
   refine os 3 ?_
   refine nt ?_
   exact ⟨i + 1, by omega, ⟨fun _ => rfl, ow⟩, by omega, by rw [hi1, ixFrom_at he1, if_neg (by simpa using hc3)]⟩
 ·skip
  refine SW_exit (x_then (x_then (x_in (n_then ?_))))
  refine sr ?_
  refine os 1 ?_
  refine nt ?_
  refine SW_ret ?_
  refine body_end (.int .i64 (-1)) (fun _ => rfl) ?_
  exact ⟨(), ow, congrArg (Value.int .i64) (by rw [hi1, ixFrom_end (by omega)])⟩

theorem rf_with {W0 : World} {s tg : Gs} {l : List RObj} {n m : Nat} {x : RObj} (x' : RObj) (hs : s.ok 7 l.length (l.flatMap RObj.cells)) (hx : l[n]? = some x) : SC Tryz.prog W0 61 #[.agg #[s.val l.length, tg.val m], .int .i64 (n : Int), .agg #[.int .i64 x'.kind, .int .u64 x'.proto, .bool x'.shut, x'.ns.val x'.names.length, x'.ds.val x'.descs.length, x'.es.val x'.elems.length, x'.is.val x'.inner.length]] (Gs.ent 83 7 s (l.flatMap RObj.cells)) (Ret (fun _ : Unit => Gs.ent 83 7 s ((l.set n x').flatMap RObj.cells)) (fun v _ => v = .agg #[s.val l.length, tg.val m])) := by
 have hnl := (List.getElem?_eq_some_iff.1 hx).1
 refine SC_body (fn := Tryz.f61) (n := 13) Tryz.func61 rfl (by kernel_rfl) (ρ := [(0, .agg #[Gs.val s l.length, Gs.val tg m]), (1, .int .i64 (n : Int)), (2, .agg #[.int .i64 x'.kind, .int .u64 x'.proto, .bool x'.shut, Gs.val x'.ns x'.names.length, Gs.val x'.ds x'.descs.length, Gs.val x'.es x'.elems.length, Gs.val x'.is x'.inner.length])]) rfl ?_
 refine SW_sig ((Gs.ent 83 7 s (l.flatMap RObj.cells)) ++ ([])) (by simp only [List.append_nil, List.append_assoc]) ?_
 refine sr ?_
 refine L (nw 28 2 [Gs.val s l.length, Gs.val tg m] ?_)
 intro b1
 refine L (nw 83 7 [.int .i64 x'.kind, .int .u64 x'.proto, .bool x'.shut, Gs.val x'.ns x'.names.length, Gs.val x'.ds x'.descs.length, Gs.val x'.es x'.elems.length, Gs.val x'.is x'.inner.length] ?_)
 intro b2
 refine L (nw 28 2 [.slice none 0 0, .slice none 0 0] ?_)
 intro b3
 refine nsr ?_
 refine os 1 ?_
 refine L (ld ?_)
 refine os 1 ?_
 refine L (lds 7 ?_)
 refine L (ixg (n : Int) (n * 7) hs Tryz.underlying25 ?_)
 have hok1 := Gs.ok.relen (ys := ((l.set n x').flatMap RObj.cells)) hs (by simp [flat_len RObj.len])
 refine SL_perm _ (perm_cc (perm_cc (perm_cc perm_cz))) ?_
 refine L (O_storeG (ys := ((l.set n x').flatMap RObj.cells)) s (n * 7) (.agg #[.int .i64 x'.kind, .int .u64 x'.proto, .bool x'.shut, Gs.val x'.ns x'.names.length, Gs.val x'.ds x'.descs.length, Gs.val x'.es x'.elems.length, Gs.val x'.is x'.inner.length]) [.int .i64 x'.kind, .int .u64 x'.proto, .bool x'.shut, Gs.val x'.ns x'.names.length, Gs.val x'.ds x'.descs.length, Gs.val x'.es x'.elems.length, Gs.val x'.is x'.inner.length] (Gs.ok.ne hs (by first | omega | (simp; omega))) (fun _ => rfl) (fun _ => rfl) rfl (by kernel_rfl) rfl (by rw [flat_len RObj.len]; simp; omega) (row_lay (j := 0) RObj.len x' hx (Nat.le_of_ble_eq_true rfl) rfl) rfl ?_)
 refine nsr ?_
 refine L (lds 2 ?_)
 refine L (st [Gs.val s l.length, Gs.val tg m] ?_)
 refine nt ?_
 refine SW_ret ?_
 refine body_endC [.agg #[Gs.val s l.length, Gs.val tg m]] (fun _ => (.cons ⟨b3, 0, rfl, .inl ⟨[Gs.val s l.length, Gs.val tg m], by kernel_rfl, (cells_cons (Cell.own mem_z rfl) (cells_cons (Cell.own mem_z rfl) cells_nil)), rfl⟩⟩ .nil)) ?_
 exact ⟨(), ow, rfl⟩

end Go.Proofs.YtdfhbheipagnmaaGreat
namespace Go.Proofs.YtdfhbheipagnmaaGreat
open Go.Sl

theorem heap_Text_old {W0 : World} {F : HeapF} {H : HeapV} (hH : H.ok F) {key : ByteArray} {w : Int} (hm : mget H.known key = some w) : SC Tryz.prog W0 32 #[.pointer (some ⟨F.p, 0, none⟩), .string key] (HeapV.ent H F) (Ret (fun _ : Unit => H.ent F) (fun v _ => v = .tuple #[.int .u64 w, .bool true])) := by
 refine SC_body (fn := Tryz.f32) (n := 54) Tryz.func32 rfl (by kernel_rfl) (ρ := [(0, pt F.p 0), (1, .string key)]) rfl ?_
 refine SW_sig _ HeapV.eq0 ?_
 have htx := hH.texts
 refine sr ?_
 refine os 2 ?_
 refine nsr ?_
 refine os 3 ?_
 refine L (ld ?_)
 refine os 1 ?_
 refine L (O_lookup2 lawK (e := 33) (m := H.known) key (z := .int .u64 0) (by kernel_rfl) (by kernel_rfl) (mem_c (mem_a (mem_a (mem_a mem_z)))) (fun _ => rfl) (fun _ => rfl) (.int .u64 w) true (by rw [hm]) (by rw [hm]; rfl) rfl ?_)
 refine os 5 ?_
 refine kp [7, 6, 5, 4, 0, 1] ?_
 refine nq ?_
 refine sr ?_
 refine os 1 ?_
 refine nt ?_
 refine ct ?_
 refine sr ?_
 refine os 3 ?_
 refine nt ?_
 refine SW_ret (r_then ?_)
 refine body_end (.tuple #[.int .u64 w, .bool true]) (fun _ => rfl) ?_
 exact ⟨(), HeapV.own, rfl⟩

theorem heap_Text_no {W0 : World} {F : HeapF} {H : HeapV} (hH : H.ok F) {key : ByteArray} (hm : mget H.known key = none) (hbig : 4096 < key.size ∨ 16384 ≤ H.texts.length) : SC Tryz.prog W0 32 #[.pointer (some ⟨F.p, 0, none⟩), .string key] (HeapV.ent H F) (Ret (fun _ : Unit => H.ent F) (fun v _ => v = .tuple #[.int .u64 18445336698825998336, .bool false])) := by
 refine SC_body (fn := Tryz.f32) (n := 54) Tryz.func32 rfl (by kernel_rfl) (ρ := [(0, pt F.p 0), (1, .string key)]) rfl ?_
 refine SW_sig _ HeapV.eq0 ?_
 have htx := hH.texts
 refine sr ?_
 refine os 2 ?_
 refine nsr ?_
 refine os 3 ?_
 refine L (ld ?_)
 refine os 1 ?_
 refine L (O_lookup2 lawK (e := 33) (m := H.known) key (z := .int .u64 0) (by kernel_rfl) (by kernel_rfl) (mem_c (mem_a (mem_a (mem_a mem_z)))) (fun _ => rfl) (fun _ => rfl) (.int .u64 0) false (by rw [hm]) (by rw [hm]; rfl) rfl ?_)
 refine os 5 ?_
 refine kp [7, 6, 5, 4, 0, 1] ?_
 refine nq ?_
 refine sr ?_
 refine os 1 ?_
 refine nt ?_
 refine cf ?_
 refine SW_skip (n_then ?_)
 refine SW_seq ?_
 refine sr ?_
 refine os 4 ?_
 refine tbp 22 (fun hg1 => ?_) (fun hg1 => ?_)
 ·skip
  replace hg1 : (key.size : Int) > 4096 := hg1
  refine os 7 ?_
  refine kp [29, 17, 7, 6, 5, 4, 0, 1] ?_
  refine nt ?_
  refine ct ?_
  refine sr ?_
  refine os 2 ?_
  refine nt ?_
  refine SW_ret (r_then ?_)
  refine body_end (.tuple #[.int .u64 18445336698825998336, .bool false]) (fun _ => rfl) ?_
  exact ⟨(), HeapV.own, rfl⟩
 ·skip
  replace hg1 : ¬ ((key.size : Int) > 4096) := hg1
  refine os 3 ?_
  refine L (ld ?_)
  refine os 3 ?_
  refine kp [29, 17, 7, 6, 5, 4, 0, 1] ?_
  refine nt ?_
  refine cdp (fun hc2 : (H.texts.length : Int) ≥ 16384 => ?_) (fun hc2 => ?_)
  ·skip
   refine sr ?_
   refine os 2 ?_
   refine nt ?_
   refine SW_ret (r_then ?_)
   refine body_end (.tuple #[.int .u64 18445336698825998336, .bool false]) (fun _ => rfl) ?_
   exact ⟨(), HeapV.own, rfl⟩
  ·skip
   exact absurd hbig (by omega)

theorem heap_Text_new {W0 : World} {F : HeapF} {H : HeapV} (hH : H.ok F) {key : ByteArray} (hm : mget H.known key = none) (hsm : key.size ≤ 4096 ∧ H.texts.length < 16384) : SC Tryz.prog W0 32 #[.pointer (some ⟨F.p, 0, none⟩), .string key] (HeapV.ent H F) (Ret (fun g : Gs => (H.text g key).ent F) (fun v g => v = .tuple #[.int .u64 (65532 * 281474976710656 + (H.texts.length : Int)), .bool true] ∧ g.ok 1 (H.texts ++ [key]).length ((H.texts ++ [key]).map encS))) := by
 refine SC_body (fn := Tryz.f32) (n := 54) Tryz.func32 rfl (by kernel_rfl) (ρ := [(0, pt F.p 0), (1, .string key)]) rfl ?_
 refine SW_sig _ HeapV.eq0 ?_
 have htx := hH.texts
 refine sr ?_
 refine os 2 ?_
 refine nsr ?_
 refine os 3 ?_
 refine L (ld ?_)
 refine os 1 ?_
 refine L (O_lookup2 lawK (e := 33) (m := H.known) key (z := .int .u64 0) (by kernel_rfl) (by kernel_rfl) (mem_c (mem_a (mem_a (mem_a mem_z)))) (fun _ => rfl) (fun _ => rfl) (.int .u64 0) false (by rw [hm]) (by rw [hm]; rfl) rfl ?_)
 refine os 5 ?_
 refine kp [7, 6, 5, 4, 0, 1] ?_
 refine nq ?_
 refine sr ?_
 refine os 1 ?_
 refine nt ?_
 refine cf ?_
 refine SW_skip (n_then ?_)
 refine SW_seq ?_
 refine sr ?_
 refine os 4 ?_
 refine tbp 22 (fun hg1 => ?_) (fun hg1 => ?_)
 ·skip
  replace hg1 : (key.size : Int) > 4096 := hg1
  refine os 7 ?_
  refine kp [29, 17, 7, 6, 5, 4, 0, 1] ?_
  refine nt ?_
  refine ct ?_
  refine sr ?_
  refine os 2 ?_
  refine nt ?_
  refine SW_ret (r_then ?_)
  refine body_end (.tuple #[.int .u64 18445336698825998336, .bool false]) (fun _ => rfl) ?_
  exact absurd hsm (by omega)
 ·skip
  replace hg1 : ¬ ((key.size : Int) > 4096) := hg1
  refine os 3 ?_
  refine L (ld ?_)
  refine os 3 ?_
  refine kp [29, 17, 7, 6, 5, 4, 0, 1] ?_
  refine nt ?_
  refine cdp (fun hc2 : (H.texts.length : Int) ≥ 16384 => ?_) (fun hc2 => ?_)
  ·skip
   exact absurd hsm (by omega)
  ·skip
   refine SW_skip (n_then ?_)
   refine sr ?_
   refine os 3 ?_
   refine L (ld ?_)
   refine os 2 ?_
   refine L (cl (word_Text (n := (H.texts.length : Int)) (by omega)) ?_)
   rintro _ _ rfl
   refine un ?_
   refine os 1 ?_
   refine kp [6, 29, 17, 7, 5, 4, 0, 1] ?_
   refine nsr ?_
   refine os 4 ?_
   refine L (ld ?_)
   refine os 1 ?_
   refine L (nws 9 1 1 [.string key] ?_)
   intro b3
   refine SL_perm _ (perm_cc (perm_cc (perm_ca (perm_ca perm_cz)))) ?_
   refine L (O_append (size := 1) (bytes := 16) (z := .string ByteArray.empty) H.ts H.texts.length 1 (some ⟨b3, 0, none⟩) 1 (H.texts.map encS) ([.string key]) ((H.texts ++ [key]).map encS) (map_snoc _ key rfl) (fun _ => rfl) (fun _ => rfl) Tryz.underlying26 (by kernel_rfl) rfl (by decide) hH.ts rfl (.inr ⟨b3, 0, rfl, Cells.own (mem_a mem_z) rfl⟩) rfl (by omega) (by decide) rfl ?_)
   intro s4 hks4 hfs4
   rw [show H.texts.length + 1 = (H.texts ++ [key]).length from by simp]
   rw [show H.texts.length + 1 = (H.texts ++ [key]).length from by simp] at hks4
   have hls4 : (H.texts ++ [key]).length = H.texts.length + 1 := by simp
   refine os 2 ?_
   refine kp [46, 44, 6, 29, 17, 7, 5, 4, 0, 1] ?_
   refine L (st [Gs.val H.s H.objs.length, Gs.val s4 ((H.texts ++ [key]).length), .map (some F.kb), pt F.T.p 0, pt F.cp 0, .int .i64 H.br] ?_)
   refine nsr ?_
   refine os 3 ?_
   refine L (ld ?_)
   refine os 2 ?_
   refine SL_perm _ (perm_c (perm_a (perm_c (perm_a (perm_a perm_z))))) ?_
   refine L (O_mapUpdate lawK (e := 33) (m := H.known) key (65532 * 281474976710656 + (H.texts.length : Int)) (by kernel_rfl) (fun _ => rfl) (fun _ => rfl) (fun _ => rfl) rfl ?_)
   refine nsr ?_
   refine os 3 ?_
   refine kp [5, 4, 6, 29, 17, 7, 0, 1] ?_
   refine nt ?_
   refine SW_ret ?_
   refine body_end (.tuple #[.int .u64 (65532 * 281474976710656 + (H.texts.length : Int)), .bool true]) (fun _ => rfl) ?_
   exact ⟨s4, (ow (S := ((F.p, .cells 48 6 [Gs.val H.s H.objs.length, Gs.val s4 ((H.texts ++ [key]).length), .map (some F.kb), pt F.T.p 0, pt F.cp 0, .int .i64 H.br]) :: ((Gs.ent 105 9 H.s (H.objs.flatMap ObjL.cells)) ++ ((H.objs.flatMap ObjL.ent) ++ ((Gs.ent 9 1 s4 ((H.texts ++ [key]).map encS)) ++ ((F.kb, .map (kvs encS encU (mset H.known key (65532 * 281474976710656 + (H.texts.length : Int))))) :: ((TreeV.ent H.V F.T) ++ ((CellsL.ent (CellsL.mk F.cp H.cs H.cl)) ++ ([])))))))))), rfl, hks4⟩

theorem heap_TextOf {W0 : World} {F : HeapF} {H : HeapV} (hH : H.ok F) (w : Int) : SC Tryz.prog W0 49 #[.pointer (some ⟨F.p, 0, none⟩), .int .u64 w] (HeapV.ent H F) (Ret (fun _ : Unit => H.ent F) (fun v _ => v = textR (textO H.texts w))) := by
 refine SC_body (fn := Tryz.f49) (n := 32) Tryz.func49 rfl (by kernel_rfl) (ρ := [(0, pt F.p 0), (1, .int .u64 w)]) rfl ?_
 refine SW_sig _ HeapV.eq0 ?_
 have htx := hH.texts
 refine sr ?_
 refine os 2 ?_
 refine nsr ?_
 refine os 1 ?_
 rcases hm1 : tagOf w 65532 with _ | m1
 ·skip
  refine L (cl (word_IsText (w := w)) ?_)
  rintro v1 _ hv1
  obtain rfl : v1 = .tuple #[.int .u32 0, .bool false] := hv1.trans (by rw [hm1])
  refine un ?_
  refine os 5 ?_
  refine kp [7, 6, 5, 4, 0, 1] ?_
  refine nq ?_
  refine sr ?_
  refine os 1 ?_
  refine oV (.bool true) ?_
  refine os 10 ?_
  refine kp [24, 7, 6, 5, 4, 0, 1] ?_
  refine nt ?_
  refine ct ?_
  refine sr ?_
  refine os 2 ?_
  refine nt ?_
  refine SW_ret (r_then ?_)
  refine body_end (.tuple #[.string (ByteArray.mk (List.toArray List.nil)), .bool false]) (fun _ => rfl) ?_
  exact ⟨(), HeapV.own, by simp only [textO, hm1]; rfl⟩
 ·skip
  have hlt := tagOf_lt hm1
  refine L (cl (word_IsText (w := w)) ?_)
  rintro v2 _ hv2
  obtain rfl : v2 = .tuple #[.int .u32 (m1 : Int), .bool true] := hv2.trans (by rw [hm1])
  refine un ?_
  refine os 5 ?_
  refine kp [7, 6, 5, 4, 0, 1] ?_
  refine nq ?_
  refine sr ?_
  refine os 1 ?_
  refine oV (.bool false) ?_
  refine os 6 ?_
  refine L (ld ?_)
  refine os 3 ?_
  refine kp [24, 7, 6, 5, 4, 0, 1] ?_
  refine nt ?_
  refine cdp (fun hc1 : (m1 : Int) ≥ (H.texts.length : Int) => ?_) (fun hc1 => ?_)
  ·skip
   refine sr ?_
   refine os 2 ?_
   refine nt ?_
   refine SW_ret (r_then ?_)
   refine body_end (.tuple #[.string (ByteArray.mk (List.toArray List.nil)), .bool false]) (fun _ => rfl) ?_
   exact ⟨(), HeapV.own, by simp only [textO, hm1]; rw [List.getElem?_eq_none (by omega)]; rfl⟩
  ·skip
   refine SW_skip (n_then ?_)
   refine sr ?_
   refine os 3 ?_
   refine L (ld ?_)
   refine os 1 ?_
   refine L (ixg (m1 : Int) (m1) hH.ts Tryz.underlying26 ?_)
   obtain ⟨e2, he2⟩ : ∃ y_, H.texts[m1]? = some y_ := ⟨_, List.getElem?_eq_getElem (by omega)⟩
   refine L (ld ?_ (hc := Gs.cell hH.ts (fun e he => (mem_c (mem_a (mem_a (mem_h he))))) (map_cell he2 rfl)))
   refine os 2 ?_
   refine kp [5, 4, 24, 7, 6, 0, 1] ?_
   refine nt ?_
   refine SW_ret ?_
   refine body_end (.tuple #[.string e2, .bool true]) (fun _ => rfl) ?_
   exact ⟨(), HeapV.own, by simp only [textO, hm1]; rw [he2]; rfl⟩

theorem heap_Elem_none {W0 : World} {F : HeapF} {H : HeapV} (hH : H.ok F) {w : Int} (h0 : objAt w H.objs.length = none) (n_ : Int) : SC Tryz.prog W0 47 #[.pointer (some ⟨F.p, 0, none⟩), .int .u64 w, .int .i64 n_] (HeapV.ent H F) (Ret (fun _ : Unit => H.ent F) (fun v _ => v = .tuple #[.int .u64 18445336698825998336, .bool false])) := by
 refine SC_body (fn := Tryz.f47) (n := 44) Tryz.func47 rfl (by kernel_rfl) (ρ := [(0, pt F.p 0), (1, .int .u64 w), (2, .int .i64 n_)]) rfl ?_
 refine SW_sig _ HeapV.eq0 ?_
 refine sr ?_
 refine os 2 ?_
 refine nsr ?_
 refine os 2 ?_
 refine L (cl (heap_at hH w) ?_ (hp := HeapV.pm))
 rintro v1 _ hv1
 obtain rfl : v1 = .pointer none := hv1.trans (by rw [h0])
 refine SL_sig _ HeapV.eq ?_
 refine os 1 ?_
 refine kp [8, 7, 6, 0, 1, 2] ?_
 refine nq ?_
 refine sr ?_
 refine os 1 ?_
 refine oV (.bool true) ?_
 refine os 23 ?_
 refine kp [36, 8, 7, 6, 0, 1, 2] ?_
 refine nt ?_
 refine ct ?_
 refine sr ?_
 refine os 2 ?_
 refine nt ?_
 refine SW_ret (r_then ?_)
 refine body_end (.tuple #[.int .u64 18445336698825998336, .bool false]) (fun _ => rfl) ?_
 exact ⟨(), HeapV.own, rfl⟩

theorem heap_Elem_some {W0 : World} {F : HeapF} {H : HeapV} (hH : H.ok F) {w : Int} {n : Nat} {x : ObjL} (h0 : objAt w H.objs.length = some n) (hx : H.objs[n]? = some x) (n_ : Int) : SC Tryz.prog W0 47 #[.pointer (some ⟨F.p, 0, none⟩), .int .u64 w, .int .i64 n_] (HeapV.ent H F) (Ret (fun _ : Unit => H.ent F) (fun v _ => v = .tuple #[.int .u64 (elemO x.elems n_).1, .bool (elemO x.elems n_).2])) := by
 refine SC_body (fn := Tryz.f47) (n := 44) Tryz.func47 rfl (by kernel_rfl) (ρ := [(0, pt F.p 0), (1, .int .u64 w), (2, .int .i64 n_)]) rfl ?_
 refine SW_sig _ HeapV.eq0 ?_
 refine sr ?_
 refine os 2 ?_
 refine nsr ?_
 refine os 2 ?_
 refine L (cl (heap_at hH w) ?_ (hp := HeapV.pm))
 rintro v1 _ hv1
 obtain rfl : v1 = pt (Gs.blk H.s) (n * 9) := hv1.trans (by rw [h0])
 refine SL_sig _ HeapV.eq ?_
 refine os 1 ?_
 refine kp [8, 7, 6, 0, 1, 2] ?_
 refine nq ?_
 refine sr ?_
 refine os 1 ?_
 refine oV (.bool false) ?_
 refine os 5 ?_
 refine kp [18, 8, 7, 6, 0, 1, 2] ?_
 refine tbp 18 (fun hg1 => ?_) (fun hg1 => ?_)
 ·skip
  replace hg1 : n_ < 0 := hg1
  refine os 18 ?_
  refine kp [36, 8, 7, 6, 0, 1, 2] ?_
  refine nt ?_
  refine ct ?_
  refine sr ?_
  refine os 2 ?_
  refine nt ?_
  refine SW_ret (r_then ?_)
  refine body_end (.tuple #[.int .u64 18445336698825998336, .bool false]) (fun _ => rfl) ?_
  exact ⟨(), HeapV.own, by unfold elemO; rw [if_neg (by omega)]⟩
 ·skip
  replace hg1 : ¬ (n_ < 0) := hg1
  refine os 4 ?_
  refine L (ld ?_ (hc := Gs.cell hH.row (fun e he => (mem_c (mem_h he))) (flat_cell ObjL.len hx (j := 6) (by decide) rfl)))
  refine os 4 ?_
  refine kp [27, 8, 7, 6, 0, 1, 2] ?_
  refine tbp 27 (fun hg2 => ?_) (fun hg2 => ?_)
  ·skip
   replace hg2 : n_ ≥ (x.elems.length : Int) := hg2
   refine os 9 ?_
   refine kp [36, 8, 7, 6, 0, 1, 2] ?_
   refine nt ?_
   refine ct ?_
   refine sr ?_
   refine os 2 ?_
   refine nt ?_
   refine SW_ret (r_then ?_)
   refine body_end (.tuple #[.int .u64 18445336698825998336, .bool false]) (fun _ => rfl) ?_
   exact ⟨(), HeapV.own, by unfold elemO; rw [if_neg (by omega)]⟩
  ·skip
   replace hg2 : ¬ (n_ ≥ (x.elems.length : Int)) := hg2
   refine os 3 ?_
   refine L (ld ?_ (hc := Gs.cell hH.row (fun e he => (mem_c (mem_h he))) (flat_cell ObjL.len hx (j := 6) (by decide) rfl)))
   refine os 1 ?_
   refine L (ixg n_ (n_.toNat) ((HeapV.ok.at hH hx).es) Tryz.underlying36 ?_)
   obtain ⟨e1, he1⟩ : ∃ y_, x.elems[n_.toNat]? = some y_ := ⟨_, List.getElem?_eq_getElem (by omega)⟩
   refine L (ld ?_ (hc := Gs.cell (HeapV.ok.at hH hx).es (fun e he => (mem_c (mem_a (mem_h ((ObjL.mes hx) _ he))))) (map_cell he1 rfl)))
   refine os 2 ?_
   refine kp [36, 8, 7, 6, 0, 1, 2] ?_
   refine nt ?_
   refine cd (fun hc3 : (e1 == 18445336698825998340) = true => ?_) (fun hc3 => ?_)
   ·skip
    refine sr ?_
    refine os 2 ?_
    refine nt ?_
    refine SW_ret (r_then ?_)
    refine body_end (.tuple #[.int .u64 18445336698825998336, .bool false]) (fun _ => rfl) ?_
    exact ⟨(), HeapV.own, by unfold elemO; rw [if_pos (by omega), he1]; simp_all⟩
   ·skip
    refine SW_skip (n_then ?_)
    refine sr ?_
    refine os 3 ?_
    refine L (ld ?_ (hc := Gs.cell hH.row (fun e he => (mem_c (mem_h he))) (flat_cell ObjL.len hx (j := 6) (by decide) rfl)))
    refine os 1 ?_
    refine L (ixg n_ (n_.toNat) ((HeapV.ok.at hH hx).es) Tryz.underlying36 ?_)
    refine L (ld ?_ (hc := Gs.cell (HeapV.ok.at hH hx).es (fun e he => (mem_c (mem_a (mem_h ((ObjL.mes hx) _ he))))) (map_cell he1 rfl)))
    refine os 2 ?_
    refine kp [7, 6, 36, 8, 0, 1, 2] ?_
    refine nt ?_
    refine SW_ret ?_
    refine body_end (.tuple #[.int .u64 e1, .bool true]) (fun _ => rfl) ?_
    exact ⟨(), HeapV.own, by unfold elemO; rw [if_pos (by omega), he1]; simp_all⟩

theorem heap_SetLen_none {W0 : World} {F : HeapF} {H : HeapV} (hH : H.ok F) {w : Int} (h0 : objAt w H.objs.length = none) (m : Int) : SC Tryz.prog W0 26 #[.pointer (some ⟨F.p, 0, none⟩), .int .u64 w, .int .i64 m] (HeapV.ent H F) (Ret (fun _ : Unit => H.ent F) (fun v _ => v = .bool false)) := by
 refine SC_body (fn := Tryz.f26) (n := 57) Tryz.func26 rfl (by kernel_rfl) (ρ := [(0, pt F.p 0), (1, .int .u64 w), (2, .int .i64 m)]) rfl ?_
 refine SW_sig _ HeapV.eq0 ?_
 refine sr ?_
 refine os 1 ?_
 refine nsr ?_
 refine os 2 ?_
 refine L (cl (heap_at hH w) ?_ (hp := HeapV.pm))
 rintro v1 _ hv1
 obtain rfl : v1 = .pointer none := hv1.trans (by rw [h0])
 refine SL_sig _ HeapV.eq ?_
 refine os 1 ?_
 refine kp [7, 6, 0, 1, 2] ?_
 refine nq ?_
 refine sr ?_
 refine os 1 ?_
 refine oV (.bool true) ?_
 refine os 8 ?_
 refine kp [20, 7, 6, 0, 1, 2] ?_
 refine nt ?_
 refine ct ?_
 refine sr ?_
 refine os 1 ?_
 refine nt ?_
 refine SW_ret (r_then ?_)
 refine body_end (.bool false) (fun _ => rfl) ?_
 exact ⟨(), HeapV.own, rfl⟩

theorem heap_SetLen_bad {W0 : World} {F : HeapF} {H : HeapV} (hH : H.ok F) {w : Int} {n : Nat} {x : ObjL} (h0 : objAt w H.objs.length = some n) (hx : H.objs[n]? = some x) {m : Int} (hbad : ¬ (0 ≤ m ∧ m ≤ 4096)) : SC Tryz.prog W0 26 #[.pointer (some ⟨F.p, 0, none⟩), .int .u64 w, .int .i64 m] (HeapV.ent H F) (Ret (fun _ : Unit => H.ent F) (fun v _ => v = .bool false)) := by
 have hnl := (List.getElem?_eq_some_iff.1 hx).1
 have hec : x.elems.length ≤ x.es.cap := Gs.ok.cap_le (HeapV.ok.at hH hx).es
 refine SC_body (fn := Tryz.f26) (n := 57) Tryz.func26 rfl (by kernel_rfl) (ρ := [(0, pt F.p 0), (1, .int .u64 w), (2, .int .i64 m)]) rfl ?_
 refine SW_sig _ HeapV.eq0 ?_
 refine sr ?_
 refine os 1 ?_
 refine nsr ?_
 refine os 2 ?_
 refine L (cl (heap_at hH w) ?_ (hp := HeapV.pm))
 rintro v1 _ hv1
 obtain rfl : v1 = pt (Gs.blk H.s) (n * 9) := hv1.trans (by rw [h0])
 refine SL_sig _ HeapV.eq ?_
 refine os 1 ?_
 refine kp [7, 6, 0, 1, 2] ?_
 refine nq ?_
 refine sr ?_
 refine os 1 ?_
 refine oV (.bool false) ?_
 refine os 5 ?_
 refine kp [17, 7, 6, 0, 1, 2] ?_
 refine tbp 17 (fun hg1 => ?_) (fun hg1 => ?_)
 ·skip
  replace hg1 : m < 0 := hg1
  refine os 3 ?_
  refine kp [20, 7, 6, 0, 1, 2] ?_
  refine nt ?_
  refine ct ?_
  refine sr ?_
  refine os 1 ?_
  refine nt ?_
  refine SW_ret (r_then ?_)
  refine body_end (.bool false) (fun _ => rfl) ?_
  exact ⟨(), HeapV.own, rfl⟩
 ·skip
  replace hg1 : ¬ (m < 0) := hg1
  refine os 3 ?_
  refine kp [20, 7, 6, 0, 1, 2] ?_
  refine nt ?_
  refine cdp (fun hc2 : m > 4096 => ?_) (fun hc2 => ?_)
  ·skip
   refine sr ?_
   refine os 1 ?_
   refine nt ?_
   refine SW_ret (r_then ?_)
   refine body_end (.bool false) (fun _ => rfl) ?_
   exact ⟨(), HeapV.own, rfl⟩
  ·skip
   exact absurd (by omega) hbad

theorem heap_SetLen_short {W0 : World} {F : HeapF} {H : HeapV} (hH : H.ok F) {w : Int} {n : Nat} {x : ObjL} (h0 : objAt w H.objs.length = some n) (hx : H.objs[n]? = some x) {k : Nat} (hB : H.bud k) (hk : k ≤ 8000000) {m : Nat} (hm4 : m ≤ 4096) (hmx : m ≤ x.elems.length) : SC Tryz.prog W0 26 #[.pointer (some ⟨F.p, 0, none⟩), .int .u64 w, .int .i64 (m : Int)] (HeapV.ent H F) (Ret (fun r : Gs × List CellL × Int => (H.upd n ((ObjL.chg x).withElems r.1 (setLenL x.elems m)) H.V r.2.1 r.2.2).ent F) (fun v r => v = .bool true ∧ (H.upd n ((ObjL.chg x).withElems r.1 (setLenL x.elems m)) H.V r.2.1 r.2.2).ok F ∧ Chg x.cell H.cl r.2.1)) := by
 have hnl := (List.getElem?_eq_some_iff.1 hx).1
 have hec : x.elems.length ≤ x.es.cap := Gs.ok.cap_le (HeapV.ok.at hH hx).es
 refine SC_body (fn := Tryz.f26) (n := 57) Tryz.func26 rfl (by kernel_rfl) (ρ := [(0, pt F.p 0), (1, .int .u64 w), (2, .int .i64 (m : Int))]) rfl ?_
 refine SW_sig _ HeapV.eq0 ?_
 refine sr ?_
 refine os 1 ?_
 refine nsr ?_
 refine os 2 ?_
 refine L (cl (heap_at hH w) ?_ (hp := HeapV.pm))
 rintro v1 _ hv1
 obtain rfl : v1 = pt (Gs.blk H.s) (n * 9) := hv1.trans (by rw [h0])
 refine SL_sig _ HeapV.eq ?_
 refine os 1 ?_
 refine kp [7, 6, 0, 1, 2] ?_
 refine nq ?_
 refine sr ?_
 refine os 1 ?_
 refine oV (.bool false) ?_
 refine os 5 ?_
 refine kp [17, 7, 6, 0, 1, 2] ?_
 refine tbp 17 (fun hg1 => ?_) (fun hg1 => ?_)
 ·skip
  replace hg1 : (m : Int) < 0 := hg1
  refine os 3 ?_
  refine kp [20, 7, 6, 0, 1, 2] ?_
  refine nt ?_
  refine ct ?_
  refine sr ?_
  refine os 1 ?_
  refine nt ?_
  refine SW_ret (r_then ?_)
  refine body_end (.bool false) (fun _ => rfl) ?_
  exact absurd hm4 (by omega)
 ·skip
  replace hg1 : ¬ ((m : Int) < 0) := hg1
  refine os 3 ?_
  refine kp [20, 7, 6, 0, 1, 2] ?_
  refine nt ?_
  refine cdp (fun hc2 : (m : Int) > 4096 => ?_) (fun hc2 => ?_)
  ·skip
   exact absurd hm4 (by omega)
  ·skip
   refine SW_skip (n_then ?_)
   refine sr ?_
   refine os 2 ?_
   refine L (cl (heap_changed hH (n := n) hx hB hk) ?_ (hp := HeapV.pm))
   rintro _ ⟨cl1, br1⟩ ⟨rfl, hccl1, hchcl1⟩
   refine SL_sig _ HeapV.eq ?_
   have hH1 : HeapV.ok (HeapV.mk H.s (H.objs.set n (ObjL.chg x)) H.ts H.texts H.known H.V H.cs cl1 br1) F := hH.chg hx hccl1 br1
   refine nq ?_
   refine sr ?_
   refine os 4 ?_
   refine L (ld ?_ (hc := Gs.cell hH1.row (fun e he => (mem_c (mem_h he))) (flat_cell ObjL.len (get_set hx) (j := 6) (by decide) rfl)) (v := Gs.val x.es x.elems.length))
   refine os 2 ?_
   refine kp [30, 20, 7, 6, 0, 1, 2] ?_
   refine nt ?_
   refine cdp (fun hc3 : (m : Int) ≤ (x.elems.length : Int) => ?_) (fun hc3 => ?_)
   ·skip
    refine SW_seq ?_
    refine SW_perm _ (perm_cc (perm_ca perm_cz)) ?_
    refine SW_perm ((Gs.ent 9 1 x.ns (x.names.map encS)) ++ ((Gs.ent 35 3 x.vs (x.vals.flatMap descCells)) ++ ((Gs.ent 33 1 x.es (x.elems.map encU)) ++ ((Gs.ent 33 1 x.is (x.inner.map encU)) ++ (((List.eraseIdx (H.objs.set n (ObjL.chg x)) n).flatMap ObjL.ent) ++ ((F.p, .cells 48 6 [Gs.val H.s ((H.objs.set n (ObjL.chg x)).length), Gs.val H.ts H.texts.length, .map (some F.kb), pt F.T.p 0, pt F.cp 0, .int .i64 br1]) :: ((Gs.ent 105 9 H.s ((H.objs.set n (ObjL.chg x)).flatMap ObjL.cells)) ++ ((Gs.ent 9 1 H.ts (H.texts.map encS)) ++ ((F.kb, .map (kvs encS encU H.known)) :: ((TreeV.ent H.V F.T) ++ ((CellsL.ent (CellsL.mk F.cp H.cs cl1)) ++ ([])))))))))))) (obj_focus (get_set hx) _) ?_
    refine SW_region ?_
    refine os 4 ?_
    refine L (ld ?_ (hc := Gs.cell hH1.row (fun e he => (mem_a (mem_a (mem_a (mem_a (mem_a (mem_c (mem_h he)))))))) (flat_cell ObjL.len (get_set hx) (j := 6) (by decide) rfl)) (v := Gs.val x.es x.elems.length))
    refine os 1 ?_
    refine L (O_val (.slice (Gs.addr x.es) ((m : Int)).toNat (Gs.cap x.es)) rfl (fun δ w _ => run_slice_to (m : Int) (Gs.addr x.es) x.elems.length (Gs.cap x.es) .i64 Tryz.underlying36 (by kernel_rfl) rfl rfl (by omega) (by omega)) ?_)
    rw [show Value.slice (Gs.addr x.es) ((m : Int)).toNat (Gs.cap x.es) = Gs.val x.es ((x.elems.take m).length) from congrArg (fun q_ => Value.slice (Gs.addr x.es) q_ (Gs.cap x.es)) (show ((m : Int)).toNat = (x.elems.take m).length from by simp; omega)]
    refine L (clA (words_Clone (σ := _) (l := x.elems.take m) (Src.take (Gs.src0 (show Gs.ok 1 (x.elems).length x.es (x.elems.map encU) from (HeapV.ok.at (x := (ObjL.chg x)) hH1 (get_set hx)).es) (fun e he => (mem_a (mem_a (mem_h he))))) m) (by simp; omega)) ?_)
    rintro _ cg1 ⟨rfl, hcg1⟩
    refine un ?_
    refine os 2 ?_
    refine kp [40, 38, 30, 20, 7, 6, 0, 1, 2] ?_
    have hok1 := Gs.ok.relen (ys := ((H.objs.set n (ObjL.mk x.kind x.proto x.shut x.shape x.ns x.names x.vs x.vals cg1 (x.elems.take m) x.is x.inner (if 0 ≤ x.cell then -1 else x.cell))).flatMap ObjL.cells)) hH1.row (by simp [flat_len ObjL.len])
    refine SL_perm _ (perm_ca (perm_ca (perm_ca (perm_ca (perm_ca (perm_ca (perm_cc perm_cz))))))) ?_
    refine L (O_storeG (ys := ((H.objs.set n (ObjL.mk x.kind x.proto x.shut x.shape x.ns x.names x.vs x.vals cg1 (x.elems.take m) x.is x.inner (if 0 ≤ x.cell then -1 else x.cell))).flatMap ObjL.cells)) H.s (n * 9 + 6) (Gs.val cg1 ((x.elems.take m).length)) [Gs.val cg1 ((x.elems.take m).length)] (Gs.ok.ne hH1.row (by first | omega | (simp; omega))) (fun _ => rfl) (fun _ => rfl) rfl (by kernel_rfl) rfl (by rw [flat_len ObjL.len]; simp; omega) ((row_lay (j := 6) ObjL.len (ObjL.mk x.kind x.proto x.shut x.shape x.ns x.names x.vs x.vals cg1 (x.elems.take m) x.is x.inner (if 0 ≤ x.cell then -1 else x.cell)) (get_set hx) (Nat.le_of_ble_eq_true rfl) rfl).trans (by rw [List.set_set])) rfl ?_)
    refine nsr ?_
    refine os 1 ?_
    refine nt ?_
    refine SW_ret (r_then ?_)
    refine body_end (.bool true) (fun _ => rfl) ?_
    rw [show setLenL x.elems m = x.elems.take m from setLenL_le (by omega)]
    refine ⟨(cg1, cl1, br1), ?_, rfl, ?_, hchcl1⟩
    · refine Own.trans (ow (S := ((F.p, .cells 48 6 [Gs.val H.s ((H.objs.set n (ObjL.chg x)).length), Gs.val H.ts H.texts.length, .map (some F.kb), pt F.T.p 0, pt F.cp 0, .int .i64 br1]) :: ((Gs.ent 105 9 H.s ((H.objs.set n (ObjL.mk x.kind x.proto x.shut x.shape x.ns x.names x.vs x.vals cg1 (x.elems.take m) x.is x.inner (if 0 ≤ x.cell then -1 else x.cell))).flatMap ObjL.cells)) ++ ((Gs.ent 9 1 x.ns (x.names.map encS)) ++ ((Gs.ent 35 3 x.vs (x.vals.flatMap descCells)) ++ ((Gs.ent 33 1 cg1 ((x.elems.take m).map encU)) ++ ((Gs.ent 33 1 x.is (x.inner.map encU)) ++ (((List.eraseIdx (H.objs.set n (ObjL.chg x)) n).flatMap ObjL.ent) ++ ((Gs.ent 9 1 H.ts (H.texts.map encS)) ++ ((F.kb, .map (kvs encS encU H.known)) :: ((TreeV.ent H.V F.T) ++ ((CellsL.ent (CellsL.mk F.cp H.cs cl1)) ++ ([])))))))))))))) (Own.of_perm ?_)
      have hb_ := HeapV.back (H := (HeapV.mk H.s (H.objs.set n (ObjL.chg x)) H.ts H.texts H.known H.V H.cs cl1 br1)) F (get_set hx) (ObjL.mk x.kind x.proto x.shut x.shape x.ns x.names x.vs x.vals cg1 (x.elems.take m) x.is x.inner (if 0 ≤ x.cell then -1 else x.cell))
      simp only [HeapV.head, HeapV.put, List.set_set, List.length_set] at hb_ ⊢
      exact hb_
    · simpa only [HeapV.put, List.set_set, List.length_set] using HeapV.ok.put hH1 (get_set hx) (x' := (ObjL.mk x.kind x.proto x.shut x.shape x.ns x.names x.vs x.vals cg1 (x.elems.take m) x.is x.inner (if 0 ≤ x.cell then -1 else x.cell))) ⟨(by first | exact (show Gs.ok 1 (x.names).length x.ns (x.names.map encS) from (HeapV.ok.at (x := (ObjL.chg x)) hH1 (get_set hx)).ns) | (simp only [List.length_set]; exact (show Gs.ok 1 (x.names).length x.ns (x.names.map encS) from (HeapV.ok.at (x := (ObjL.chg x)) hH1 (get_set hx)).ns))), (by first | exact (show Gs.ok 3 (x.vals).length x.vs (x.vals.flatMap descCells) from (HeapV.ok.at (x := (ObjL.chg x)) hH1 (get_set hx)).vs) | (simp only [List.length_set]; exact (show Gs.ok 3 (x.vals).length x.vs (x.vals.flatMap descCells) from (HeapV.ok.at (x := (ObjL.chg x)) hH1 (get_set hx)).vs))), (by first | exact hcg1 | (simp only [List.length_set]; exact hcg1)), (by first | exact (show Gs.ok 1 (x.inner).length x.is (x.inner.map encU) from (HeapV.ok.at (x := (ObjL.chg x)) hH1 (get_set hx)).is) | (simp only [List.length_set]; exact (show Gs.ok 1 (x.inner).length x.is (x.inner.map encU) from (HeapV.ok.at (x := (ObjL.chg x)) hH1 (get_set hx)).is)))⟩ (by simp [setLenL_len]; omega)
   ·skip
    omega

theorem heap_SetLen_long {W0 : World} {F : HeapF} {H : HeapV} (hH : H.ok F) {w : Int} {n : Nat} {x : ObjL} (h0 : objAt w H.objs.length = some n) (hx : H.objs[n]? = some x) {k : Nat} (hB : H.bud k) (hk : k ≤ 8000000) {m : Nat} (hm4 : m ≤ 4096) (hmx : x.elems.length < m) : SC Tryz.prog W0 26 #[.pointer (some ⟨F.p, 0, none⟩), .int .u64 w, .int .i64 (m : Int)] (HeapV.ent H F) (Ret (fun r : Gs × List CellL × Int => (H.upd n ((ObjL.chg x).withElems r.1 (setLenL x.elems m)) H.V r.2.1 r.2.2).ent F) (fun v r => v = .bool true ∧ (H.upd n ((ObjL.chg x).withElems r.1 (setLenL x.elems m)) H.V r.2.1 r.2.2).ok F ∧ Chg x.cell H.cl r.2.1)) := by
 have hnl := (List.getElem?_eq_some_iff.1 hx).1
 have hec : x.elems.length ≤ x.es.cap := Gs.ok.cap_le (HeapV.ok.at hH hx).es
 refine SC_body (fn := Tryz.f26) (n := 57) Tryz.func26 rfl (by kernel_rfl) (ρ := [(0, pt F.p 0), (1, .int .u64 w), (2, .int .i64 (m : Int))]) rfl ?_
 refine SW_sig _ HeapV.eq0 ?_
 refine sr ?_
 refine os 1 ?_
 refine nsr ?_
 refine os 2 ?_
 refine L (cl (heap_at hH w) ?_ (hp := HeapV.pm))
 rintro v1 _ hv1
 obtain rfl : v1 = pt (Gs.blk H.s) (n * 9) := hv1.trans (by rw [h0])
 refine SL_sig _ HeapV.eq ?_
 refine os 1 ?_
 refine kp [7, 6, 0, 1, 2] ?_
 refine nq ?_
 refine sr ?_
 refine os 1 ?_
 refine oV (.bool false) ?_
 refine os 5 ?_
 refine kp [17, 7, 6, 0, 1, 2] ?_
 refine tbp 17 (fun hg1 => ?_) (fun hg1 => ?_)
 ·skip
  replace hg1 : (m : Int) < 0 := hg1
  refine os 3 ?_
  refine kp [20, 7, 6, 0, 1, 2] ?_
  refine nt ?_
  refine ct ?_
  refine sr ?_
  refine os 1 ?_
  refine nt ?_
  refine SW_ret (r_then ?_)
  refine body_end (.bool false) (fun _ => rfl) ?_
  exact absurd hm4 (by omega)
 ·skip
  replace hg1 : ¬ ((m : Int) < 0) := hg1
  refine os 3 ?_
  refine kp [20, 7, 6, 0, 1, 2] ?_
  refine nt ?_
  refine cdp (fun hc2 : (m : Int) > 4096 => ?_) (fun hc2 => ?_)
  ·skip
   exact absurd hm4 (by omega)
  ·skip
   refine SW_skip (n_then ?_)
   refine sr ?_
   refine os 2 ?_
   refine L (cl (heap_changed hH (n := n) hx hB hk) ?_ (hp := HeapV.pm))
   rintro _ ⟨cl1, br1⟩ ⟨rfl, hccl1, hchcl1⟩
   refine SL_sig _ HeapV.eq ?_
   have hH1 : HeapV.ok (HeapV.mk H.s (H.objs.set n (ObjL.chg x)) H.ts H.texts H.known H.V H.cs cl1 br1) F := hH.chg hx hccl1 br1
   refine nq ?_
   refine sr ?_
   refine os 4 ?_
   refine L (ld ?_ (hc := Gs.cell hH1.row (fun e he => (mem_c (mem_h he))) (flat_cell ObjL.len (get_set hx) (j := 6) (by decide) rfl)) (v := Gs.val x.es x.elems.length))
   refine os 2 ?_
   refine kp [30, 20, 7, 6, 0, 1, 2] ?_
   refine nt ?_
   refine cdp (fun hc3 : (m : Int) ≤ (x.elems.length : Int) => ?_) (fun hc3 => ?_)
   ·skip
    omega
   ·skip
    refine SW_skip (n_then ?_)
    refine SW_seq ?_
    refine SW_block ?_
    refine SW_perm _ (perm_cc (perm_ca perm_cz)) ?_
    refine SW_perm ((Gs.ent 9 1 x.ns (x.names.map encS)) ++ ((Gs.ent 35 3 x.vs (x.vals.flatMap descCells)) ++ ((Gs.ent 33 1 x.es (x.elems.map encU)) ++ ((Gs.ent 33 1 x.is (x.inner.map encU)) ++ (((List.eraseIdx (H.objs.set n (ObjL.chg x)) n).flatMap ObjL.ent) ++ ((F.p, .cells 48 6 [Gs.val H.s ((H.objs.set n (ObjL.chg x)).length), Gs.val H.ts H.texts.length, .map (some F.kb), pt F.T.p 0, pt F.cp 0, .int .i64 br1]) :: ((Gs.ent 105 9 H.s ((H.objs.set n (ObjL.chg x)).flatMap ObjL.cells)) ++ ((Gs.ent 9 1 H.ts (H.texts.map encS)) ++ ((F.kb, .map (kvs encS encU H.known)) :: ((TreeV.ent H.V F.T) ++ ((CellsL.ent (CellsL.mk F.cp H.cs cl1)) ++ ([])))))))))))) (obj_focus (get_set hx) _) ?_
    have e9 : setLenL x.elems x.elems.length = x.elems := setLenL_self _
    refine SW_loop (α := Nat × Gs) (fun z_ ρ_ σ_ => Fits ρ_ σ_ [(0, pt F.p 0), (7, pt (Gs.blk H.s) (n * 9)), (2, .int .i64 (m : Int))] ((Gs.ent 9 1 x.ns (x.names.map encS)) ++ ((Gs.ent 35 3 x.vs (x.vals.flatMap descCells)) ++ ((Gs.ent 33 1 z_.2 ((setLenL x.elems z_.1).map encU)) ++ ((Gs.ent 33 1 x.is (x.inner.map encU)) ++ (((List.eraseIdx (H.objs.set n (ObjL.chg x)) n).flatMap ObjL.ent) ++ ((F.p, .cells 48 6 [Gs.val H.s H.objs.length, Gs.val H.ts H.texts.length, .map (some F.kb), pt F.T.p 0, pt F.cp 0, .int .i64 br1]) :: ((Gs.ent 105 9 H.s ((H.objs.set n (ObjL.mk x.kind x.proto x.shut x.shape x.ns x.names x.vs x.vals z_.2 (setLenL x.elems z_.1) x.is x.inner (if 0 ≤ x.cell then -1 else x.cell))).flatMap ObjL.cells)) ++ ((Gs.ent 9 1 H.ts (H.texts.map encS)) ++ ((F.kb, .map (kvs encS encU H.known)) :: ((TreeV.ent H.V F.T) ++ ((CellsL.ent (CellsL.mk F.cp H.cs cl1)) ++ ([])))))))))))) ∧ (x.elems.length ≤ z_.1 ∧ z_.1 ≤ m) ∧ Gs.ok 9 H.objs.length H.s ((H.objs.set n (ObjL.mk x.kind x.proto x.shut x.shape x.ns x.names x.vs x.vals z_.2 (setLenL x.elems z_.1) x.is x.inner (if 0 ≤ x.cell then -1 else x.cell))).flatMap ObjL.cells) ∧ Gs.ok 1 (setLenL x.elems z_.1).length z_.2 ((setLenL x.elems z_.1).map encU)) (fun z_ => m - z_.1) (x.elems.length, x.es) ⟨⟨fun _ => rfl, (by simp only []; rw [e9]; exact Own.of_perm (List.Perm.of_eq (by simp only [List.set_set, List.length_set])))⟩, ⟨Nat.le_refl _, by omega⟩, (by simp only []; rw [e9]; have q_ := hH1.row; rw [List.length_set] at q_; exact q_), (by simp only []; rw [e9]; exact (show Gs.ok 1 (x.elems).length x.es (x.elems.map encU) from (HeapV.ok.at (x := (ObjL.chg x)) hH1 (get_set hx)).es))⟩ ?_
    rintro ⟨m_, g⟩ ρ_ σ_ ⟨hfit, hi0, hi1, hi2⟩
    refine SW_fits hfit ?_
    clear hfit
    simp only [] at hi0 hi1 hi2 ⊢
    have hll := setLenL_len x.elems m_
    refine SW_seq ?_
    refine sr ?_
    refine os 3 ?_
    refine L (ld ?_ (hc := Gs.cell hi1 (fun e he => (mem_a (mem_a (mem_a (mem_a (mem_a (mem_c (mem_h he)))))))) (flat_cell ObjL.len (get_set hx) (j := 6) (by decide) rfl)) (v := Gs.val g ((setLenL x.elems m_).length)))
    refine os 3 ?_
    refine kp [47, 0, 7, 2] ?_
    refine nt ?_
    refine cdp (fun hc4 : ((((setLenL x.elems m_).length : Nat)) : Int) < (m : Int) => ?_) (fun hc4 => ?_)
    ·skip
     refine SW_skip (n_then ?_)
     refine SW_block ?_
     refine SW_region ?_
     refine os 4 ?_
     refine L (ld ?_ (hc := Gs.cell hi1 (fun e he => (mem_a (mem_a (mem_a (mem_a (mem_a (mem_c (mem_h he)))))))) (flat_cell ObjL.len (get_set hx) (j := 6) (by decide) rfl)) (v := Gs.val g ((setLenL x.elems m_).length)))
     refine L (nws 33 1 1 [.int .u64 18445336698825998340] ?_)
     intro b5
     refine SL_perm _ (perm_cc (perm_ca (perm_ca perm_cz))) ?_
     refine L (O_append (size := 1) (bytes := 8) (z := .int .u64 0) g ((setLenL x.elems m_).length) 1 (some ⟨b5, 0, none⟩) 1 ((setLenL x.elems m_).map encU) ([.int .u64 18445336698825998340]) (((setLenL x.elems m_) ++ [18445336698825998340]).map encU) (map_snoc _ 18445336698825998340 rfl) (fun _ => rfl) (fun _ => rfl) Tryz.underlying36 (by kernel_rfl) rfl (by decide) hi2 rfl (.inr ⟨b5, 0, rfl, Cells.own (mem_a mem_z) rfl⟩) rfl (by omega) (by decide) rfl ?_)
     intro s6 hks6 hfs6
     rw [show (setLenL x.elems m_).length + 1 = ((setLenL x.elems m_) ++ [18445336698825998340]).length from by simp]
     rw [show (setLenL x.elems m_).length + 1 = ((setLenL x.elems m_) ++ [18445336698825998340]).length from by simp] at hks6
     have hls6 : ((setLenL x.elems m_) ++ [18445336698825998340]).length = (setLenL x.elems m_).length + 1 := by simp
     refine os 2 ?_
     refine kp [56, 54, 47, 0, 7, 2] ?_
     have hok1 := Gs.ok.relen (ys := ((H.objs.set n (ObjL.mk x.kind x.proto x.shut x.shape x.ns x.names x.vs x.vals s6 ((setLenL x.elems m_) ++ [18445336698825998340]) x.is x.inner (if 0 ≤ x.cell then -1 else x.cell))).flatMap ObjL.cells)) hi1 (by simp [flat_len ObjL.len])
     refine SL_perm _ (perm_ca (perm_cc (perm_ca (perm_ca (perm_ca (perm_ca (perm_cc perm_cz))))))) ?_
     refine L (O_storeG (ys := ((H.objs.set n (ObjL.mk x.kind x.proto x.shut x.shape x.ns x.names x.vs x.vals s6 ((setLenL x.elems m_) ++ [18445336698825998340]) x.is x.inner (if 0 ≤ x.cell then -1 else x.cell))).flatMap ObjL.cells)) H.s (n * 9 + 6) (Gs.val s6 (((setLenL x.elems m_) ++ [18445336698825998340]).length)) [Gs.val s6 (((setLenL x.elems m_) ++ [18445336698825998340]).length)] (Gs.ok.ne hi1 (by first | omega | (simp; omega))) (fun _ => rfl) (fun _ => rfl) rfl (by kernel_rfl) rfl (by rw [flat_len ObjL.len]; simp; omega) ((row_lay (j := 6) ObjL.len (ObjL.mk x.kind x.proto x.shut x.shape x.ns x.names x.vs x.vals s6 ((setLenL x.elems m_) ++ [18445336698825998340]) x.is x.inner (if 0 ≤ x.cell then -1 else x.cell)) (get_set hx) (Nat.le_of_ble_eq_true rfl) rfl).trans (by rw [List.set_set])) rfl ?_)
     refine SL_nil (n_in (n_then ?_))
     have hsn := setLenL_snoc (l := x.elems) (n := m_) (by omega)
     refine ⟨(m_ + 1, s6), by simp only []; omega, ?_⟩
     simp only []
     rw [← hsn]
     exact ⟨⟨fun _ => rfl, ow⟩, by omega, hok1, hks6⟩
    ·skip
     refine SW_exit (x_then (x_then (x_in (n_then ?_))))
     refine sr ?_
     refine os 1 ?_
     refine nt ?_
     refine SW_ret ?_
     refine body_end (.bool true) (fun _ => rfl) ?_
     obtain rfl : m_ = m := by omega
     refine ⟨(g, cl1, br1), ?_, rfl, ?_, hchcl1⟩
     · refine Own.trans (ow (S := ((F.p, .cells 48 6 [Gs.val H.s H.objs.length, Gs.val H.ts H.texts.length, .map (some F.kb), pt F.T.p 0, pt F.cp 0, .int .i64 br1]) :: ((Gs.ent 105 9 H.s ((H.objs.set n (ObjL.mk x.kind x.proto x.shut x.shape x.ns x.names x.vs x.vals g (setLenL x.elems m_) x.is x.inner (if 0 ≤ x.cell then -1 else x.cell))).flatMap ObjL.cells)) ++ ((Gs.ent 9 1 x.ns (x.names.map encS)) ++ ((Gs.ent 35 3 x.vs (x.vals.flatMap descCells)) ++ ((Gs.ent 33 1 g ((setLenL x.elems m_).map encU)) ++ ((Gs.ent 33 1 x.is (x.inner.map encU)) ++ (((List.eraseIdx (H.objs.set n (ObjL.chg x)) n).flatMap ObjL.ent) ++ ((Gs.ent 9 1 H.ts (H.texts.map encS)) ++ ((F.kb, .map (kvs encS encU H.known)) :: ((TreeV.ent H.V F.T) ++ ((CellsL.ent (CellsL.mk F.cp H.cs cl1)) ++ ([])))))))))))))) (Own.of_perm ?_)
       have hb_ := HeapV.back (H := (HeapV.mk H.s (H.objs.set n (ObjL.chg x)) H.ts H.texts H.known H.V H.cs cl1 br1)) F (get_set hx) (ObjL.mk x.kind x.proto x.shut x.shape x.ns x.names x.vs x.vals g (setLenL x.elems m_) x.is x.inner (if 0 ≤ x.cell then -1 else x.cell))
       simp only [HeapV.head, HeapV.put, List.set_set, List.length_set] at hb_ ⊢
       exact hb_
     · simpa only [HeapV.put, List.set_set, List.length_set] using HeapV.ok.put hH1 (get_set hx) (x' := (ObjL.mk x.kind x.proto x.shut x.shape x.ns x.names x.vs x.vals g (setLenL x.elems m_) x.is x.inner (if 0 ≤ x.cell then -1 else x.cell))) ⟨(by first | exact (show Gs.ok 1 (x.names).length x.ns (x.names.map encS) from (HeapV.ok.at (x := (ObjL.chg x)) hH1 (get_set hx)).ns) | (simp only [List.length_set]; exact (show Gs.ok 1 (x.names).length x.ns (x.names.map encS) from (HeapV.ok.at (x := (ObjL.chg x)) hH1 (get_set hx)).ns))), (by first | exact (show Gs.ok 3 (x.vals).length x.vs (x.vals.flatMap descCells) from (HeapV.ok.at (x := (ObjL.chg x)) hH1 (get_set hx)).vs) | (simp only [List.length_set]; exact (show Gs.ok 3 (x.vals).length x.vs (x.vals.flatMap descCells) from (HeapV.ok.at (x := (ObjL.chg x)) hH1 (get_set hx)).vs))), (by first | exact hi2 | (simp only [List.length_set]; exact hi2)), (by first | exact (show Gs.ok 1 (x.inner).length x.is (x.inner.map encU) from (HeapV.ok.at (x := (ObjL.chg x)) hH1 (get_set hx)).is) | (simp only [List.length_set]; exact (show Gs.ok 1 (x.inner).length x.is (x.inner.map encU) from (HeapV.ok.at (x := (ObjL.chg x)) hH1 (get_set hx)).is)))⟩ (by simp [setLenL_len]; omega)

end Go.Proofs.YtdfhbheipagnmaaGreat
