/-
  The heap of 'alive', step by step. No condition.
-/
import Derived.Test.YthflblophelioaaGreatDoorPf3
import Derived.Test.YthflblophelioaaGreatDoorPf1
set_option linter.unusedVariables false
set_option linter.unusedSimpArgs false
set_option maxRecDepth 100000
set_option maxHeartbeats 4000000
namespace Go.Proofs.YthflblophelioaaGreatDoor
open Go.Sl
abbrev keyA : ByteArray := ⟨#[97]⟩
abbrev nullW : Int := 18445336698825998337
abbrev rkA : Int := rootKey nullW 0
abbrev dA : QJ := (18444773748872577031, 0, 7)
abbrev tA0 : TreeP := ⟨5, [], []⟩
abbrev tA1 : TreeP := ⟨5, [⟨rkA, [], []⟩], [(rkA, 0)]⟩
abbrev tA2 : TreeP := ⟨5, [⟨rkA, [], [((false, keyA, 7), 1)]⟩, ⟨rkA, [(keyA, 7)], []⟩], [(rkA, 0)]⟩
structure A0 (H : HeapV) (F : HeapF) : Prop where
  inv : HInv 0 H F
  objs : H.objs = []
  tree : H.V.abs F.T = tA0
structure A1 (H : HeapV) (F : HeapF) : Prop where
  inv : HInv 0 H F
  objs : H.objs = [newObj 0 nullW 0]
  tree : H.V.abs F.T = tA1
structure A2 (H : HeapV) (F : HeapF) : Prop where
  ok : H.ok F
  len : H.objs.length = 1
  obj : ∃ x, H.objs[0]? = some x ∧ x.ps = ⟨1, [], [dA]⟩ ∧ OInv (H.V.abs F.T) x
  tree : H.V.abs F.T = tA2
variable {H : HeapV} {F : HeapF} {W0 : World}
def refInt (n : Int) : Int := IntKind.wrap .u64 (18444773748872577024 + IntKind.wrap .u64 (IntKind.wrap .u32 n))
end Go.Proofs.YthflblophelioaaGreatDoor
namespace Go.Proofs.YthflblophelioaaGreatDoor
open Go.Sl

theorem rf_Int {W0 : World} {n : Int} : SC Tryz.prog W0 32 #[.int .i32 n] [] (Ret (fun _ : Unit => []) (fun v _ => v = .int .u64 (refInt n))) := by
 refine Qy (fn := Tryz.f32) (n := 7) Tryz.func32 rfl (by kernel_rfl) (ρ := [(0, .int .i32 n)]) rfl ?_
 refine sr ?_
 refine os 1 ?_
 refine nsr ?_
 refine os 1 ?_
 refine oV (.int .u32 (IntKind.wrap .u32 (n))) ?_
 refine oV (.int .u64 (IntKind.wrap .u64 (IntKind.wrap .u32 (n)))) ?_
 refine oV (.int .u64 (IntKind.wrap .u64 (18444773748872577024 + (IntKind.wrap .u64 (IntKind.wrap .u32 (n)))))) ?_
 refine os 1 ?_
 refine kp [2, 0] ?_
 refine nt ?_
 refine Qj ?_
 refine Qh (.int .u64 (IntKind.wrap .u64 (18444773748872577024 + (IntKind.wrap .u64 (IntKind.wrap .u32 (n)))))) (fun _ => rfl) ?_
 exact ⟨(), Own.of_perm (List.Perm.refl _), rfl⟩

theorem fl_Floor {W0 : World} (b : Nat) : SC Tryz.prog W0 135 #[.float .f64 b] [] (Ret (fun _ : Nat => []) (fun v m => v = .float .f64 m)) := by
 refine Qy (fn := Tryz.f135) (n := 7) Tryz.func135 rfl (by kernel_rfl) (ρ := [(0, .float .f64 b)]) rfl ?_
 refine sr ?_
 refine os 1 ?_
 refine nq ?_
 refine ct ?_
 refine sr ?_
 refine os 1 ?_
 refine L (O_floor (nm := "math.archFloor") (way := .down) b 147 rfl Tryz.func147 (by kernel_rfl) (by kernel_rfl) (by kernel_rfl) (by kernel_rfl) (fun δ w => by kernel_rfl) ?_)
 intro fl1
 refine os 1 ?_
 refine nt ?_
 refine Qj (Qn ?_)
 refine Qh (.float .f64 fl1) (fun _ => rfl) ?_
 exact ⟨fl1, ⟨_, List.Perm.refl _⟩, rfl⟩

theorem fl_Signbit {W0 : World} (b : Nat) : SC Tryz.prog W0 136 #[.float .f64 b] [] (Ret (fun _ : Bool => []) (fun v m => v = .bool m)) := by
 refine Qy (fn := Tryz.f136) (n := 7) Tryz.func136 rfl (by kernel_rfl) (ρ := [(0, .float .f64 b)]) rfl ?_
 refine sr ?_
 refine os 1 ?_
 refine nsr ?_
 refine os 1 ?_
 refine L (O_val (.int .u64 (b : Int)) rfl (fun δ w _ => by kernel_rfl) ?_)
 refine oV (.int .i64 (IntKind.wrap .i64 ((b : Int)))) ?_
 refine os 2 ?_
 refine kp [2, 0] ?_
 refine nt ?_
 refine Qj ?_
 refine Qh (.bool (decide ((IntKind.wrap .i64 ((b : Int))) < 0))) (fun _ => rfl) ?_
 exact ⟨decide ((IntKind.wrap .i64 ((b : Int))) < 0), ⟨_, List.Perm.refl _⟩, rfl⟩

theorem ref_Float {W0 : World} (b : Nat) : SC Tryz.prog W0 123 #[.float .f64 b] [] (Ret (fun _ : Int => []) (fun v m => v = .int .u64 m)) := by
 refine Qy (fn := Tryz.f123) (n := 32) Tryz.func123 rfl (by kernel_rfl) (ρ := [(0, .float .f64 b)]) rfl ?_
 refine sr ?_
 refine os 1 ?_
 refine nq ?_
 refine sr ?_
 refine os 2 ?_
 refine oV (.bool ((FloatKind.f64.format.order b b) != some .eq)) ?_
 refine nt ?_
 refine cd (fun hc1 : ((FloatKind.f64.format.order b b) != some .eq) = true => ?_) (fun hc1 => ?_)
 ·refine sr ?_
  refine os 1 ?_
  refine nt ?_
  refine Qj (Qn ?_)
  refine Qh (.int .u64 9221120237041090560) (fun _ => rfl) ?_
  exact ⟨9221120237041090560, ⟨_, List.Perm.refl _⟩, rfl⟩
 refine Ql (Qi ?_)
 refine Qx ?_
 refine sr ?_
 refine os 1 ?_
 refine oV (.bool ((FloatKind.f64.format.order b 13970166044103278592) == some .gt || (FloatKind.f64.format.order b 13970166044103278592) == some .eq)) ?_
 refine os 1 ?_
 refine tb 8 (fun hg2 => ?_) (fun hg2 => ?_)
 ·replace hg2 : ((FloatKind.f64.format.order b 13970166044103278592) == some .gt || (FloatKind.f64.format.order b 13970166044103278592) == some .eq) = true := hg2
  refine os 1 ?_
  refine oV (.bool ((FloatKind.f64.format.order b 4746794007244308480) == some .lt || (FloatKind.f64.format.order b 4746794007244308480) == some .eq)) ?_
  refine os 2 ?_
  refine kp [12, 5, 2, 0] ?_
  refine tb 12 (fun hg3 => ?_) (fun hg3 => ?_)
  ·replace hg3 : ((FloatKind.f64.format.order b 4746794007244308480) == some .lt || (FloatKind.f64.format.order b 4746794007244308480) == some .eq) = true := hg3
   refine os 2 ?_
   refine L (cl (fl_Floor b) ?_)
   rintro _ fm1 rfl
   refine un ?_
   refine oV (.bool ((FloatKind.f64.format.order b fm1) == some .eq)) ?_
   refine os 2 ?_
   refine kp [18, 5, 2, 0] ?_
   refine tb 18 (fun hg4 => ?_) (fun hg4 => ?_)
   ·replace hg4 : ((FloatKind.f64.format.order b fm1) == some .eq) = true := hg4
    refine os 1 ?_
    refine oV (.bool ((FloatKind.f64.format.order b 0) != some .eq)) ?_
    refine os 1 ?_
    refine tb 21 (fun hg5 => ?_) (fun hg5 => ?_)
    ·replace hg5 : ((FloatKind.f64.format.order b 0) != some .eq) = true := hg5
     refine os 5 ?_
     refine kp [26, 5, 2, 0] ?_
     refine nt ?_
     refine ct ?_
     refine sr ?_
     refine os 1 ?_
     refine L (O_f2i b (fun _ => rfl) (by kernel_rfl) Tryz.underlying21 (by decide) ?_)
     intro cv1
     refine L (cl (rf_Int (n := cv1)) ?_)
     rintro _ _ rfl
     refine un ?_
     refine os 1 ?_
     refine kp [2, 26, 5, 0] ?_
     refine nt ?_
     refine Qj (Qn ?_)
     refine Qh (.int .u64 (refInt cv1)) (fun _ => rfl) ?_
     exact ⟨refInt cv1, ⟨_, List.Perm.refl _⟩, rfl⟩
    replace hg5 : ((FloatKind.f64.format.order b 0) != some .eq) = false := hg5
    refine os 1 ?_
    refine L (cl (fl_Signbit b) ?_)
    rintro _ sm1 rfl
    refine un ?_
    refine os 3 ?_
    refine kp [26, 5, 2, 0] ?_
    refine nt ?_
    refine cd (fun hc6 : (!sm1) = true => ?_) (fun hc6 => ?_)
    ·replace hc6 := bnot_t hc6
     refine sr ?_
     refine os 1 ?_
     refine L (O_f2i b (fun _ => rfl) (by kernel_rfl) Tryz.underlying21 (by decide) ?_)
     intro cv1
     refine L (cl (rf_Int (n := cv1)) ?_)
     rintro _ _ rfl
     refine un ?_
     refine os 1 ?_
     refine kp [2, 26, 5, 0] ?_
     refine nt ?_
     refine Qj (Qn ?_)
     refine Qh (.int .u64 (refInt cv1)) (fun _ => rfl) ?_
     exact ⟨refInt cv1, ⟨_, List.Perm.refl _⟩, rfl⟩
    replace hc6 := bnot_f hc6
    refine Ql (Qi ?_)
    refine sr ?_
    refine os 1 ?_
    refine L (O_val (.int .u64 (b : Int)) rfl (fun δ w _ => by kernel_rfl) ?_)
    refine os 1 ?_
    refine nt ?_
    refine Qj ?_
    refine Qh (.int .u64 (b : Int)) (fun _ => rfl) ?_
    exact ⟨(b : Int), ⟨_, List.Perm.refl _⟩, rfl⟩
   replace hg4 : ((FloatKind.f64.format.order b fm1) == some .eq) = false := hg4
   refine os 8 ?_
   refine kp [26, 5, 2, 0] ?_
   refine nt ?_
   refine cf ?_
   refine Ql (Qi ?_)
   refine sr ?_
   refine os 1 ?_
   refine L (O_val (.int .u64 (b : Int)) rfl (fun δ w _ => by kernel_rfl) ?_)
   refine os 1 ?_
   refine nt ?_
   refine Qj ?_
   refine Qh (.int .u64 (b : Int)) (fun _ => rfl) ?_
   exact ⟨(b : Int), ⟨_, List.Perm.refl _⟩, rfl⟩
  replace hg3 : ((FloatKind.f64.format.order b 4746794007244308480) == some .lt || (FloatKind.f64.format.order b 4746794007244308480) == some .eq) = false := hg3
  refine os 14 ?_
  refine kp [26, 5, 2, 0] ?_
  refine nt ?_
  refine cf ?_
  refine Ql (Qi ?_)
  refine sr ?_
  refine os 1 ?_
  refine L (O_val (.int .u64 (b : Int)) rfl (fun δ w _ => by kernel_rfl) ?_)
  refine os 1 ?_
  refine nt ?_
  refine Qj ?_
  refine Qh (.int .u64 (b : Int)) (fun _ => rfl) ?_
  exact ⟨(b : Int), ⟨_, List.Perm.refl _⟩, rfl⟩
 replace hg2 : ((FloatKind.f64.format.order b 13970166044103278592) == some .gt || (FloatKind.f64.format.order b 13970166044103278592) == some .eq) = false := hg2
 refine os 18 ?_
 refine kp [26, 5, 2, 0] ?_
 refine nt ?_
 refine cf ?_
 refine Ql (Qi ?_)
 refine sr ?_
 refine os 1 ?_
 refine L (O_val (.int .u64 (b : Int)) rfl (fun δ w _ => by kernel_rfl) ?_)
 refine os 1 ?_
 refine nt ?_
 refine Qj ?_
 refine Qh (.int .u64 (b : Int)) (fun _ => rfl) ?_
 exact ⟨(b : Int), ⟨_, List.Perm.refl _⟩, rfl⟩

theorem ref_Number {W0 : World} (w : Int) : SC Tryz.prog W0 109 #[.int .u64 w] [] (Ret (fun _ : Int => []) (fun v m => v = .int .u64 m)) := by
 refine Qy (fn := Tryz.f109) (n := 6) Tryz.func109 rfl (by kernel_rfl) (ρ := [(0, .int .u64 w)]) rfl ?_
 refine sr ?_
 refine os 1 ?_
 refine nsr ?_
 refine os 1 ?_
 refine L (O_val (.float .f64 ((w).toNat)) rfl (fun δ w _ => by kernel_rfl) ?_)
 refine L (cl (ref_Float ((w).toNat)) ?_)
 rintro _ fw1 rfl
 refine un ?_
 refine os 1 ?_
 refine kp [2, 0] ?_
 refine nt ?_
 refine Qj ?_
 refine Qh (.int .u64 fw1) (fun _ => rfl) ?_
 exact ⟨fw1, ⟨_, List.Perm.refl _⟩, rfl⟩

end Go.Proofs.YthflblophelioaaGreatDoor
namespace Go.Proofs.YthflblophelioaaGreatDoor
open Go.Sl
structure RObj where
  kind : Int
  proto : Int
  shut : Bool
  ns : Gs
  names : List ByteArray
  ds : Gs
  descs : List QJ
  es : Gs
  elems : List Int
  is : Gs
  inner : List Int
def RObj.cells (x : RObj) : List Value := [.int .i64 x.kind, .int .u64 x.proto, .bool x.shut, x.ns.val x.names.length, x.ds.val x.descs.length, x.es.val x.elems.length, x.is.val x.inner.length]
theorem RObj.len (x : RObj) : x.cells.length = 7 := rfl
abbrev RObj.nsE (x : RObj) : Qp := x.ns.ent 9 1 (x.names.map Qu)
abbrev RObj.dsE (x : RObj) : Qp := x.ds.ent 45 3 (x.descs.flatMap Qk)
abbrev RObj.esE (x : RObj) : Qp := x.es.ent 33 1 (x.elems.map Qz)
abbrev RObj.isE (x : RObj) : Qp := x.is.ent 33 1 (x.inner.map Qz)
def RObj.ent (x : RObj) : Qp := x.nsE ++ (x.dsE ++ (x.esE ++ x.isE))
structure RObj.ok (x : RObj) : Prop where
  ns : x.ns.ok 1 x.names.length (x.names.map Qu)
  ds : x.ds.ok 3 x.descs.length (x.descs.flatMap Qk)
  es : x.es.ok 1 x.elems.length (x.elems.map Qz)
  is : x.is.ok 1 x.inner.length (x.inner.map Qz)
def RObj.pub (x : RObj) : ObjS := ⟨x.kind, x.proto, x.shut, x.names, x.descs, x.elems, x.inner⟩
structure RSt where
  s : Gs
  objs : List RObj
  ts : Gs
  texts : List ByteArray
abbrev RSt.val (R : RSt) : Value := .agg #[R.s.val R.objs.length, R.ts.val R.texts.length]
def RSt.ent (R : RSt) : Qp := R.s.ent 104 7 (R.objs.flatMap RObj.cells) ++ (R.objs.flatMap RObj.ent ++ (R.ts.ent 9 1 (R.texts.map Qu) ++ []))
structure RSt.ok (R : RSt) : Prop where
  row : R.s.ok 7 R.objs.length (R.objs.flatMap RObj.cells)
  each : ∀ x ∈ R.objs, x.ok
  ts : R.ts.ok 1 R.texts.length (R.texts.map Qu)
def RSt.pub (R : RSt) : List ObjS := R.objs.map RObj.pub
variable {R : RSt} {n : Nat} {x : RObj}
theorem RSt.ok.at (h : R.ok) (hx : R.objs[n]? = some x) : x.ok := h.each x (List.mem_of_getElem? hx)
theorem RObj.mns {l : List RObj} (hx : l[n]? = some x) : ∀ e ∈ x.nsE, e ∈ l.flatMap RObj.ent := fun e he => List.mem_flatMap.2 ⟨x, List.mem_of_getElem? hx, Qt he⟩
theorem RObj.mds {l : List RObj} (hx : l[n]? = some x) : ∀ e ∈ x.dsE, e ∈ l.flatMap RObj.ent := fun e he => List.mem_flatMap.2 ⟨x, List.mem_of_getElem? hx, Qa (Qt he)⟩
theorem RObj.mes {l : List RObj} (hx : l[n]? = some x) : ∀ e ∈ x.esE, e ∈ l.flatMap RObj.ent := fun e he => List.mem_flatMap.2 ⟨x, List.mem_of_getElem? hx, Qa (Qa (Qt he))⟩
theorem robj_focus {l : List RObj} (hx : l[n]? = some x) (τ : Qp) : (l.flatMap RObj.ent ++ τ).Perm (x.nsE ++ (x.dsE ++ (x.esE ++ (x.isE ++ ((l.eraseIdx n).flatMap RObj.ent ++ τ))))) := by
 have h := (flat_focus (f := RObj.ent) hx).append_right τ
 simpa only [RObj.ent, List.append_assoc] using h
theorem robj_unfocus {l : List RObj} (hx : l[n]? = some x) (x' : RObj) (τ : Qp) : (x'.nsE ++ (x'.dsE ++ (x'.esE ++ (x'.isE ++ ((l.eraseIdx n).flatMap RObj.ent ++ τ))))).Perm ((l.set n x').flatMap RObj.ent ++ τ) := by
 have h := (flat_unfocus (f := RObj.ent) x' hx).append_right τ
 simpa only [RObj.ent, List.append_assoc] using h
abbrev RSt.put (R : RSt) (n : Nat) (x : RObj) : RSt := ⟨R.s, R.objs.set n x, R.ts, R.texts⟩
theorem RSt.ok.put (h : R.ok) (hx : R.objs[n]? = some x) {x' : RObj} (ho : x'.ok) : (R.put n x').ok := by
 refine ⟨?_, fun y hy => ?_, h.ts⟩
 · simp only [List.length_set]
   exact Gs.ok.relen h.row (by simp [QI RObj.len])
 · rcases List.mem_or_eq_of_mem_set hy with h1 | rfl
   · exact h.each y h1
   · exact ho
theorem RSt.back (hx : R.objs[n]? = some x) (x' : RObj) : (R.s.ent 104 7 ((R.objs.set n x').flatMap RObj.cells) ++ (x'.nsE ++ (x'.dsE ++ (x'.esE ++ (x'.isE ++ ((R.objs.eraseIdx n).flatMap RObj.ent ++
   (R.ts.ent 9 1 (R.texts.map Qu) ++ []))))))).Perm ((R.put n x').ent) := by
 simp only [RSt.ent]
 exact (robj_unfocus hx x' _).append_left _
theorem RSt.pub_put (R : RSt) (n : Nat) (x' : RObj) : (R.put n x').pub = R.pub.set n x'.pub := by simp [RSt.pub, List.map_set]
theorem RSt.pub_len (R : RSt) : R.pub.length = R.objs.length := by simp [RSt.pub]
theorem RSt.pub_at (hx : R.objs[n]? = some x) : R.pub[n]? = some x.pub := by simp [RSt.pub, hx]
theorem robj_of {o : ObjS} (ho : R.pub[n]? = some o) : ∃ x, R.objs[n]? = some x ∧ x.pub = o := by
 simp only [RSt.pub, List.getElem?_map, Option.map_eq_some_iff] at ho
 exact ho
theorem RSt.m1 (R : RSt) : ∀ e ∈ R.s.ent 104 7 (R.objs.flatMap RObj.cells), e ∈ R.ent := fun e he => Qt he
def atI (l : Nat) (w : Int) : Int := match QB w l with | some n => (n : Int) | none => -1
def tagP (w : Int) : Int × Int := if w / 281474976710656 < 65529 ∨ w / 281474976710656 > 65532 then (0, 0) else (w / 281474976710656, w % 4294967296)
def tagV (w tag : Int) : Value := match tagOf w tag with | some n => .tuple #[.int .u32 (n : Int), .bool true] | none => .tuple #[.int .u32 0, .bool false]
abbrev QK (w : Int) : Prop := 0 ≤ w ∧ w < 18446744073709551616
theorem RSt.eq {R : RSt} {τ : Qp} : R.ent ++ τ = R.s.ent 104 7 (R.objs.flatMap RObj.cells) ++ (R.objs.flatMap RObj.ent ++ (R.ts.ent 9 1 (R.texts.map Qu) ++ τ)) := by
 simp only [RSt.ent, List.append_assoc, List.nil_append]
theorem RSt.eq0 {R : RSt} : R.ent = R.s.ent 104 7 (R.objs.flatMap RObj.cells) ++ (R.objs.flatMap RObj.ent ++ (R.ts.ent 9 1 (R.texts.map Qu) ++ [])) := rfl
theorem RSt.pm {R : RSt} {σ τ : Qp} (h : σ.Perm (R.s.ent 104 7 (R.objs.flatMap RObj.cells) ++ (R.objs.flatMap RObj.ent ++ (R.ts.ent 9 1 (R.texts.map Qu) ++ τ))) := by exact fn2) : σ.Perm (R.ent ++ τ) := by rw [RSt.eq]; exact h
theorem RSt.own {R : RSt} {σ J : Qp} (h : σ.Perm (R.s.ent 104 7 (R.objs.flatMap RObj.cells) ++ (R.objs.flatMap RObj.ent ++ (R.ts.ent 9 1 (R.texts.map Qu) ++ J))) := by exact fn2) : Own σ R.ent := ⟨J, RSt.pm h⟩
end Go.Proofs.YthflblophelioaaGreatDoor
namespace Go.Proofs.YthflblophelioaaGreatDoor
open Go.Sl

theorem rf_Tag {W0 : World} {w : Int} (hw : QK w) : SC Tryz.prog W0 83 #[.int .u64 w] [] (Ret (fun _ : Unit => []) (fun v _ => v = .tuple #[.int .u64 (tagP w).1, .int .u32 (tagP w).2])) := by
 refine Qy (fn := Tryz.f83) (n := 19) Tryz.func83 rfl (by kernel_rfl) (ρ := [(0, .int .u64 w)]) rfl ?_
 obtain ⟨hw0, hw1⟩ := hw
 refine sr ?_
 refine os 2 ?_
 refine nsr ?_
 refine os 1 ?_
 refine oX (.int .u64 (IntKind.wrap .u64 (Int.tdiv w 65536))) (.int .u64 (w / 65536)) (congrArg (Value.int .u64) (quo_u64 (by omega) (by omega) (by decide))) ?_
 refine oX (.int .u64 (IntKind.wrap .u64 (Int.tdiv (w / 65536) 65536))) (.int .u64 ((w / 65536) / 65536)) (congrArg (Value.int .u64) (quo_u64 (by omega) (by omega) (by decide))) ?_
 refine oX (.int .u64 (IntKind.wrap .u64 (Int.tdiv ((w / 65536) / 65536) 65536))) (.int .u64 (((w / 65536) / 65536) / 65536)) (congrArg (Value.int .u64) (quo_u64 (by omega) (by omega) (by decide))) ?_
 refine os 1 ?_
 refine kp [4, 3, 2, 0] ?_
 refine nq ?_
 refine sr ?_
 refine os 3 ?_
 refine tbp 11 (fun hg1 => ?_) (fun hg1 => ?_)
 ·replace hg1 : (((w / 65536) / 65536) / 65536) < 65529 := hg1
  refine os 3 ?_
  refine kp [14, 4, 3, 2, 0] ?_
  refine nt ?_
  refine ct ?_
  refine sr ?_
  refine os 2 ?_
  refine nt ?_
  refine Qj (Qn ?_)
  refine Qh (.tuple #[.int .u64 0, .int .u32 0]) (fun _ => rfl) ?_
  exact ⟨(), ⟨_, List.Perm.refl _⟩, by unfold tagP; rw [if_pos (by omega)]⟩
 replace hg1 : ¬ ((((w / 65536) / 65536) / 65536) < 65529) := hg1
 refine os 3 ?_
 refine kp [14, 4, 3, 2, 0] ?_
 refine nt ?_
 refine cdp (fun hc2 : (((w / 65536) / 65536) / 65536) > 65532 => ?_) (fun hc2 => ?_)
 ·refine sr ?_
  refine os 2 ?_
  refine nt ?_
  refine Qj (Qn ?_)
  refine Qh (.tuple #[.int .u64 0, .int .u32 0]) (fun _ => rfl) ?_
  exact ⟨(), ⟨_, List.Perm.refl _⟩, by unfold tagP; rw [if_pos (by omega)]⟩
 refine Ql (Qi ?_)
 refine sr ?_
 refine os 2 ?_
 refine oX (.int .u64 (Int.tmod w 4294967296)) (.int .u64 (w % 4294967296)) (congrArg (Value.int .u64) (rem_nn (by omega))) ?_
 refine os 3 ?_
 refine kp [3, 2, 14, 4, 0] ?_
 refine nt ?_
 refine Qj ?_
 refine Qh (.tuple #[.int .u64 (((w / 65536) / 65536) / 65536), .int .u32 (w % 4294967296)]) (fun _ => rfl) ?_
 exact ⟨(), ⟨_, List.Perm.refl _⟩, by unfold tagP; rw [if_neg (by omega), show ((w / 65536) / 65536) / 65536 = w / 281474976710656 from by omega]⟩

theorem rf_Right {W0 : World} {w : Int} (hw : QK w) : SC Tryz.prog W0 84 #[.int .u64 w] [] (Ret (fun _ : Bool => []) (fun v b => v = .bool b ∧ ((tagP w).1 ≠ 0 → (b = true ↔ (w / 4294967296 % 65536 = 0 ∧ ((tagP w).1 = 65531 → w % 4294967296 ≤ 4)))))) := by
 refine Qy (fn := Tryz.f84) (n := 26) Tryz.func84 rfl (by kernel_rfl) (ρ := [(0, .int .u64 w)]) rfl ?_
 obtain ⟨hw0, hw1⟩ := id hw
 refine sr ?_
 refine os 1 ?_
 refine nsr ?_
 refine os 1 ?_
 refine L (cl (rf_Tag hw) ?_)
 rintro _ _ rfl
 refine un ?_
 refine os 5 ?_
 refine kp [4, 3, 2, 0] ?_
 refine nq ?_
 refine sr ?_
 refine os 2 ?_
 refine nt ?_
 refine cd (fun hc1 : (((tagP w).1) == 0) = true => ?_) (fun hc1 => ?_)
 ·simp only [beq_iff_eq, bne_iff_ne, ne_eq, beq_eq_false_iff_ne, bne_eq_false_iff_eq] at hc1
  refine sr ?_
  refine os 1 ?_
  refine L (cl (ref_Number w) ?_)
  rintro _ nw1 rfl
  refine un ?_
  refine os 3 ?_
  refine kp [2, 11, 4, 3, 0] ?_
  refine nt ?_
  refine Qj (Qn ?_)
  refine Qh (.bool (nw1 == w)) (fun _ => rfl) ?_
  exact ⟨_, ⟨_, List.Perm.refl _⟩, rfl, fun q => absurd hc1 q⟩
 simp only [beq_iff_eq, bne_iff_ne, ne_eq, beq_eq_false_iff_ne, bne_eq_false_iff_eq] at hc1
 refine Ql (Qi ?_)
 refine Qx ?_
 refine sr ?_
 refine os 1 ?_
 refine oX (.int .u64 (IntKind.wrap .u64 (Int.tdiv w 4294967296))) (.int .u64 (w / 4294967296)) (congrArg (Value.int .u64) (quo_u64 (by omega) (by omega) (by decide))) ?_
 refine oX (.int .u64 (Int.tmod (w / 4294967296) 65536)) (.int .u64 ((w / 4294967296) % 65536)) (congrArg (Value.int .u64) (rem_nn (by omega))) ?_
 refine os 1 ?_
 refine kp [19, 11, 4, 3, 2, 0] ?_
 refine nt ?_
 refine cd (fun hc2 : (((w / 4294967296) % 65536) != 0) = true => ?_) (fun hc2 => ?_)
 ·simp only [beq_iff_eq, bne_iff_ne, ne_eq, beq_eq_false_iff_ne, bne_eq_false_iff_eq] at hc2
  refine sr ?_
  refine os 1 ?_
  refine nt ?_
  refine Qj (Qn ?_)
  refine Qh (.bool false) (fun _ => rfl) ?_
  exact ⟨false, ⟨_, List.Perm.refl _⟩, rfl, fun _ => ⟨fun q => absurd q (by decide), fun q => absurd q.1 (by omega)⟩⟩
 simp only [beq_iff_eq, bne_iff_ne, ne_eq, beq_eq_false_iff_ne, bne_eq_false_iff_eq] at hc2
 refine Ql (Qi ?_)
 refine sr ?_
 refine os 3 ?_
 refine tb 22 (fun hg3 => ?_) (fun hg3 => ?_)
 ·replace hg3 : (((tagP w).1) != 65531) = true := hg3
  simp only [beq_iff_eq, bne_iff_ne, ne_eq, beq_eq_false_iff_ne, bne_eq_false_iff_eq] at hg3
  refine os 4 ?_
  refine kp [2, 19, 11, 4, 3, 0] ?_
  refine nt ?_
  refine Qj ?_
  refine Qh (.bool true) (fun _ => rfl) ?_
  refine ⟨_, ⟨_, List.Perm.refl _⟩, rfl, fun _ => ?_⟩
  have e2 : (tagP w).1 ≠ 0 → (tagP w).2 = w % 4294967296 := by unfold tagP; split <;> simp
  have e3 := e2 hc1
  exact ⟨fun _ => ⟨by omega, fun q => absurd q (by omega)⟩, fun _ => rfl⟩
 replace hg3 : (((tagP w).1) != 65531) = false := hg3
 simp only [beq_iff_eq, bne_iff_ne, ne_eq, beq_eq_false_iff_ne, bne_eq_false_iff_eq] at hg3
 refine os 4 ?_
 refine kp [2, 19, 11, 4, 3, 0] ?_
 refine nt ?_
 refine Qj ?_
 refine Qh (.bool (decide (((tagP w).2) ≤ 4))) (fun _ => rfl) ?_
 refine ⟨_, ⟨_, List.Perm.refl _⟩, rfl, fun _ => ?_⟩
 have e2 : (tagP w).1 ≠ 0 → (tagP w).2 = w % 4294967296 := by unfold tagP; split <;> simp
 have e3 := e2 hc1
 rw [e3]
 simp only [decide_eq_true_eq]
 exact ⟨fun q => ⟨by omega, fun _ => q⟩, fun q => q.2 (by omega)⟩

theorem rf_IsTag {W0 : World} {w : Int} (hw : QK w) {tag : Int} (ht : 65529 ≤ tag ∧ tag ≤ 65532 ∧ tag ≠ 65531) : SC Tryz.prog W0 47 #[.int .u64 w, .int .u64 tag] [] (Ret (fun _ : Unit => []) (fun v _ => v = tagV w tag)) := by
 refine Qy (fn := Tryz.f47) (n := 24) Tryz.func47 rfl (by kernel_rfl) (ρ := [(0, .int .u64 w), (1, .int .u64 tag)]) rfl ?_
 obtain ⟨hw0, hw1⟩ := id hw
 refine sr ?_
 refine os 2 ?_
 refine nsr ?_
 refine os 1 ?_
 refine L (cl (rf_Tag hw) ?_)
 rintro _ _ rfl
 refine un ?_
 refine os 5 ?_
 refine kp [7, 6, 5, 4, 0, 1] ?_
 refine nsr ?_
 refine os 1 ?_
 refine L (cl (rf_Right hw) ?_)
 rintro _ rb ⟨rfl, hrb⟩
 refine un ?_
 refine os 1 ?_
 refine nq ?_
 refine sr ?_
 refine os 4 ?_
 refine tb 19 (fun hg1 => ?_) (fun hg1 => ?_)
 ·replace hg1 : (((tagP w).1) != tag) = true := hg1
  simp only [beq_iff_eq, bne_iff_ne, ne_eq, beq_eq_false_iff_ne, bne_eq_false_iff_eq] at hg1
  refine os 3 ?_
  refine kp [22, 8, 7, 6, 5, 4, 0, 1] ?_
  refine nt ?_
  refine ct ?_
  refine sr ?_
  refine os 2 ?_
  refine nt ?_
  refine Qj (Qn ?_)
  refine Qh (.tuple #[.int .u32 0, .bool false]) (fun _ => rfl) ?_
  have e1 : (tagP w).1 = if w / 281474976710656 < 65529 ∨ w / 281474976710656 > 65532 then 0 else w / 281474976710656 := by unfold tagP; split <;> rfl
  have e2 : (tagP w).1 ≠ 0 → (tagP w).2 = w % 4294967296 := by unfold tagP; split <;> simp
  refine ⟨(), ⟨_, List.Perm.refl _⟩, ?_⟩
  have hn : ¬ w / 4294967296 = tag * 65536 := fun q => (by have e4 : (tagP w).1 = tag := (by rw [e1, if_neg (by omega)]; omega); exact hg1 e4)
  unfold tagV tagOf; rw [if_neg hn]
 replace hg1 : (((tagP w).1) != tag) = false := hg1
 simp only [beq_iff_eq, bne_iff_ne, ne_eq, beq_eq_false_iff_ne, bne_eq_false_iff_eq] at hg1
 refine os 3 ?_
 refine kp [22, 8, 7, 6, 5, 4, 0, 1] ?_
 refine nt ?_
 refine cd (fun hc2 : (!rb) = true => ?_) (fun hc2 => ?_)
 ·replace hc2 := bnot_t hc2
  refine sr ?_
  refine os 2 ?_
  refine nt ?_
  refine Qj (Qn ?_)
  refine Qh (.tuple #[.int .u32 0, .bool false]) (fun _ => rfl) ?_
  have e1 : (tagP w).1 = if w / 281474976710656 < 65529 ∨ w / 281474976710656 > 65532 then 0 else w / 281474976710656 := by unfold tagP; split <;> rfl
  have e2 : (tagP w).1 ≠ 0 → (tagP w).2 = w % 4294967296 := by unfold tagP; split <;> simp
  refine ⟨(), ⟨_, List.Perm.refl _⟩, ?_⟩
  have hn : ¬ w / 4294967296 = tag * 65536 := fun q => (by have e4 : (tagP w).1 = tag := (by rw [e1, if_neg (by omega)]; omega); have e5 := (hrb (by omega)).2 ⟨by omega, fun z => absurd z (by omega)⟩; rw [e5] at hc2; cases hc2)
  unfold tagV tagOf; rw [if_neg hn]
 replace hc2 := bnot_f hc2
 refine Ql (Qi ?_)
 refine sr ?_
 refine os 3 ?_
 refine nt ?_
 refine Qj ?_
 refine Qh (.tuple #[.int .u32 ((tagP w).2), .bool true]) (fun _ => rfl) ?_
 have e1 : (tagP w).1 = if w / 281474976710656 < 65529 ∨ w / 281474976710656 > 65532 then 0 else w / 281474976710656 := by unfold tagP; split <;> rfl
 have e2 : (tagP w).1 ≠ 0 → (tagP w).2 = w % 4294967296 := by unfold tagP; split <;> simp
 refine ⟨(), ⟨_, List.Perm.refl _⟩, ?_⟩
 have e4 := e2 (by omega)
 have e5 := (hrb (by omega)).1 hc2
 have e6 : w / 281474976710656 = tag := by rw [e1] at hg1; split at hg1 <;> omega
 have hy : w / 4294967296 = tag * 65536 := by omega
 unfold tagV tagOf; rw [if_pos hy, e4]
 simp only []
 rw [Int.toNat_of_nonneg (by omega)]

theorem rf_At {W0 : World} {R : RSt} {w : Int} (hw : QK w) : SC Tryz.prog W0 15 #[R.val, .int .u64 w] [] (Ret (fun _ : Unit => []) (fun v _ => v = .int .i64 (atI R.objs.length w))) := by
 refine Qy (fn := Tryz.f15) (n := 24) Tryz.func15 rfl (by kernel_rfl) (ρ := [(0, .agg #[Gs.val R.s R.objs.length, Gs.val R.ts R.texts.length]), (1, .int .u64 w)]) rfl ?_
 refine sr ?_
 refine L (nw 28 2 [Gs.val R.s R.objs.length, Gs.val R.ts R.texts.length] ?_)
 intro b1
 refine os 1 ?_
 refine nsr ?_
 refine os 1 ?_
 rcases hm1 : tagOf w 65530 with _ | m1
 ·refine L (cl (rf_IsTag hw (tag := 65530) (by omega)) ?_)
  rintro v1 _ hv1
  obtain rfl : v1 = .tuple #[.int .u32 0, .bool false] := hv1.trans (by unfold tagV; rw [hm1])
  refine un ?_
  refine os 5 ?_
  refine kp [6, 5, 4, 2, 0, 1] ?_
  refine nq ?_
  refine sr ?_
  refine os 1 ?_
  refine oV (.bool true) ?_
  refine os 8 ?_
  refine kp [21, 6, 5, 4, 2, 0, 1] ?_
  refine nt ?_
  refine ct ?_
  refine sr ?_
  refine os 1 ?_
  refine nt ?_
  refine Qj (Qn ?_)
  refine Qh (.int .i64 (-1)) (fun _ => rfl) ?_
  exact ⟨(), ⟨_, List.Perm.refl _⟩, by unfold atI QB; rw [hm1]⟩
 have hlt := tagOf_lt hm1
 refine L (cl (rf_IsTag hw (tag := 65530) (by omega)) ?_)
 rintro v2 _ hv2
 obtain rfl : v2 = .tuple #[.int .u32 (m1 : Int), .bool true] := hv2.trans (by unfold tagV; rw [hm1])
 refine un ?_
 refine os 5 ?_
 refine kp [6, 5, 4, 2, 0, 1] ?_
 refine nq ?_
 refine sr ?_
 refine os 1 ?_
 refine oV (.bool false) ?_
 refine os 4 ?_
 refine L (ld ?_)
 refine os 3 ?_
 refine kp [21, 6, 5, 4, 2, 0, 1] ?_
 refine nt ?_
 refine cdp (fun hc2 : (m1 : Int) ≥ (R.objs.length : Int) => ?_) (fun hc2 => ?_)
 ·refine sr ?_
  refine os 1 ?_
  refine nt ?_
  refine Qj (Qn ?_)
  refine Qh (.int .i64 (-1)) (fun _ => rfl) ?_
  exact ⟨(), ⟨_, List.Perm.refl _⟩, by unfold atI QB; rw [hm1]; simp only []; rw [if_neg (by omega)]⟩
 refine Ql (Qi ?_)
 refine sr ?_
 refine os 3 ?_
 refine nt ?_
 refine Qj ?_
 refine Qh (.int .i64 (m1 : Int)) (fun _ => rfl) ?_
 exact ⟨(), ⟨_, List.Perm.refl _⟩, by unfold atI QB; rw [hm1]; simp only []; rw [if_pos (by omega)]⟩

end Go.Proofs.YthflblophelioaaGreatDoor
namespace Go.Proofs.YthflblophelioaaGreatDoor
open Go.Sl

theorem rf_place {W0 : World} {x : RObj} (hl : x.ns.ok 1 x.names.length (x.names.map Qu)) (key : ByteArray) : SC Tryz.prog W0 103 #[.agg #[.int .i64 x.kind, .int .u64 x.proto, .bool x.shut, x.ns.val x.names.length, x.ds.val x.descs.length, x.es.val x.elems.length, x.is.val x.inner.length], .string key] (Gs.ent 9 1 x.ns (x.names.map Qu)) (Ret (fun _ : Unit => Gs.ent 9 1 x.ns (x.names.map Qu)) (fun v _ => v = .int .i64 (ixS x.names key))) := by
 refine Qy (fn := Tryz.f103) (n := 21) Tryz.func103 rfl (by kernel_rfl) (ρ := [(0, .agg #[.int .i64 x.kind, .int .u64 x.proto, .bool x.shut, Gs.val x.ns x.names.length, Gs.val x.ds x.descs.length, Gs.val x.es x.elems.length, Gs.val x.is x.inner.length]), (1, .string key)]) rfl ?_
 refine QH ((Gs.ent 9 1 x.ns (x.names.map Qu)) ++ ([])) (by simp only [List.append_nil, List.append_assoc]) ?_
 have hcap : x.names.length ≤ maxLen := Nat.le_trans (Gs.ok.cap_le hl) (Gs.ok.cap_max hl)
 unfold maxLen at hcap
 refine sr ?_
 refine L (nw 104 7 [.int .i64 x.kind, .int .u64 x.proto, .bool x.shut, Gs.val x.ns x.names.length, Gs.val x.ds x.descs.length, Gs.val x.es x.elems.length, Gs.val x.is x.inner.length] ?_)
 intro b1
 refine os 1 ?_
 refine nq ?_
 refine sr ?_
 refine os 1 ?_
 refine nt ?_
 refine QM ?_
 refine SW_loop (α := Nat) (fun z_ ρ_ σ_ => Fits ρ_ σ_ [(1, .string key), (2, pt b1 0), (5, .int .i64 (z_ : Int))] ((b1, .cells 104 7 [.int .i64 x.kind, .int .u64 x.proto, .bool x.shut, Gs.val x.ns x.names.length, Gs.val x.ds x.descs.length, Gs.val x.es x.elems.length, Gs.val x.is x.inner.length]) :: ((Gs.ent 9 1 x.ns (x.names.map Qu)) ++ ([]))) ∧ z_ ≤ x.names.length ∧ ixS x.names key = ixFrom (fun a : ByteArray => decide (a = key)) (x.names.drop z_) z_) (fun z_ => x.names.length - z_) 0 ⟨⟨fun _ => rfl, ow⟩, Nat.zero_le _, rfl⟩ ?_
 rintro i ρ_ σ_ ⟨hfit, hi0, hi1⟩
 refine Q3 hfit ?_
 clear hfit
 refine Qx ?_
 refine sr ?_
 refine os 2 ?_
 refine L (ld ?_)
 refine os 2 ?_
 refine kp [10, 1, 2, 5] ?_
 refine nt ?_
 refine cdp (fun hc2 : (i : Int) < (x.names.length : Int) => ?_) (fun hc2 => ?_)
 ·refine Ql (Qi ?_)
  refine Qx ?_
  refine QM ?_
  refine sr ?_
  refine os 1 ?_
  refine L (ld ?_)
  refine os 1 ?_
  refine L (ixg (i : Int) (i) hl Tryz.underlying26 ?_)
  obtain ⟨e1, he1⟩ : ∃ y_, x.names[i]? = some y_ := ⟨_, List.getElem?_eq_getElem (by omega)⟩
  refine L (ld ?_ (hc := Gs.cell hl (fun e he => (Qc (Qt he))) (map_cell he1 rfl)))
  refine os 1 ?_
  refine oX (.bool (e1.toList == key.toList)) (.bool (decide (e1 = key))) (congrArg Value.bool (by rw [str_eq])) ?_
  refine kp [19, 10, 1, 2, 5] ?_
  refine nt ?_
  refine cdp (fun hc3 : e1 = key => ?_) (fun hc3 => ?_)
  ·refine sr ?_
   refine os 2 ?_
   refine nt ?_
   refine Qj (r_in (Qn (Qn (r_in (Qn ?_)))))
   refine Qh (.int .i64 (i : Int)) (fun _ => rfl) ?_
   exact ⟨(), ow, congrArg (Value.int .i64) (by rw [hi1, ixFrom_at he1, if_pos (by simpa using hc3)])⟩
  refine Ql (n_in (Qi ?_))
  refine Qm ?_
  refine os 3 ?_
  refine nt ?_
  exact ⟨i + 1, by omega, ⟨fun _ => rfl, ow⟩, by omega, by rw [hi1, ixFrom_at he1, if_neg (by simpa using hc3)]⟩
 refine SW_exit (QW (QW (x_in (Qi ?_))))
 refine sr ?_
 refine os 1 ?_
 refine nt ?_
 refine Qj ?_
 refine Qh (.int .i64 (-1)) (fun _ => rfl) ?_
 exact ⟨(), ow, congrArg (Value.int .i64) (by rw [hi1, ixFrom_end (by omega)])⟩

theorem rf_with {W0 : World} {s tg : Gs} {l : List RObj} {n m : Nat} {x : RObj} (x' : RObj) (hs : s.ok 7 l.length (l.flatMap RObj.cells)) (hx : l[n]? = some x) : SC Tryz.prog W0 49 #[.agg #[s.val l.length, tg.val m], .int .i64 (n : Int), .agg #[.int .i64 x'.kind, .int .u64 x'.proto, .bool x'.shut, x'.ns.val x'.names.length, x'.ds.val x'.descs.length, x'.es.val x'.elems.length, x'.is.val x'.inner.length]] (Gs.ent 104 7 s (l.flatMap RObj.cells)) (Ret (fun _ : Unit => Gs.ent 104 7 s ((l.set n x').flatMap RObj.cells)) (fun v _ => v = .agg #[s.val l.length, tg.val m])) := by
 have hnl := (List.getElem?_eq_some_iff.1 hx).1
 refine Qy (fn := Tryz.f49) (n := 13) Tryz.func49 rfl (by kernel_rfl) (ρ := [(0, .agg #[Gs.val s l.length, Gs.val tg m]), (1, .int .i64 (n : Int)), (2, .agg #[.int .i64 x'.kind, .int .u64 x'.proto, .bool x'.shut, Gs.val x'.ns x'.names.length, Gs.val x'.ds x'.descs.length, Gs.val x'.es x'.elems.length, Gs.val x'.is x'.inner.length])]) rfl ?_
 refine QH ((Gs.ent 104 7 s (l.flatMap RObj.cells)) ++ ([])) (by simp only [List.append_nil, List.append_assoc]) ?_
 refine sr ?_
 refine L (nw 28 2 [Gs.val s l.length, Gs.val tg m] ?_)
 intro b1
 refine L (nw 104 7 [.int .i64 x'.kind, .int .u64 x'.proto, .bool x'.shut, Gs.val x'.ns x'.names.length, Gs.val x'.ds x'.descs.length, Gs.val x'.es x'.elems.length, Gs.val x'.is x'.inner.length] ?_)
 intro b2
 refine L (nw 28 2 [.slice none 0 0, .slice none 0 0] ?_)
 intro b3
 refine nsr ?_
 refine os 1 ?_
 refine L (ld ?_)
 refine os 1 ?_
 refine L (lds 7 ?_)
 refine L (ixg (n : Int) (n * 7) hs Tryz.underlying25 ?_)
 have hok1 := Gs.ok.relen (ys := ((l.set n x').flatMap RObj.cells)) hs (by simp [QI RObj.len])
 refine Q4 _ (QC (QC (QC QE))) ?_
 refine L (Q1 (ys := ((l.set n x').flatMap RObj.cells)) s (n * 7) (.agg #[.int .i64 x'.kind, .int .u64 x'.proto, .bool x'.shut, Gs.val x'.ns x'.names.length, Gs.val x'.ds x'.descs.length, Gs.val x'.es x'.elems.length, Gs.val x'.is x'.inner.length]) [.int .i64 x'.kind, .int .u64 x'.proto, .bool x'.shut, Gs.val x'.ns x'.names.length, Gs.val x'.ds x'.descs.length, Gs.val x'.es x'.elems.length, Gs.val x'.is x'.inner.length] (Gs.ok.ne hs (by first | omega | (simp; omega))) (fun _ => rfl) (fun _ => rfl) rfl (by kernel_rfl) rfl (by rw [QI RObj.len]; simp; omega) (row_lay (j := 0) RObj.len x' hx (Nat.le_of_ble_eq_true rfl) rfl) rfl ?_)
 refine nsr ?_
 refine L (lds 2 ?_)
 refine L (st [Gs.val s l.length, Gs.val tg m] ?_)
 refine nt ?_
 refine Qj ?_
 refine Qs [.agg #[Gs.val s l.length, Gs.val tg m]] (fun _ => (.cons ⟨b3, 0, rfl, .inl ⟨[Gs.val s l.length, Gs.val tg m], by kernel_rfl, (Qb (Cell.own Qe rfl) (Qb (Cell.own Qe rfl) Qo)), rfl⟩⟩ .nil)) ?_
 exact ⟨(), ow, rfl⟩

end Go.Proofs.YthflblophelioaaGreatDoor
namespace Go.Proofs.YthflblophelioaaGreatDoor
open Go.Sl

theorem heap_Elem_none {W0 : World} {F : HeapF} {H : HeapV} (hH : H.ok F) {w : Int} (h0 : QB w H.objs.length = none) (n_ : Int) : SC Tryz.prog W0 54 #[.pointer (some ⟨F.p, 0, none⟩), .int .u64 w, .int .i64 n_] (HeapV.ent H F) (Ret (fun _ : Unit => H.ent F) (fun v _ => v = .tuple #[.int .u64 18445336698825998336, .bool false])) := by
 refine Qy (fn := Tryz.f54) (n := 44) Tryz.func54 rfl (by kernel_rfl) (ρ := [(0, pt F.p 0), (1, .int .u64 w), (2, .int .i64 n_)]) rfl ?_
 refine QH _ HeapV.eq0 ?_
 refine sr ?_
 refine os 2 ?_
 refine nsr ?_
 refine os 2 ?_
 refine L (cl (Q6 hH w) ?_ (hp := HeapV.pm))
 rintro v1 _ hv1
 obtain rfl : v1 = .pointer none := hv1.trans (by rw [h0])
 refine QO _ HeapV.eq ?_
 refine os 1 ?_
 refine kp [8, 7, 6, 0, 1, 2] ?_
 refine nq ?_
 refine sr ?_
 refine os 1 ?_
 refine oV (.bool true) ?_
 refine os 23 ?_
 refine kp [36, 8, 7, 6, 0, 1, 2] ?_
 refine nt ?_
 refine ct ?_
 refine sr ?_
 refine os 2 ?_
 refine nt ?_
 refine Qj (Qn ?_)
 refine Qh (.tuple #[.int .u64 18445336698825998336, .bool false]) (fun _ => rfl) ?_
 exact ⟨(), HeapV.own, rfl⟩

theorem heap_Elem_some {W0 : World} {F : HeapF} {H : HeapV} (hH : H.ok F) {w : Int} {n : Nat} {x : ObjL} (h0 : QB w H.objs.length = some n) (hx : H.objs[n]? = some x) (n_ : Int) : SC Tryz.prog W0 54 #[.pointer (some ⟨F.p, 0, none⟩), .int .u64 w, .int .i64 n_] (HeapV.ent H F) (Ret (fun _ : Unit => H.ent F) (fun v _ => v = .tuple #[.int .u64 (elemO x.elems n_).1, .bool (elemO x.elems n_).2])) := by
 refine Qy (fn := Tryz.f54) (n := 44) Tryz.func54 rfl (by kernel_rfl) (ρ := [(0, pt F.p 0), (1, .int .u64 w), (2, .int .i64 n_)]) rfl ?_
 refine QH _ HeapV.eq0 ?_
 refine sr ?_
 refine os 2 ?_
 refine nsr ?_
 refine os 2 ?_
 refine L (cl (Q6 hH w) ?_ (hp := HeapV.pm))
 rintro v1 _ hv1
 obtain rfl : v1 = pt (Gs.blk H.s) (n * 9) := hv1.trans (by rw [h0])
 refine QO _ HeapV.eq ?_
 refine os 1 ?_
 refine kp [8, 7, 6, 0, 1, 2] ?_
 refine nq ?_
 refine sr ?_
 refine os 1 ?_
 refine oV (.bool false) ?_
 refine os 5 ?_
 refine kp [18, 8, 7, 6, 0, 1, 2] ?_
 refine tbp 18 (fun hg1 => ?_) (fun hg1 => ?_)
 ·replace hg1 : n_ < 0 := hg1
  refine os 18 ?_
  refine kp [36, 8, 7, 6, 0, 1, 2] ?_
  refine nt ?_
  refine ct ?_
  refine sr ?_
  refine os 2 ?_
  refine nt ?_
  refine Qj (Qn ?_)
  refine Qh (.tuple #[.int .u64 18445336698825998336, .bool false]) (fun _ => rfl) ?_
  exact ⟨(), HeapV.own, by unfold elemO; rw [if_neg (by omega)]⟩
 replace hg1 : ¬ (n_ < 0) := hg1
 refine os 4 ?_
 refine L (ld ?_ (hc := Gs.cell hH.row (fun e he => (Qc (Qt he))) (Qg ObjL.len hx (j := 6) (by decide) rfl)))
 refine os 4 ?_
 refine kp [27, 8, 7, 6, 0, 1, 2] ?_
 refine tbp 27 (fun hg2 => ?_) (fun hg2 => ?_)
 ·replace hg2 : n_ ≥ (x.elems.length : Int) := hg2
  refine os 9 ?_
  refine kp [36, 8, 7, 6, 0, 1, 2] ?_
  refine nt ?_
  refine ct ?_
  refine sr ?_
  refine os 2 ?_
  refine nt ?_
  refine Qj (Qn ?_)
  refine Qh (.tuple #[.int .u64 18445336698825998336, .bool false]) (fun _ => rfl) ?_
  exact ⟨(), HeapV.own, by unfold elemO; rw [if_neg (by omega)]⟩
 replace hg2 : ¬ (n_ ≥ (x.elems.length : Int)) := hg2
 refine os 3 ?_
 refine L (ld ?_ (hc := Gs.cell hH.row (fun e he => (Qc (Qt he))) (Qg ObjL.len hx (j := 6) (by decide) rfl)))
 refine os 1 ?_
 refine L (ixg n_ (n_.toNat) ((HeapV.ok.at hH hx).es) Tryz.underlying100 ?_)
 obtain ⟨e1, he1⟩ : ∃ y_, x.elems[n_.toNat]? = some y_ := ⟨_, List.getElem?_eq_getElem (by omega)⟩
 refine L (ld ?_ (hc := Gs.cell (HeapV.ok.at hH hx).es (fun e he => (Qc (Qa (Qt ((ObjL.mes hx) _ he))))) (map_cell he1 rfl)))
 refine os 2 ?_
 refine kp [36, 8, 7, 6, 0, 1, 2] ?_
 refine nt ?_
 refine cd (fun hc3 : (e1 == 18445336698825998340) = true => ?_) (fun hc3 => ?_)
 ·refine sr ?_
  refine os 2 ?_
  refine nt ?_
  refine Qj (Qn ?_)
  refine Qh (.tuple #[.int .u64 18445336698825998336, .bool false]) (fun _ => rfl) ?_
  exact ⟨(), HeapV.own, by unfold elemO; rw [if_pos (by omega), he1]; simp_all⟩
 refine Ql (Qi ?_)
 refine sr ?_
 refine os 3 ?_
 refine L (ld ?_ (hc := Gs.cell hH.row (fun e he => (Qc (Qt he))) (Qg ObjL.len hx (j := 6) (by decide) rfl)))
 refine os 1 ?_
 refine L (ixg n_ (n_.toNat) ((HeapV.ok.at hH hx).es) Tryz.underlying100 ?_)
 refine L (ld ?_ (hc := Gs.cell (HeapV.ok.at hH hx).es (fun e he => (Qc (Qa (Qt ((ObjL.mes hx) _ he))))) (map_cell he1 rfl)))
 refine os 2 ?_
 refine kp [7, 6, 36, 8, 0, 1, 2] ?_
 refine nt ?_
 refine Qj ?_
 refine Qh (.tuple #[.int .u64 e1, .bool true]) (fun _ => rfl) ?_
 exact ⟨(), HeapV.own, by unfold elemO; rw [if_pos (by omega), he1]; simp_all⟩

theorem heap_SetLen_none {W0 : World} {F : HeapF} {H : HeapV} (hH : H.ok F) {w : Int} (h0 : QB w H.objs.length = none) (m : Int) : SC Tryz.prog W0 96 #[.pointer (some ⟨F.p, 0, none⟩), .int .u64 w, .int .i64 m] (HeapV.ent H F) (Ret (fun _ : Unit => H.ent F) (fun v _ => v = .bool false)) := by
 refine Qy (fn := Tryz.f96) (n := 57) Tryz.func96 rfl (by kernel_rfl) (ρ := [(0, pt F.p 0), (1, .int .u64 w), (2, .int .i64 m)]) rfl ?_
 refine QH _ HeapV.eq0 ?_
 refine sr ?_
 refine os 1 ?_
 refine nsr ?_
 refine os 2 ?_
 refine L (cl (Q6 hH w) ?_ (hp := HeapV.pm))
 rintro v1 _ hv1
 obtain rfl : v1 = .pointer none := hv1.trans (by rw [h0])
 refine QO _ HeapV.eq ?_
 refine os 1 ?_
 refine kp [7, 6, 0, 1, 2] ?_
 refine nq ?_
 refine sr ?_
 refine os 1 ?_
 refine oV (.bool true) ?_
 refine os 8 ?_
 refine kp [20, 7, 6, 0, 1, 2] ?_
 refine nt ?_
 refine ct ?_
 refine sr ?_
 refine os 1 ?_
 refine nt ?_
 refine Qj (Qn ?_)
 refine Qh (.bool false) (fun _ => rfl) ?_
 exact ⟨(), HeapV.own, rfl⟩

theorem heap_SetLen_bad {W0 : World} {F : HeapF} {H : HeapV} (hH : H.ok F) {w : Int} {n : Nat} {x : ObjL} (h0 : QB w H.objs.length = some n) (hx : H.objs[n]? = some x) {m : Int} (hbad : ¬ (0 ≤ m ∧ m ≤ 4096)) : SC Tryz.prog W0 96 #[.pointer (some ⟨F.p, 0, none⟩), .int .u64 w, .int .i64 m] (HeapV.ent H F) (Ret (fun _ : Unit => H.ent F) (fun v _ => v = .bool false)) := by
 have hnl := (List.getElem?_eq_some_iff.1 hx).1
 have hec : x.elems.length ≤ x.es.cap := Gs.ok.cap_le (HeapV.ok.at hH hx).es
 refine Qy (fn := Tryz.f96) (n := 57) Tryz.func96 rfl (by kernel_rfl) (ρ := [(0, pt F.p 0), (1, .int .u64 w), (2, .int .i64 m)]) rfl ?_
 refine QH _ HeapV.eq0 ?_
 refine sr ?_
 refine os 1 ?_
 refine nsr ?_
 refine os 2 ?_
 refine L (cl (Q6 hH w) ?_ (hp := HeapV.pm))
 rintro v1 _ hv1
 obtain rfl : v1 = pt (Gs.blk H.s) (n * 9) := hv1.trans (by rw [h0])
 refine QO _ HeapV.eq ?_
 refine os 1 ?_
 refine kp [7, 6, 0, 1, 2] ?_
 refine nq ?_
 refine sr ?_
 refine os 1 ?_
 refine oV (.bool false) ?_
 refine os 5 ?_
 refine kp [17, 7, 6, 0, 1, 2] ?_
 refine tbp 17 (fun hg1 => ?_) (fun hg1 => ?_)
 ·replace hg1 : m < 0 := hg1
  refine os 3 ?_
  refine kp [20, 7, 6, 0, 1, 2] ?_
  refine nt ?_
  refine ct ?_
  refine sr ?_
  refine os 1 ?_
  refine nt ?_
  refine Qj (Qn ?_)
  refine Qh (.bool false) (fun _ => rfl) ?_
  exact ⟨(), HeapV.own, rfl⟩
 replace hg1 : ¬ (m < 0) := hg1
 refine os 3 ?_
 refine kp [20, 7, 6, 0, 1, 2] ?_
 refine nt ?_
 refine cdp (fun hc2 : m > 4096 => ?_) (fun hc2 => ?_)
 ·refine sr ?_
  refine os 1 ?_
  refine nt ?_
  refine Qj (Qn ?_)
  refine Qh (.bool false) (fun _ => rfl) ?_
  exact ⟨(), HeapV.own, rfl⟩
 exact absurd (by omega) hbad

theorem heap_SetLen_short {W0 : World} {F : HeapF} {H : HeapV} (hH : H.ok F) {w : Int} {n : Nat} {x : ObjL} (h0 : QB w H.objs.length = some n) (hx : H.objs[n]? = some x) {k : Nat} (hB : H.bud k) (hk : k ≤ 8000000) {m : Nat} (hm4 : m ≤ 4096) (hmx : m ≤ x.elems.length) : SC Tryz.prog W0 96 #[.pointer (some ⟨F.p, 0, none⟩), .int .u64 w, .int .i64 (m : Int)] (HeapV.ent H F) (Ret (fun r : Gs × List CellL × Int => (H.upd n ((ObjL.chg x).withElems r.1 (Qw x.elems m)) H.V r.2.1 r.2.2).ent F) (fun v r => v = .bool true ∧ (H.upd n ((ObjL.chg x).withElems r.1 (Qw x.elems m)) H.V r.2.1 r.2.2).ok F ∧ Chg x.cell H.cl r.2.1)) := by
 have hnl := (List.getElem?_eq_some_iff.1 hx).1
 have hec : x.elems.length ≤ x.es.cap := Gs.ok.cap_le (HeapV.ok.at hH hx).es
 refine Qy (fn := Tryz.f96) (n := 57) Tryz.func96 rfl (by kernel_rfl) (ρ := [(0, pt F.p 0), (1, .int .u64 w), (2, .int .i64 (m : Int))]) rfl ?_
 refine QH _ HeapV.eq0 ?_
 refine sr ?_
 refine os 1 ?_
 refine nsr ?_
 refine os 2 ?_
 refine L (cl (Q6 hH w) ?_ (hp := HeapV.pm))
 rintro v1 _ hv1
 obtain rfl : v1 = pt (Gs.blk H.s) (n * 9) := hv1.trans (by rw [h0])
 refine QO _ HeapV.eq ?_
 refine os 1 ?_
 refine kp [7, 6, 0, 1, 2] ?_
 refine nq ?_
 refine sr ?_
 refine os 1 ?_
 refine oV (.bool false) ?_
 refine os 5 ?_
 refine kp [17, 7, 6, 0, 1, 2] ?_
 refine tbp 17 (fun hg1 => ?_) (fun hg1 => ?_)
 ·replace hg1 : (m : Int) < 0 := hg1
  refine os 3 ?_
  refine kp [20, 7, 6, 0, 1, 2] ?_
  refine nt ?_
  refine ct ?_
  refine sr ?_
  refine os 1 ?_
  refine nt ?_
  refine Qj (Qn ?_)
  refine Qh (.bool false) (fun _ => rfl) ?_
  exact absurd hm4 (by omega)
 replace hg1 : ¬ ((m : Int) < 0) := hg1
 refine os 3 ?_
 refine kp [20, 7, 6, 0, 1, 2] ?_
 refine nt ?_
 refine cdp (fun hc2 : (m : Int) > 4096 => ?_) (fun hc2 => ?_)
 ·exact absurd hm4 (by omega)
 refine Ql (Qi ?_)
 refine sr ?_
 refine os 2 ?_
 refine L (cl (heap_changed hH (n := n) hx hB hk) ?_ (hp := HeapV.pm))
 rintro _ ⟨cl1, br1⟩ ⟨rfl, hccl1, hchcl1⟩
 refine QO _ HeapV.eq ?_
 have hH1 : HeapV.ok (HeapV.mk H.s (H.objs.set n (ObjL.chg x)) H.ts H.texts H.known H.V H.cs cl1 br1) F := hH.chg hx hccl1 br1
 refine nq ?_
 refine sr ?_
 refine os 4 ?_
 refine L (ld ?_ (hc := Gs.cell hH1.row (fun e he => (Qc (Qt he))) (Qg ObjL.len (Qd hx) (j := 6) (by decide) rfl)) (v := Gs.val x.es x.elems.length))
 refine os 2 ?_
 refine kp [30, 20, 7, 6, 0, 1, 2] ?_
 refine nt ?_
 refine cdp (fun hc3 : (m : Int) ≤ (x.elems.length : Int) => ?_) (fun hc3 => ?_)
 ·refine Qx ?_
  refine QQ _ (QC (Qr QE)) ?_
  refine QQ ((Gs.ent 9 1 x.ns (x.names.map Qu)) ++ ((Gs.ent 45 3 x.vs (x.vals.flatMap Qk)) ++ ((Gs.ent 33 1 x.es (x.elems.map Qz)) ++ ((Gs.ent 33 1 x.is (x.inner.map Qz)) ++ (((List.eraseIdx (H.objs.set n (ObjL.chg x)) n).flatMap ObjL.ent) ++ ((F.p, .cells 75 6 [Gs.val H.s ((H.objs.set n (ObjL.chg x)).length), Gs.val H.ts H.texts.length, .map (some F.kb), pt F.T.p 0, pt F.cp 0, .int .i64 br1]) :: ((Gs.ent 102 9 H.s ((H.objs.set n (ObjL.chg x)).flatMap ObjL.cells)) ++ ((Gs.ent 9 1 H.ts (H.texts.map Qu)) ++ ((F.kb, .map (kvs Qu Qz H.known)) :: ((TreeV.ent H.V F.T) ++ ((CellsL.ent (CellsL.mk F.cp H.cs cl1)) ++ ([])))))))))))) (obj_focus (Qd hx) _) ?_
  refine Qm ?_
  refine os 4 ?_
  refine L (ld ?_ (hc := Gs.cell hH1.row (fun e he => (Qa (Qa (Qa (Qa (Qa (Qc (Qt he)))))))) (Qg ObjL.len (Qd hx) (j := 6) (by decide) rfl)) (v := Gs.val x.es x.elems.length))
  refine os 1 ?_
  refine L (O_val (.slice (Gs.addr x.es) ((m : Int)).toNat (Gs.cap x.es)) rfl (fun δ w _ => run_slice_to (m : Int) (Gs.addr x.es) x.elems.length (Gs.cap x.es) .i64 Tryz.underlying100 (by kernel_rfl) rfl rfl (by omega) (by omega)) ?_)
  rw [show Value.slice (Gs.addr x.es) ((m : Int)).toNat (Gs.cap x.es) = Gs.val x.es ((x.elems.take m).length) from congrArg (fun q_ => Value.slice (Gs.addr x.es) q_ (Gs.cap x.es)) (show ((m : Int)).toNat = (x.elems.take m).length from by simp; omega)]
  refine L (clA (words_Clone (σ := _) (l := x.elems.take m) (Src.take (Gs.src0 (show Gs.ok 1 (x.elems).length x.es (x.elems.map Qz) from (HeapV.ok.at (x := (ObjL.chg x)) hH1 (Qd hx)).es) (fun e he => (Qa (Qa (Qt he))))) m) (by simp; omega)) ?_)
  rintro _ cg1 ⟨rfl, hcg1⟩
  refine un ?_
  refine os 2 ?_
  refine kp [40, 38, 30, 20, 7, 6, 0, 1, 2] ?_
  have hok1 := Gs.ok.relen (ys := ((H.objs.set n (ObjL.mk x.kind x.proto x.shut x.shape x.ns x.names x.vs x.vals cg1 (x.elems.take m) x.is x.inner (if 0 ≤ x.cell then -1 else x.cell))).flatMap ObjL.cells)) hH1.row (by simp [QI ObjL.len])
  refine Q4 _ (Qr (Qr (Qr (Qr (Qr (Qr (QC QE))))))) ?_
  refine L (Q1 (ys := ((H.objs.set n (ObjL.mk x.kind x.proto x.shut x.shape x.ns x.names x.vs x.vals cg1 (x.elems.take m) x.is x.inner (if 0 ≤ x.cell then -1 else x.cell))).flatMap ObjL.cells)) H.s (n * 9 + 6) (Gs.val cg1 ((x.elems.take m).length)) [Gs.val cg1 ((x.elems.take m).length)] (Gs.ok.ne hH1.row (by first | omega | (simp; omega))) (fun _ => rfl) (fun _ => rfl) rfl (by kernel_rfl) rfl (by rw [QI ObjL.len]; simp; omega) ((row_lay (j := 6) ObjL.len (ObjL.mk x.kind x.proto x.shut x.shape x.ns x.names x.vs x.vals cg1 (x.elems.take m) x.is x.inner (if 0 ≤ x.cell then -1 else x.cell)) (Qd hx) (Nat.le_of_ble_eq_true rfl) rfl).trans (by rw [List.set_set])) rfl ?_)
  refine nsr ?_
  refine os 1 ?_
  refine nt ?_
  refine Qj (Qn ?_)
  refine Qh (.bool true) (fun _ => rfl) ?_
  rw [show Qw x.elems m = x.elems.take m from setLenL_le (by omega)]
  refine ⟨(cg1, cl1, br1), ?_, rfl, ?_, hchcl1⟩
  · refine Own.trans (ow (S := ((F.p, .cells 75 6 [Gs.val H.s ((H.objs.set n (ObjL.chg x)).length), Gs.val H.ts H.texts.length, .map (some F.kb), pt F.T.p 0, pt F.cp 0, .int .i64 br1]) :: ((Gs.ent 102 9 H.s ((H.objs.set n (ObjL.mk x.kind x.proto x.shut x.shape x.ns x.names x.vs x.vals cg1 (x.elems.take m) x.is x.inner (if 0 ≤ x.cell then -1 else x.cell))).flatMap ObjL.cells)) ++ ((Gs.ent 9 1 x.ns (x.names.map Qu)) ++ ((Gs.ent 45 3 x.vs (x.vals.flatMap Qk)) ++ ((Gs.ent 33 1 cg1 ((x.elems.take m).map Qz)) ++ ((Gs.ent 33 1 x.is (x.inner.map Qz)) ++ (((List.eraseIdx (H.objs.set n (ObjL.chg x)) n).flatMap ObjL.ent) ++ ((Gs.ent 9 1 H.ts (H.texts.map Qu)) ++ ((F.kb, .map (kvs Qu Qz H.known)) :: ((TreeV.ent H.V F.T) ++ ((CellsL.ent (CellsL.mk F.cp H.cs cl1)) ++ ([])))))))))))))) (Own.of_perm ?_)
    have hb_ := HeapV.back (H := (HeapV.mk H.s (H.objs.set n (ObjL.chg x)) H.ts H.texts H.known H.V H.cs cl1 br1)) F (Qd hx) (ObjL.mk x.kind x.proto x.shut x.shape x.ns x.names x.vs x.vals cg1 (x.elems.take m) x.is x.inner (if 0 ≤ x.cell then -1 else x.cell))
    simp only [HeapV.head, HeapV.put, List.set_set, List.length_set] at hb_ ⊢
    exact hb_
  · simpa only [HeapV.put, List.set_set, List.length_set] using HeapV.ok.put hH1 (Qd hx) (x' := (ObjL.mk x.kind x.proto x.shut x.shape x.ns x.names x.vs x.vals cg1 (x.elems.take m) x.is x.inner (if 0 ≤ x.cell then -1 else x.cell))) ⟨(by first | exact (show Gs.ok 1 (x.names).length x.ns (x.names.map Qu) from (HeapV.ok.at (x := (ObjL.chg x)) hH1 (Qd hx)).ns) | (simp only [List.length_set]; exact (show Gs.ok 1 (x.names).length x.ns (x.names.map Qu) from (HeapV.ok.at (x := (ObjL.chg x)) hH1 (Qd hx)).ns))), (by first | exact (show Gs.ok 3 (x.vals).length x.vs (x.vals.flatMap Qk) from (HeapV.ok.at (x := (ObjL.chg x)) hH1 (Qd hx)).vs) | (simp only [List.length_set]; exact (show Gs.ok 3 (x.vals).length x.vs (x.vals.flatMap Qk) from (HeapV.ok.at (x := (ObjL.chg x)) hH1 (Qd hx)).vs))), (by first | exact hcg1 | (simp only [List.length_set]; exact hcg1)), (by first | exact (show Gs.ok 1 (x.inner).length x.is (x.inner.map Qz) from (HeapV.ok.at (x := (ObjL.chg x)) hH1 (Qd hx)).is) | (simp only [List.length_set]; exact (show Gs.ok 1 (x.inner).length x.is (x.inner.map Qz) from (HeapV.ok.at (x := (ObjL.chg x)) hH1 (Qd hx)).is)))⟩ (by simp [setLenL_len]; omega)
 omega

theorem heap_SetLen_long {W0 : World} {F : HeapF} {H : HeapV} (hH : H.ok F) {w : Int} {n : Nat} {x : ObjL} (h0 : QB w H.objs.length = some n) (hx : H.objs[n]? = some x) {k : Nat} (hB : H.bud k) (hk : k ≤ 8000000) {m : Nat} (hm4 : m ≤ 4096) (hmx : x.elems.length < m) : SC Tryz.prog W0 96 #[.pointer (some ⟨F.p, 0, none⟩), .int .u64 w, .int .i64 (m : Int)] (HeapV.ent H F) (Ret (fun r : Gs × List CellL × Int => (H.upd n ((ObjL.chg x).withElems r.1 (Qw x.elems m)) H.V r.2.1 r.2.2).ent F) (fun v r => v = .bool true ∧ (H.upd n ((ObjL.chg x).withElems r.1 (Qw x.elems m)) H.V r.2.1 r.2.2).ok F ∧ Chg x.cell H.cl r.2.1)) := by
 have hnl := (List.getElem?_eq_some_iff.1 hx).1
 have hec : x.elems.length ≤ x.es.cap := Gs.ok.cap_le (HeapV.ok.at hH hx).es
 refine Qy (fn := Tryz.f96) (n := 57) Tryz.func96 rfl (by kernel_rfl) (ρ := [(0, pt F.p 0), (1, .int .u64 w), (2, .int .i64 (m : Int))]) rfl ?_
 refine QH _ HeapV.eq0 ?_
 refine sr ?_
 refine os 1 ?_
 refine nsr ?_
 refine os 2 ?_
 refine L (cl (Q6 hH w) ?_ (hp := HeapV.pm))
 rintro v1 _ hv1
 obtain rfl : v1 = pt (Gs.blk H.s) (n * 9) := hv1.trans (by rw [h0])
 refine QO _ HeapV.eq ?_
 refine os 1 ?_
 refine kp [7, 6, 0, 1, 2] ?_
 refine nq ?_
 refine sr ?_
 refine os 1 ?_
 refine oV (.bool false) ?_
 refine os 5 ?_
 refine kp [17, 7, 6, 0, 1, 2] ?_
 refine tbp 17 (fun hg1 => ?_) (fun hg1 => ?_)
 ·replace hg1 : (m : Int) < 0 := hg1
  refine os 3 ?_
  refine kp [20, 7, 6, 0, 1, 2] ?_
  refine nt ?_
  refine ct ?_
  refine sr ?_
  refine os 1 ?_
  refine nt ?_
  refine Qj (Qn ?_)
  refine Qh (.bool false) (fun _ => rfl) ?_
  exact absurd hm4 (by omega)
 replace hg1 : ¬ ((m : Int) < 0) := hg1
 refine os 3 ?_
 refine kp [20, 7, 6, 0, 1, 2] ?_
 refine nt ?_
 refine cdp (fun hc2 : (m : Int) > 4096 => ?_) (fun hc2 => ?_)
 ·exact absurd hm4 (by omega)
 refine Ql (Qi ?_)
 refine sr ?_
 refine os 2 ?_
 refine L (cl (heap_changed hH (n := n) hx hB hk) ?_ (hp := HeapV.pm))
 rintro _ ⟨cl1, br1⟩ ⟨rfl, hccl1, hchcl1⟩
 refine QO _ HeapV.eq ?_
 have hH1 : HeapV.ok (HeapV.mk H.s (H.objs.set n (ObjL.chg x)) H.ts H.texts H.known H.V H.cs cl1 br1) F := hH.chg hx hccl1 br1
 refine nq ?_
 refine sr ?_
 refine os 4 ?_
 refine L (ld ?_ (hc := Gs.cell hH1.row (fun e he => (Qc (Qt he))) (Qg ObjL.len (Qd hx) (j := 6) (by decide) rfl)) (v := Gs.val x.es x.elems.length))
 refine os 2 ?_
 refine kp [30, 20, 7, 6, 0, 1, 2] ?_
 refine nt ?_
 refine cdp (fun hc3 : (m : Int) ≤ (x.elems.length : Int) => ?_) (fun hc3 => ?_)
 ·omega
 refine Ql (Qi ?_)
 refine Qx ?_
 refine QM ?_
 refine QQ _ (QC (Qr QE)) ?_
 refine QQ ((Gs.ent 9 1 x.ns (x.names.map Qu)) ++ ((Gs.ent 45 3 x.vs (x.vals.flatMap Qk)) ++ ((Gs.ent 33 1 x.es (x.elems.map Qz)) ++ ((Gs.ent 33 1 x.is (x.inner.map Qz)) ++ (((List.eraseIdx (H.objs.set n (ObjL.chg x)) n).flatMap ObjL.ent) ++ ((F.p, .cells 75 6 [Gs.val H.s ((H.objs.set n (ObjL.chg x)).length), Gs.val H.ts H.texts.length, .map (some F.kb), pt F.T.p 0, pt F.cp 0, .int .i64 br1]) :: ((Gs.ent 102 9 H.s ((H.objs.set n (ObjL.chg x)).flatMap ObjL.cells)) ++ ((Gs.ent 9 1 H.ts (H.texts.map Qu)) ++ ((F.kb, .map (kvs Qu Qz H.known)) :: ((TreeV.ent H.V F.T) ++ ((CellsL.ent (CellsL.mk F.cp H.cs cl1)) ++ ([])))))))))))) (obj_focus (Qd hx) _) ?_
 have e9 : Qw x.elems x.elems.length = x.elems := setLenL_self _
 refine SW_loop (α := Nat × Gs) (fun z_ ρ_ σ_ => Fits ρ_ σ_ [(0, pt F.p 0), (7, pt (Gs.blk H.s) (n * 9)), (2, .int .i64 (m : Int))] ((Gs.ent 9 1 x.ns (x.names.map Qu)) ++ ((Gs.ent 45 3 x.vs (x.vals.flatMap Qk)) ++ ((Gs.ent 33 1 z_.2 ((Qw x.elems z_.1).map Qz)) ++ ((Gs.ent 33 1 x.is (x.inner.map Qz)) ++ (((List.eraseIdx (H.objs.set n (ObjL.chg x)) n).flatMap ObjL.ent) ++ ((F.p, .cells 75 6 [Gs.val H.s H.objs.length, Gs.val H.ts H.texts.length, .map (some F.kb), pt F.T.p 0, pt F.cp 0, .int .i64 br1]) :: ((Gs.ent 102 9 H.s ((H.objs.set n (ObjL.mk x.kind x.proto x.shut x.shape x.ns x.names x.vs x.vals z_.2 (Qw x.elems z_.1) x.is x.inner (if 0 ≤ x.cell then -1 else x.cell))).flatMap ObjL.cells)) ++ ((Gs.ent 9 1 H.ts (H.texts.map Qu)) ++ ((F.kb, .map (kvs Qu Qz H.known)) :: ((TreeV.ent H.V F.T) ++ ((CellsL.ent (CellsL.mk F.cp H.cs cl1)) ++ ([])))))))))))) ∧ (x.elems.length ≤ z_.1 ∧ z_.1 ≤ m) ∧ Gs.ok 9 H.objs.length H.s ((H.objs.set n (ObjL.mk x.kind x.proto x.shut x.shape x.ns x.names x.vs x.vals z_.2 (Qw x.elems z_.1) x.is x.inner (if 0 ≤ x.cell then -1 else x.cell))).flatMap ObjL.cells) ∧ Gs.ok 1 (Qw x.elems z_.1).length z_.2 ((Qw x.elems z_.1).map Qz)) (fun z_ => m - z_.1) (x.elems.length, x.es) ⟨⟨fun _ => rfl, (by simp only []; rw [e9]; exact Own.of_perm (List.Perm.of_eq (by simp only [List.set_set, List.length_set])))⟩, ⟨Nat.le_refl _, by omega⟩, (by simp only []; rw [e9]; have q_ := hH1.row; rw [List.length_set] at q_; exact q_), (by simp only []; rw [e9]; exact (show Gs.ok 1 (x.elems).length x.es (x.elems.map Qz) from (HeapV.ok.at (x := (ObjL.chg x)) hH1 (Qd hx)).es))⟩ ?_
 rintro ⟨m_, g⟩ ρ_ σ_ ⟨hfit, hi0, hi1, hi2⟩
 refine Q3 hfit ?_
 clear hfit
 simp only [] at hi0 hi1 hi2 ⊢
 have hll := setLenL_len x.elems m_
 refine Qx ?_
 refine sr ?_
 refine os 3 ?_
 refine L (ld ?_ (hc := Gs.cell hi1 (fun e he => (Qa (Qa (Qa (Qa (Qa (Qc (Qt he)))))))) (Qg ObjL.len (Qd hx) (j := 6) (by decide) rfl)) (v := Gs.val g ((Qw x.elems m_).length)))
 refine os 3 ?_
 refine kp [47, 0, 7, 2] ?_
 refine nt ?_
 refine cdp (fun hc4 : ((((Qw x.elems m_).length : Nat)) : Int) < (m : Int) => ?_) (fun hc4 => ?_)
 ·refine Ql (Qi ?_)
  refine QM ?_
  refine Qm ?_
  refine os 4 ?_
  refine L (ld ?_ (hc := Gs.cell hi1 (fun e he => (Qa (Qa (Qa (Qa (Qa (Qc (Qt he)))))))) (Qg ObjL.len (Qd hx) (j := 6) (by decide) rfl)) (v := Gs.val g ((Qw x.elems m_).length)))
  refine L (nws 33 1 1 [.int .u64 18445336698825998340] ?_)
  intro b5
  refine Q4 _ (QC (Qr (Qr QE))) ?_
  refine L (QU (size := 1) (bytes := 8) (z := .int .u64 0) g ((Qw x.elems m_).length) 1 (some ⟨b5, 0, none⟩) 1 ((Qw x.elems m_).map Qz) ([.int .u64 18445336698825998340]) (((Qw x.elems m_) ++ [18445336698825998340]).map Qz) (map_snoc _ 18445336698825998340 rfl) (fun _ => rfl) (fun _ => rfl) Tryz.underlying100 (by kernel_rfl) rfl (by decide) hi2 rfl (.inr ⟨b5, 0, rfl, Cells.own (Qa Qe) rfl⟩) rfl (by omega) (by decide) rfl ?_)
  intro s6 hks6 hfs6
  rw [show (Qw x.elems m_).length + 1 = ((Qw x.elems m_) ++ [18445336698825998340]).length from by simp]
  rw [show (Qw x.elems m_).length + 1 = ((Qw x.elems m_) ++ [18445336698825998340]).length from by simp] at hks6
  have hls6 : ((Qw x.elems m_) ++ [18445336698825998340]).length = (Qw x.elems m_).length + 1 := by simp
  refine os 2 ?_
  refine kp [56, 54, 47, 0, 7, 2] ?_
  have hok1 := Gs.ok.relen (ys := ((H.objs.set n (ObjL.mk x.kind x.proto x.shut x.shape x.ns x.names x.vs x.vals s6 ((Qw x.elems m_) ++ [18445336698825998340]) x.is x.inner (if 0 ≤ x.cell then -1 else x.cell))).flatMap ObjL.cells)) hi1 (by simp [QI ObjL.len])
  refine Q4 _ (Qr (QC (Qr (Qr (Qr (Qr (QC QE))))))) ?_
  refine L (Q1 (ys := ((H.objs.set n (ObjL.mk x.kind x.proto x.shut x.shape x.ns x.names x.vs x.vals s6 ((Qw x.elems m_) ++ [18445336698825998340]) x.is x.inner (if 0 ≤ x.cell then -1 else x.cell))).flatMap ObjL.cells)) H.s (n * 9 + 6) (Gs.val s6 (((Qw x.elems m_) ++ [18445336698825998340]).length)) [Gs.val s6 (((Qw x.elems m_) ++ [18445336698825998340]).length)] (Gs.ok.ne hi1 (by first | omega | (simp; omega))) (fun _ => rfl) (fun _ => rfl) rfl (by kernel_rfl) rfl (by rw [QI ObjL.len]; simp; omega) ((row_lay (j := 6) ObjL.len (ObjL.mk x.kind x.proto x.shut x.shape x.ns x.names x.vs x.vals s6 ((Qw x.elems m_) ++ [18445336698825998340]) x.is x.inner (if 0 ≤ x.cell then -1 else x.cell)) (Qd hx) (Nat.le_of_ble_eq_true rfl) rfl).trans (by rw [List.set_set])) rfl ?_)
  refine Q5 (n_in (Qi ?_))
  have hsn := setLenL_snoc (l := x.elems) (n := m_) (by omega)
  refine ⟨(m_ + 1, s6), by simp only []; omega, ?_⟩
  simp only []
  rw [← hsn]
  exact ⟨⟨fun _ => rfl, ow⟩, by omega, hok1, hks6⟩
 refine SW_exit (QW (QW (x_in (Qi ?_))))
 refine sr ?_
 refine os 1 ?_
 refine nt ?_
 refine Qj ?_
 refine Qh (.bool true) (fun _ => rfl) ?_
 obtain rfl : m_ = m := by omega
 refine ⟨(g, cl1, br1), ?_, rfl, ?_, hchcl1⟩
 · refine Own.trans (ow (S := ((F.p, .cells 75 6 [Gs.val H.s H.objs.length, Gs.val H.ts H.texts.length, .map (some F.kb), pt F.T.p 0, pt F.cp 0, .int .i64 br1]) :: ((Gs.ent 102 9 H.s ((H.objs.set n (ObjL.mk x.kind x.proto x.shut x.shape x.ns x.names x.vs x.vals g (Qw x.elems m_) x.is x.inner (if 0 ≤ x.cell then -1 else x.cell))).flatMap ObjL.cells)) ++ ((Gs.ent 9 1 x.ns (x.names.map Qu)) ++ ((Gs.ent 45 3 x.vs (x.vals.flatMap Qk)) ++ ((Gs.ent 33 1 g ((Qw x.elems m_).map Qz)) ++ ((Gs.ent 33 1 x.is (x.inner.map Qz)) ++ (((List.eraseIdx (H.objs.set n (ObjL.chg x)) n).flatMap ObjL.ent) ++ ((Gs.ent 9 1 H.ts (H.texts.map Qu)) ++ ((F.kb, .map (kvs Qu Qz H.known)) :: ((TreeV.ent H.V F.T) ++ ((CellsL.ent (CellsL.mk F.cp H.cs cl1)) ++ ([])))))))))))))) (Own.of_perm ?_)
   have hb_ := HeapV.back (H := (HeapV.mk H.s (H.objs.set n (ObjL.chg x)) H.ts H.texts H.known H.V H.cs cl1 br1)) F (Qd hx) (ObjL.mk x.kind x.proto x.shut x.shape x.ns x.names x.vs x.vals g (Qw x.elems m_) x.is x.inner (if 0 ≤ x.cell then -1 else x.cell))
   simp only [HeapV.head, HeapV.put, List.set_set, List.length_set] at hb_ ⊢
   exact hb_
 · simpa only [HeapV.put, List.set_set, List.length_set] using HeapV.ok.put hH1 (Qd hx) (x' := (ObjL.mk x.kind x.proto x.shut x.shape x.ns x.names x.vs x.vals g (Qw x.elems m_) x.is x.inner (if 0 ≤ x.cell then -1 else x.cell))) ⟨(by first | exact (show Gs.ok 1 (x.names).length x.ns (x.names.map Qu) from (HeapV.ok.at (x := (ObjL.chg x)) hH1 (Qd hx)).ns) | (simp only [List.length_set]; exact (show Gs.ok 1 (x.names).length x.ns (x.names.map Qu) from (HeapV.ok.at (x := (ObjL.chg x)) hH1 (Qd hx)).ns))), (by first | exact (show Gs.ok 3 (x.vals).length x.vs (x.vals.flatMap Qk) from (HeapV.ok.at (x := (ObjL.chg x)) hH1 (Qd hx)).vs) | (simp only [List.length_set]; exact (show Gs.ok 3 (x.vals).length x.vs (x.vals.flatMap Qk) from (HeapV.ok.at (x := (ObjL.chg x)) hH1 (Qd hx)).vs))), (by first | exact hi2 | (simp only [List.length_set]; exact hi2)), (by first | exact (show Gs.ok 1 (x.inner).length x.is (x.inner.map Qz) from (HeapV.ok.at (x := (ObjL.chg x)) hH1 (Qd hx)).is) | (simp only [List.length_set]; exact (show Gs.ok 1 (x.inner).length x.is (x.inner.map Qz) from (HeapV.ok.at (x := (ObjL.chg x)) hH1 (Qd hx)).is)))⟩ (by simp [setLenL_len]; omega)

end Go.Proofs.YthflblophelioaaGreatDoor
namespace Go.Proofs.YthflblophelioaaGreatDoor
open Go.Sl

theorem oneS (a : ByteArray) : ((fun a => [Qu a]) a : List Value).length = 1 := rfl
theorem delete_texts0 {W0 : World} {l : List ByteArray} {i : Nat} {s : Gs} (hs : s.ok 1 l.length (l.flatMap (fun a => [Qu a]))) (hi : i < l.length) : SC Tryz.prog W0 104 #[s.val l.length, .int .i64 i, .int .i64 ((i : Int) + 1)] (s.ent 9 1 (l.flatMap (fun a => [Qu a]))) (Ret (fun _ : Unit => s.ent 9 1 ((l.eraseIdx i).flatMap (fun a => [Qu a]))) (fun v _ => v = s.val (l.eraseIdx i).length ∧ s.ok 1 (l.eraseIdx i).length ((l.eraseIdx i).flatMap (fun a => [Qu a])))) := by
 cases s with
 | nil => exact absurd hs.1 (by omega)
 | «at» g c =>
   have hcap : l.length ≤ c := hs.1
   have hcm := hs.2.1
   unfold maxLen at hcm
   refine Qy (fn := Tryz.f104) (n := 33) Tryz.func104 rfl (by kernel_rfl) (ρ := [(0, .slice (some ⟨g, 0, none⟩) l.length c), (1, .int .i64 (i : Int)), (2, .int .i64 ((i : Int) + 1))]) rfl ?_
   obtain ⟨tl, htl, hlay⟩ := lay_erase oneS hi
   refine sr ?_
   refine os 1 ?_
   refine nsr ?_
   refine os 5 ?_
   refine L (O_val (.slice (tailA g l.length i 1) ((i + 1) - i) (l.length - i)) rfl (fun δ w _ => run_slice_three g l.length c i (i + 1) l.length 1 .i64 .i64 .i64 Tryz.underlying26 (by kernel_rfl) rfl rfl rfl rfl (by omega) (by omega) hcap) ?_)
   refine nq ?_
   refine sr ?_
   refine os 3 ?_
   refine kp [16, 6, 0, 1, 2] ?_
   refine nt ?_
   refine SW_false (fun _ => (congrArg Value.bool (show ((i : Int) == ((i : Int) + 1)) = false from (by simp; omega)))) ?_
   refine Ql (Qi ?_)
   refine sr ?_
   refine os 3 ?_
   refine nq ?_
   refine QV [] [] (by kernel_rfl) QP ?_
   refine aS 0 ?_
   refine aS 1 ?_
   refine tk 2 (.slice (some ⟨g, 0, none⟩) ((i : Int)).toNat c) ?_ (hy := fun δ w => run_slice_to (i : Int) (some ⟨g, 0, none⟩) l.length c .i64 Tryz.underlying26 (by kernel_rfl) rfl rfl (by omega) (by omega))
   rw [show ((i : Int)).toNat = i from by omega]
   refine aS 3 ?_
   refine aS 4 ?_
   refine tk 5 (.slice (tailA g c (i + 1) 1) (l.length - (i + 1)) (c - (i + 1))) ?_ (hy := fun δ w => run_slice_from g l.length c (i + 1) 1 .i64 Tryz.underlying26 (by kernel_rfl) rfl rfl (by omega))
   refine sa1 false 6 (h := O_append_in g c i (l.length - (i + 1)) (tailA g c (i + 1) 1) (c - (i + 1)) (l.flatMap (fun a => [Qu a])) ((l.drop (i + 1)).flatMap (fun a => [Qu a])) (((l.eraseIdx i).flatMap (fun a => [Qu a])) ++ tl) (fun _ => rfl) (fun _ => rfl) Tryz.underlying26 (by kernel_rfl) (by rw [QI oneS, List.length_drop]) (del_src oneS hi hcap) (flat_one (fun _ => rfl) _) (by omega) (del_fit oneS hi) hlay rfl ?_)
   rw [show i + (l.length - (i + 1)) = l.length - 1 from by omega]
   refine ⟨fun hnd => (by cases hnd), ?_⟩
   refine kpA [26, 7, 16, 6, 0, 1, 2] ?_
   refine aS 7 ?_
   refine QS (by kernel_rfl) (Qi ?_)
   refine sr ?_
   refine os 4 ?_
   refine L (O_val (.slice (tailA g c (l.length - 1) 1) (l.length - (l.length - 1)) (c - (l.length - 1))) rfl (fun δ w _ => run_slice_mid g (l.length - 1) c (l.length - 1) l.length 1 .i64 .i64 Tryz.underlying26 (by kernel_rfl) rfl rfl rfl (by omega) hcap) ?_)
   rw [show Value.slice (tailA g c (l.length - 1) 1) (l.length - (l.length - 1)) (c - (l.length - 1)) = Value.slice (some ⟨g, (l.length - 1) * 1, none⟩) (0 + 1) (c - (l.length - 1)) from by unfold tailA; rw [if_neg (by omega), show l.length - (l.length - 1) = 0 + 1 from by omega]]
   refine L (O_clear g (c * 1) ((l.length - 1) * 1) 0 (c - (l.length - 1)) (.string ByteArray.empty) (((l.eraseIdx i).flatMap (fun a => [Qu a])) ++ tl) [.string ByteArray.empty] (((l.eraseIdx i).flatMap (fun a => [Qu a])) ++ [.string ByteArray.empty]) (fun _ => rfl) Tryz.underlying26 (by kernel_rfl) (by kernel_rfl) (by kernel_rfl) (by simp only [List.length_append, erase_len oneS hi, htl]; exact Nat.le_refl _) (lay_tail (zs := [.string ByteArray.empty]) (erase_len oneS hi) htl.symm) rfl ?_)
   refine nq ?_
   refine SW_weakG (s := Gs.at g c) (e := 9) (size := 1) (cs := ((l.eraseIdx i).flatMap (fun a => [Qu a]))) (ds := [.string ByteArray.empty]) (τ := []) ?_
   refine Qm ?_
   refine os 2 ?_
   refine kp [6, 0, 7, 16, 1, 2] ?_
   refine nt ?_
   refine Qj ?_
   refine Qh (.slice (some ⟨g, 0, none⟩) (l.length - 1) c) (fun _ => rfl) ?_
   refine ⟨(), Own.of_perm (List.Perm.refl _), ?_, ?_⟩
   · rw [List.length_eraseIdx, if_pos hi]; rfl
   · refine ⟨by rw [List.length_eraseIdx, if_pos hi]; omega, hs.2.1, ?_⟩
     rw [erase_len oneS hi, List.length_eraseIdx, if_pos hi]

theorem delete_texts {W0 : World} {l : List ByteArray} {i : Nat} {s : Gs} (hs : s.ok 1 l.length (l.map Qu)) (hi : i < l.length) : SC Tryz.prog W0 104 #[s.val l.length, .int .i64 i, .int .i64 ((i : Int) + 1)] (s.ent 9 1 (l.map Qu)) (Ret (fun _ : Unit => s.ent 9 1 ((l.eraseIdx i).map Qu)) (fun v _ => v = s.val (l.eraseIdx i).length ∧ s.ok 1 (l.eraseIdx i).length ((l.eraseIdx i).map Qu))) := by
 rw [List.map_eq_flatMap, List.map_eq_flatMap]
 rw [List.map_eq_flatMap] at hs
 exact delete_texts0 hs hi

theorem delete_descs {W0 : World} {l : List QJ} {i : Nat} {s : Gs} (hs : s.ok 3 l.length (l.flatMap Qk)) (hi : i < l.length) : SC Tryz.prog W0 105 #[s.val l.length, .int .i64 i, .int .i64 ((i : Int) + 1)] (s.ent 45 3 (l.flatMap Qk)) (Ret (fun _ : Unit => s.ent 45 3 ((l.eraseIdx i).flatMap Qk)) (fun v _ => v = s.val (l.eraseIdx i).length ∧ s.ok 3 (l.eraseIdx i).length ((l.eraseIdx i).flatMap Qk))) := by
 cases s with
 | nil => exact absurd hs.1 (by omega)
 | «at» g c =>
   have hcap : l.length ≤ c := hs.1
   have hcm := hs.2.1
   unfold maxLen at hcm
   refine Qy (fn := Tryz.f105) (n := 33) Tryz.func105 rfl (by kernel_rfl) (ρ := [(0, .slice (some ⟨g, 0, none⟩) l.length c), (1, .int .i64 (i : Int)), (2, .int .i64 ((i : Int) + 1))]) rfl ?_
   obtain ⟨tl, htl, hlay⟩ := lay_erase QL hi
   refine sr ?_
   refine os 1 ?_
   refine nsr ?_
   refine os 5 ?_
   refine L (O_val (.slice (tailA g l.length i 3) ((i + 1) - i) (l.length - i)) rfl (fun δ w _ => run_slice_three g l.length c i (i + 1) l.length 3 .i64 .i64 .i64 Tryz.underlying99 (by kernel_rfl) rfl rfl rfl rfl (by omega) (by omega) hcap) ?_)
   refine nq ?_
   refine sr ?_
   refine os 3 ?_
   refine kp [16, 6, 0, 1, 2] ?_
   refine nt ?_
   refine SW_false (fun _ => (congrArg Value.bool (show ((i : Int) == ((i : Int) + 1)) = false from (by simp; omega)))) ?_
   refine Ql (Qi ?_)
   refine sr ?_
   refine os 3 ?_
   refine nq ?_
   refine QV [] [] (by kernel_rfl) QP ?_
   refine aS 0 ?_
   refine aS 1 ?_
   refine tk 2 (.slice (some ⟨g, 0, none⟩) ((i : Int)).toNat c) ?_ (hy := fun δ w => run_slice_to (i : Int) (some ⟨g, 0, none⟩) l.length c .i64 Tryz.underlying99 (by kernel_rfl) rfl rfl (by omega) (by omega))
   rw [show ((i : Int)).toNat = i from by omega]
   refine aS 3 ?_
   refine aS 4 ?_
   refine tk 5 (.slice (tailA g c (i + 1) 3) (l.length - (i + 1)) (c - (i + 1))) ?_ (hy := fun δ w => run_slice_from g l.length c (i + 1) 3 .i64 Tryz.underlying99 (by kernel_rfl) rfl rfl (by omega))
   refine sa1 false 6 (h := O_append_in g c i (l.length - (i + 1)) (tailA g c (i + 1) 3) (c - (i + 1)) (l.flatMap Qk) ((l.drop (i + 1)).flatMap Qk) (((l.eraseIdx i).flatMap Qk) ++ tl) (fun _ => rfl) (fun _ => rfl) Tryz.underlying99 (by kernel_rfl) (by rw [QI QL, List.length_drop]) (del_src QL hi hcap) (flat_one (fun _ => rfl) _) (by omega) (del_fit QL hi) hlay rfl ?_)
   rw [show i + (l.length - (i + 1)) = l.length - 1 from by omega]
   refine ⟨fun hnd => (by cases hnd), ?_⟩
   refine kpA [26, 7, 16, 6, 0, 1, 2] ?_
   refine aS 7 ?_
   refine QS (by kernel_rfl) (Qi ?_)
   refine sr ?_
   refine os 4 ?_
   refine L (O_val (.slice (tailA g c (l.length - 1) 3) (l.length - (l.length - 1)) (c - (l.length - 1))) rfl (fun δ w _ => run_slice_mid g (l.length - 1) c (l.length - 1) l.length 3 .i64 .i64 Tryz.underlying99 (by kernel_rfl) rfl rfl rfl (by omega) hcap) ?_)
   rw [show Value.slice (tailA g c (l.length - 1) 3) (l.length - (l.length - 1)) (c - (l.length - 1)) = Value.slice (some ⟨g, (l.length - 1) * 3, none⟩) (0 + 1) (c - (l.length - 1)) from by unfold tailA; rw [if_neg (by omega), show l.length - (l.length - 1) = 0 + 1 from by omega]]
   refine L (O_clear g (c * 3) ((l.length - 1) * 3) 0 (c - (l.length - 1)) (.agg #[.int .u64 0, .int .u64 0, .int .i64 0]) (((l.eraseIdx i).flatMap Qk) ++ tl) [.int .u64 0, .int .u64 0, .int .i64 0] (((l.eraseIdx i).flatMap Qk) ++ [.int .u64 0, .int .u64 0, .int .i64 0]) (fun _ => rfl) Tryz.underlying99 (by kernel_rfl) (by kernel_rfl) (by kernel_rfl) (by simp only [List.length_append, erase_len QL hi, htl]; exact Nat.le_refl _) (lay_tail (zs := [.int .u64 0, .int .u64 0, .int .i64 0]) (erase_len QL hi) htl.symm) rfl ?_)
   refine nq ?_
   refine SW_weakG (s := Gs.at g c) (e := 45) (size := 3) (cs := ((l.eraseIdx i).flatMap Qk)) (ds := [.int .u64 0, .int .u64 0, .int .i64 0]) (τ := []) ?_
   refine Qm ?_
   refine os 2 ?_
   refine kp [6, 0, 7, 16, 1, 2] ?_
   refine nt ?_
   refine Qj ?_
   refine Qh (.slice (some ⟨g, 0, none⟩) (l.length - 1) c) (fun _ => rfl) ?_
   refine ⟨(), Own.of_perm (List.Perm.refl _), ?_, ?_⟩
   · rw [List.length_eraseIdx, if_pos hi]; rfl
   · refine ⟨by rw [List.length_eraseIdx, if_pos hi]; omega, hs.2.1, ?_⟩
     rw [erase_len QL hi, List.length_eraseIdx, if_pos hi]

theorem heap_Drop_no {W0 : World} {F : HeapF} {H : HeapV} (hH : H.ok F) {w : Int} {n : Nat} {x : ObjL} (h0 : QB w H.objs.length = some n) (hx : H.objs[n]? = some x) {key : ByteArray} (hno : QN (H.V.abs F.T) x.shape x.names key < 0) : SC Tryz.prog W0 75 #[.pointer (some ⟨F.p, 0, none⟩), .int .u64 w, .string key] (HeapV.ent H F) (Ret (fun _ : Unit => H.ent F) (fun v _ => v = .bool false)) := by
 refine Qy (fn := Tryz.f75) (n := 48) Tryz.func75 rfl (by kernel_rfl) (ρ := [(0, pt F.p 0), (1, .int .u64 w), (2, .string key)]) rfl ?_
 refine QH _ HeapV.eq0 ?_
 refine sr ?_
 refine os 1 ?_
 refine nsr ?_
 refine os 2 ?_
 refine L (cl (Q6 hH w) ?_ (hp := HeapV.pm))
 rintro v1 _ hv1
 obtain rfl : v1 = pt (Gs.blk H.s) (n * 9) := hv1.trans (by rw [h0])
 refine QO _ HeapV.eq ?_
 refine os 1 ?_
 refine kp [7, 6, 0, 1, 2] ?_
 refine nq ?_
 refine sr ?_
 refine os 1 ?_
 refine oV (.bool false) ?_
 refine nt ?_
 refine cf ?_
 refine Ql (Qi ?_)
 refine sr ?_
 refine os 3 ?_
 refine L (cl (heap_place hH (n := n) hx key) ?_ (hp := HeapV.pm))
 rintro _ _ rfl
 refine QO _ HeapV.eq ?_
 refine os 1 ?_
 refine kp [8, 13, 7, 6, 0, 1, 2] ?_
 refine nq ?_
 refine sr ?_
 refine os 2 ?_
 refine nt ?_
 refine SW_true (fun _ => (congrArg Value.bool (show (decide ((QN (TreeV.abs H.V F.T) x.shape x.names key) < 0)) = true from (by simp; omega)))) ?_
 refine sr ?_
 refine os 1 ?_
 refine nt ?_
 refine Qj (Qn ?_)
 refine Qh (.bool false) (fun _ => rfl) ?_
 exact ⟨(), HeapV.own, rfl⟩

theorem heap_Drop_yes {W0 : World} {F : HeapF} {H : HeapV} (hH : H.ok F) {w : Int} {n : Nat} {x : ObjL} (h0 : QB w H.objs.length = some n) (hx : H.objs[n]? = some x) (hI : OInv (H.V.abs F.T) x) {k : Nat} (hB : H.bud k) (hk : k ≤ 8000000) {key : ByteArray} {q_ : Nat} (hq : QN (H.V.abs F.T) x.shape x.names key = q_) : SC Tryz.prog W0 75 #[.pointer (some ⟨F.p, 0, none⟩), .int .u64 w, .string key] (HeapV.ent H F) (Ret (fun r : ObjL × List CellL × Int => (H.upd n r.1 H.V r.2.1 r.2.2).ent F) (fun v r => v = .bool true ∧ (H.upd n r.1 H.V r.2.1 r.2.2).ok F ∧ Same x r.1 ∧ r.1.ps = ⟨if 0 ≤ x.shape then -1 else x.shape, (QY (H.V.abs F.T) x).eraseIdx q_, x.vals.eraseIdx q_⟩ ∧ Chg x.cell H.cl r.2.1)) := by
 have hnl := (List.getElem?_eq_some_iff.1 hx).1
 refine Qy (fn := Tryz.f75) (n := 48) Tryz.func75 rfl (by kernel_rfl) (ρ := [(0, pt F.p 0), (1, .int .u64 w), (2, .string key)]) rfl ?_
 refine QH _ HeapV.eq0 ?_
 have hvl := hB.vals x (List.mem_of_getElem? hx)
 have hqv : q_ < x.vals.length := by have q1 := placeO_lt hI (key := key) (by omega); omega
 refine sr ?_
 refine os 1 ?_
 refine nsr ?_
 refine os 2 ?_
 refine L (cl (Q6 hH w) ?_ (hp := HeapV.pm))
 rintro v1 _ hv1
 obtain rfl : v1 = pt (Gs.blk H.s) (n * 9) := hv1.trans (by rw [h0])
 refine QO _ HeapV.eq ?_
 refine os 1 ?_
 refine kp [7, 6, 0, 1, 2] ?_
 refine nq ?_
 refine sr ?_
 refine os 1 ?_
 refine oV (.bool false) ?_
 refine nt ?_
 refine cf ?_
 refine Ql (Qi ?_)
 refine sr ?_
 refine os 3 ?_
 refine L (cl (heap_place hH (n := n) hx key) ?_ (hp := HeapV.pm))
 rintro v2 _ hv2
 obtain rfl : v2 = .int .i64 (q_ : Int) := hv2.trans (congrArg (Value.int .i64) hq)
 refine QO _ HeapV.eq ?_
 refine os 1 ?_
 refine kp [8, 13, 7, 6, 0, 1, 2] ?_
 refine nq ?_
 refine sr ?_
 refine os 2 ?_
 refine nt ?_
 refine SW_false (fun _ => (congrArg Value.bool (show (decide ((q_ : Int) < 0)) = false from (by simp)))) ?_
 refine Ql (Qi ?_)
 refine sr ?_
 refine os 2 ?_
 refine L (cl (heap_changed hH (n := n) hx hB hk) ?_ (hp := HeapV.pm))
 rintro _ ⟨cl1, br1⟩ ⟨rfl, hccl1, hchcl1⟩
 refine QO _ HeapV.eq ?_
 have hH1 : HeapV.ok (HeapV.mk H.s (H.objs.set n (ObjL.chg x)) H.ts H.texts H.known H.V H.cs cl1 br1) F := hH.chg hx hccl1 br1
 refine nsr ?_
 refine os 2 ?_
 by_cases hp1 : 0 ≤ x.shape
 ·refine L (cl (heap_loose_yes hH1 (n := n) (Qd hx) hp1) ?_ (hp := HeapV.pm))
  rintro _ kg1 ⟨rfl, hkg1⟩
  refine QO _ (by simp only [HeapV.ent, HeapV.put, List.set_set, List.cons_append, List.append_assoc, List.nil_append]; rfl) ?_
  have hH2 : HeapV.ok (HeapV.mk H.s (H.objs.set n (ObjL.loosed (ObjL.chg x) kg1 (QG (TreeV.abs H.V F.T) x.shape))) H.ts H.texts H.known H.V H.cs cl1 br1) F := by simpa only [HeapV.put, List.set_set] using HeapV.ok.put hH1 (Qd hx) (x' := (ObjL.loosed (ObjL.chg x) kg1 (QG (TreeV.abs H.V F.T) x.shape))) ⟨hkg1, (HeapV.ok.at hH1 (Qd hx)).vs, (HeapV.ok.at hH1 (Qd hx)).es, (HeapV.ok.at hH1 (Qd hx)).is⟩ (HeapV.ok.small hH1 (ObjL.chg x) (List.mem_of_getElem? (Qd hx)))
  refine nq ?_
  have hqn : q_ < (QG (TreeV.abs H.V F.T) x.shape).length := by have q1 := hI.len; have q2 := hqv; unfold QY at q1; rw [if_neg (by omega)] at q1; omega
  refine QQ _ (QC (Qr QE)) ?_
  refine QQ ((Gs.ent 9 1 kg1 ((QG (TreeV.abs H.V F.T) x.shape).map Qu)) ++ ((Gs.ent 45 3 x.vs (x.vals.flatMap Qk)) ++ ((Gs.ent 33 1 x.es (x.elems.map Qz)) ++ ((Gs.ent 33 1 x.is (x.inner.map Qz)) ++ (((List.eraseIdx (H.objs.set n (ObjL.loosed (ObjL.chg x) kg1 (QG (TreeV.abs H.V F.T) x.shape))) n).flatMap ObjL.ent) ++ ((F.p, .cells 75 6 [Gs.val H.s ((H.objs.set n (ObjL.loosed (ObjL.chg x) kg1 (QG (TreeV.abs H.V F.T) x.shape))).length), Gs.val H.ts H.texts.length, .map (some F.kb), pt F.T.p 0, pt F.cp 0, .int .i64 br1]) :: ((Gs.ent 102 9 H.s ((H.objs.set n (ObjL.loosed (ObjL.chg x) kg1 (QG (TreeV.abs H.V F.T) x.shape))).flatMap ObjL.cells)) ++ ((Gs.ent 9 1 H.ts (H.texts.map Qu)) ++ ((F.kb, .map (kvs Qu Qz H.known)) :: ((TreeV.ent H.V F.T) ++ ((CellsL.ent (CellsL.mk F.cp H.cs cl1)) ++ ([])))))))))))) (obj_focus (Qd hx) _) ?_
  refine QV [((Gs.blk H.s), n * 9 + 4, Gs.val kg1 ((QG (TreeV.abs H.V F.T) x.shape).length)), ((Gs.blk H.s), n * 9 + 5, Gs.val x.vs x.vals.length)] [0, 1, 2, 3, 4, 5, 6, 7, 8, 9, 10, 11, 12, 13, 14, 15, 16] (by kernel_rfl) (Qf (Gs.cell hH2.row (fun e he => (Qa (Qa (Qa (Qa (Qa (Qc (Qt he)))))))) (Qg ObjL.len (Qd hx) (j := 4) (by decide) rfl)) (Qf (Gs.cell hH2.row (fun e he => (Qa (Qa (Qa (Qa (Qa (Qc (Qt he)))))))) (Qg ObjL.len (Qd hx) (j := 5) (by decide) rfl)) QP)) ?_
  refine aS 0 ?_
  refine aS 1 ?_
  refine aS 2 ?_
  refine aS 3 ?_
  refine kpA [29, 27, 26, 19, 8, 13, 7, 6, 0, 1, 2] ?_
  refine aF 4 ?_
  refine aL 5 ?_
  refine aS 6 ?_
  refine aS 7 ?_
  refine tk 8 (.int .i64 (IntKind.wrap .i64 ((q_ : Int) + 1))) ?_
  rw [show IntKind.wrap .i64 ((q_ : Int) + 1) = (q_ : Int) + 1 from IntWalk.i64_in _ (by omega)]
  refine aS 10 ?_
  refine aS 11 ?_
  refine aF 12 ?_
  refine aL 13 ?_
  refine aS 14 ?_
  refine aS 15 ?_
  refine tk 16 (.int .i64 (IntKind.wrap .i64 ((q_ : Int) + 1))) ?_
  rw [show IntKind.wrap .i64 ((q_ : Int) + 1) = (q_ : Int) + 1 from IntWalk.i64_in _ (by omega)]
  refine sa1 true 9 (h := cl (delete_texts (i := q_) (show Gs.ok 1 ((QG (TreeV.abs H.V F.T) x.shape)).length kg1 ((QG (TreeV.abs H.V F.T) x.shape).map Qu) from (HeapV.ok.at (x := (ObjL.loosed (ObjL.chg x) kg1 (QG (TreeV.abs H.V F.T) x.shape))) hH2 (Qd hx)).ns) hqn) ?_)
  rintro _ _ ⟨rfl, hdl1⟩
  refine ⟨fun hnd => (Qf (Gs.cell hH2.row (fun e he => (Qa (Qa (Qa (Qa (Qa (Qc (Qt he)))))))) (Qg ObjL.len (Qd hx) (j := 4) (by decide) rfl)) (Qf (Gs.cell hH2.row (fun e he => (Qa (Qa (Qa (Qa (Qa (Qc (Qt he)))))))) (Qg ObjL.len (Qd hx) (j := 5) (by decide) rfl)) QP)), ?_⟩
  refine kpA [35, 42, 40, 39, 27, 26, 19, 8, 13, 7, 6, 0, 1, 2] ?_
  refine sa1 false 17 (h := cl (delete_descs (i := q_) (show Gs.ok 3 (x.vals).length x.vs (x.vals.flatMap Qk) from (HeapV.ok.at (x := (ObjL.loosed (ObjL.chg x) kg1 (QG (TreeV.abs H.V F.T) x.shape))) hH2 (Qd hx)).vs) hqv) ?_)
  rintro _ _ ⟨rfl, hdl2⟩
  refine ⟨fun hnd => (by cases hnd), ?_⟩
  refine aS 18 ?_
  refine aF 19 ?_
  have hok3 := Gs.ok.relen (ys := ((H.objs.set n (ObjL.mk x.kind x.proto x.shut (-1) kg1 ((QG (TreeV.abs H.V F.T) x.shape).eraseIdx q_) x.vs x.vals x.es x.elems x.is x.inner (if 0 ≤ x.cell then -1 else x.cell))).flatMap ObjL.cells)) hH2.row (by simp [QI ObjL.len])
  refine SA_perm _ (Qr (Qr (Qr (Qr (Qr (QC QE)))))) ?_
  refine sa1 false 20 (h := Q1 (ys := ((H.objs.set n (ObjL.mk x.kind x.proto x.shut (-1) kg1 ((QG (TreeV.abs H.V F.T) x.shape).eraseIdx q_) x.vs x.vals x.es x.elems x.is x.inner (if 0 ≤ x.cell then -1 else x.cell))).flatMap ObjL.cells)) H.s (n * 9 + 4) (Gs.val kg1 (((QG (TreeV.abs H.V F.T) x.shape).eraseIdx q_).length)) [Gs.val kg1 (((QG (TreeV.abs H.V F.T) x.shape).eraseIdx q_).length)] (Gs.ok.ne hH2.row (by first | omega | (simp; omega))) (fun _ => rfl) (fun _ => rfl) rfl (by kernel_rfl) rfl (by rw [QI ObjL.len]; simp; omega) ((row_lay (j := 4) ObjL.len (ObjL.mk x.kind x.proto x.shut (-1) kg1 ((QG (TreeV.abs H.V F.T) x.shape).eraseIdx q_) x.vs x.vals x.es x.elems x.is x.inner (if 0 ≤ x.cell then -1 else x.cell)) (Qd hx) (Nat.le_of_ble_eq_true rfl) rfl).trans (by rw [List.set_set])) rfl ?_)
  refine ⟨fun hnd => (by cases hnd), ?_⟩
  refine aS 21 ?_
  refine kpA [46, 43, 19, 8, 13, 7, 6, 0, 1, 2] ?_
  refine aF 22 ?_
  have hok4 := Gs.ok.relen (ys := ((H.objs.set n (ObjL.mk x.kind x.proto x.shut (-1) kg1 ((QG (TreeV.abs H.V F.T) x.shape).eraseIdx q_) x.vs (x.vals.eraseIdx q_) x.es x.elems x.is x.inner (if 0 ≤ x.cell then -1 else x.cell))).flatMap ObjL.cells)) hok3 (by simp [QI ObjL.len])
  refine sa1 false 23 (h := Q1 (ys := ((H.objs.set n (ObjL.mk x.kind x.proto x.shut (-1) kg1 ((QG (TreeV.abs H.V F.T) x.shape).eraseIdx q_) x.vs (x.vals.eraseIdx q_) x.es x.elems x.is x.inner (if 0 ≤ x.cell then -1 else x.cell))).flatMap ObjL.cells)) H.s (n * 9 + 5) (Gs.val x.vs ((x.vals.eraseIdx q_).length)) [Gs.val x.vs ((x.vals.eraseIdx q_).length)] (Gs.ok.ne hok3 (by first | omega | (simp; omega))) (fun _ => rfl) (fun _ => rfl) rfl (by kernel_rfl) rfl (by rw [QI ObjL.len]; simp; omega) ((row_lay (j := 5) ObjL.len (ObjL.mk x.kind x.proto x.shut (-1) kg1 ((QG (TreeV.abs H.V F.T) x.shape).eraseIdx q_) x.vs (x.vals.eraseIdx q_) x.es x.elems x.is x.inner (if 0 ≤ x.cell then -1 else x.cell)) (Qd hx) (Nat.le_of_ble_eq_true rfl) rfl).trans (by rw [List.set_set])) rfl ?_)
  refine ⟨fun hnd => (by cases hnd), ?_⟩
  refine QS (by kernel_rfl) (Qi ?_)
  refine sr ?_
  refine os 1 ?_
  refine kp [6, 19, 8, 13, 7, 0, 1, 2] ?_
  refine nt ?_
  refine Qj ?_
  refine Qh (.bool true) (fun _ => rfl) ?_
  refine ⟨((ObjL.mk x.kind x.proto x.shut (-1) kg1 ((QG (TreeV.abs H.V F.T) x.shape).eraseIdx q_) x.vs (x.vals.eraseIdx q_) x.es x.elems x.is x.inner (if 0 ≤ x.cell then -1 else x.cell)), cl1, br1), ?_, rfl, ?_, ⟨rfl, rfl, rfl, rfl, rfl, rfl, rfl, rfl⟩, ?_, hchcl1⟩
  · refine Own.trans (ow (S := ((F.p, .cells 75 6 [Gs.val H.s ((H.objs.set n (ObjL.loosed (ObjL.chg x) kg1 (QG (TreeV.abs H.V F.T) x.shape))).length), Gs.val H.ts H.texts.length, .map (some F.kb), pt F.T.p 0, pt F.cp 0, .int .i64 br1]) :: ((Gs.ent 102 9 H.s ((H.objs.set n (ObjL.mk x.kind x.proto x.shut (-1) kg1 ((QG (TreeV.abs H.V F.T) x.shape).eraseIdx q_) x.vs (x.vals.eraseIdx q_) x.es x.elems x.is x.inner (if 0 ≤ x.cell then -1 else x.cell))).flatMap ObjL.cells)) ++ ((Gs.ent 9 1 kg1 (((QG (TreeV.abs H.V F.T) x.shape).eraseIdx q_).map Qu)) ++ ((Gs.ent 45 3 x.vs ((x.vals.eraseIdx q_).flatMap Qk)) ++ ((Gs.ent 33 1 x.es (x.elems.map Qz)) ++ ((Gs.ent 33 1 x.is (x.inner.map Qz)) ++ (((List.eraseIdx (H.objs.set n (ObjL.loosed (ObjL.chg x) kg1 (QG (TreeV.abs H.V F.T) x.shape))) n).flatMap ObjL.ent) ++ ((Gs.ent 9 1 H.ts (H.texts.map Qu)) ++ ((F.kb, .map (kvs Qu Qz H.known)) :: ((TreeV.ent H.V F.T) ++ ((CellsL.ent (CellsL.mk F.cp H.cs cl1)) ++ ([])))))))))))))) (Own.of_perm ?_)
    have hb_ := HeapV.back (H := (HeapV.mk H.s (H.objs.set n (ObjL.loosed (ObjL.chg x) kg1 (QG (TreeV.abs H.V F.T) x.shape))) H.ts H.texts H.known H.V H.cs cl1 br1)) F (Qd hx) (ObjL.mk x.kind x.proto x.shut (-1) kg1 ((QG (TreeV.abs H.V F.T) x.shape).eraseIdx q_) x.vs (x.vals.eraseIdx q_) x.es x.elems x.is x.inner (if 0 ≤ x.cell then -1 else x.cell))
    simp only [HeapV.head, HeapV.put, List.set_set, List.length_set] at hb_ ⊢
    exact hb_
  · simpa only [HeapV.put, List.set_set, List.length_set] using HeapV.ok.put hH2 (Qd hx) (x' := (ObjL.mk x.kind x.proto x.shut (-1) kg1 ((QG (TreeV.abs H.V F.T) x.shape).eraseIdx q_) x.vs (x.vals.eraseIdx q_) x.es x.elems x.is x.inner (if 0 ≤ x.cell then -1 else x.cell))) ⟨(by first | exact hdl1 | (simp only [List.length_set]; exact hdl1)), (by first | exact hdl2 | (simp only [List.length_set]; exact hdl2)), (by first | exact (show Gs.ok 1 (x.elems).length x.es (x.elems.map Qz) from (HeapV.ok.at (x := (ObjL.loosed (ObjL.chg x) kg1 (QG (TreeV.abs H.V F.T) x.shape))) hH2 (Qd hx)).es) | (simp only [List.length_set]; exact (show Gs.ok 1 (x.elems).length x.es (x.elems.map Qz) from (HeapV.ok.at (x := (ObjL.loosed (ObjL.chg x) kg1 (QG (TreeV.abs H.V F.T) x.shape))) hH2 (Qd hx)).es))), (by first | exact (show Gs.ok 1 (x.inner).length x.is (x.inner.map Qz) from (HeapV.ok.at (x := (ObjL.loosed (ObjL.chg x) kg1 (QG (TreeV.abs H.V F.T) x.shape))) hH2 (Qd hx)).is) | (simp only [List.length_set]; exact (show Gs.ok 1 (x.inner).length x.is (x.inner.map Qz) from (HeapV.ok.at (x := (ObjL.loosed (ObjL.chg x) kg1 (QG (TreeV.abs H.V F.T) x.shape))) hH2 (Qd hx)).is)))⟩ (by first | omega | exact hH.small x (List.mem_of_getElem? hx))
  · show PS.mk _ _ _ = PS.mk _ _ _
    unfold QY; rw [if_pos hp1, if_neg (show ¬ x.shape < 0 from by omega)]
 refine L (cl (heap_loose_no hH1 (n := n) (Qd hx) (by simpa using hp1)) ?_ (hp := HeapV.pm))
 rintro v9 _ hv9
 obtain rfl : v9 = .tuple #[] := hv9.trans (rfl)
 refine QO _ HeapV.eq ?_
 refine nq ?_
 have hqn : q_ < x.names.length := by have q1 := hI.len; have q2 := hqv; unfold QY at q1; rw [if_pos (by omega)] at q1; omega
 refine QQ _ (QC (Qr QE)) ?_
 refine QQ ((Gs.ent 9 1 x.ns (x.names.map Qu)) ++ ((Gs.ent 45 3 x.vs (x.vals.flatMap Qk)) ++ ((Gs.ent 33 1 x.es (x.elems.map Qz)) ++ ((Gs.ent 33 1 x.is (x.inner.map Qz)) ++ (((List.eraseIdx (H.objs.set n (ObjL.chg x)) n).flatMap ObjL.ent) ++ ((F.p, .cells 75 6 [Gs.val H.s ((H.objs.set n (ObjL.chg x)).length), Gs.val H.ts H.texts.length, .map (some F.kb), pt F.T.p 0, pt F.cp 0, .int .i64 br1]) :: ((Gs.ent 102 9 H.s ((H.objs.set n (ObjL.chg x)).flatMap ObjL.cells)) ++ ((Gs.ent 9 1 H.ts (H.texts.map Qu)) ++ ((F.kb, .map (kvs Qu Qz H.known)) :: ((TreeV.ent H.V F.T) ++ ((CellsL.ent (CellsL.mk F.cp H.cs cl1)) ++ ([])))))))))))) (obj_focus (Qd hx) _) ?_
 refine QV [((Gs.blk H.s), n * 9 + 4, Gs.val x.ns x.names.length), ((Gs.blk H.s), n * 9 + 5, Gs.val x.vs x.vals.length)] [0, 1, 2, 3, 4, 5, 6, 7, 8, 9, 10, 11, 12, 13, 14, 15, 16] (by kernel_rfl) (Qf (Gs.cell hH1.row (fun e he => (Qa (Qa (Qa (Qa (Qa (Qc (Qt he)))))))) (Qg ObjL.len (Qd hx) (j := 4) (by decide) rfl)) (Qf (Gs.cell hH1.row (fun e he => (Qa (Qa (Qa (Qa (Qa (Qc (Qt he)))))))) (Qg ObjL.len (Qd hx) (j := 5) (by decide) rfl)) QP)) ?_
 refine aS 0 ?_
 refine aS 1 ?_
 refine aS 2 ?_
 refine aS 3 ?_
 refine kpA [29, 27, 26, 19, 8, 13, 7, 6, 0, 1, 2] ?_
 refine aF 4 ?_
 refine aL 5 ?_
 refine aS 6 ?_
 refine aS 7 ?_
 refine tk 8 (.int .i64 (IntKind.wrap .i64 ((q_ : Int) + 1))) ?_
 rw [show IntKind.wrap .i64 ((q_ : Int) + 1) = (q_ : Int) + 1 from IntWalk.i64_in _ (by omega)]
 refine aS 10 ?_
 refine aS 11 ?_
 refine aF 12 ?_
 refine aL 13 ?_
 refine aS 14 ?_
 refine aS 15 ?_
 refine tk 16 (.int .i64 (IntKind.wrap .i64 ((q_ : Int) + 1))) ?_
 rw [show IntKind.wrap .i64 ((q_ : Int) + 1) = (q_ : Int) + 1 from IntWalk.i64_in _ (by omega)]
 refine sa1 true 9 (h := cl (delete_texts (i := q_) (show Gs.ok 1 (x.names).length x.ns (x.names.map Qu) from (HeapV.ok.at (x := (ObjL.chg x)) hH1 (Qd hx)).ns) hqn) ?_)
 rintro _ _ ⟨rfl, hdl1⟩
 refine ⟨fun hnd => (Qf (Gs.cell hH1.row (fun e he => (Qa (Qa (Qa (Qa (Qa (Qc (Qt he)))))))) (Qg ObjL.len (Qd hx) (j := 4) (by decide) rfl)) (Qf (Gs.cell hH1.row (fun e he => (Qa (Qa (Qa (Qa (Qa (Qc (Qt he)))))))) (Qg ObjL.len (Qd hx) (j := 5) (by decide) rfl)) QP)), ?_⟩
 refine kpA [35, 42, 40, 39, 27, 26, 19, 8, 13, 7, 6, 0, 1, 2] ?_
 refine sa1 false 17 (h := cl (delete_descs (i := q_) (show Gs.ok 3 (x.vals).length x.vs (x.vals.flatMap Qk) from (HeapV.ok.at (x := (ObjL.chg x)) hH1 (Qd hx)).vs) hqv) ?_)
 rintro _ _ ⟨rfl, hdl2⟩
 refine ⟨fun hnd => (by cases hnd), ?_⟩
 refine aS 18 ?_
 refine aF 19 ?_
 have hok7 := Gs.ok.relen (ys := ((H.objs.set n (ObjL.mk x.kind x.proto x.shut x.shape x.ns (x.names.eraseIdx q_) x.vs x.vals x.es x.elems x.is x.inner (if 0 ≤ x.cell then -1 else x.cell))).flatMap ObjL.cells)) hH1.row (by simp [QI ObjL.len])
 refine SA_perm _ (Qr (Qr (Qr (Qr (Qr (QC QE)))))) ?_
 refine sa1 false 20 (h := Q1 (ys := ((H.objs.set n (ObjL.mk x.kind x.proto x.shut x.shape x.ns (x.names.eraseIdx q_) x.vs x.vals x.es x.elems x.is x.inner (if 0 ≤ x.cell then -1 else x.cell))).flatMap ObjL.cells)) H.s (n * 9 + 4) (Gs.val x.ns ((x.names.eraseIdx q_).length)) [Gs.val x.ns ((x.names.eraseIdx q_).length)] (Gs.ok.ne hH1.row (by first | omega | (simp; omega))) (fun _ => rfl) (fun _ => rfl) rfl (by kernel_rfl) rfl (by rw [QI ObjL.len]; simp; omega) ((row_lay (j := 4) ObjL.len (ObjL.mk x.kind x.proto x.shut x.shape x.ns (x.names.eraseIdx q_) x.vs x.vals x.es x.elems x.is x.inner (if 0 ≤ x.cell then -1 else x.cell)) (Qd hx) (Nat.le_of_ble_eq_true rfl) rfl).trans (by rw [List.set_set])) rfl ?_)
 refine ⟨fun hnd => (by cases hnd), ?_⟩
 refine aS 21 ?_
 refine kpA [46, 43, 19, 8, 13, 7, 6, 0, 1, 2] ?_
 refine aF 22 ?_
 have hok8 := Gs.ok.relen (ys := ((H.objs.set n (ObjL.mk x.kind x.proto x.shut x.shape x.ns (x.names.eraseIdx q_) x.vs (x.vals.eraseIdx q_) x.es x.elems x.is x.inner (if 0 ≤ x.cell then -1 else x.cell))).flatMap ObjL.cells)) hok7 (by simp [QI ObjL.len])
 refine sa1 false 23 (h := Q1 (ys := ((H.objs.set n (ObjL.mk x.kind x.proto x.shut x.shape x.ns (x.names.eraseIdx q_) x.vs (x.vals.eraseIdx q_) x.es x.elems x.is x.inner (if 0 ≤ x.cell then -1 else x.cell))).flatMap ObjL.cells)) H.s (n * 9 + 5) (Gs.val x.vs ((x.vals.eraseIdx q_).length)) [Gs.val x.vs ((x.vals.eraseIdx q_).length)] (Gs.ok.ne hok7 (by first | omega | (simp; omega))) (fun _ => rfl) (fun _ => rfl) rfl (by kernel_rfl) rfl (by rw [QI ObjL.len]; simp; omega) ((row_lay (j := 5) ObjL.len (ObjL.mk x.kind x.proto x.shut x.shape x.ns (x.names.eraseIdx q_) x.vs (x.vals.eraseIdx q_) x.es x.elems x.is x.inner (if 0 ≤ x.cell then -1 else x.cell)) (Qd hx) (Nat.le_of_ble_eq_true rfl) rfl).trans (by rw [List.set_set])) rfl ?_)
 refine ⟨fun hnd => (by cases hnd), ?_⟩
 refine QS (by kernel_rfl) (Qi ?_)
 refine sr ?_
 refine os 1 ?_
 refine kp [6, 19, 8, 13, 7, 0, 1, 2] ?_
 refine nt ?_
 refine Qj ?_
 refine Qh (.bool true) (fun _ => rfl) ?_
 refine ⟨((ObjL.mk x.kind x.proto x.shut x.shape x.ns (x.names.eraseIdx q_) x.vs (x.vals.eraseIdx q_) x.es x.elems x.is x.inner (if 0 ≤ x.cell then -1 else x.cell)), cl1, br1), ?_, rfl, ?_, ⟨rfl, rfl, rfl, rfl, rfl, rfl, rfl, rfl⟩, ?_, hchcl1⟩
 · refine Own.trans (ow (S := ((F.p, .cells 75 6 [Gs.val H.s ((H.objs.set n (ObjL.chg x)).length), Gs.val H.ts H.texts.length, .map (some F.kb), pt F.T.p 0, pt F.cp 0, .int .i64 br1]) :: ((Gs.ent 102 9 H.s ((H.objs.set n (ObjL.mk x.kind x.proto x.shut x.shape x.ns (x.names.eraseIdx q_) x.vs (x.vals.eraseIdx q_) x.es x.elems x.is x.inner (if 0 ≤ x.cell then -1 else x.cell))).flatMap ObjL.cells)) ++ ((Gs.ent 9 1 x.ns ((x.names.eraseIdx q_).map Qu)) ++ ((Gs.ent 45 3 x.vs ((x.vals.eraseIdx q_).flatMap Qk)) ++ ((Gs.ent 33 1 x.es (x.elems.map Qz)) ++ ((Gs.ent 33 1 x.is (x.inner.map Qz)) ++ (((List.eraseIdx (H.objs.set n (ObjL.chg x)) n).flatMap ObjL.ent) ++ ((Gs.ent 9 1 H.ts (H.texts.map Qu)) ++ ((F.kb, .map (kvs Qu Qz H.known)) :: ((TreeV.ent H.V F.T) ++ ((CellsL.ent (CellsL.mk F.cp H.cs cl1)) ++ ([])))))))))))))) (Own.of_perm ?_)
   have hb_ := HeapV.back (H := (HeapV.mk H.s (H.objs.set n (ObjL.chg x)) H.ts H.texts H.known H.V H.cs cl1 br1)) F (Qd hx) (ObjL.mk x.kind x.proto x.shut x.shape x.ns (x.names.eraseIdx q_) x.vs (x.vals.eraseIdx q_) x.es x.elems x.is x.inner (if 0 ≤ x.cell then -1 else x.cell))
   simp only [HeapV.head, HeapV.put, List.set_set, List.length_set] at hb_ ⊢
   exact hb_
 · simpa only [HeapV.put, List.set_set, List.length_set] using HeapV.ok.put hH1 (Qd hx) (x' := (ObjL.mk x.kind x.proto x.shut x.shape x.ns (x.names.eraseIdx q_) x.vs (x.vals.eraseIdx q_) x.es x.elems x.is x.inner (if 0 ≤ x.cell then -1 else x.cell))) ⟨(by first | exact hdl1 | (simp only [List.length_set]; exact hdl1)), (by first | exact hdl2 | (simp only [List.length_set]; exact hdl2)), (by first | exact (show Gs.ok 1 (x.elems).length x.es (x.elems.map Qz) from (HeapV.ok.at (x := (ObjL.chg x)) hH1 (Qd hx)).es) | (simp only [List.length_set]; exact (show Gs.ok 1 (x.elems).length x.es (x.elems.map Qz) from (HeapV.ok.at (x := (ObjL.chg x)) hH1 (Qd hx)).es))), (by first | exact (show Gs.ok 1 (x.inner).length x.is (x.inner.map Qz) from (HeapV.ok.at (x := (ObjL.chg x)) hH1 (Qd hx)).is) | (simp only [List.length_set]; exact (show Gs.ok 1 (x.inner).length x.is (x.inner.map Qz) from (HeapV.ok.at (x := (ObjL.chg x)) hH1 (Qd hx)).is)))⟩ (by first | omega | exact hH.small x (List.mem_of_getElem? hx))
 · show PS.mk _ _ _ = PS.mk _ _ _
   unfold QY; rw [if_neg hp1, if_pos (show x.shape < 0 from by omega)]

theorem texts_Clone {W0 : World} {σ : Qp} {l : List ByteArray} {A : Option Addr} {c : Nat} (hs : Src W0 σ A (l.map Qu)) (hr : l.length ≤ 1099511627776) : SC Tryz.prog W0 90 #[.slice A l.length c] σ (Ret (fun s : Gs => s.ent 9 1 (l.map Qu) ++ (σ ++ [])) (fun v s => v = s.val l.length ∧ s.ok 1 l.length (l.map Qu))) := by
 cases A with
 | none =>
   obtain rfl : l = [] := by
     rcases hs with h | ⟨b, o, e, _⟩
     · exact List.eq_nil_of_length_eq_zero (by simpa using h)
     · cases e
   refine Qy (fn := Tryz.f90) (n := 8) Tryz.func90 rfl (by kernel_rfl) (ρ := [(0, .slice none (([] : List ByteArray).length) c)]) rfl ?_
   refine QH (σ ++ ([])) (by simp only [List.append_nil, List.append_assoc]) ?_
   refine sr ?_
   refine os 1 ?_
   refine nq ?_
   refine sr ?_
   refine os 1 ?_
   refine oV (.bool true) ?_
   refine nt ?_
   refine ct ?_
   refine sr ?_
   refine os 1 ?_
   refine nt ?_
   refine Qj (Qn ?_)
   refine Qh (.slice none 0 0) (fun _ => rfl) ?_
   exact ⟨.nil, Own.of_perm (by simp [Gs.ent]), rfl, ⟨rfl, rfl⟩⟩
 | some a =>
   refine Qy (fn := Tryz.f90) (n := 8) Tryz.func90 rfl (by kernel_rfl) (ρ := [(0, .slice (some a) l.length c)]) rfl ?_
   refine QH (σ ++ ([])) (by simp only [List.append_nil, List.append_assoc]) ?_
   refine sr ?_
   refine os 1 ?_
   refine nq ?_
   refine sr ?_
   refine os 1 ?_
   refine oV (.bool false) ?_
   refine nt ?_
   refine cf ?_
   refine Ql (Qi ?_)
   refine sr ?_
   refine L (nws 9 0 0 [] ?_)
   intro b1
   refine os 1 ?_
   refine QO ((Gs.ent 9 1 (Gs.at b1 0) (([] : List ByteArray).map Qu)) ++ (σ ++ ([]))) rfl ?_
   refine L (QU (size := 1) (bytes := 16) (z := .string ByteArray.empty) (Gs.at b1 0) 0 l.length (some a) c (([] : List ByteArray).map Qu) (l.map Qu) ((([] : List ByteArray) ++ l).map Qu) (map_app _ _) (fun _ => rfl) (fun _ => rfl) Tryz.underlying26 (by kernel_rfl) rfl (by decide) ⟨Nat.le_refl _, by unfold maxLen; omega, rfl⟩ (by simp) (Src.elems (hs.mono (fun e he => (Qa (Qt he)))) (by simp)) (map_one (fun _ => rfl) _) (by omega) (by decide) rfl ?_)
   intro s2 hks2 hfs2
   rw [show 0 + l.length = (([] : List ByteArray) ++ l).length from by simp]
   rw [show 0 + l.length = (([] : List ByteArray) ++ l).length from by simp] at hks2
   have hls2 : (([] : List ByteArray) ++ l).length = ([] : List ByteArray).length + l.length := by simp
   refine os 1 ?_
   refine kp [2, 4, 0] ?_
   refine nt ?_
   refine Qj ?_
   refine Qh (Gs.val s2 ((([] : List ByteArray) ++ l).length)) (fun _ => rfl) ?_
   exact ⟨s2, (ow (S := ((Gs.ent 9 1 s2 ((([] : List ByteArray) ++ l).map Qu)) ++ (σ ++ ([]))))), rfl, hks2⟩

theorem heap_Keys_none {W0 : World} {F : HeapF} {H : HeapV} (hH : H.ok F) {w : Int} (h0 : QB w H.objs.length = none) : SC Tryz.prog W0 57 #[.pointer (some ⟨F.p, 0, none⟩), .int .u64 w] (HeapV.ent H F) (Ret (fun _ : Unit => H.ent F) (fun v _ => v = .slice none 0 0)) := by
 refine Qy (fn := Tryz.f57) (n := 32) Tryz.func57 rfl (by kernel_rfl) (ρ := [(0, pt F.p 0), (1, .int .u64 w)]) rfl ?_
 refine QH _ HeapV.eq0 ?_
 refine sr ?_
 refine os 1 ?_
 refine nsr ?_
 refine os 2 ?_
 refine L (cl (Q6 hH w) ?_ (hp := HeapV.pm))
 rintro v1 _ hv1
 obtain rfl : v1 = .pointer none := hv1.trans (by rw [h0])
 refine QO _ HeapV.eq ?_
 refine os 1 ?_
 refine kp [5, 4, 0, 1] ?_
 refine nq ?_
 refine QM ?_
 refine sr ?_
 refine os 1 ?_
 refine oV (.bool true) ?_
 refine os 1 ?_
 refine nt ?_
 refine ct ?_
 refine sr ?_
 refine os 1 ?_
 refine nt ?_
 refine Qj (r_in (Qn ?_))
 refine Qh (.slice none 0 0) (fun _ => rfl) ?_
 exact ⟨(), HeapV.own, rfl⟩

theorem heap_Keys_slow {W0 : World} {F : HeapF} {H : HeapV} (hH : H.ok F) {w : Int} {n : Nat} {x : ObjL} (h0 : QB w H.objs.length = some n) (hx : H.objs[n]? = some x) (hsh : x.shape < 0) (hnm : x.names.length ≤ 1099511627776) : SC Tryz.prog W0 57 #[.pointer (some ⟨F.p, 0, none⟩), .int .u64 w] (HeapV.ent H F) (Ret (fun g : Gs => g.ent 9 1 ((QY (H.V.abs F.T) x).map Qu) ++ H.ent F) (fun v g => v = g.val (QY (H.V.abs F.T) x).length ∧ g.ok 1 (QY (H.V.abs F.T) x).length ((QY (H.V.abs F.T) x).map Qu))) := by
 refine Qy (fn := Tryz.f57) (n := 32) Tryz.func57 rfl (by kernel_rfl) (ρ := [(0, pt F.p 0), (1, .int .u64 w)]) rfl ?_
 refine QH _ HeapV.eq0 ?_
 refine sr ?_
 refine os 1 ?_
 refine nsr ?_
 refine os 2 ?_
 refine L (cl (Q6 hH w) ?_ (hp := HeapV.pm))
 rintro v1 _ hv1
 obtain rfl : v1 = pt (Gs.blk H.s) (n * 9) := hv1.trans (by rw [h0])
 refine QO _ HeapV.eq ?_
 refine os 1 ?_
 refine kp [5, 4, 0, 1] ?_
 refine nq ?_
 refine QM ?_
 refine sr ?_
 refine os 1 ?_
 refine oV (.bool false) ?_
 refine os 1 ?_
 refine nt ?_
 refine cf ?_
 refine sr ?_
 refine os 3 ?_
 refine L (ld ?_ (hc := Gs.cell hH.row (fun e he => (Qc (Qt he))) (Qg ObjL.len hx (j := 3) (by decide) rfl)))
 refine os 2 ?_
 refine kp [12, 9, 5, 4, 0, 1] ?_
 refine nt ?_
 refine SW_true (fun _ => (congrArg Value.bool (show (decide (x.shape < 0)) = true from (by simp; omega)))) ?_
 refine sr ?_
 refine os 3 ?_
 refine L (ld ?_ (hc := Gs.cell hH.row (fun e he => (Qc (Qt he))) (Qg ObjL.len hx (j := 4) (by decide) rfl)))
 refine L (clA (texts_Clone (σ := _) (l := x.names) (Gs.src0 (HeapV.ok.at hH hx).ns (fun e he => (Qc (Qa (Qt ((ObjL.mns hx) _ he)))))) (by omega)) ?_)
 rintro _ cg1 ⟨rfl, hcg1⟩
 refine un ?_
 refine os 1 ?_
 refine kp [4, 12, 9, 5, 0, 1] ?_
 refine nt ?_
 refine Qj (r_in (Qn ?_))
 refine Qh (Gs.val cg1 x.names.length) (fun _ => rfl) ?_
 rw [show QY (H.V.abs F.T) x = x.names from by unfold QY; rw [if_pos hsh]]
 exact ⟨cg1, (by rw [HeapV.eq0]; exact ow), rfl, hcg1⟩

theorem heap_Keys_fast {W0 : World} {F : HeapF} {H : HeapV} (hH : H.ok F) {w : Int} {n : Nat} {x : ObjL} (h0 : QB w H.objs.length = some n) (hx : H.objs[n]? = some x) (hsh : ¬ x.shape < 0) : SC Tryz.prog W0 57 #[.pointer (some ⟨F.p, 0, none⟩), .int .u64 w] (HeapV.ent H F) (Ret (fun g : Gs => g.ent 9 1 ((QY (H.V.abs F.T) x).map Qu) ++ H.ent F) (fun v g => v = g.val (QY (H.V.abs F.T) x).length ∧ g.ok 1 (QY (H.V.abs F.T) x).length ((QY (H.V.abs F.T) x).map Qu))) := by
 refine Qy (fn := Tryz.f57) (n := 32) Tryz.func57 rfl (by kernel_rfl) (ρ := [(0, pt F.p 0), (1, .int .u64 w)]) rfl ?_
 refine QH _ HeapV.eq0 ?_
 refine sr ?_
 refine os 1 ?_
 refine nsr ?_
 refine os 2 ?_
 refine L (cl (Q6 hH w) ?_ (hp := HeapV.pm))
 rintro v1 _ hv1
 obtain rfl : v1 = pt (Gs.blk H.s) (n * 9) := hv1.trans (by rw [h0])
 refine QO _ HeapV.eq ?_
 refine os 1 ?_
 refine kp [5, 4, 0, 1] ?_
 refine nq ?_
 refine QM ?_
 refine sr ?_
 refine os 1 ?_
 refine oV (.bool false) ?_
 refine os 1 ?_
 refine nt ?_
 refine cf ?_
 refine sr ?_
 refine os 3 ?_
 refine L (ld ?_ (hc := Gs.cell hH.row (fun e he => (Qc (Qt he))) (Qg ObjL.len hx (j := 3) (by decide) rfl)))
 refine os 2 ?_
 refine kp [12, 9, 5, 4, 0, 1] ?_
 refine nt ?_
 refine SW_false (fun _ => (congrArg Value.bool (show (decide (x.shape < 0)) = false from (by simp; omega)))) ?_
 refine Ql (n_in (Qi ?_))
 refine Qx ?_
 refine QV [(F.p, 3, pt F.T.p 0), ((Gs.blk H.s), n * 9 + 3, .int .i64 x.shape)] [0, 1, 2, 3, 4, 5, 6, 7] (by kernel_rfl) (Qf (Cell.own Qe rfl) (Qf (Gs.cell hH.row (fun e he => (Qc (Qt he))) (Qg ObjL.len hx (j := 3) (by decide) rfl)) QP)) ?_
 refine aS 0 ?_
 refine aS 1 ?_
 refine aF 2 ?_
 refine aL 3 ?_
 refine aS 4 ?_
 refine aS 5 ?_
 refine aF 6 ?_
 refine aL 7 ?_
 refine sa1 false 8 (h := cl (shapes_Keys hH.tree x.shape) ?_)
 rintro _ kg1 ⟨rfl, hkg1⟩
 try simp only [List.cons_append, List.append_assoc, List.nil_append]
 refine ⟨fun hnd => (by cases hnd), ?_⟩
 refine kpA [31, 12, 9, 5, 4, 0, 1] ?_
 refine aS 9 ?_
 refine QS (by kernel_rfl) (Qi ?_)
 refine Qj ?_
 refine Qh (Gs.val kg1 ((QG (TreeV.abs H.V F.T) x.shape).length)) (fun _ => rfl) ?_
 rw [show QY (H.V.abs F.T) x = (QG (TreeV.abs H.V F.T) x.shape) from by unfold QY; rw [if_neg hsh]]
 exact ⟨kg1, (by rw [HeapV.eq0]; exact ow), rfl, hkg1⟩

end Go.Proofs.YthflblophelioaaGreatDoor
namespace Go.Proofs.YthflblophelioaaGreatDoor
open Go.Sl
variable {k : Nat} {H : HeapV} {F : HeapF} {n : Nat} {x : ObjL} {W0 : World}
def putNm (names : List ByteArray) (key : ByteArray) : List ByteArray := if ixS names key < 0 then names ++ [key] else names
def putDs (names : List ByteArray) (descs : List QJ) (key : ByteArray) (d : QJ) : List QJ := if ixS names key < 0 then descs ++ [d] else descs.set (ixS names key).toNat d
def normD (d : QJ) : QJ := (d.1, d.2.1, Qv d.2.2)
def getP (names : List ByteArray) (descs : List QJ) (key : ByteArray) : Option QJ := if ixS names key < 0 then none else descs[(ixS names key).toNat]?
theorem putDs_len (names : List ByteArray) (descs : List QJ) (key : ByteArray) (d : QJ) : (putDs names descs key d).length ≤ descs.length + 1 := by unfold putDs; split <;> simp
theorem getO_pub {t : TreeP} (h : OInv t x) (key : ByteArray) : getO t x key = getP (QY t x) x.vals key := by
 have e : QN t x.shape x.names key = if ixS (QY t x) key < 0 then -1 else ixS (QY t x) key := placePS h.ps key
 unfold getO getP
 rw [e]
 by_cases hk : ixS (QY t x) key < 0
 · rw [if_pos hk, if_pos hk, if_pos (by decide)]
 · rw [if_neg hk, if_neg hk]
theorem Same.pub {t : TreeP} {x x' : ObjL} (h : Same x x') : pubO t x' = ⟨x.kind, x.proto, x.shut, QY t x', x'.vals, x.elems, x.inner⟩ := by
 unfold pubO
 rw [h.kind, h.proto, h.shut, h.elems, h.inner]
structure PutR (H H' : HeapV) (F : HeapF) (n : Nat) (key : ByteArray) (d : QJ) (x x' : ObjL) : Prop where
  was : H.objs[n]? = some x
  now : H'.objs = H.objs.set n x'
  put : putS (H.V.abs F.T) x.ps key (normD d) = (H'.V.abs F.T, x'.ps)
  same : Same x x'
theorem hp_Get (h : HInv k H F) {w : Int} {o : ObjS} (h0 : QB w (H.pub F).length = some n) (ho : (H.pub F)[n]? = some o) (key : ByteArray) :
   SC Tryz.prog W0 55 #[.pointer (some ⟨F.p, 0, none⟩), .int .u64 w, .string key] (H.ent F) (Ret (fun _ : Unit => H.ent F) (fun v _ => v = descR (getP o.names o.descs key))) := by
 rw [HeapV.pub_len] at h0
 obtain ⟨x, hx, rfl⟩ := pub_obj ho
 have := heap_Get_some (W0 := W0) h.ok h0 hx (h.obj hx) key
 rw [getO_pub (h.obj hx)] at this
 exact this
def dropNm (names : List ByteArray) (key : ByteArray) : List ByteArray := if ixS names key < 0 then names else names.eraseIdx (ixS names key).toNat
def dropDs (names : List ByteArray) (descs : List QJ) (key : ByteArray) : List QJ := if ixS names key < 0 then descs else descs.eraseIdx (ixS names key).toNat
theorem drop_inv {t : TreeP} {x x' : ObjL} {q : Nat} (ho : OInv t x) (hs : Same x x') (hq : q < x.vals.length) (hp : x'.ps = ⟨if 0 ≤ x.shape then -1 else x.shape, (QY t x).eraseIdx q, x.vals.eraseIdx q⟩) : OInv t x' ∧ QY t x' = (QY t x).eraseIdx q ∧ x'.shape < 0 := by
 have e1 : x'.shape = if 0 ≤ x.shape then -1 else x.shape := congrArg PS.shape hp
 have e2 : x'.names = (QY t x).eraseIdx q := congrArg PS.names hp
 have e3 : x'.vals = x.vals.eraseIdx q := congrArg PS.vals hp
 have hneg : x'.shape < 0 := by rw [e1]; split <;> omega
 have hk : QY t x' = (QY t x).eraseIdx q := by unfold QY at e2 ⊢; rw [if_pos hneg]; exact e2
 have hl := ho.len
 refine ⟨⟨fun h => by omega, ?_, ?_, fun h => by omega⟩, hk, hneg⟩
 · rw [hk, e3, List.length_eraseIdx, List.length_eraseIdx, hl]
 · rw [hk]; exact ho.nodup.sublist (List.eraseIdx_sublist _ _)
theorem hp_Keys (hk : k ≤ 8000000) (h : HInv k H F) {w : Int} {o : ObjS} (h0 : QB w (H.pub F).length = some n) (ho : (H.pub F)[n]? = some o) :
   SC Tryz.prog W0 57 #[.pointer (some ⟨F.p, 0, none⟩), .int .u64 w] (H.ent F)
   (Ret (fun g : Gs => g.ent 9 1 (o.names.map Qu) ++ H.ent F) (fun v g => v = g.val o.names.length ∧ g.ok 1 o.names.length (o.names.map Qu))) := by
 rw [HeapV.pub_len] at h0
 obtain ⟨x, hx, rfl⟩ := pub_obj ho
 by_cases hs : x.shape < 0
 · have := (h.obj hx).names hs
   have := h.bud.vals x (List.mem_of_getElem? hx)
   exact heap_Keys_slow h.ok h0 hx hs (by omega)
 · exact heap_Keys_fast h.ok h0 hx hs
end Go.Proofs.YthflblophelioaaGreatDoor
namespace Go.Proofs.YthflblophelioaaGreatDoor
open Go.Sl

theorem rf_Proto_none {W0 : World} {R : RSt} (hR : R.ok) {w : Int} (hw : QK w) (h0 : QB w R.objs.length = none)  : SC Tryz.prog W0 44 #[R.val, .int .u64 w] R.ent (Ret (fun _ : Unit => R.ent) (fun v _ => v = .int .u64 18445336698825998337)) := by
 refine Qy (fn := Tryz.f44) (n := 17) Tryz.func44 rfl (by kernel_rfl) (ρ := [(0, .agg #[Gs.val R.s R.objs.length, Gs.val R.ts R.texts.length]), (1, .int .u64 w)]) rfl ?_
 refine QH _ RSt.eq0 ?_
 refine sr ?_
 refine L (nw 28 2 [Gs.val R.s R.objs.length, Gs.val R.ts R.texts.length] ?_)
 intro b1
 refine os 1 ?_
 refine nsr ?_
 refine L (lds 2 ?_)
 refine os 1 ?_
 refine L (cl (rf_At (R := RSt.mk R.s R.objs R.ts R.texts) hw (w := w)) ?_)
 rintro v1 _ hv1
 obtain rfl : v1 = .int .i64 (-1) := hv1.trans (by simp only []; unfold atI; rw [h0])
 refine un ?_
 refine os 1 ?_
 refine kp [5, 4, 2, 0, 1] ?_
 refine nq ?_
 refine sr ?_
 refine os 1 ?_
 refine oV (.bool true) ?_
 refine nt ?_
 refine ct ?_
 refine sr ?_
 refine os 1 ?_
 refine nt ?_
 refine Qj (Qn ?_)
 refine Qh (.int .u64 18445336698825998337) (fun _ => rfl) ?_
 exact ⟨(), RSt.own, rfl⟩

theorem rf_Proto_some {W0 : World} {R : RSt} (hR : R.ok) {w : Int} (hw : QK w) {n : Nat} {x : RObj} (h0 : QB w R.objs.length = some n) (hx : R.objs[n]? = some x)  : SC Tryz.prog W0 44 #[R.val, .int .u64 w] R.ent (Ret (fun _ : Unit => R.ent) (fun v _ => v = .int .u64 x.proto)) := by
 have hnl := (List.getElem?_eq_some_iff.1 hx).1
 refine Qy (fn := Tryz.f44) (n := 17) Tryz.func44 rfl (by kernel_rfl) (ρ := [(0, .agg #[Gs.val R.s R.objs.length, Gs.val R.ts R.texts.length]), (1, .int .u64 w)]) rfl ?_
 refine QH _ RSt.eq0 ?_
 refine sr ?_
 refine L (nw 28 2 [Gs.val R.s R.objs.length, Gs.val R.ts R.texts.length] ?_)
 intro b1
 refine os 1 ?_
 refine nsr ?_
 refine L (lds 2 ?_)
 refine os 1 ?_
 refine L (cl (rf_At (R := RSt.mk R.s R.objs R.ts R.texts) hw (w := w)) ?_)
 rintro v1 _ hv1
 obtain rfl : v1 = .int .i64 (n : Int) := hv1.trans (by simp only []; unfold atI; rw [h0])
 refine un ?_
 refine os 1 ?_
 refine kp [5, 4, 2, 0, 1] ?_
 refine nq ?_
 refine sr ?_
 refine os 2 ?_
 refine nt ?_
 refine SW_false (fun _ => (congrArg Value.bool (show (decide ((n : Int) < 0)) = false from (by simp)))) ?_
 refine Ql (Qi ?_)
 refine sr ?_
 refine os 1 ?_
 refine L (ld ?_)
 refine os 1 ?_
 refine L (ixg (n : Int) (n * 7) hR.row Tryz.underlying25 ?_)
 refine os 1 ?_
 refine L (ld ?_ (hc := Gs.cell hR.row (fun e he => (Qc (Qt he))) (Qg RObj.len hx (j := 1) (by decide) rfl)))
 refine os 1 ?_
 refine kp [4, 10, 5, 2, 0, 1] ?_
 refine nt ?_
 refine Qj ?_
 refine Qh (.int .u64 x.proto) (fun _ => rfl) ?_
 exact ⟨(), RSt.own, rfl⟩

theorem rf_Len_none {W0 : World} {R : RSt} (hR : R.ok) {w : Int} (hw : QK w) (h0 : QB w R.objs.length = none)  : SC Tryz.prog W0 79 #[R.val, .int .u64 w] R.ent (Ret (fun _ : Unit => R.ent) (fun v _ => v = .int .i64 0)) := by
 refine Qy (fn := Tryz.f79) (n := 18) Tryz.func79 rfl (by kernel_rfl) (ρ := [(0, .agg #[Gs.val R.s R.objs.length, Gs.val R.ts R.texts.length]), (1, .int .u64 w)]) rfl ?_
 refine QH _ RSt.eq0 ?_
 refine sr ?_
 refine L (nw 28 2 [Gs.val R.s R.objs.length, Gs.val R.ts R.texts.length] ?_)
 intro b1
 refine os 1 ?_
 refine nsr ?_
 refine L (lds 2 ?_)
 refine os 1 ?_
 refine L (cl (rf_At (R := RSt.mk R.s R.objs R.ts R.texts) hw (w := w)) ?_)
 rintro v1 _ hv1
 obtain rfl : v1 = .int .i64 (-1) := hv1.trans (by simp only []; unfold atI; rw [h0])
 refine un ?_
 refine os 1 ?_
 refine kp [5, 4, 2, 0, 1] ?_
 refine nq ?_
 refine sr ?_
 refine os 1 ?_
 refine oV (.bool true) ?_
 refine nt ?_
 refine ct ?_
 refine sr ?_
 refine os 1 ?_
 refine nt ?_
 refine Qj (Qn ?_)
 refine Qh (.int .i64 0) (fun _ => rfl) ?_
 exact ⟨(), RSt.own, rfl⟩

theorem rf_Len_some {W0 : World} {R : RSt} (hR : R.ok) {w : Int} (hw : QK w) {n : Nat} {x : RObj} (h0 : QB w R.objs.length = some n) (hx : R.objs[n]? = some x)  : SC Tryz.prog W0 79 #[R.val, .int .u64 w] R.ent (Ret (fun _ : Unit => R.ent) (fun v _ => v = .int .i64 x.elems.length)) := by
 have hnl := (List.getElem?_eq_some_iff.1 hx).1
 refine Qy (fn := Tryz.f79) (n := 18) Tryz.func79 rfl (by kernel_rfl) (ρ := [(0, .agg #[Gs.val R.s R.objs.length, Gs.val R.ts R.texts.length]), (1, .int .u64 w)]) rfl ?_
 refine QH _ RSt.eq0 ?_
 refine sr ?_
 refine L (nw 28 2 [Gs.val R.s R.objs.length, Gs.val R.ts R.texts.length] ?_)
 intro b1
 refine os 1 ?_
 refine nsr ?_
 refine L (lds 2 ?_)
 refine os 1 ?_
 refine L (cl (rf_At (R := RSt.mk R.s R.objs R.ts R.texts) hw (w := w)) ?_)
 rintro v1 _ hv1
 obtain rfl : v1 = .int .i64 (n : Int) := hv1.trans (by simp only []; unfold atI; rw [h0])
 refine un ?_
 refine os 1 ?_
 refine kp [5, 4, 2, 0, 1] ?_
 refine nq ?_
 refine sr ?_
 refine os 2 ?_
 refine nt ?_
 refine SW_false (fun _ => (congrArg Value.bool (show (decide ((n : Int) < 0)) = false from (by simp)))) ?_
 refine Ql (Qi ?_)
 refine sr ?_
 refine os 1 ?_
 refine L (ld ?_)
 refine os 1 ?_
 refine L (ixg (n : Int) (n * 7) hR.row Tryz.underlying25 ?_)
 refine os 1 ?_
 refine L (ld ?_ (hc := Gs.cell hR.row (fun e he => (Qc (Qt he))) (Qg RObj.len hx (j := 5) (by decide) rfl)))
 refine os 2 ?_
 refine kp [4, 10, 5, 2, 0, 1] ?_
 refine nt ?_
 refine Qj ?_
 refine Qh (.int .i64 (x.elems.length : Int)) (fun _ => rfl) ?_
 exact ⟨(), RSt.own, rfl⟩

theorem rf_Shut_none {W0 : World} {R : RSt} (hR : R.ok) {w : Int} (hw : QK w) (h0 : QB w R.objs.length = none)  : SC Tryz.prog W0 17 #[R.val, .int .u64 w] R.ent (Ret (fun _ : Unit => R.ent) (fun v _ => v = R.val)) := by
 refine Qy (fn := Tryz.f17) (n := 23) Tryz.func17 rfl (by kernel_rfl) (ρ := [(0, .agg #[Gs.val R.s R.objs.length, Gs.val R.ts R.texts.length]), (1, .int .u64 w)]) rfl ?_
 refine QH _ RSt.eq0 ?_
 refine sr ?_
 refine L (nw 28 2 [Gs.val R.s R.objs.length, Gs.val R.ts R.texts.length] ?_)
 intro b1
 refine L (nw 28 2 [.slice none 0 0, .slice none 0 0] ?_)
 intro b2
 refine nsr ?_
 refine L (lds 2 ?_)
 refine os 1 ?_
 refine L (cl (rf_At (R := RSt.mk R.s R.objs R.ts R.texts) hw (w := w)) ?_)
 rintro v1 _ hv1
 obtain rfl : v1 = .int .i64 (-1) := hv1.trans (by simp only []; unfold atI; rw [h0])
 refine un ?_
 refine os 1 ?_
 refine kp [5, 4, 2, 0, 1] ?_
 refine nq ?_
 refine sr ?_
 refine os 1 ?_
 refine oV (.bool true) ?_
 refine nt ?_
 refine ct ?_
 refine sr ?_
 refine L (lds 2 ?_)
 refine L (st [Gs.val R.s R.objs.length, Gs.val R.ts R.texts.length] ?_)
 refine nt ?_
 refine Qj (Qn ?_)
 refine Qs [.agg #[Gs.val R.s R.objs.length, Gs.val R.ts R.texts.length]] (fun _ => (.cons ⟨b2, 0, rfl, .inl ⟨[Gs.val R.s R.objs.length, Gs.val R.ts R.texts.length], by kernel_rfl, (Qb (Cell.own Qe rfl) (Qb (Cell.own Qe rfl) Qo)), rfl⟩⟩ .nil)) ?_
 exact ⟨(), RSt.own, rfl⟩

theorem rf_Shut_some {W0 : World} {R : RSt} (hR : R.ok) {w : Int} (hw : QK w) {n : Nat} {x : RObj} (h0 : QB w R.objs.length = some n) (hx : R.objs[n]? = some x)  : SC Tryz.prog W0 17 #[R.val, .int .u64 w] R.ent (Ret (fun r : RObj => (R.put n r).ent) (fun v r => v = R.val ∧ (R.put n r).ok ∧ r.pub = ⟨x.kind, x.proto, true, x.names, x.descs, x.elems, x.inner⟩)) := by
 have hnl := (List.getElem?_eq_some_iff.1 hx).1
 refine Qy (fn := Tryz.f17) (n := 23) Tryz.func17 rfl (by kernel_rfl) (ρ := [(0, .agg #[Gs.val R.s R.objs.length, Gs.val R.ts R.texts.length]), (1, .int .u64 w)]) rfl ?_
 refine QH _ RSt.eq0 ?_
 refine QQ _ (Qr QE) ?_
 refine QQ ((Gs.ent 9 1 x.ns (x.names.map Qu)) ++ ((Gs.ent 45 3 x.ds (x.descs.flatMap Qk)) ++ ((Gs.ent 33 1 x.es (x.elems.map Qz)) ++ ((Gs.ent 33 1 x.is (x.inner.map Qz)) ++ (((List.eraseIdx R.objs n).flatMap RObj.ent) ++ ((Gs.ent 104 7 R.s (R.objs.flatMap RObj.cells)) ++ ((Gs.ent 9 1 R.ts (R.texts.map Qu)) ++ ([])))))))) (robj_focus hx _) ?_
 refine sr ?_
 refine L (nw 28 2 [Gs.val R.s R.objs.length, Gs.val R.ts R.texts.length] ?_)
 intro b1
 refine L (nw 28 2 [.slice none 0 0, .slice none 0 0] ?_)
 intro b2
 refine nsr ?_
 refine L (lds 2 ?_)
 refine os 1 ?_
 refine L (cl (rf_At (R := RSt.mk R.s R.objs R.ts R.texts) hw (w := w)) ?_)
 rintro v1 _ hv1
 obtain rfl : v1 = .int .i64 (n : Int) := hv1.trans (by simp only []; unfold atI; rw [h0])
 refine un ?_
 refine os 1 ?_
 refine kp [5, 4, 2, 0, 1] ?_
 refine nq ?_
 refine sr ?_
 refine os 2 ?_
 refine nt ?_
 refine SW_false (fun _ => (congrArg Value.bool (show (decide ((n : Int) < 0)) = false from (by simp)))) ?_
 refine Ql (Qi ?_)
 refine sr ?_
 refine os 1 ?_
 refine L (ld ?_)
 refine os 1 ?_
 refine L (ixg (n : Int) (n * 7) hR.row Tryz.underlying25 ?_)
 refine L (ldr [.int .i64 x.kind, .int .u64 x.proto, .bool x.shut, Gs.val x.ns x.names.length, Gs.val x.ds x.descs.length, Gs.val x.es x.elems.length, Gs.val x.is x.inner.length] (Qb (Gs.cell hR.row (fun e he => (Qc (Qc (Qa (Qa (Qa (Qa (Qa (Qt he))))))))) (Qg RObj.len hx (j := 0) (by decide) rfl)) (Qb (Gs.cell hR.row (fun e he => (Qc (Qc (Qa (Qa (Qa (Qa (Qa (Qt he))))))))) (Qg RObj.len hx (j := 1) (by decide) rfl)) (Qb (Gs.cell hR.row (fun e he => (Qc (Qc (Qa (Qa (Qa (Qa (Qa (Qt he))))))))) (Qg RObj.len hx (j := 2) (by decide) rfl)) (Qb (Gs.cell hR.row (fun e he => (Qc (Qc (Qa (Qa (Qa (Qa (Qa (Qt he))))))))) (Qg RObj.len hx (j := 3) (by decide) rfl)) (Qb (Gs.cell hR.row (fun e he => (Qc (Qc (Qa (Qa (Qa (Qa (Qa (Qt he))))))))) (Qg RObj.len hx (j := 4) (by decide) rfl)) (Qb (Gs.cell hR.row (fun e he => (Qc (Qc (Qa (Qa (Qa (Qa (Qa (Qt he))))))))) (Qg RObj.len hx (j := 5) (by decide) rfl)) (Qb (Gs.cell hR.row (fun e he => (Qc (Qc (Qa (Qa (Qa (Qa (Qa (Qt he))))))))) (Qg RObj.len hx (j := 6) (by decide) rfl)) Qo))))))) ?_)
 refine L (nw 104 7 [.int .i64 0, .int .u64 0, .bool false, .slice none 0 0, .slice none 0 0, .slice none 0 0, .slice none 0 0] ?_)
 intro b3
 refine L (st [.int .i64 x.kind, .int .u64 x.proto, .bool x.shut, Gs.val x.ns x.names.length, Gs.val x.ds x.descs.length, Gs.val x.es x.elems.length, Gs.val x.is x.inner.length] ?_)
 refine nsr ?_
 refine os 1 ?_
 refine kp [18, 6, 11, 5, 4, 2, 0, 1] ?_
 refine L (st [.int .i64 x.kind, .int .u64 x.proto, .bool true, Gs.val x.ns x.names.length, Gs.val x.ds x.descs.length, Gs.val x.es x.elems.length, Gs.val x.is x.inner.length] ?_)
 refine nsr ?_
 refine L (lds 2 ?_)
 refine os 1 ?_
 refine L (lds 7 ?_)
 refine L (cl (rf_with (RObj.mk x.kind x.proto true x.ns x.names x.ds x.descs x.es x.elems x.is x.inner) hR.row hx) ?_)
 rintro _ _ rfl
 refine L (st [Gs.val R.s R.objs.length, Gs.val R.ts R.texts.length] ?_)
 refine nt ?_
 refine Qj ?_
 refine Qs [.agg #[Gs.val R.s R.objs.length, Gs.val R.ts R.texts.length]] (fun _ => (.cons ⟨b2, 0, rfl, .inl ⟨[Gs.val R.s R.objs.length, Gs.val R.ts R.texts.length], by kernel_rfl, (Qb (Cell.own Qe rfl) (Qb (Cell.own Qe rfl) Qo)), rfl⟩⟩ .nil)) ?_
 refine ⟨(RObj.mk x.kind x.proto true x.ns x.names x.ds x.descs x.es x.elems x.is x.inner), ?_, rfl, hR.put hx ⟨(show Gs.ok 1 (x.names).length x.ns (x.names.map Qu) from (RSt.ok.at (x := x) hR hx).ns), (show Gs.ok 3 (x.descs).length x.ds (x.descs.flatMap Qk) from (RSt.ok.at (x := x) hR hx).ds), (show Gs.ok 1 (x.elems).length x.es (x.elems.map Qz) from (RSt.ok.at (x := x) hR hx).es), (show Gs.ok 1 (x.inner).length x.is (x.inner.map Qz) from (RSt.ok.at (x := x) hR hx).is)⟩, rfl⟩
 exact Own.trans (ow (S := ((Gs.ent 104 7 R.s ((List.set R.objs n (RObj.mk x.kind x.proto true x.ns x.names x.ds x.descs x.es x.elems x.is x.inner)).flatMap RObj.cells)) ++ ((Gs.ent 9 1 x.ns (x.names.map Qu)) ++ ((Gs.ent 45 3 x.ds (x.descs.flatMap Qk)) ++ ((Gs.ent 33 1 x.es (x.elems.map Qz)) ++ ((Gs.ent 33 1 x.is (x.inner.map Qz)) ++ (((List.eraseIdx R.objs n).flatMap RObj.ent) ++ ((Gs.ent 9 1 R.ts (R.texts.map Qu)) ++ ([])))))))))) (Own.of_perm (RSt.back hx (RObj.mk x.kind x.proto true x.ns x.names x.ds x.descs x.es x.elems x.is x.inner)))

end Go.Proofs.YthflblophelioaaGreatDoor
namespace Go.Proofs.YthflblophelioaaGreatDoor
open Go.Sl
theorem fl15_lt (f : Int) : ∃ k : Nat, k < 16 ∧ fl15 f = k := by
 unfold fl15
 have h : (BitVec.ofInt 64 f &&& BitVec.ofInt 64 15).toNat ≤ 15 := by
   rw [BitVec.toNat_and]
   exact Nat.and_le_right
 refine ⟨(BitVec.ofInt 64 f &&& BitVec.ofInt 64 15).toNat, by omega, ?_⟩
 exact IntWalk.i64_in _ (by omega)
def refF (f : Int) : Int := if fl15 f ≥ 8 then IntKind.wrap .i64 ((BitVec.ofInt 64 (fl15 f) &&& BitVec.ofInt 64 14).toNat) else fl15 f
theorem refF_norm (f : Int) : Qv f = refF f := by
 obtain ⟨k, hk, e⟩ := fl15_lt f
 unfold Qv refF
 rw [e]
 have : ∀ k : Fin 16, (if (IntKind.wrap .i64 ((BitVec.ofInt 64 ((k.val : Nat) : Int) &&& BitVec.ofInt 64 8).toNat) != 0) = true then IntKind.wrap .i64 ((BitVec.ofInt 64 ((k.val : Nat) : Int) &&& ~~~BitVec.ofInt 64 1).toNat) else ((k.val : Nat) : Int)) =
     if ((k.val : Nat) : Int) ≥ 8 then IntKind.wrap .i64 ((BitVec.ofInt 64 ((k.val : Nat) : Int) &&& BitVec.ofInt 64 14).toNat) else ((k.val : Nat) : Int) := by decide
 exact this ⟨k, hk⟩
abbrev newR (kind proto : Int) : RObj := ⟨kind, proto, false, .nil, [], .nil, [], .nil, [], .nil, []⟩
theorem newR_ent (kind proto : Int) : (newR kind proto).ent = [] := rfl
theorem newR_ok (kind proto : Int) : (newR kind proto).ok := ⟨⟨rfl, rfl⟩, ⟨rfl, rfl⟩, ⟨rfl, rfl⟩, ⟨rfl, rfl⟩⟩
theorem erase_step {α : Type} {l : List α} {i k : Nat} {e : α} (he : l[i]? = some e) (hk : k < l.length) : (l.take (i + 1)).eraseIdx k = if i = k then (l.take i).eraseIdx k else (l.take i).eraseIdx k ++ [e] := by
 have hi := (List.getElem?_eq_some_iff.1 he).1
 rw [List.take_add_one, he]
 simp only [Option.toList_some]
 have hl : (l.take i).length = i := by simp; omega
 by_cases h : i = k
 · rw [if_pos h, List.eraseIdx_append_of_length_le (by omega), hl, show k - i = 0 by omega, List.eraseIdx_of_length_le (l := l.take i) (by omega)]
   simp
 · rw [if_neg h]
   by_cases h2 : k < i
   · rw [List.eraseIdx_append_of_lt_length (by omega)]
   · rw [List.eraseIdx_of_length_le (l := l.take i ++ [e]) (by simp; omega), List.eraseIdx_of_length_le (l := l.take i) (by omega)]
theorem setLen_step {l : List Int} {i m : Nat} (hi : i < m) : (Qw l m).take (i + 1) = (Qw l m).take i ++ [if h : i < l.length then l[i] else 18445336698825998340] := by
 rw [List.take_add_one]
 congr 1
 unfold Qw
 by_cases h : i < l.length
 · rw [dif_pos h, List.getElem?_append_left (by simp; omega), List.getElem?_take_of_lt hi, List.getElem?_eq_getElem h]; rfl
 · rw [dif_neg h, List.getElem?_append_right (by simp; omega), List.getElem?_replicate, if_pos (by simp; omega)]; rfl
end Go.Proofs.YthflblophelioaaGreatDoor
