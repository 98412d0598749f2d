/-
  Objects that have one shape, in plain words: their keys, their flags, their kind and prototype. No condition.
-/
import Derived.Test.YthflblophelioaaDoorPi5
import Derived.Test.YthflblophelioaaDoorPi4
import Derived.Laws.StructEq
import Derived.Laws.Tables
import Derived.Laws.Cover2
import Derived.Test.YthflblophelioaaDoorPi1
set_option linter.unusedVariables false
set_option linter.unusedSimpArgs false
set_option maxRecDepth 100000
set_option maxHeartbeats 4000000
namespace Go.Proofs.YthflblophelioaaDoor
open Go.Sl
variable {k : Nat} {H : HeapV} {F : HeapF} {R : RSt} {t : TreeP} {x z : ObjL}
theorem Sim.len (hS : Sim k H F R) : H.objs.length = R.objs.length := by rw [← HeapV.pub_len H F, hS.objs, RSt.pub_len]
theorem Sim.at (hS : Sim k H F R) {n : Nat} {y : RObj} (hx : H.objs[n]? = some x) (hy : R.objs[n]? = some y) : y.pub = pubO (H.V.abs F.T) x := by
 have h1 := HeapV.pub_at F hx
 rw [hS.objs, RSt.pub_at hy] at h1
 exact Option.some.inj h1
theorem OInv.keys (h : OInv t x) (h0 : ¬ x.shape < 0) : ∃ s, shapeAt t x.shape = some s ∧ s.proto = rootKey x.proto x.kind ∧ s.l.map (·.2) = x.vals.map (·.2.2) ∧ keysOf t x = s.l.map (·.1) := by
 obtain ⟨s, h1, h2, h3⟩ := h.fast (by omega)
 refine ⟨s, h1, h2, h3, ?_⟩
 unfold keysOf
 rw [if_neg h0]
 unfold keysP
 rw [h1]
theorem sh_find (h : OInv t x) (h0 : ¬ x.shape < 0) {i : Nat} {key : ByteArray} {d : DescP} (hk : (keysOf t x)[i]? = some key) (hd : x.vals[i]? = some d) : findP t x.shape key = ((i : Int), d.2.2, true) := by
 obtain ⟨s, h1, h2, h3, h4⟩ := h.keys h0
 have hn := h.nodup
 rw [h4] at hk hn
 have e := ixS_at hn hk
 rw [← keyIx_eq] at e
 have hp : (s.l.map (·.2))[i]? = some d.2.2 := by rw [h3, List.getElem?_map, hd]; rfl
 rw [List.getElem?_map] at hp
 obtain ⟨p, hp1, hp2⟩ := Option.map_eq_some_iff.1 hp
 simp only [findP, h1]
 rw [if_neg (by omega), e, show ((i : Int)).toNat = i by omega, hp1]
 simp only [hp2]
theorem sh_same (h : OInv t x) (g : OInv t z) (h0 : ¬ x.shape < 0) (e : x.shape = z.shape) : keysOf t x = keysOf t z ∧ x.vals.map (·.2.2) = z.vals.map (·.2.2) ∧ rootKey x.proto x.kind = rootKey z.proto z.kind := by
 obtain ⟨s, h1, h2, h3, h4⟩ := h.keys h0
 obtain ⟨s', g1, g2, g3, g4⟩ := g.keys (by omega)
 rw [e, g1] at h1
 obtain rfl := Option.some.inj h1
 exact ⟨h4.trans g4.symm, h3.symm.trans g3, h2.symm.trans g2⟩
theorem rootKey_eq {p k : Int} (hp : 16140901064495857664 ≤ p ∧ p < 18446744073709551616) (hk : 0 ≤ k ∧ k ≤ 6) : rootKey p k = (p - 16140901064495857664) * 8 + k := by
 obtain ⟨a, ha⟩ := Int.eq_ofNat_of_zero_le (show 0 ≤ p - 16140901064495857664 by omega)
 obtain ⟨b, rfl⟩ := Int.eq_ofNat_of_zero_le hk.1
 obtain rfl : p = (a : Int) + 16140901064495857664 := by omega
 unfold rootKey
 have h1 : (BitVec.ofInt 64 (IntKind.wrap .u64 (((a : Int) + 16140901064495857664) * 8))).toNat = 2 ^ 3 * a := by
   rw [BitVec.toNat_ofInt]; simp only [IntKind.wrap, IntKind.bits, IntKind.signed]; simp; omega
 have h2 : (BitVec.ofInt 64 (IntKind.wrap .u64 (b : Int))).toNat = b := by
   rw [BitVec.toNat_ofInt]; simp only [IntKind.wrap, IntKind.bits, IntKind.signed]; simp; omega
 rw [BitVec.toNat_or, h1, h2, ← Nat.two_pow_add_eq_or_of_lt (by omega)]
 simp only [IntKind.wrap, IntKind.bits, IntKind.signed]
 simp
 omega
theorem proto_big {l : List ObjS} (hP : ProtosIn l) {o : ObjS} (ho : o ∈ l) (hl : l.length ≤ 65536) : 16140901064495857664 ≤ o.proto ∧ o.proto < 18446744073709551616 := by
 rcases hP o ho with h | h
 · rw [h]; decide
 · cases hn : objAt o.proto l.length with
   | none => exact absurd hn h
   | some n =>
     have h1 := (objAt_tag hn).1
     unfold tagOf at h1
     split at h1
     · omega
     · cases h1
theorem Sim.same (hS : Sim k H F R) {n m : Nat} {y u : RObj} (hx : H.objs[n]? = some x) (hz : H.objs[m]? = some z) (hy : R.objs[n]? = some y) (hu : R.objs[m]? = some u) (h0 : ¬ x.shape < 0) (e : x.shape = z.shape) :
   y.kind = u.kind ∧ y.proto = u.proto ∧ y.names = u.names ∧ y.descs.map (·.2.2) = u.descs.map (·.2.2) := by
 have e1 := hS.at hx hy
 have e2 := hS.at hz hu
 obtain ⟨h1, h2, h3⟩ := sh_same (hS.inv.obj hx) (hS.inv.obj hz) h0 e
 have m1 := List.mem_of_getElem? (RSt.pub_at hy)
 have m2 := List.mem_of_getElem? (RSt.pub_at hu)
 have hl := hS.lok.len
 have k1 := hS.doc.kinds _ m1
 have k2 := hS.doc.kinds _ m2
 have p1 := proto_big hS.doc.protos m1 hl
 have p2 := proto_big hS.doc.protos m2 hl
 rw [e1] at k1 p1
 rw [e2] at k2 p2
 simp only [pubO] at k1 k2 p1 p2
 rw [rootKey_eq p1 k1, rootKey_eq p2 k2] at h3
 have q1 : y.kind = x.kind := congrArg ObjS.kind e1
 have q2 : u.kind = z.kind := congrArg ObjS.kind e2
 have r1 : y.proto = x.proto := congrArg ObjS.proto e1
 have r2 : u.proto = z.proto := congrArg ObjS.proto e2
 have n1 : y.names = keysOf (H.V.abs F.T) x := congrArg ObjS.names e1
 have n2 : u.names = keysOf (H.V.abs F.T) z := congrArg ObjS.names e2
 have d1 : y.descs = x.vals := congrArg ObjS.descs e1
 have d2 : u.descs = z.vals := congrArg ObjS.descs e2
 exact ⟨by rw [q1, q2]; omega, by rw [r1, r2]; omega, by rw [n1, n2, h1], by rw [d1, d2, h2]⟩
theorem Sim.find (hS : Sim k H F R) {n i : Nat} {y : RObj} {key : ByteArray} {d : DescP} (hx : H.objs[n]? = some x) (hy : R.objs[n]? = some y) (h0 : ¬ x.shape < 0) (hk : y.names[i]? = some key) (hd : y.descs[i]? = some d) :
   findP (H.V.abs F.T) x.shape key = ((i : Int), d.2.2, true) := by
 have e1 := hS.at hx hy
 rw [show y.names = keysOf (H.V.abs F.T) x from congrArg ObjS.names e1] at hk
 rw [show y.descs = x.vals from congrArg ObjS.descs e1] at hd
 exact sh_find (hS.inv.obj hx) h0 hk hd
end Go.Proofs.YthflblophelioaaDoor
namespace Go.Proofs.YthflblophelioaaDoor
open Go.Sl

end Go.Proofs.YthflblophelioaaDoor
namespace Go.Proofs.YthflblophelioaaDoor
open Go.Sl
variable {k : Nat} {H : HeapV} {F : HeapF} {R : RSt} {x : ObjL}
theorem eqDesc (a b c a' b' c' : Int) (w : World) : (Op.equalIn 10000 41 (.agg #[.int .u64 a, .int .u64 b, .int .i64 c]) (.agg #[.int .u64 a', .int .u64 b', .int .i64 c'])).run Tryd.prog w = .ok (a == a' && (b == b' && c == c')) w := by
 have u1 := Tryd.underlying34
 have a1 := Tryd.isAgg34
 have z1 := Tryd.sizeOf34
 have u2 := Tryd.underlying3
 have a2 := Tryd.isAgg3
 have z2 := Tryd.sizeOf3
 rw [show (10000 : Nat) = 9999 + 1 from rfl, run_equalIn_agg w 9999 41 _ _ (by kernel_rfl) (by kernel_rfl)]
 simp only [Program.fieldsOf, Tryd.underlying41]
 go_simp
 by_cases h1 : a = a' <;> by_cases h2 : b = b' <;> by_cases h3 : c = c' <;> simp [h1, h2, h3]
theorem neqD {ρ : Fr} {x y : Operand} {dst : Option Tmp} {t2 ty : TypeId} {pos : String} {after : Array Edge} {gd : Option (Nat × Bool)} {a b c a' b' c' : Int} (hx : ∀ δ, ev δ ρ x = .agg #[.int .u64 a, .int .u64 b, .int .i64 c] := by exact fun _ => rfl) (hy : ∀ δ, ev δ ρ y = .agg #[.int .u64 a', .int .u64 b', .int .i64 c'] := by exact fun _ => rfl) :
   ∀ δ w, (execOp (ev δ ρ) ⟨dst, .binOp .neq 41 x y t2, ty, pos, after, gd⟩).run Tryd.prog w = .ok (.value (.bool (!(a == a' && (b == b' && c == c'))))) w := by
 intro δ w
 simp only [execOp, hx, hy]
 rw [Sem.run_bind, Sem.run_bind, run_eqGuard_agg _ _ _ _ _ _ _ (by kernel_rfl), Result.andThen_ok, run_neq_struct, eqDesc]
 rfl
theorem eqlD {ρ : Fr} {x y : Operand} {dst : Option Tmp} {t2 ty : TypeId} {pos : String} {after : Array Edge} {gd : Option (Nat × Bool)} {a b c a' b' c' : Int} (hx : ∀ δ, ev δ ρ x = .agg #[.int .u64 a, .int .u64 b, .int .i64 c] := by exact fun _ => rfl) (hy : ∀ δ, ev δ ρ y = .agg #[.int .u64 a', .int .u64 b', .int .i64 c'] := by exact fun _ => rfl) :
   ∀ δ w, (execOp (ev δ ρ) ⟨dst, .binOp .eql 41 x y t2, ty, pos, after, gd⟩).run Tryd.prog w = .ok (.value (.bool (a == a' && (b == b' && c == c')))) w := by
 intro δ w
 simp only [execOp, hx, hy]
 rw [Sem.run_bind, Sem.run_bind, run_eqGuard_agg _ _ _ _ _ _ _ (by kernel_rfl), Result.andThen_ok, run_eql_struct, eqDesc]
 rfl
theorem Sim.pubAt (hS : Sim k H F R) {n : Nat} {y : RObj} (hy : R.objs[n]? = some y) : (H.pub F)[n]? = some y.pub := by rw [hS.objs]; exact RSt.pub_at hy
theorem Sim.get (hS : Sim k H F R) {n i : Nat} {y : RObj} {key : ByteArray} {d : DescP} (hy : R.objs[n]? = some y) (hk : y.names[i]? = some key) (hd : y.descs[i]? = some d) : getP y.pub.names y.pub.descs key = some d := by
 have hn : y.names.Nodup := hS.inv.nodup (List.mem_of_getElem? (hS.pubAt hy))
 have e := ixS_at hn hk
 show getP y.names y.descs key = some d
 unfold getP
 rw [if_neg (by omega), e]
 exact hd
end Go.Proofs.YthflblophelioaaDoor
namespace Go.Proofs.YthflblophelioaaDoor
open Go.Sl
def band (a b : Int) : Int := IntKind.wrap .i64 ((BitVec.ofInt 64 a &&& BitVec.ofInt 64 b).toNat)
def bor (a b : Int) : Int := IntKind.wrap .i64 ((BitVec.ofInt 64 a ||| BitVec.ofInt 64 b).toNat)
def bandn (a b : Int) : Int := IntKind.wrap .i64 ((BitVec.ofInt 64 a &&& ~~~BitVec.ofInt 64 b).toNat)
abbrev undefW : Int := 18445336698825998336
structure WishP where
  has : Int
  value : Int
  get : Int
  set : Int
  flags : Int
def flagW (w : WishP) (hb fb f : Int) : Int := if (band w.has hb != 0) = true then bor (bandn f fb) (band w.flags fb) else f
def flagsW (w : WishP) (f : Int) : Int := flagW w 8 4 (flagW w 4 2 (flagW w 2 1 f))
def accW (w : WishP) : Bool := band w.has 48 != 0
def datW (w : WishP) : Bool := band w.has 3 != 0
def wish1 (d : DescP) (w : WishP) : DescP := if accW w = true ∧ (band d.2.2 8 == 0) = true then (undefW, undefW, bor (bandn d.2.2 1) 8) else d
def wish2 (d : DescP) (w : WishP) : DescP := if datW w = true ∧ (band d.2.2 8 != 0) = true then (undefW, undefW, bandn d.2.2 8) else d
def wish3 (d : DescP) (w : WishP) : DescP := (d.1, d.2.1, flagsW w d.2.2)
def wish4 (d : DescP) (w : WishP) : DescP := if (band w.has 1 != 0) = true then (w.value, d.2.1, d.2.2) else d
def wish5 (d : DescP) (w : WishP) : DescP := if (band w.has 16 != 0) = true then (w.get, d.2.1, d.2.2) else d
def wish6 (d : DescP) (w : WishP) : DescP := if (band w.has 32 != 0) = true then (d.1, w.set, d.2.2) else d
def wishP (d : DescP) (w : WishP) : DescP := wish6 (wish5 (wish4 (wish3 (wish2 (wish1 d w) w) w) w) w) w
def bothP (w : WishP) : Bool := accW w && datW w
def mayW (old d : DescP) : Bool :=
 if (band old.2.2 4 != 0) = true ∨ old = d then true
 else if (bandn old.2.2 1 != bandn d.2.2 1) = true ∨ (band old.2.2 8 != 0) = true then false
 else (band old.2.2 1 != 0) && (bor d.2.2 1 == old.2.2)
end Go.Proofs.YthflblophelioaaDoor
namespace Go.Proofs.YthflblophelioaaDoor
open Go.Sl
theorem ite_ff {α : Type} {a : Bool} {x y : α} (h : a = false) : (if a = true then x else y) = y := by rw [h]; rfl
theorem ite_f1 {α : Type} {a b : Bool} {x y : α} (h : a = false) : (if a = true ∧ b = true then x else y) = y := by rw [h]; simp
theorem ite_f2 {α : Type} {a b : Bool} {x y : α} (h : b = false) : (if a = true ∧ b = true then x else y) = y := by rw [h]; simp
abbrev lenK : ByteArray := ByteArray.mk #[108, 101, 110, 103, 116, 104]
abbrev intW (n : Int) : Int := 18444773748872577024 + n
def objOf (l : List ObjS) (w : Int) : Option ObjS := match objAt w l.length with | none => none | some n => l[n]?
variable {l : List ObjS} {w : Int} {n : Nat} {o : ObjS} {key : ByteArray}
theorem objOf_none (h : objAt w l.length = none) : objOf l w = none := by unfold objOf; rw [h]
theorem objOf_some (h : objAt w l.length = some n) (ho : l[n]? = some o) : objOf l w = some o := by unfold objOf; rw [h]; exact ho
theorem objOf_cases (l : List ObjS) (w : Int) : (objAt w l.length = none ∧ objOf l w = none) ∨ ∃ n o, objAt w l.length = some n ∧ l[n]? = some o ∧ objOf l w = some o := by
 cases h : objAt w l.length with
 | none => exact .inl ⟨rfl, objOf_none h⟩
 | some n => obtain ⟨o, ho⟩ := obj_of h; exact .inr ⟨n, o, rfl, ho, objOf_some h ho⟩
theorem objOf_mem (h : objOf l w = some o) : o ∈ l := by
 rcases objOf_cases l w with ⟨_, q⟩ | ⟨n, o', _, q, r⟩
 · rw [q] at h; cases h
 · rw [r] at h; cases h; exact List.mem_of_getElem? q
def kindQ (l : List ObjS) (w : Int) : Int × Bool := match objOf l w with | none => (0, false) | some o => (o.kind, true)
def openQ (l : List ObjS) (w : Int) : Bool := match objOf l w with | none => false | some o => !o.shut
def lenN (l : List ObjS) (w : Int) : Nat := match objOf l w with | none => 0 | some o => o.elems.length
def elemQ (l : List ObjS) (w m : Int) : Int × Bool := match objOf l w with | none => (undefW, false) | some o => elemO o.elems m
def getQ (l : List ObjS) (w : Int) (key : ByteArray) : Option DescP := match objOf l w with | none => none | some o => getP o.names o.descs key
abbrev descG (q : Option DescP) : DescP := q.getD (0, 0, 0)
theorem descR_eq (q : Option DescP) : descR q = .tuple #[descV (descG q), .bool q.isSome] := by cases q <;> rfl
def arrP (l : List ObjS) (w : Int) : Bool := match objOf l w with | none => false | some o => o.kind == 1
def idxK (key : ByteArray) : Option Nat := idxL key.data.toList
def ownO (o : ObjS) (key : ByteArray) : Option DescP :=
 if o.kind = 1 then
   (if key = lenK then some (intW o.elems.length, undefW, 1) else match idxK key with
     | some m => if (elemO o.elems m).2 = true then some ((elemO o.elems m).1, undefW, 7) else none
     | none => getP o.names o.descs key)
 else getP o.names o.descs key
def ownQ (l : List ObjS) (w : Int) (key : ByteArray) : Option DescP := match objOf l w with | none => none | some o => ownO o key
theorem ownQ_len (ha : arrP l w = true) (hk : key = lenK) : ownQ l w key = some (intW (lenN l w), undefW, 1) := by
 unfold arrP at ha; unfold ownQ lenN
 cases h : objOf l w with
 | none => rw [h] at ha; cases ha
 | some o => rw [h] at ha; simp only [] at ha ⊢; unfold ownO; rw [if_pos (by simpa using ha), if_pos hk]
theorem ownQ_elem (ha : arrP l w = true) (hk : key ≠ lenK) {m : Nat} (hm : idxK key = some m) : ownQ l w key = if (elemQ l w m).2 = true then some ((elemQ l w m).1, undefW, 7) else none := by
 unfold arrP at ha; unfold ownQ elemQ
 cases h : objOf l w with
 | none => rw [h] at ha; cases ha
 | some o => rw [h] at ha; simp only [] at ha ⊢; unfold ownO; rw [if_pos (by simpa using ha), if_neg hk, hm]
theorem ownQ_get (ha : arrP l w = true) (hk : key ≠ lenK) (hm : idxK key = none) : ownQ l w key = getQ l w key := by
 unfold arrP at ha; unfold ownQ getQ
 cases h : objOf l w with
 | none => rfl
 | some o => rw [h] at ha; simp only [] at ha ⊢; unfold ownO; rw [if_pos (by simpa using ha), if_neg hk, hm]
theorem ownQ_plain (ha : arrP l w = false) : ownQ l w key = getQ l w key := by
 unfold arrP at ha; unfold ownQ getQ
 cases h : objOf l w with
 | none => rfl
 | some o => rw [h] at ha; simp only [] at ha ⊢; unfold ownO; rw [if_neg (by simpa using ha)]
theorem ownQ_none (h : objAt w l.length = none) : ownQ l w key = none := by unfold ownQ; rw [objOf_none h]
def idxV (key : ByteArray) : Int × Bool := match idxK key with | some n => (n, true) | none => (0, false)
theorem idxV_none {key : ByteArray} (h : idxK key = none) : idxV key = (0, false) := by unfold idxV; rw [h]
theorem idxV_some {key : ByteArray} {n : Nat} (h : idxK key = some n) : idxV key = ((n : Int), true) := by unfold idxV; rw [h]
theorem dig_small {n : Nat} (h : n < 10) : strOfNums [48 + (n : Int)] = (⟨(Lib.decDigits n).toArray⟩ : ByteArray) := by
 rw [dec_small h]
 unfold strOfNums
 rw [show (48 + (n : Int)) = ((48 + n : Nat) : Int) by omega]
 rfl
theorem bytes_app (a b : List UInt8) : (⟨a.toArray⟩ : ByteArray) ++ (⟨b.toArray⟩ : ByteArray) = ⟨(a ++ b).toArray⟩ := by
 apply ByteArray.ext
 rw [ByteArray.data_append]
 simp
theorem dig_big {n : Nat} (h : ¬ n < 10) : (⟨(Lib.decDigits (n / 10)).toArray⟩ : ByteArray) ++ strOfNums [48 + (n : Int) % 10] = (⟨(Lib.decDigits n).toArray⟩ : ByteArray) := by
 rw [dec_big h, ← bytes_app]
 unfold strOfNums
 rw [show (48 + (n : Int) % 10) = ((48 + n % 10 : Nat) : Int) by omega]
 rfl
theorem dig_cat {n : Nat} (h : n < 10000) (c : Int) : (⟨(Lib.decDigits (n / 10)).toArray⟩ : ByteArray).size + (strOfNums [c]).size ≤ 9223372036854775807 := by
 have h1 := dec_len 3 (n / 10) (by omega)
 have h2 : (⟨(Lib.decDigits (n / 10)).toArray⟩ : ByteArray).size = (Lib.decDigits (n / 10)).length := by simp [ByteArray.size]
 have h3 : (strOfNums [c]).size = 1 := rfl
 omega
theorem digL_app : ∀ (l m : List UInt8) (a : Nat), digL a (l ++ m) = (digL a l).bind fun k => digL k m
 | [], _, _ => rfl
 | c :: r, m, a => by
   show (if 48 ≤ c.toNat ∧ c.toNat ≤ 57 then digL (a * 10 + (c.toNat - 48)) (r ++ m) else none) = (if 48 ≤ c.toNat ∧ c.toNat ≤ 57 then digL (a * 10 + (c.toNat - 48)) r else none).bind _
   split
   · exact digL_app r m _
   · rfl
theorem digL_none {l : List UInt8} {i : Nat} (h : digL 0 (l.take i) = none) : digL 0 l = none := by
 have e := digL_app (l.take i) (l.drop i) 0
 rw [List.take_append_drop, h] at e
 exact e
theorem digL_next {l : List UInt8} {i n : Nat} {c : UInt8} (h : digL 0 (l.take i) = some n) (hc : l[i]? = some c) : digL 0 (l.take (i + 1)) = if 48 ≤ c.toNat ∧ c.toNat ≤ 57 then some (n * 10 + (c.toNat - 48)) else none := by
 rw [List.take_add_one, hc, digL_app, h]
 show digL n [c] = _
 unfold digL
 split <;> rfl
theorem byteN_some {s : ByteArray} {i : Nat} (h : i < s.size) : ∃ c, s.data.toList[i]? = some c ∧ byteN s (i : Int) = (c.toNat : Int) := by
 have hl : i < s.data.toList.length := by simpa using h
 exact ⟨_, List.getElem?_eq_getElem hl, byteN_at (List.getElem?_eq_getElem hl)⟩
theorem idxV_long {s : ByteArray} (h : s.size = 0 ∨ 4 < s.size) : idxV s = (0, false) := by
 refine idxV_none ?_
 have e : s.data.toList.length = s.size := by simp
 unfold idxK idxL
 rw [if_pos]
 rcases h with q | q
 · left; exact List.eq_nil_of_length_eq_zero (by omega)
 · right; left; omega
theorem idxV_zero {s : ByteArray} (h : byteN s 0 = 48) (h1 : 1 < s.size) : idxV s = (0, false) := by
 refine idxV_none ?_
 obtain ⟨c, hc, hb⟩ := byteN_some (s := s) (i := 0) (by omega)
 have e : s.data.toList.length = s.size := by simp
 unfold idxK idxL
 rw [if_pos]
 right; right
 refine ⟨?_, by omega⟩
 rw [List.head?_eq_getElem?, hc]
 have e2 : byteN s 0 = (c.toNat : Int) := hb
 show some c.toNat = some 48
 rw [show c.toNat = 48 by omega]
theorem idxV_fail {s : ByteArray} {i n : Nat} (hi : i < s.size) (h : digL 0 (s.data.toList.take i) = some n) (hb : ¬ (48 ≤ byteN s (i : Int) ∧ byteN s (i : Int) ≤ 57)) : idxV s = (0, false) := by
 refine idxV_none ?_
 obtain ⟨c, hc, hb2⟩ := byteN_some hi
 have e := digL_next h hc
 rw [if_neg (by omega)] at e
 unfold idxK idxL
 split
 · rfl
 · rw [digL_none e]
theorem idxV_next {s : ByteArray} {i n : Nat} (hi : i < s.size) (h : digL 0 (s.data.toList.take i) = some n) (hb : 48 ≤ byteN s (i : Int) ∧ byteN s (i : Int) ≤ 57) : digL 0 (s.data.toList.take (i + 1)) = some (n * 10 + (byteN s (i : Int) - 48).toNat) := by
 obtain ⟨c, hc, hb2⟩ := byteN_some hi
 rw [digL_next h hc, if_pos (by omega), show (byteN s (i : Int) - 48).toNat = c.toNat - 48 by omega]
theorem idxV_end {s : ByteArray} {n : Nat} (h0 : s.size ≠ 0) (h4 : s.size ≤ 4) (hz : byteN s 0 ≠ 48 ∨ s.size ≤ 1) (h : digL 0 (s.data.toList.take s.size) = some n) : idxV s = if n < 4096 then ((n : Int), true) else (0, false) := by
 have e : s.data.toList.length = s.size := by simp
 rw [← e, List.take_length] at h
 have ei : idxK s = if n < 4096 then some n else none := by
   unfold idxK idxL
   rw [if_neg, h]
   rintro (q | q | ⟨q, r⟩)
   · rw [q] at e; exact h0 e.symm
   · omega
   · obtain ⟨c, hc, hb⟩ := byteN_some (s := s) (i := 0) (by omega)
     rw [List.head?_eq_getElem?, hc] at q
     have q2 : c.toNat = 48 := Option.some.inj q
     rcases hz with z | z
     · exact z (by have e2 : byteN s 0 = (c.toNat : Int) := hb; omega)
     · omega
 by_cases hn : n < 4096
 · rw [if_pos hn] at ei ⊢; exact idxV_some ei
 · rw [if_neg hn] at ei ⊢; exact idxV_none ei
def lookP (l : List ObjS) (key : ByteArray) : Nat → Int → Option (Int × DescP)
 | 0, _ => none
 | k + 1, w => match ownQ l w key with | some d => some (w, d) | none => lookP l key k (protoW l w)
def lookQ (l : List ObjS) (w : Int) (key : ByteArray) : Option (Int × DescP) := lookP l key l.length w
theorem lookP_null (key : ByteArray) : ∀ k, lookP l key k nullW = none
 | 0 => rfl
 | k + 1 => by
   show (match ownQ l nullW key with | some d => some (nullW, d) | none => lookP l key k (protoW l nullW)) = none
   rw [ownQ_none (objAt_null _), protoW_none (objAt_null _)]; exact lookP_null key k
theorem lookP_none (h : objAt w l.length = none) (key : ByteArray) : ∀ k, lookP l key k w = none
 | 0 => rfl
 | k + 1 => by
   show (match ownQ l w key with | some d => some (w, d) | none => lookP l key k (protoW l w)) = none
   rw [ownQ_none h, protoW_none h]; exact lookP_null key k
theorem lookP_step {d : Nat} (h : ownQ l w key = none) : lookP l key (d + 1) w = lookP l key d (protoW l w) := by
 show (match ownQ l w key with | some d => some (w, d) | none => lookP l key d (protoW l w)) = _
 rw [h]
theorem lookP_hit {d : Nat} {x : DescP} (h : ownQ l w key = some x) : lookP l key (d + 1) w = some (w, x) := by
 show (match ownQ l w key with | some d => some (w, d) | none => lookP l key d (protoW l w)) = _
 rw [h]
theorem lookP_up (l : List ObjS) (key : ByteArray) (w : Int) : ∀ (i j : Nat), (∀ k, k < i → ownQ l (upN l w k) key = none) → lookP l key (i + j) w = lookP l key j (upN l w i)
 | 0, j, _ => by rw [Nat.zero_add]; rfl
 | i + 1, j, h => by
   rw [show i + 1 + j = i + (j + 1) by omega, lookP_up l key w i (j + 1) fun k hk => h k (by omega), lookP_step (h i (by omega))]
   rfl
theorem look_hit {d : DescP} {i : Nat} (hi : i < l.length) (hn : ∀ j, j < i → ownQ l (upN l w j) key = none) (hd : ownQ l (upN l w i) key = some d) : lookQ l w key = some (upN l w i, d) := by
 unfold lookQ
 rw [show l.length = i + (l.length - i - 1 + 1) by omega, lookP_up l key w i _ hn, lookP_hit hd]
theorem look_out {i : Nat} (hi : i ≤ l.length) (hn : ∀ j, j < i → ownQ l (upN l w j) key = none) (hq : i = l.length ∨ objAt (upN l w i) l.length = none) : lookQ l w key = none := by
 unfold lookQ
 rw [show l.length = i + (l.length - i) by omega, lookP_up l key w i _ hn]
 rcases hq with q | q
 · rw [q, Nat.sub_self]; rfl
 · exact lookP_none q key _
theorem some_of {q : Option DescP} (h : q.isSome = true) : q = some (descG q) := by cases q <;> first | rfl | cases h
theorem none_of {α : Type} {q : Option α} (h : q.isSome = false) : q = none := by cases q <;> first | rfl | cases h
abbrev lookV (q : Option (Int × DescP)) : Int × DescP := q.getD (undefW, (0, 0, 0))
def zeroD : DescP := (undefW, undefW, 0)
def isI (w : Int) : Option Int := (tagOf w 65529).map fun n => IntKind.wrap .i32 (n : Int)
def lenGo (l : List ObjS) (w v : Int) : List ObjS × Bool := match isI v with | some m => (modP l w (lenO m), lenQ l w m) | none => (l, false)
def defD (l : List ObjS) (w : Int) (key : ByteArray) (x : WishP) : DescP := wishP ((ownQ l w key).getD zeroD) x
def defNo (l : List ObjS) (w : Int) (key : ByteArray) (x : WishP) : Prop :=
 (kindQ l w).2 = false ∨ bothP x = true ∨ ((ownQ l w key).isSome = false ∧ openQ l w = false) ∨ ((ownQ l w key).isSome = true ∧ mayW ((ownQ l w key).getD zeroD) (defD l w key x) = false)
instance (l : List ObjS) (w : Int) (key : ByteArray) (x : WishP) : Decidable (defNo l w key x) := by unfold defNo; infer_instance
def defGo (l : List ObjS) (w : Int) (key : ByteArray) (d : DescP) : List ObjS × Bool :=
 if arrP l w = true ∧ key = lenK then (if d.2.2 = 1 then lenGo l w d.1 else (l, false))
 else if arrP l w = true ∧ (idxV key).2 = true then (if d.2.2 = 7 then (modP l w (setO (idxV key).1 d.1), setQ l w (idxV key).1) else (l, false))
 else (modP l w (putO key d), true)
def defP (l : List ObjS) (w : Int) (key : ByteArray) (x : WishP) : List ObjS × Bool := if defNo l w key x then (l, false) else defGo l w key (defD l w key x)
theorem defP_no {x : WishP} (h : defNo l w key x) : defP l w key x = (l, false) := if_pos h
theorem defP_go {x : WishP} (h : ¬ defNo l w key x) : defP l w key x = defGo l w key (defD l w key x) := if_neg h
theorem defGo_len {d : DescP} (ha : arrP l w = true) (hk : key = lenK) (hf : (d.2.2 == 1) = true) : defGo l w key d = lenGo l w d.1 := by unfold defGo; rw [if_pos ⟨ha, hk⟩, if_pos (by simpa using hf)]
theorem defGo_len' {d : DescP} (ha : arrP l w = true) (hk : key = lenK) (hf : (d.2.2 == 1) = false) : defGo l w key d = (l, false) := by unfold defGo; rw [if_pos ⟨ha, hk⟩, if_neg (by simpa using hf)]
theorem defGo_ix {d : DescP} (ha : arrP l w = true) (hk : ¬ key = lenK) (hi : (idxV key).2 = true) (hf : (d.2.2 == 7) = true) : defGo l w key d = (modP l w (setO (idxV key).1 d.1), setQ l w (idxV key).1) := by
 unfold defGo; rw [if_neg (fun z => hk z.2), if_pos ⟨ha, hi⟩, if_pos (by simpa using hf)]
theorem defGo_ix' {d : DescP} (ha : arrP l w = true) (hk : ¬ key = lenK) (hi : (idxV key).2 = true) (hf : (d.2.2 == 7) = false) : defGo l w key d = (l, false) := by
 unfold defGo; rw [if_neg (fun z => hk z.2), if_pos ⟨ha, hi⟩, if_neg (by simpa using hf)]
theorem defGo_put {d : DescP} (ha : arrP l w = true) (hk : ¬ key = lenK) (hi : (idxV key).2 = false) : defGo l w key d = (modP l w (putO key d), true) := by
 unfold defGo; rw [if_neg (fun z => hk z.2), if_neg (fun z => by rw [hi] at z; cases z.2)]
theorem defGo_plain {d : DescP} (ha : arrP l w = false) : defGo l w key d = (modP l w (putO key d), true) := by
 unfold defGo; rw [if_neg (fun z => by rw [ha] at z; cases z.1), if_neg (fun z => by rw [ha] at z; cases z.1)]
theorem getD_some {q : Option DescP} (h : q.isSome = true) : q.getD zeroD = descG q := by cases q <;> first | rfl | cases h
theorem getD_none {q : Option DescP} (h : q.isSome = false) : q.getD zeroD = zeroD := by cases q <;> first | rfl | cases h
theorem put_same {d : DescP} (hf : ∀ o ∈ l, ∀ d ∈ o.descs, normF d.2.2 = d.2.2) (h : getQ l w key = some d) : modP l w (putO key d) = l := by
 unfold getQ at h
 rcases objOf_cases l w with ⟨_, q⟩ | ⟨n, o, h0, ho, q⟩
 · rw [q] at h; cases h
 · rw [q] at h; simp only [] at h
   rw [modP_some h0 ho]
   unfold getP at h
   split at h
   · cases h
   · next hn =>
     have e1 : putNm o.names key = o.names := if_neg hn
     have e2 : normD d = d := by unfold normD; rw [hf o (List.mem_of_getElem? ho) d (List.mem_of_getElem? h)]
     have e3 : putDs o.names o.descs key (normD d) = o.descs := by unfold putDs; rw [if_neg hn, e2]; exact set_same h
     have e4 : putO key d o = o := by show (⟨_, _, _, putNm o.names key, putDs o.names o.descs key (normD d), _, _⟩ : ObjS) = o; rw [e1, e3]
     rw [e4]; exact set_same ho
def asgW (l : List ObjS) (w : Int) (key : ByteArray) (v : Int) : WishP := if (lookQ l w key).isSome = false ∨ (lookV (lookQ l w key)).1 ≠ w then ⟨15, v, 0, 0, 7⟩ else ⟨1, v, 0, 0, 0⟩
def asgP (l : List ObjS) (w : Int) (key : ByteArray) (v : Int) : List ObjS × Int × Int :=
 if (lookQ l w key).isSome = true ∧ (band (lookV (lookQ l w key)).2.2.2 8 != 0) = true then
   (if (lookV (lookQ l w key)).2.2.1 = undefW then (l, undefW, 1) else (l, (lookV (lookQ l w key)).2.2.1, 2))
 else if (lookQ l w key).isSome = true ∧ (band (lookV (lookQ l w key)).2.2.2 1 == 0) = true then (l, undefW, 1)
 else ((defP l w key (asgW l w key v)).1, undefW, if (defP l w key (asgW l w key v)).2 = true then 0 else 1)
theorem asgP_ref {v : Int} (h1 : (lookQ l w key).isSome = true) (h2 : (band (lookV (lookQ l w key)).2.2.2 8 != 0) = true) (h3 : ((lookV (lookQ l w key)).2.2.1 == undefW) = true) : asgP l w key v = (l, undefW, 1) := by
 unfold asgP; rw [if_pos ⟨h1, h2⟩, if_pos (by simpa using h3)]
theorem asgP_call {v : Int} (h1 : (lookQ l w key).isSome = true) (h2 : (band (lookV (lookQ l w key)).2.2.2 8 != 0) = true) (h3 : ((lookV (lookQ l w key)).2.2.1 == undefW) = false) : asgP l w key v = (l, (lookV (lookQ l w key)).2.2.1, 2) := by
 unfold asgP; rw [if_pos ⟨h1, h2⟩, if_neg (by simpa using h3)]
theorem asgP_ro {v : Int} (h1 : (lookQ l w key).isSome = true) (h2 : (band (lookV (lookQ l w key)).2.2.2 8 != 0) = false) (h3 : (band (lookV (lookQ l w key)).2.2.2 1 == 0) = true) : asgP l w key v = (l, undefW, 1) := by
 unfold asgP; rw [if_neg (by rw [h2]; simp), if_pos ⟨h1, h3⟩]
theorem asgP_def {v : Int} (h2 : (lookQ l w key).isSome = false ∨ ((band (lookV (lookQ l w key)).2.2.2 8 != 0) = false ∧ (band (lookV (lookQ l w key)).2.2.2 1 == 0) = false)) :
   asgP l w key v = ((defP l w key (asgW l w key v)).1, undefW, if (defP l w key (asgW l w key v)).2 = true then 0 else 1) := by
 unfold asgP
 rw [if_neg, if_neg]
 · rintro ⟨a, b⟩
   rcases h2 with q | ⟨_, q⟩
   · rw [q] at a; cases a
   · rw [q] at b; cases b
 · rintro ⟨a, b⟩
   rcases h2 with q | ⟨q, _⟩
   · rw [q] at a; cases a
   · rw [q] at b; cases b
theorem asgW_new {v : Int} (h : (lookQ l w key).isSome = false ∨ ((lookV (lookQ l w key)).1 != w) = true) : asgW l w key v = ⟨15, v, 0, 0, 7⟩ := by
 unfold asgW; rw [if_pos (h.imp id fun q => by simpa using q)]
theorem asgW_own {v : Int} (h : (lookQ l w key).isSome = true) (h2 : ((lookV (lookQ l w key)).1 != w) = false) : asgW l w key v = ⟨1, v, 0, 0, 0⟩ := by
 unfold asgW; rw [if_neg]
 rintro (q | q)
 · rw [h] at q; cases q
 · exact q (by simpa using h2)
abbrev byteS (l : List UInt8) : ByteArray := ⟨l.toArray⟩
end Go.Proofs.YthflblophelioaaDoor
namespace Go.Proofs.YthflblophelioaaDoor
open Go.Sl
variable {W0 : World} {k : Nat} {H : HeapV} {F : HeapF} {R : RSt}
theorem hz_Kind (h : HInv k H F) (w : Int) : SC Tryd.prog W0 36 #[.pointer (some ⟨F.p, 0, none⟩), .int .u64 w] (H.ent F) (Ret (fun _ : Unit => H.ent F) (fun v _ => v = two (kindQ (H.pub F) w))) := by
 rcases objOf_cases (H.pub F) w with ⟨h0, e⟩ | ⟨n, o, h0, ho, e⟩
 · rw [HeapV.pub_len] at h0
   unfold kindQ; rw [e]; exact heap_Kind_none h.ok h0
 · obtain ⟨x, hx, rfl⟩ := pub_obj ho
   have h1 := h0
   rw [HeapV.pub_len] at h0
   unfold kindQ; rw [e]; exact heap_Kind_some h.ok h0 hx
theorem hz_Proto (h : HInv k H F) (w : Int) : SC Tryd.prog W0 26 #[.pointer (some ⟨F.p, 0, none⟩), .int .u64 w] (H.ent F) (Ret (fun _ : Unit => H.ent F) (fun v _ => v = .int .u64 (protoW (H.pub F) w))) := by
 rcases objOf_cases (H.pub F) w with ⟨h0, e⟩ | ⟨n, o, h0, ho, e⟩
 · rw [HeapV.pub_len] at h0
   rw [protoW_none (by rw [HeapV.pub_len]; exact h0)]; exact heap_Proto_none h.ok h0
 · obtain ⟨x, hx, rfl⟩ := pub_obj ho
   have h1 := h0
   rw [HeapV.pub_len] at h0
   rw [protoW_some h1 ho]; exact heap_Proto_some h.ok h0 hx
theorem hz_Open (h : HInv k H F) (w : Int) : SC Tryd.prog W0 38 #[.pointer (some ⟨F.p, 0, none⟩), .int .u64 w] (H.ent F) (Ret (fun _ : Unit => H.ent F) (fun v _ => v = .bool (openQ (H.pub F) w))) := by
 rcases objOf_cases (H.pub F) w with ⟨h0, e⟩ | ⟨n, o, h0, ho, e⟩
 · rw [HeapV.pub_len] at h0
   unfold openQ; rw [e]; exact heap_Open_none h.ok h0
 · obtain ⟨x, hx, rfl⟩ := pub_obj ho
   have h1 := h0
   rw [HeapV.pub_len] at h0
   unfold openQ; rw [e]; exact heap_Open_some h.ok h0 hx
theorem hz_Len (h : HInv k H F) (w : Int) : SC Tryd.prog W0 46 #[.pointer (some ⟨F.p, 0, none⟩), .int .u64 w] (H.ent F) (Ret (fun _ : Unit => H.ent F) (fun v _ => v = .int .i64 (lenN (H.pub F) w : Int))) := by
 rcases objOf_cases (H.pub F) w with ⟨h0, e⟩ | ⟨n, o, h0, ho, e⟩
 · rw [HeapV.pub_len] at h0
   unfold lenN; rw [e]; exact heap_Len_none h.ok h0
 · obtain ⟨x, hx, rfl⟩ := pub_obj ho
   have h1 := h0
   rw [HeapV.pub_len] at h0
   unfold lenN; rw [e]; exact heap_Len_some h.ok h0 hx
theorem hz_Elem (h : HInv k H F) (w : Int) (m : Int) : SC Tryd.prog W0 47 #[.pointer (some ⟨F.p, 0, none⟩), .int .u64 w, .int .i64 m] (H.ent F) (Ret (fun _ : Unit => H.ent F) (fun v _ => v = .tuple #[.int .u64 (elemQ (H.pub F) w m).1, .bool (elemQ (H.pub F) w m).2])) := by
 rcases objOf_cases (H.pub F) w with ⟨h0, e⟩ | ⟨n, o, h0, ho, e⟩
 · rw [HeapV.pub_len] at h0
   unfold elemQ; rw [e]; exact heap_Elem_none h.ok h0 m
 · obtain ⟨x, hx, rfl⟩ := pub_obj ho
   have h1 := h0
   rw [HeapV.pub_len] at h0
   unfold elemQ; rw [e]; exact heap_Elem_some h.ok h0 hx m
theorem hz_Get (h : HInv k H F) (w : Int) (key : ByteArray) : SC Tryd.prog W0 48 #[.pointer (some ⟨F.p, 0, none⟩), .int .u64 w, .string key] (H.ent F) (Ret (fun _ : Unit => H.ent F) (fun v _ => v = descR (getQ (H.pub F) w key))) := by
 rcases objOf_cases (H.pub F) w with ⟨h0, e⟩ | ⟨n, o, h0, ho, e⟩
 · rw [HeapV.pub_len] at h0
   unfold getQ; rw [e]; exact heap_Get_none h.ok h0 key
 · obtain ⟨x, hx, rfl⟩ := pub_obj ho
   have h1 := h0
   rw [HeapV.pub_len] at h0
   unfold getQ; rw [e]; exact hp_Get h h1 ho key
theorem hz_Objects (h : HInv k H F) : SC Tryd.prog W0 24 #[.pointer (some ⟨F.p, 0, none⟩)] (H.ent F) (Ret (fun _ : Unit => H.ent F) (fun v _ => v = .int .i64 ((H.pub F).length : Int))) := by
 rw [HeapV.pub_len]; exact heap_Objects h.ok
theorem arrP_eq (l : List ObjS) (w : Int) : arrP l w = ((kindQ l w).2 && (kindQ l w).1 == 1) := by unfold arrP kindQ; cases objOf l w <;> simp
def atoQ (s : ByteArray) : Option Int := match Lib.atoiAll s.data.toList with | .ok n => some n | _ => none
theorem atoQ_some {s : ByteArray} {n : Int} (h : atoQ s = some n) : Lib.atoiAll s.data.toList = .ok n := by
 unfold atoQ at h
 split at h
 · next e => cases h; exact e
 · cases h
theorem atoQ_none {s : ByteArray} (h : atoQ s = none) : ∀ n, Lib.atoiAll s.data.toList ≠ .ok n := by
 intro n q
 unfold atoQ at h; rw [q] at h; cases h
theorem str_Atoi_some {σ : Heaplet} (hL : Laid W0) {s : ByteArray} (hs : s.size ≤ 281474976710656) {n : Int} (h : atoQ s = some n) : SC Tryd.prog W0 8 #[.string s] σ (Ret (fun _ : Unit => σ) (fun v _ => v = .tuple #[.int .i64 n, .nilIface])) := by
 refine SC.ret (str_Atoi hL s hs) fun v _ hv => ⟨(), rfl, ?_⟩
 rcases hv with ⟨m, e, q⟩ | ⟨q, _⟩
 · rw [atoQ_some h] at e; cases e; exact q
 · exact absurd (atoQ_some h) (q n)
theorem str_Atoi_none {σ : Heaplet} (hL : Laid W0) {s : ByteArray} (hs : s.size ≤ 281474976710656) (h : atoQ s = none) : SC Tryd.prog W0 8 #[.string s] σ (Ret (fun _ : Int × _ × _ => σ) (fun v r => v = .tuple #[.int .i64 r.1, .iface r.2.1 r.2.2])) := by
 refine SC.ret (str_Atoi hL s hs) fun v _ hv => ?_
 rcases hv with ⟨m, e, q⟩ | ⟨_, z, t, p, q⟩
 · exact absurd e (atoQ_none h m)
 · exact ⟨(z, t, p), rfl, q⟩
theorem idxV_bad {s : ByteArray} (h : atoQ s = none) : idxV s = (0, false) := idxV_none (idx_bad (atoQ_none h))
theorem atoQ_range {s : ByteArray} {n : Int} (h : atoQ s = some n) (hn : 0 ≤ n ∧ n < 4096) (hk : ((⟨(Lib.itoa n).toArray⟩ : ByteArray) = s)) : idxV s = (n, true) := by
 have e : idxK s = some n.toNat := by
   have e2 : Lib.itoa n = s.data.toList := by rw [← hk]
   unfold idxK; rw [idx_prog (atoQ_some h), if_pos ⟨hn.1, hn.2, e2⟩]
 rw [idxV_some e, Int.toNat_of_nonneg hn.1]
theorem atoQ_out {s : ByteArray} {n : Int} (h : atoQ s = some n) (hn : ¬ (0 ≤ n ∧ n < 4096 ∧ (⟨(Lib.itoa n).toArray⟩ : ByteArray) = s)) : idxV s = (0, false) := by
 refine idxV_none ?_
 unfold idxK; rw [idx_prog (atoQ_some h), if_neg]
 rintro ⟨a, b, c⟩
 exact hn ⟨a, b, by rw [c]⟩
theorem own_elem {l : List ObjS} {w : Int} {key : ByteArray} (ha : arrP l w = true) (hk : ¬ key = lenK) (hi : (idxV key).2 = true) : ownQ l w key = if (elemQ l w (idxV key).1).2 = true then some ((elemQ l w (idxV key).1).1, undefW, 7) else none := by
 cases hm : idxK key with
 | none => rw [idxV_none hm] at hi; cases hi
 | some m => rw [ownQ_elem ha hk hm, idxV_some hm]
theorem own_get {l : List ObjS} {w : Int} {key : ByteArray} (ha : arrP l w = true) (hk : ¬ key = lenK) (hi : (idxV key).2 = false) : ownQ l w key = getQ l w key := by
 cases hm : idxK key with
 | some m => rw [idxV_some hm] at hi; cases hi
 | none => exact ownQ_get ha hk hm
theorem LOk.lenN {l : List ObjS} (h : LOk k l) (w : Int) : lenN l w ≤ 4096 := by
 unfold Proofs.YthflblophelioaaDoor.lenN
 split
 · omega
 · next o e => exact h.elems o (objOf_mem e)
abbrev deqB (d e : DescP) : Bool := (d.1 == e.1) && ((d.2.1 == e.2.1) && (d.2.2 == e.2.2))
theorem deq_iff {d e : DescP} : deqB d e = true ↔ d = e := by
 constructor
 · intro h
   simp only [deqB, Bool.and_eq_true, beq_iff_eq] at h
   exact Prod.ext h.1 (Prod.ext h.2.1 h.2.2)
 · rintro rfl; simp [deqB]
theorem deq_ff {d e : DescP} : deqB d e = false ↔ d ≠ e := by rw [← Bool.not_eq_true, deq_iff]
theorem mayW_eq (d e : DescP) : mayW d e = (((band d.2.2 4 != 0) || deqB d e) || (!((bandn d.2.2 1 != bandn e.2.2 1) || (band d.2.2 8 != 0)) && ((band d.2.2 1 != 0) && (bor e.2.2 1 == d.2.2)))) := by
 unfold mayW
 by_cases h1 : (band d.2.2 4 != 0) = true
 · rw [if_pos (.inl h1), h1]; rfl
 · rw [Bool.not_eq_true] at h1
   by_cases h2 : d = e
   · rw [if_pos (.inr h2), deq_iff.2 h2, h1]; rfl
   · rw [if_neg (by rintro (z | z); (rw [h1] at z; cases z); exact h2 z), h1, deq_ff.2 h2]
     by_cases h3 : (bandn d.2.2 1 != bandn e.2.2 1) = true
     · rw [if_pos (.inl h3), h3]; rfl
     · rw [Bool.not_eq_true] at h3
       by_cases h4 : (band d.2.2 8 != 0) = true
       · rw [if_pos (.inr h4), h3, h4]; rfl
       · rw [Bool.not_eq_true] at h4
         rw [if_neg (by rintro (z | z); (rw [h3] at z; cases z); (rw [h4] at z; cases z)), h3, h4]; rfl
theorem isI_range {w n : Int} (h : isI w = some n) : -2147483648 ≤ n ∧ n ≤ 2147483647 := by
 unfold isI at h
 cases hq : tagOf w 65529 with
 | none => rw [hq] at h; cases h
 | some m =>
   rw [hq] at h
   have h2 : IntKind.wrap .i32 (m : Int) = n := Option.some.inj h
   rw [← h2, IntKind.wrap_i32]
   omega
structure PStp (k : Nat) (H H' : HeapV) (F : HeapF) (l : List ObjS) : Prop where
  inv : HInv k H' F
  pub : H'.pub F = l
  texts : H'.texts = H.texts
theorem Stp.p {H' : HeapV} {l : List ObjS} {w : Int} {m : Prop} (h : Stp k H H' F l H.texts w m) : PStp k H H' F l := ⟨h.inv, h.pub, h.texts⟩
theorem PStp.same (h : HInv k H F) : PStp k H H F (H.pub F) := ⟨h, rfl, rfl⟩
theorem PStp.mono {H' : HeapV} {l : List ObjS} {k' : Nat} (h : PStp k H H' F l) (hk : k ≤ k') : PStp k' H H' F l := ⟨h.inv.mono hk, h.pub, h.texts⟩
theorem payload_i32 (w : Int) : IntKind.wrap .i32 (IntKind.wrap .u32 w) = IntKind.wrap .i32 (((w % 4294967296).toNat : Nat) : Int) := by
 simp only [IntKind.wrap, IntKind.bits, IntKind.signed]
 rw [Int.toNat_of_nonneg (by omega)]
 simp
end Go.Proofs.YthflblophelioaaDoor
namespace Go.Proofs.YthflblophelioaaDoor
open Go.Sl

theorem word_payload32 {W0 : World} {w tag : Int} (ht : 0 ≤ tag ∧ tag < 65536) : SC Tryd.prog W0 73 #[.int .u64 w, .int .u64 tag] [] (Ret (fun _ : Unit => []) (fun v _ => v = (match tagOf w tag with | some n => .tuple #[.int .i32 (IntKind.wrap .i32 (n : Int)), .bool true] | none => .tuple #[.int .i32 0, .bool false]))) := by
 refine SC_body (fn := Tryd.f73) (n := 14) Tryd.func73 rfl (by kernel_rfl) (ρ := [(0, .int .u64 w), (1, .int .u64 tag)]) rfl ?_
 refine sr ?_
 refine os 2 ?_
 refine nq ?_
 refine sr ?_
 refine os 1 ?_
 refine oX (.int .u64 (Int.fdiv w 4294967296)) (.int .u64 (w / 4294967296)) (congrArg (Value.int .u64) (Int.fdiv_eq_ediv_of_nonneg _ (by omega))) ?_
 refine os 1 ?_
 refine oX (.int .u64 (IntKind.wrap .u64 (tag * 65536))) (.int .u64 (tag * 65536)) (congrArg (Value.int .u64) (IntWalk.u64_in _ (by omega))) ?_
 refine os 1 ?_
 refine kp [10, 5, 4, 0, 1] ?_
 refine nt ?_
 refine cd (fun hc1 : ((w / 4294967296) != (tag * 65536)) = true => ?_) (fun hc1 => ?_)
 ·refine sr ?_
  refine os 2 ?_
  refine nt ?_
  refine SW_ret (r_then ?_)
  refine body_end (.tuple #[.int .i32 0, .bool false]) (fun _ => rfl) ?_
  exact ⟨(), ⟨_, List.Perm.refl _⟩, by simp only [tagOf, if_neg (show ¬ (w / 4294967296 = tag * 65536) from by simp at hc1; omega)]⟩
 refine SW_skip (n_then ?_)
 refine sr ?_
 refine os 1 ?_
 refine oV (.int .u32 (IntKind.wrap .u32 (w))) ?_
 refine oV (.int .i32 (IntKind.wrap .i32 (IntKind.wrap .u32 (w)))) ?_
 refine os 2 ?_
 refine kp [5, 4, 10, 0, 1] ?_
 refine nt ?_
 refine SW_ret ?_
 refine body_end (.tuple #[.int .i32 (IntKind.wrap .i32 (IntKind.wrap .u32 (w))), .bool true]) (fun _ => rfl) ?_
 exact ⟨(), ⟨_, List.Perm.refl _⟩, by simp only [tagOf, if_pos (show w / 4294967296 = tag * 65536 from by simp at hc1; omega)]; rw [payload_i32]⟩

theorem word_IsInt {W0 : World} {w : Int} : SC Tryd.prog W0 58 #[.int .u64 w] [] (Ret (fun _ : Unit => []) (fun v _ => v = (match isI w with | some n => .tuple #[.int .i32 n, .bool true] | none => .tuple #[.int .i32 0, .bool false]))) := by
 refine SC_body (fn := Tryd.f58) (n := 8) Tryd.func58 rfl (by kernel_rfl) (ρ := [(0, .int .u64 w)]) rfl ?_
 refine sr ?_
 refine os 2 ?_
 refine nsr ?_
 refine os 1 ?_
 rcases hm1 : isI w with _ | m1
 ·refine L (cl (word_payload32 (w := w) (tag := 65529) (by omega)) ?_)
  rintro v1 _ hv1
  obtain rfl : v1 = .tuple #[.int .i32 0, .bool false] := hv1.trans (by unfold isI at hm1; cases q_ : tagOf w 65529 <;> rw [q_] at hm1 <;> cases hm1 <;> rfl)
  refine un ?_
  refine os 4 ?_
  refine kp [3, 2, 0] ?_
  refine nt ?_
  refine SW_ret ?_
  refine body_end (.tuple #[.int .i32 0, .bool false]) (fun _ => rfl) ?_
  exact ⟨(), ⟨_, List.Perm.refl _⟩, rfl⟩
 refine L (cl (word_payload32 (w := w) (tag := 65529) (by omega)) ?_)
 rintro v2 _ hv2
 obtain rfl : v2 = .tuple #[.int .i32 m1, .bool true] := hv2.trans (by unfold isI at hm1; cases q_ : tagOf w 65529 <;> rw [q_] at hm1 <;> cases hm1 <;> rfl)
 refine un ?_
 refine os 4 ?_
 refine kp [3, 2, 0] ?_
 refine nt ?_
 refine SW_ret ?_
 refine body_end (.tuple #[.int .i32 m1, .bool true]) (fun _ => rfl) ?_
 exact ⟨(), ⟨_, List.Perm.refl _⟩, rfl⟩

theorem word_Int {W0 : World} {n : Int} (hn : 0 ≤ n ∧ n < 2147483648) : SC Tryd.prog W0 45 #[.int .i32 n] [] (Ret (fun _ : Unit => []) (fun v _ => v = .int .u64 (intW n))) := by
 refine SC_body (fn := Tryd.f45) (n := 6) Tryd.func45 rfl (by kernel_rfl) (ρ := [(0, .int .i32 n)]) rfl ?_
 refine sr ?_
 refine os 1 ?_
 refine nsr ?_
 refine os 2 ?_
 refine L (cl (word_tagged (tag := 65529) (n := n) (by omega) (by omega)) ?_)
 rintro _ _ rfl
 refine un ?_
 refine os 1 ?_
 refine kp [2, 0] ?_
 refine nt ?_
 refine SW_ret ?_
 refine body_end (.int .u64 (65529 * 281474976710656 + n)) (fun _ => rfl) ?_
 exact ⟨(), ⟨_, List.Perm.refl _⟩, rfl⟩

theorem prop_array {W0 : World} {k : Nat} {H : HeapV} {F : HeapF} (h : HInv k H F) (w : Int) : SC Tryd.prog W0 41 #[.pointer (some ⟨F.p, 0, none⟩), .int .u64 w] (HeapV.ent H F) (Ret (fun _ : Unit => HeapV.ent H F) (fun v _ => v = .bool (arrP (H.pub F) w))) := by
 refine SC_body (fn := Tryd.f41) (n := 18) Tryd.func41 rfl (by kernel_rfl) (ρ := [(0, pt F.p 0), (1, .int .u64 w)]) rfl ?_
 refine SW_sig ((HeapV.ent H F) ++ ([])) (by simp only [List.append_nil, List.append_assoc]) ?_
 refine sr ?_
 refine os 1 ?_
 refine nsr ?_
 refine os 2 ?_
 refine L (cl (hz_Kind h w) ?_)
 rintro _ _ rfl
 refine os 5 ?_
 refine kp [6, 5, 4, 0, 1] ?_
 refine nsr ?_
 refine os 2 ?_
 refine tb 14 (fun hg1 => ?_) (fun hg1 => ?_)
 ·replace hg1 : ((kindQ (HeapV.pub H F) w).2) = true := hg1
  refine os 4 ?_
  refine kp [4, 6, 5, 0, 1] ?_
  refine nt ?_
  refine SW_ret ?_
  refine body_end (.bool (((kindQ (HeapV.pub H F) w).1) == 1)) (fun _ => rfl) ?_
  exact ⟨(), ow, congrArg Value.bool (by rw [arrP_eq]; simp [*])⟩
 replace hg1 : ((kindQ (HeapV.pub H F) w).2) = false := hg1
 refine os 4 ?_
 refine kp [4, 6, 5, 0, 1] ?_
 refine nt ?_
 refine SW_ret ?_
 refine body_end (.bool false) (fun _ => rfl) ?_
 exact ⟨(), ow, congrArg Value.bool (by rw [arrP_eq]; simp [*])⟩

theorem prop_Index {W0 : World} (hL : Laid W0) {key : ByteArray} (hks : key.size ≤ 281474976710656) : SC Tryd.prog W0 4 #[.string key] [] (Ret (fun _ : Unit => []) (fun v _ => v = two (idxV key))) := by
 refine SC_body (fn := Tryd.f4) (n := 28) Tryd.func4 rfl (by kernel_rfl) (ρ := [(0, .string key)]) rfl ?_
 refine sr ?_
 refine os 2 ?_
 refine nsr ?_
 refine os 1 ?_
 rcases hm1 : atoQ key with _ | m1
 ·refine L (cl (str_Atoi_none hL hks hm1) ?_)
  rintro _ ⟨z, it, ip⟩ rfl
  refine un ?_
  refine os 5 ?_
  refine kp [5, 4, 3, 2, 0] ?_
  refine nq ?_
  refine sr ?_
  refine os 1 ?_
  refine oV (.bool true) ?_
  refine os 14 ?_
  refine kp [26, 5, 4, 3, 2, 0] ?_
  refine nt ?_
  refine ct ?_
  refine sr ?_
  refine os 2 ?_
  refine nt ?_
  refine SW_ret (r_then ?_)
  refine body_end (.tuple #[.int .i64 0, .bool false]) (fun _ => rfl) ?_
  exact ⟨(), ⟨_, List.Perm.refl _⟩, by rw [idxV_bad hm1]⟩
 refine L (cl (str_Atoi_some hL hks hm1) ?_)
 rintro _ _ rfl
 refine un ?_
 refine os 5 ?_
 refine kp [5, 4, 3, 2, 0] ?_
 refine nq ?_
 refine sr ?_
 refine os 1 ?_
 refine oV (.bool false) ?_
 refine os 5 ?_
 refine kp [17, 5, 4, 3, 2, 0] ?_
 refine tbp 17 (fun hg1 => ?_) (fun hg1 => ?_)
 ·replace hg1 : m1 < 0 := hg1
  refine os 9 ?_
  refine kp [26, 5, 4, 3, 2, 0] ?_
  refine nt ?_
  refine ct ?_
  refine sr ?_
  refine os 2 ?_
  refine nt ?_
  refine SW_ret (r_then ?_)
  refine body_end (.tuple #[.int .i64 0, .bool false]) (fun _ => rfl) ?_
  exact ⟨(), ⟨_, List.Perm.refl _⟩, by rw [atoQ_out hm1 (by rintro ⟨a_, b_, c_⟩; first | omega | contradiction)]⟩
 replace hg1 : ¬ (m1 < 0) := hg1
 refine os 4 ?_
 refine tbp 21 (fun hg2 => ?_) (fun hg2 => ?_)
 ·replace hg2 : m1 ≥ 4096 := hg2
  refine os 5 ?_
  refine kp [26, 5, 4, 3, 2, 0] ?_
  refine nt ?_
  refine ct ?_
  refine sr ?_
  refine os 2 ?_
  refine nt ?_
  refine SW_ret (r_then ?_)
  refine body_end (.tuple #[.int .i64 0, .bool false]) (fun _ => rfl) ?_
  exact ⟨(), ⟨_, List.Perm.refl _⟩, by rw [atoQ_out hm1 (by rintro ⟨a_, b_, c_⟩; first | omega | contradiction)]⟩
 replace hg2 : ¬ (m1 ≥ 4096) := hg2
 refine os 1 ?_
 refine L (cl (str_Itoa hL m1 (by first | omega | (simp at *; omega))) ?_)
 rintro _ _ rfl
 refine un ?_
 refine os 1 ?_
 refine oX (.bool (!((⟨(Lib.itoa m1).toArray⟩ : ByteArray).toList == key.toList))) (.bool (!(decide ((⟨(Lib.itoa m1).toArray⟩ : ByteArray) = key)))) (congrArg Value.bool (by rw [str_eq])) ?_
 refine os 1 ?_
 refine kp [26, 5, 4, 3, 2, 0] ?_
 refine nt ?_
 refine cd (fun hc3 : (!(decide ((⟨(Lib.itoa m1).toArray⟩ : ByteArray) = key))) = true => ?_) (fun hc3 => ?_)
 ·replace hc3 := bnot_t hc3
  replace hc3 := of_decide_eq_false hc3
  refine sr ?_
  refine os 2 ?_
  refine nt ?_
  refine SW_ret (r_then ?_)
  refine body_end (.tuple #[.int .i64 0, .bool false]) (fun _ => rfl) ?_
  exact ⟨(), ⟨_, List.Perm.refl _⟩, by rw [atoQ_out hm1 (by rintro ⟨a_, b_, c_⟩; first | omega | contradiction)]⟩
 replace hc3 := bnot_f hc3
 replace hc3 := of_decide_eq_true hc3
 refine SW_skip (n_then ?_)
 refine sr ?_
 refine os 3 ?_
 refine nt ?_
 refine SW_ret ?_
 refine body_end (.tuple #[.int .i64 m1, .bool true]) (fun _ => rfl) ?_
 exact ⟨(), ⟨_, List.Perm.refl _⟩, by rw [atoQ_range hm1 (by simp at *; omega) (by simp at *; assumption)]⟩

end Go.Proofs.YthflblophelioaaDoor
namespace Go.Proofs.YthflblophelioaaDoor
open Go.Sl

theorem prop_Own {W0 : World} (hL : Laid W0) {k : Nat} {H : HeapV} {F : HeapF} (h : HInv k H F) (w : Int) {key : ByteArray} (hks : key.size ≤ 281474976710656) : SC Tryd.prog W0 25 #[.pointer (some ⟨F.p, 0, none⟩), .int .u64 w, .string key] (HeapV.ent H F) (Ret (fun _ : Unit => HeapV.ent H F) (fun v _ => v = descR (ownQ (H.pub F) w key))) := by
 have hln := h.lok.lenN w
 refine SC_body (fn := Tryd.f25) (n := 47) Tryd.func25 rfl (by kernel_rfl) (ρ := [(0, pt F.p 0), (1, .int .u64 w), (2, .string key)]) rfl ?_
 refine SW_sig ((HeapV.ent H F) ++ ([])) (by simp only [List.append_nil, List.append_assoc]) ?_
 refine sr ?_
 refine L (nw 41 3 [.int .u64 0, .int .u64 0, .int .i64 0] ?_)
 intro b1
 refine os 1 ?_
 refine nq ?_
 refine sr ?_
 refine os 2 ?_
 refine L (cl (prop_array h w) ?_)
 rintro _ _ rfl
 refine nt ?_
 refine cd (fun hc2 : ((arrP (HeapV.pub H F) w)) = true => ?_) (fun hc2 => ?_)
 ·refine SW_seq ?_
  refine sr ?_
  refine os 1 ?_
  refine oX (.bool (key.toList == (ByteArray.mk (List.toArray (List.cons 108 (List.cons 101 (List.cons 110 (List.cons 103 (List.cons 116 (List.cons 104 List.nil)))))))).toList)) (.bool (decide (key = (ByteArray.mk (List.toArray (List.cons 108 (List.cons 101 (List.cons 110 (List.cons 103 (List.cons 116 (List.cons 104 List.nil))))))))))) (congrArg Value.bool (by rw [str_eq])) ?_
  refine kp [16, 14, 7, 6, 0, 1, 2] ?_
  refine nt ?_
  refine cdp (fun hc3 : key = (ByteArray.mk (List.toArray (List.cons 108 (List.cons 101 (List.cons 110 (List.cons 103 (List.cons 116 (List.cons 104 List.nil)))))))) => ?_) (fun hc3 => ?_)
  ·refine sr ?_
   refine os 2 ?_
   refine L (cl (hz_Len h w) ?_)
   rintro _ _ rfl
   refine os 1 ?_
   refine L (cl (word_Int (n := (lenN (HeapV.pub H F) w : Int)) (by have q_ := h.lok.lenN w; omega)) ?_)
   rintro _ _ rfl
   refine un ?_
   refine oV (.agg #[.int .u64 (intW (lenN (HeapV.pub H F) w : Int)), .int .u64 18445336698825998336, .int .i64 1]) ?_
   refine L (st [.int .u64 (intW (lenN (HeapV.pub H F) w : Int)), .int .u64 18445336698825998336, .int .i64 1] ?_)
   refine os 1 ?_
   refine kp [7, 16, 14, 6, 0, 1, 2] ?_
   refine nt ?_
   refine SW_ret (r_then (r_then ?_))
   refine body_endC [.agg #[.int .u64 (intW (lenN (HeapV.pub H F) w : Int)), .int .u64 18445336698825998336, .int .i64 1], .bool true] (fun _ => (.cons ⟨b1, 0, rfl, .inl ⟨[.int .u64 (intW (lenN (HeapV.pub H F) w : Int)), .int .u64 18445336698825998336, .int .i64 1], by kernel_rfl, (cells_cons (Cell.own mem_z rfl) (cells_cons (Cell.own mem_z rfl) (cells_cons (Cell.own mem_z rfl) cells_nil))), rfl⟩⟩ (.cons rfl .nil))) ?_
   exact ⟨(), ow, by first | (rw [ownQ_len (by assumption) (by assumption)]; rfl) | (rw [own_elem (by assumption) (by assumption) (by assumption), if_pos (by assumption)]; rfl) | (rw [own_elem (by assumption) (by assumption) (by assumption), if_neg (by simp [*])]; rfl) | (rw [own_get (by assumption) (by assumption) (by assumption)]; exact (descR_eq _).symm) | (rw [ownQ_plain (by assumption)]; exact (descR_eq _).symm)⟩
  refine SW_skip (n_then ?_)
  refine sr ?_
  refine os 1 ?_
  refine L (cl (prop_Index hL hks) ?_)
  rintro _ _ rfl
  refine un ?_
  refine os 5 ?_
  refine kp [9, 8, 16, 14, 7, 6, 0, 1, 2] ?_
  refine nsr ?_
  refine os 1 ?_
  refine nt ?_
  refine cd (fun hc4 : ((idxV key).2) = true => ?_) (fun hc4 => ?_)
  ·refine sr ?_
   refine os 3 ?_
   refine L (cl (hz_Elem h w ((idxV key).1)) ?_)
   rintro _ _ rfl
   refine os 5 ?_
   refine kp [11, 10, 28, 9, 8, 16, 14, 7, 6, 0, 1, 2] ?_
   refine nq ?_
   refine sr ?_
   refine os 2 ?_
   refine nt ?_
   refine cd (fun hc5 : (!((elemQ (HeapV.pub H F) w ((idxV key).1)).2)) = true => ?_) (fun hc5 => ?_)
   ·replace hc5 := bnot_t hc5
    refine sr ?_
    refine oV (.agg #[.int .u64 0, .int .u64 0, .int .i64 0]) ?_
    refine L (st [.int .u64 0, .int .u64 0, .int .i64 0] ?_)
    refine os 1 ?_
    refine nt ?_
    refine SW_ret (r_then (r_then ?_))
    refine body_endC [.agg #[.int .u64 0, .int .u64 0, .int .i64 0], .bool false] (fun _ => (.cons ⟨b1, 0, rfl, .inl ⟨[.int .u64 0, .int .u64 0, .int .i64 0], by kernel_rfl, (cells_cons (Cell.own mem_z rfl) (cells_cons (Cell.own mem_z rfl) (cells_cons (Cell.own mem_z rfl) cells_nil))), rfl⟩⟩ (.cons rfl .nil))) ?_
    exact ⟨(), ow, by first | (rw [ownQ_len (by assumption) (by assumption)]; rfl) | (rw [own_elem (by assumption) (by assumption) (by assumption), if_pos (by assumption)]; rfl) | (rw [own_elem (by assumption) (by assumption) (by assumption), if_neg (by simp [*])]; rfl) | (rw [own_get (by assumption) (by assumption) (by assumption)]; exact (descR_eq _).symm) | (rw [ownQ_plain (by assumption)]; exact (descR_eq _).symm)⟩
   replace hc5 := bnot_f hc5
   refine SW_skip (n_then ?_)
   refine sr ?_
   refine os 1 ?_
   refine oV (.agg #[.int .u64 ((elemQ (HeapV.pub H F) w ((idxV key).1)).1), .int .u64 18445336698825998336, .int .i64 7]) ?_
   refine L (st [.int .u64 ((elemQ (HeapV.pub H F) w ((idxV key).1)).1), .int .u64 18445336698825998336, .int .i64 7] ?_)
   refine os 1 ?_
   refine kp [7, 37, 11, 10, 28, 9, 8, 16, 14, 6, 0, 1, 2] ?_
   refine nt ?_
   refine SW_ret (r_then ?_)
   refine body_endC [.agg #[.int .u64 ((elemQ (HeapV.pub H F) w ((idxV key).1)).1), .int .u64 18445336698825998336, .int .i64 7], .bool true] (fun _ => (.cons ⟨b1, 0, rfl, .inl ⟨[.int .u64 ((elemQ (HeapV.pub H F) w ((idxV key).1)).1), .int .u64 18445336698825998336, .int .i64 7], by kernel_rfl, (cells_cons (Cell.own mem_z rfl) (cells_cons (Cell.own mem_z rfl) (cells_cons (Cell.own mem_z rfl) cells_nil))), rfl⟩⟩ (.cons rfl .nil))) ?_
   exact ⟨(), ow, by first | (rw [ownQ_len (by assumption) (by assumption)]; rfl) | (rw [own_elem (by assumption) (by assumption) (by assumption), if_pos (by assumption)]; rfl) | (rw [own_elem (by assumption) (by assumption) (by assumption), if_neg (by simp [*])]; rfl) | (rw [own_get (by assumption) (by assumption) (by assumption)]; exact (descR_eq _).symm) | (rw [ownQ_plain (by assumption)]; exact (descR_eq _).symm)⟩
  refine SW_skip (n_then ?_)
  refine sr ?_
  refine os 3 ?_
  refine L (cl (hz_Get h w key) ?_)
  rintro v6 _ hv6
  obtain rfl : v6 = .tuple #[.agg #[.int .u64 ((descG (getQ (HeapV.pub H F) w key)).1), .int .u64 ((descG (getQ (HeapV.pub H F) w key)).2.1), .int .i64 ((descG (getQ (HeapV.pub H F) w key)).2.2)], .bool ((getQ (HeapV.pub H F) w key).isSome)] := hv6.trans (descR_eq _)
  refine os 2 ?_
  refine L (st [.int .u64 ((descG (getQ (HeapV.pub H F) w key)).1), .int .u64 ((descG (getQ (HeapV.pub H F) w key)).2.1), .int .i64 ((descG (getQ (HeapV.pub H F) w key)).2.2)] ?_)
  refine os 1 ?_
  refine kp [7, 28, 9, 8, 16, 14, 6, 0, 1, 2] ?_
  refine nt ?_
  refine SW_ret ?_
  refine body_endC [.agg #[.int .u64 ((descG (getQ (HeapV.pub H F) w key)).1), .int .u64 ((descG (getQ (HeapV.pub H F) w key)).2.1), .int .i64 ((descG (getQ (HeapV.pub H F) w key)).2.2)], .bool ((getQ (HeapV.pub H F) w key).isSome)] (fun _ => (.cons ⟨b1, 0, rfl, .inl ⟨[.int .u64 ((descG (getQ (HeapV.pub H F) w key)).1), .int .u64 ((descG (getQ (HeapV.pub H F) w key)).2.1), .int .i64 ((descG (getQ (HeapV.pub H F) w key)).2.2)], by kernel_rfl, (cells_cons (Cell.own mem_z rfl) (cells_cons (Cell.own mem_z rfl) (cells_cons (Cell.own mem_z rfl) cells_nil))), rfl⟩⟩ (.cons rfl .nil))) ?_
  exact ⟨(), ow, by first | (rw [ownQ_len (by assumption) (by assumption)]; rfl) | (rw [own_elem (by assumption) (by assumption) (by assumption), if_pos (by assumption)]; rfl) | (rw [own_elem (by assumption) (by assumption) (by assumption), if_neg (by simp [*])]; rfl) | (rw [own_get (by assumption) (by assumption) (by assumption)]; exact (descR_eq _).symm) | (rw [ownQ_plain (by assumption)]; exact (descR_eq _).symm)⟩
 refine SW_skip (n_then ?_)
 refine sr ?_
 refine os 3 ?_
 refine L (cl (hz_Get h w key) ?_)
 rintro v7 _ hv7
 obtain rfl : v7 = .tuple #[.agg #[.int .u64 ((descG (getQ (HeapV.pub H F) w key)).1), .int .u64 ((descG (getQ (HeapV.pub H F) w key)).2.1), .int .i64 ((descG (getQ (HeapV.pub H F) w key)).2.2)], .bool ((getQ (HeapV.pub H F) w key).isSome)] := hv7.trans (descR_eq _)
 refine os 2 ?_
 refine kp [46, 45, 14, 7, 6, 0, 1, 2] ?_
 refine L (st [.int .u64 ((descG (getQ (HeapV.pub H F) w key)).1), .int .u64 ((descG (getQ (HeapV.pub H F) w key)).2.1), .int .i64 ((descG (getQ (HeapV.pub H F) w key)).2.2)] ?_)
 refine os 1 ?_
 refine nt ?_
 refine SW_ret ?_
 refine body_endC [.agg #[.int .u64 ((descG (getQ (HeapV.pub H F) w key)).1), .int .u64 ((descG (getQ (HeapV.pub H F) w key)).2.1), .int .i64 ((descG (getQ (HeapV.pub H F) w key)).2.2)], .bool ((getQ (HeapV.pub H F) w key).isSome)] (fun _ => (.cons ⟨b1, 0, rfl, .inl ⟨[.int .u64 ((descG (getQ (HeapV.pub H F) w key)).1), .int .u64 ((descG (getQ (HeapV.pub H F) w key)).2.1), .int .i64 ((descG (getQ (HeapV.pub H F) w key)).2.2)], by kernel_rfl, (cells_cons (Cell.own mem_z rfl) (cells_cons (Cell.own mem_z rfl) (cells_cons (Cell.own mem_z rfl) cells_nil))), rfl⟩⟩ (.cons rfl .nil))) ?_
 exact ⟨(), ow, by first | (rw [ownQ_len (by assumption) (by assumption)]; rfl) | (rw [own_elem (by assumption) (by assumption) (by assumption), if_pos (by assumption)]; rfl) | (rw [own_elem (by assumption) (by assumption) (by assumption), if_neg (by simp [*])]; rfl) | (rw [own_get (by assumption) (by assumption) (by assumption)]; exact (descR_eq _).symm) | (rw [ownQ_plain (by assumption)]; exact (descR_eq _).symm)⟩

end Go.Proofs.YthflblophelioaaDoor
namespace Go.Proofs.YthflblophelioaaDoor
open Go.Sl

theorem prop_Lookup {W0 : World} (hL : Laid W0) {k : Nat} {H : HeapV} {F : HeapF} (h : HInv k H F) (w : Int) {key : ByteArray} (hks : key.size ≤ 281474976710656) : SC Tryd.prog W0 14 #[.pointer (some ⟨F.p, 0, none⟩), .int .u64 w, .string key] (HeapV.ent H F) (Ret (fun _ : Unit => HeapV.ent H F) (fun v _ => v = .tuple #[.int .u64 (lookV (lookQ (H.pub F) w key)).1, descV (lookV (lookQ (H.pub F) w key)).2, .bool (lookQ (H.pub F) w key).isSome])) := by
 have hln := h.lok.len
 refine SC_body (fn := Tryd.f14) (n := 32) Tryd.func14 rfl (by kernel_rfl) (ρ := [(0, pt F.p 0), (1, .int .u64 w), (2, .string key)]) rfl ?_
 refine SW_sig ((HeapV.ent H F) ++ ([])) (by simp only [List.append_nil, List.append_assoc]) ?_
 refine sr ?_
 refine os 1 ?_
 refine L (nw 41 3 [.int .u64 0, .int .u64 0, .int .i64 0] ?_)
 intro b1
 refine os 1 ?_
 refine nq ?_
 refine sr ?_
 refine os 1 ?_
 refine L (cl (hz_Objects h ) ?_)
 rintro _ _ rfl
 refine os 1 ?_
 refine nt ?_
 refine SW_block ?_
 refine SW_loop (α := Nat) (fun z_ ρ_ σ_ => Fits ρ_ σ_ [(0, pt F.p 0), (2, .string key), (6, .int .u64 0), (7, pt b1 0), (8, .bool false), (12, .int .i64 ((HeapV.pub H F).length : Int)), (1, .int .u64 (upN (HeapV.pub H F) w z_)), (13, .int .i64 (z_ : Int))] ((HeapV.ent H F) ++ ((b1, .cells 41 3 [.int .u64 0, .int .u64 0, .int .i64 0]) :: ([]))) ∧ z_ ≤ (HeapV.pub H F).length ∧ (∀ j, j < z_ → ownQ (HeapV.pub H F) (upN (HeapV.pub H F) w j) key = none)) (fun z_ => (HeapV.pub H F).length - z_) 0 ⟨⟨fun _ => rfl, ow⟩, Nat.zero_le _, fun j hj => absurd hj (Nat.not_lt_zero j)⟩ ?_
 rintro i ρ_ σ_ ⟨hfit, hi0, hi1⟩
 refine SW_fits hfit ?_
 clear hfit
 refine sr ?_
 refine os 1 ?_
 refine nq ?_
 refine cdp (fun hc2 : (i : Int) < ((HeapV.pub H F).length : Int) => ?_) (fun hc2 => ?_)
 ·refine SW_skip (n_then ?_)
  refine SW_seq ?_
  refine SW_block ?_
  refine sr ?_
  refine os 3 ?_
  refine L (cl (prop_Own hL h (upN (HeapV.pub H F) w i) hks) ?_)
  rintro v2 _ hv2
  obtain rfl : v2 = .tuple #[.agg #[.int .u64 ((descG (ownQ (HeapV.pub H F) (upN (HeapV.pub H F) w i) key)).1), .int .u64 ((descG (ownQ (HeapV.pub H F) (upN (HeapV.pub H F) w i) key)).2.1), .int .i64 ((descG (ownQ (HeapV.pub H F) (upN (HeapV.pub H F) w i) key)).2.2)], .bool ((ownQ (HeapV.pub H F) (upN (HeapV.pub H F) w i) key).isSome)] := hv2.trans (descR_eq _)
  refine os 3 ?_
  refine L (nw 41 3 [.int .u64 0, .int .u64 0, .int .i64 0] ?_)
  intro b3
  refine L (st [.int .u64 ((descG (ownQ (HeapV.pub H F) (upN (HeapV.pub H F) w i) key)).1), .int .u64 ((descG (ownQ (HeapV.pub H F) (upN (HeapV.pub H F) w i) key)).2.1), .int .i64 ((descG (ownQ (HeapV.pub H F) (upN (HeapV.pub H F) w i) key)).2.2)] ?_)
  refine os 1 ?_
  refine kp [10, 9, 14, 0, 2, 6, 7, 8, 12, 1, 13] ?_
  refine nq ?_
  refine sr ?_
  refine os 1 ?_
  refine nt ?_
  refine cd (fun hc4 : ((ownQ (HeapV.pub H F) (upN (HeapV.pub H F) w i) key).isSome) = true => ?_) (fun hc4 => ?_)
  ·refine SW_seq ?_
   refine SW_draw [(b3, 0, .int .u64 ((descG (ownQ (HeapV.pub H F) (upN (HeapV.pub H F) w i) key)).1)), (b3, 1, .int .u64 ((descG (ownQ (HeapV.pub H F) (upN (HeapV.pub H F) w i) key)).2.1)), (b3, 2, .int .i64 ((descG (ownQ (HeapV.pub H F) (upN (HeapV.pub H F) w i) key)).2.2))] [0, 2] (by kernel_rfl) (rd_cons (Cell.own mem_z rfl) (rd_cons (Cell.own mem_z rfl) (rd_cons (Cell.own mem_z rfl) rd_nil))) ?_
   refine aS 0 ?_
   refine tr 1 (.agg #[.int .u64 ((descG (ownQ (HeapV.pub H F) (upN (HeapV.pub H F) w i) key)).1), .int .u64 ((descG (ownQ (HeapV.pub H F) (upN (HeapV.pub H F) w i) key)).2.1), .int .i64 ((descG (ownQ (HeapV.pub H F) (upN (HeapV.pub H F) w i) key)).2.2)]) ?_ (hy := fun δ w_ hr => Rd_loads b3 0 [.int .u64 ((descG (ownQ (HeapV.pub H F) (upN (HeapV.pub H F) w i) key)).1), .int .u64 ((descG (ownQ (HeapV.pub H F) (upN (HeapV.pub H F) w i) key)).2.1), .int .i64 ((descG (ownQ (HeapV.pub H F) (upN (HeapV.pub H F) w i) key)).2.2)] rfl (by kernel_rfl) (rdm_cons List.mem_cons_self (rdm_cons (List.mem_cons_of_mem _ List.mem_cons_self) (rdm_cons (List.mem_cons_of_mem _ (List.mem_cons_of_mem _ List.mem_cons_self)) rdm_nil))) hr)
   refine aS 2 ?_
   refine sa1 false 3 (h := st [.int .u64 ((descG (ownQ (HeapV.pub H F) (upN (HeapV.pub H F) w i) key)).1), .int .u64 ((descG (ownQ (HeapV.pub H F) (upN (HeapV.pub H F) w i) key)).2.1), .int .i64 ((descG (ownQ (HeapV.pub H F) (upN (HeapV.pub H F) w i) key)).2.2)] ?_)
   refine ⟨fun hnd => (by cases hnd), ?_⟩
   refine aS 4 ?_
   refine SA_done (by kernel_rfl) (n_then ?_)
   refine SW_ret (r_then (r_in (r_then (r_then (r_in (r_then ?_))))))
   refine body_endC [.int .u64 (upN (HeapV.pub H F) w i), .agg #[.int .u64 ((descG (ownQ (HeapV.pub H F) (upN (HeapV.pub H F) w i) key)).1), .int .u64 ((descG (ownQ (HeapV.pub H F) (upN (HeapV.pub H F) w i) key)).2.1), .int .i64 ((descG (ownQ (HeapV.pub H F) (upN (HeapV.pub H F) w i) key)).2.2)], .bool true] (fun _ => (.cons rfl (.cons ⟨b1, 0, rfl, .inl ⟨[.int .u64 ((descG (ownQ (HeapV.pub H F) (upN (HeapV.pub H F) w i) key)).1), .int .u64 ((descG (ownQ (HeapV.pub H F) (upN (HeapV.pub H F) w i) key)).2.1), .int .i64 ((descG (ownQ (HeapV.pub H F) (upN (HeapV.pub H F) w i) key)).2.2)], by kernel_rfl, (cells_cons (Cell.own mem_z rfl) (cells_cons (Cell.own mem_z rfl) (cells_cons (Cell.own mem_z rfl) cells_nil))), rfl⟩⟩ (.cons rfl .nil)))) ?_
   exact ⟨(), ow, by rw [look_hit (i := i) (by omega) hi1 (some_of (by assumption))] <;> rfl⟩
  refine SW_skip (n_then ?_)
  refine sr ?_
  refine os 2 ?_
  refine L (cl (hz_Proto h (upN (HeapV.pub H F) w i)) ?_)
  rintro _ _ rfl
  refine os 1 ?_
  refine kp [1, 22, 10, 9, 14, 0, 2, 6, 7, 8, 12, 13] ?_
  refine nsr ?_
  refine os 2 ?_
  refine nt ?_
  refine cd (fun hc5 : ((protoW (HeapV.pub H F) (upN (HeapV.pub H F) w i)) == 18445336698825998337) = true => ?_) (fun hc5 => ?_)
  ·simp only [beq_iff_eq, beq_eq_false_iff_ne, ne_eq] at hc5
   refine SW_exit (x_pass (by decide) (x_then (x_then (x_in (n_then ?_)))))
   refine sr ?_
   refine oV (.agg #[.int .u64 0, .int .u64 0, .int .i64 0]) ?_
   refine os 1 ?_
   refine L (st [.int .u64 0, .int .u64 0, .int .i64 0] ?_)
   refine os 1 ?_
   refine nt ?_
   refine SW_ret ?_
   refine body_endC [.int .u64 18445336698825998336, .agg #[.int .u64 0, .int .u64 0, .int .i64 0], .bool false] (fun _ => (.cons rfl (.cons ⟨b1, 0, rfl, .inl ⟨[.int .u64 0, .int .u64 0, .int .i64 0], by kernel_rfl, (cells_cons (Cell.own mem_z rfl) (cells_cons (Cell.own mem_z rfl) (cells_cons (Cell.own mem_z rfl) cells_nil))), rfl⟩⟩ (.cons rfl .nil)))) ?_
   exact ⟨(), ow, by rw [look_out (i := i + 1) (by omega) (fun j hj => by by_cases q_ : j = i; (subst q_; exact none_of (by assumption)); exact hi1 j (by omega)) (.inr (by show objAt (protoW _ (upN _ w i)) _ = none; rw [hc5]; exact objAt_null _))] <;> rfl⟩
  simp only [beq_iff_eq, beq_eq_false_iff_ne, ne_eq] at hc5
  refine SW_skip (n_in (n_then ?_))
  refine SW_region ?_
  refine os 2 ?_
  refine nt ?_
  exact ⟨i + 1, by omega, ⟨fun _ => rfl, ow⟩, by omega, fun j hj => by by_cases q_ : j = i; (subst q_; exact none_of (by assumption)); exact hi1 j (by omega)⟩
 refine SW_exit (x_then (x_then (x_in (n_then ?_))))
 refine sr ?_
 refine oV (.agg #[.int .u64 0, .int .u64 0, .int .i64 0]) ?_
 refine os 1 ?_
 refine L (st [.int .u64 0, .int .u64 0, .int .i64 0] ?_)
 refine os 1 ?_
 refine nt ?_
 refine SW_ret ?_
 refine body_endC [.int .u64 18445336698825998336, .agg #[.int .u64 0, .int .u64 0, .int .i64 0], .bool false] (fun _ => (.cons rfl (.cons ⟨b1, 0, rfl, .inl ⟨[.int .u64 0, .int .u64 0, .int .i64 0], by kernel_rfl, (cells_cons (Cell.own mem_z rfl) (cells_cons (Cell.own mem_z rfl) (cells_cons (Cell.own mem_z rfl) cells_nil))), rfl⟩⟩ (.cons rfl .nil)))) ?_
 exact ⟨(), ow, by rw [look_out (i := i) (by omega) hi1 (.inl (by omega))] <;> rfl⟩

end Go.Proofs.YthflblophelioaaDoor
namespace Go.Proofs.YthflblophelioaaDoor
open Go.Sl

theorem prop_both {W0 : World} (x : WishP) : SC Tryd.prog W0 37 #[.agg #[.int .i64 x.has, .int .u64 x.value, .int .u64 x.get, .int .u64 x.set, .int .i64 x.flags]] [] (Ret (fun _ : Unit => []) (fun v _ => v = .bool (bothP x))) := by
 refine SC_body (fn := Tryd.f37) (n := 13) Tryd.func37 rfl (by kernel_rfl) (ρ := [(0, .agg #[.int .i64 x.has, .int .u64 x.value, .int .u64 x.get, .int .u64 x.set, .int .i64 x.flags])]) rfl ?_
 refine sr ?_
 refine L (nw 65 5 [.int .i64 x.has, .int .u64 x.value, .int .u64 x.get, .int .u64 x.set, .int .i64 x.flags] ?_)
 intro b1
 refine os 1 ?_
 refine nsr ?_
 refine os 1 ?_
 refine L (ld ?_)
 refine oV (.int .i64 (band x.has 48)) ?_
 refine os 2 ?_
 refine tb 7 (fun hg2 => ?_) (fun hg2 => ?_)
 ·replace hg2 : ((band x.has 48) != 0) = true := hg2
  refine os 1 ?_
  refine L (ld ?_)
  refine oV (.int .i64 (band x.has 3)) ?_
  refine os 3 ?_
  refine kp [2, 1, 0] ?_
  refine nt ?_
  refine SW_ret ?_
  refine body_end (.bool ((band x.has 3) != 0)) (fun _ => rfl) ?_
  exact ⟨(), ⟨_, List.Perm.refl _⟩, congrArg Value.bool (by unfold bothP accW datW; simp [*])⟩
 replace hg2 : ((band x.has 48) != 0) = false := hg2
 refine os 6 ?_
 refine kp [2, 1, 0] ?_
 refine nt ?_
 refine SW_ret ?_
 refine body_end (.bool false) (fun _ => rfl) ?_
 exact ⟨(), ⟨_, List.Perm.refl _⟩, congrArg Value.bool (by unfold bothP accW datW; simp [*])⟩

theorem prop_wished {W0 : World} (d : DescP) (x : WishP) : SC Tryd.prog W0 39 #[.agg #[.int .u64 d.1, .int .u64 d.2.1, .int .i64 d.2.2], .agg #[.int .i64 x.has, .int .u64 x.value, .int .u64 x.get, .int .u64 x.set, .int .i64 x.flags]] [] (Ret (fun _ : Unit => []) (fun v _ => v = descV (wishP d x))) := by
 obtain ⟨d1, hd1⟩ : ∃ q, q = wish1 d x := ⟨_, rfl⟩
 obtain ⟨d2, hd2⟩ : ∃ q, q = wish2 d1 x := ⟨_, rfl⟩
 obtain ⟨f1, hf1⟩ : ∃ q, q = flagW x 2 1 d2.2.2 := ⟨_, rfl⟩
 obtain ⟨f2, hf2⟩ : ∃ q, q = flagW x 4 2 f1 := ⟨_, rfl⟩
 obtain ⟨f3, hf3⟩ : ∃ q, q = flagW x 8 4 f2 := ⟨_, rfl⟩
 obtain ⟨d3, hd3⟩ : ∃ q, q = wish3 d2 x := ⟨_, rfl⟩
 obtain ⟨d4, hd4⟩ : ∃ q, q = wish4 d3 x := ⟨_, rfl⟩
 obtain ⟨d5, hd5⟩ : ∃ q, q = wish5 d4 x := ⟨_, rfl⟩
 obtain ⟨d6, hd6⟩ : ∃ q, q = wish6 d5 x := ⟨_, rfl⟩
 have hw : wishP d x = d6 := by unfold wishP; rw [← hd1, ← hd2, ← hd3, ← hd4, ← hd5, ← hd6]
 rw [hw]
 refine SC_body (fn := Tryd.f39) (n := 96) Tryd.func39 rfl (by kernel_rfl) (ρ := [(0, .agg #[.int .u64 d.1, .int .u64 d.2.1, .int .i64 d.2.2]), (1, .agg #[.int .i64 x.has, .int .u64 x.value, .int .u64 x.get, .int .u64 x.set, .int .i64 x.flags])]) rfl ?_
 refine sr ?_
 refine L (nw 41 3 [.int .u64 d.1, .int .u64 d.2.1, .int .i64 d.2.2] ?_)
 intro b1
 refine L (nw 65 5 [.int .i64 x.has, .int .u64 x.value, .int .u64 x.get, .int .u64 x.set, .int .i64 x.flags] ?_)
 intro b2
 refine L (nw 41 3 [.int .u64 0, .int .u64 0, .int .i64 0] ?_)
 intro b3
 refine nsr ?_
 refine L (lds 3 ?_)
 refine L (nw 41 3 [.int .u64 0, .int .u64 0, .int .i64 0] ?_)
 intro b4
 refine L (st [.int .u64 d.1, .int .u64 d.2.1, .int .i64 d.2.2] ?_)
 refine nsr ?_
 refine os 1 ?_
 refine L (ld ?_)
 refine oV (.int .i64 (band x.has 48)) ?_
 refine os 2 ?_
 refine kp [6, 5, 4, 3, 2, 0, 1] ?_
 refine nsr ?_
 refine os 1 ?_
 refine L (ld ?_)
 refine oV (.int .i64 (band x.has 3)) ?_
 refine os 2 ?_
 refine kp [7, 6, 5, 4, 3, 2, 0, 1] ?_
 refine nq ?_
 refine SW_seq ?_
 refine SW_cut3 (fun ρ_ σ_ => Fits ρ_ σ_ [(7, .bool ((band x.has 3) != 0)), (5, pt b4 0), (4, pt b3 0), (3, pt b2 0)] ((b4, .cells 41 3 [.int .u64 d1.1, .int .u64 d1.2.1, .int .i64 d1.2.2]) :: ((b3, .cells 41 3 [.int .u64 0, .int .u64 0, .int .i64 0]) :: ((b2, .cells 65 5 [.int .i64 x.has, .int .u64 x.value, .int .u64 x.get, .int .u64 x.set, .int .i64 x.flags]) :: ((b1, .cells 41 3 [.int .u64 d.1, .int .u64 d.2.1, .int .i64 d.2.2]) :: ([])))))) ?_ ?_
 ·refine SW_region ?_
  refine os 2 ?_
  refine tb 20 (fun hg5 => ?_) (fun hg5 => ?_)
  ·replace hg5 : ((band x.has 48) != 0) = true := hg5
   refine os 1 ?_
   refine L (ld ?_)
   refine oV (.int .i64 (band d.2.2 8)) ?_
   refine os 2 ?_
   refine kp [25, 7, 6, 5, 4, 3, 2, 0, 1] ?_
   refine nt ?_
   refine cd (fun hc6 : ((band d.2.2 8) == 0) = true => ?_) (fun hc6 => ?_)
   ·refine sr ?_
    refine os 1 ?_
    refine L (ld ?_)
    refine oV (.int .i64 (bandn d.2.2 1)) ?_
    refine oV (.int .i64 (bor (bandn d.2.2 1) 8)) ?_
    refine os 1 ?_
    refine L (st [.int .u64 d.1, .int .u64 d.2.1, .int .i64 (bor (bandn d.2.2 1) 8)] ?_)
    refine nr ?_
    refine os 1 ?_
    refine L (st [.int .u64 18445336698825998336, .int .u64 d.2.1, .int .i64 (bor (bandn d.2.2 1) 8)] ?_)
    refine os 1 ?_
    refine kp [32, 25, 7, 6, 5, 4, 3, 2, 0, 1] ?_
    refine L (st [.int .u64 18445336698825998336, .int .u64 18445336698825998336, .int .i64 (bor (bandn d.2.2 1) 8)] ?_)
    refine nt ?_
    have en : d1 = (18445336698825998336, 18445336698825998336, bor (bandn d.2.2 1) 8) := hd1.trans (by unfold wish1 accW; first | exact if_pos (by assumption) | exact if_pos ⟨by assumption, by assumption⟩ | exact ite_ff (by assumption) | exact ite_f1 (by assumption) | exact ite_f2 (by assumption))
    rw [en]
    exact ⟨fun _ => rfl, ow⟩
   refine SW_skip (n_then ?_)
   have en : d1 = (d.1, d.2.1, d.2.2) := hd1.trans (by unfold wish1 accW; first | exact if_pos (by assumption) | exact if_pos ⟨by assumption, by assumption⟩ | exact ite_ff (by assumption) | exact ite_f1 (by assumption) | exact ite_f2 (by assumption))
   rw [en]
   exact ⟨fun _ => rfl, ow⟩
  replace hg5 : ((band x.has 48) != 0) = false := hg5
  refine os 5 ?_
  refine kp [25, 7, 6, 5, 4, 3, 2, 0, 1] ?_
  refine nt ?_
  refine cf ?_
  refine SW_skip (n_then ?_)
  have en : d1 = (d.1, d.2.1, d.2.2) := hd1.trans (by unfold wish1 accW; first | exact if_pos (by assumption) | exact if_pos ⟨by assumption, by assumption⟩ | exact ite_ff (by assumption) | exact ite_f1 (by assumption) | exact ite_f2 (by assumption))
  rw [en]
  exact ⟨fun _ => rfl, ow⟩
 ·rintro ρ_ σ_ hfit
  refine SW_fits hfit ?_
  clear hfit
  refine SW_seq ?_
  refine SW_seq ?_
  refine SW_cut3 (fun ρ_ σ_ => Fits ρ_ σ_ [(5, pt b4 0), (4, pt b3 0), (3, pt b2 0)] ((b4, .cells 41 3 [.int .u64 d2.1, .int .u64 d2.2.1, .int .i64 d2.2.2]) :: ((b3, .cells 41 3 [.int .u64 0, .int .u64 0, .int .i64 0]) :: ((b2, .cells 65 5 [.int .i64 x.has, .int .u64 x.value, .int .u64 x.get, .int .u64 x.set, .int .i64 x.flags]) :: ((b1, .cells 41 3 [.int .u64 d.1, .int .u64 d.2.1, .int .i64 d.2.2]) :: ([])))))) ?_ ?_
  ·refine SW_region ?_
   refine os 2 ?_
   refine tb 34 (fun hg7 => ?_) (fun hg7 => ?_)
   ·replace hg7 : ((band x.has 3) != 0) = true := hg7
    refine os 1 ?_
    refine L (ld ?_)
    refine oV (.int .i64 (band d1.2.2 8)) ?_
    refine os 2 ?_
    refine kp [39, 7, 5, 4, 3] ?_
    refine nt ?_
    refine cd (fun hc8 : ((band d1.2.2 8) != 0) = true => ?_) (fun hc8 => ?_)
    ·refine sr ?_
     refine os 1 ?_
     refine L (ld ?_)
     refine oV (.int .i64 (bandn d1.2.2 8)) ?_
     refine os 1 ?_
     refine L (st [.int .u64 d1.1, .int .u64 d1.2.1, .int .i64 (bandn d1.2.2 8)] ?_)
     refine nr ?_
     refine os 1 ?_
     refine L (st [.int .u64 18445336698825998336, .int .u64 d1.2.1, .int .i64 (bandn d1.2.2 8)] ?_)
     refine os 1 ?_
     refine L (st [.int .u64 18445336698825998336, .int .u64 18445336698825998336, .int .i64 (bandn d1.2.2 8)] ?_)
     refine nt ?_
     have en : d2 = (18445336698825998336, 18445336698825998336, bandn d1.2.2 8) := hd2.trans (by unfold wish2 datW; first | exact if_pos (by assumption) | exact if_pos ⟨by assumption, by assumption⟩ | exact ite_ff (by assumption) | exact ite_f1 (by assumption) | exact ite_f2 (by assumption))
     rw [en]
     exact ⟨fun _ => rfl, ow⟩
    refine SW_skip (n_then ?_)
    have en : d2 = (d1.1, d1.2.1, d1.2.2) := hd2.trans (by unfold wish2 datW; first | exact if_pos (by assumption) | exact if_pos ⟨by assumption, by assumption⟩ | exact ite_ff (by assumption) | exact ite_f1 (by assumption) | exact ite_f2 (by assumption))
    rw [en]
    exact ⟨fun _ => rfl, ow⟩
   replace hg7 : ((band x.has 3) != 0) = false := hg7
   refine os 5 ?_
   refine kp [39, 7, 5, 4, 3] ?_
   refine nt ?_
   refine cf ?_
   refine SW_skip (n_then ?_)
   have en : d2 = (d1.1, d1.2.1, d1.2.2) := hd2.trans (by unfold wish2 datW; first | exact if_pos (by assumption) | exact if_pos ⟨by assumption, by assumption⟩ | exact ite_ff (by assumption) | exact ite_f1 (by assumption) | exact ite_f2 (by assumption))
   rw [en]
   exact ⟨fun _ => rfl, ow⟩
  ·rintro ρ_ σ_ hfit
   refine SW_fits hfit ?_
   clear hfit
   refine SW_seq ?_
   refine sr ?_
   refine oV (.agg #[.int .i64 2, .int .i64 1]) ?_
   refine oV (.agg #[.int .i64 4, .int .i64 2]) ?_
   refine oV (.agg #[.int .i64 8, .int .i64 4]) ?_
   refine L (nws 119 6 3 [.int .i64 2, .int .i64 1, .int .i64 4, .int .i64 2, .int .i64 8, .int .i64 4] ?_)
   intro b9
   refine os 2 ?_
   refine kp [51, 50, 49, 5, 4, 3] ?_
   refine nt ?_
   refine SW_block ?_
   refine SW_rounds 3 ?_
   refine SWr_s ?_
   refine sr ?_
   refine oV (.bool true) ?_
   refine nq ?_
   refine ct ?_
   refine SW_skip (n_then ?_)
   refine SW_seq ?_
   refine SW_block ?_
   refine sr ?_
   refine L (O_indexAddr' 0 (0) b9 0 3 3 .i64 2 Tryd.underlying120 (by kernel_rfl) (fun _ => rfl) (fun _ => rfl) (by omega) (by omega) (by omega) rfl ?_)
   refine L (lds 2 ?_)
   refine L (nw 119 2 [.int .i64 0, .int .i64 0] ?_)
   intro b10
   refine L (st [.int .i64 2, .int .i64 1] ?_)
   refine nsr ?_
   refine os 1 ?_
   refine L (ld ?_)
   refine oV (pt b10 0) ?_
   refine L (ld ?_)
   refine oV (.int .i64 (band x.has 2)) ?_
   refine os 1 ?_
   refine kp [60, 9, 52, 51, 50, 49, 5, 4, 3] ?_
   refine nt ?_
   refine SW_cutI (fun ρ_ σ_ => Fits ρ_ σ_ [(51, .int .i64 0), (50, .int .i64 3), (49, .slice (some ⟨b9, 0, none⟩) 3 3), (5, pt b4 0), (4, pt b3 0), (3, pt b2 0)] ((b10, .cells 119 2 [.int .i64 2, .int .i64 1]) :: ((b9, .cells 119 6 [.int .i64 2, .int .i64 1, .int .i64 4, .int .i64 2, .int .i64 8, .int .i64 4]) :: ((b4, .cells 41 3 [.int .u64 d2.1, .int .u64 d2.2.1, .int .i64 f1]) :: ((b3, .cells 41 3 [.int .u64 0, .int .u64 0, .int .i64 0]) :: ((b2, .cells 65 5 [.int .i64 x.has, .int .u64 x.value, .int .u64 x.get, .int .u64 x.set, .int .i64 x.flags]) :: ((b1, .cells 41 3 [.int .u64 d.1, .int .u64 d.2.1, .int .i64 d.2.2]) :: ([])))))))) ?_ ?_
   ·refine cd (fun hc11 : ((band x.has 2) != 0) = true => ?_) (fun hc11 => ?_)
    ·refine SW_region ?_
     refine os 1 ?_
     refine L (ld ?_)
     refine oV (pt b10 1) ?_
     refine L (ld ?_)
     refine oV (.int .i64 (bandn d2.2.2 1)) ?_
     refine os 1 ?_
     refine L (ld ?_)
     refine oV (pt b10 1) ?_
     refine L (ld ?_)
     refine oV (.int .i64 (band x.flags 1)) ?_
     refine oV (.int .i64 (bor (bandn d2.2.2 1) (band x.flags 1))) ?_
     refine os 1 ?_
     refine kp [72, 71, 60, 9, 52, 51, 50, 49, 5, 4, 3] ?_
     refine L (st [.int .u64 d2.1, .int .u64 d2.2.1, .int .i64 (bor (bandn d2.2.2 1) (band x.flags 1))] ?_)
     refine SL_nil (n_in (n_then ?_))
     have en : f1 = bor (bandn d2.2.2 1) (band x.flags 1) := hf1.trans (by unfold flagW; first | exact if_pos (by assumption) | exact if_pos ⟨by assumption, by assumption⟩ | exact ite_ff (by assumption) | exact ite_f1 (by assumption) | exact ite_f2 (by assumption))
     rw [en]
     exact ⟨fun _ => rfl, ow⟩
    refine SW_skip (n_in (n_then ?_))
    have en : f1 = d2.2.2 := hf1.trans (by unfold flagW; first | exact if_pos (by assumption) | exact if_pos ⟨by assumption, by assumption⟩ | exact ite_ff (by assumption) | exact ite_f1 (by assumption) | exact ite_f2 (by assumption))
    rw [en]
    exact ⟨fun _ => rfl, ow⟩
   ·rintro ρ_ σ_ hfit
    refine SW_fits hfit ?_
    clear hfit
    refine SW_region ?_
    refine oV (.int .i64 1) ?_
    refine os 1 ?_
    refine nt ?_
    refine SWr_s ?_
    refine sr ?_
    refine oV (.bool true) ?_
    refine nq ?_
    refine ct ?_
    refine SW_skip (n_then ?_)
    refine SW_seq ?_
    refine SW_block ?_
    refine sr ?_
    refine L (O_indexAddr' 1 (2) b9 0 3 3 .i64 2 Tryd.underlying120 (by kernel_rfl) (fun _ => rfl) (fun _ => rfl) (by omega) (by omega) (by omega) rfl ?_)
    refine L (lds 2 ?_)
    refine L (nw 119 2 [.int .i64 0, .int .i64 0] ?_)
    intro b12
    refine L (st [.int .i64 4, .int .i64 2] ?_)
    refine nsr ?_
    refine os 1 ?_
    refine L (ld ?_)
    refine oV (pt b12 0) ?_
    refine L (ld ?_)
    refine oV (.int .i64 (band x.has 4)) ?_
    refine os 1 ?_
    refine kp [60, 9, 52, 51, 50, 49, 5, 4, 3] ?_
    refine nt ?_
    refine SW_cutI (fun ρ_ σ_ => Fits ρ_ σ_ [(51, .int .i64 1), (50, .int .i64 3), (49, .slice (some ⟨b9, 0, none⟩) 3 3), (5, pt b4 0), (4, pt b3 0), (3, pt b2 0)] ((b12, .cells 119 2 [.int .i64 4, .int .i64 2]) :: ((b10, .cells 119 2 [.int .i64 2, .int .i64 1]) :: ((b9, .cells 119 6 [.int .i64 2, .int .i64 1, .int .i64 4, .int .i64 2, .int .i64 8, .int .i64 4]) :: ((b4, .cells 41 3 [.int .u64 d2.1, .int .u64 d2.2.1, .int .i64 f2]) :: ((b3, .cells 41 3 [.int .u64 0, .int .u64 0, .int .i64 0]) :: ((b2, .cells 65 5 [.int .i64 x.has, .int .u64 x.value, .int .u64 x.get, .int .u64 x.set, .int .i64 x.flags]) :: ((b1, .cells 41 3 [.int .u64 d.1, .int .u64 d.2.1, .int .i64 d.2.2]) :: ([]))))))))) ?_ ?_
    ·refine cd (fun hc13 : ((band x.has 4) != 0) = true => ?_) (fun hc13 => ?_)
     ·refine SW_region ?_
      refine os 1 ?_
      refine L (ld ?_)
      refine oV (pt b12 1) ?_
      refine L (ld ?_)
      refine oV (.int .i64 (bandn f1 2)) ?_
      refine os 1 ?_
      refine L (ld ?_)
      refine oV (pt b12 1) ?_
      refine L (ld ?_)
      refine oV (.int .i64 (band x.flags 2)) ?_
      refine oV (.int .i64 (bor (bandn f1 2) (band x.flags 2))) ?_
      refine os 1 ?_
      refine kp [72, 71, 60, 9, 52, 51, 50, 49, 5, 4, 3] ?_
      refine L (st [.int .u64 d2.1, .int .u64 d2.2.1, .int .i64 (bor (bandn f1 2) (band x.flags 2))] ?_)
      refine SL_nil (n_in (n_then ?_))
      have en : f2 = bor (bandn f1 2) (band x.flags 2) := hf2.trans (by unfold flagW; first | exact if_pos (by assumption) | exact if_pos ⟨by assumption, by assumption⟩ | exact ite_ff (by assumption) | exact ite_f1 (by assumption) | exact ite_f2 (by assumption))
      rw [en]
      exact ⟨fun _ => rfl, ow⟩
     refine SW_skip (n_in (n_then ?_))
     have en : f2 = f1 := hf2.trans (by unfold flagW; first | exact if_pos (by assumption) | exact if_pos ⟨by assumption, by assumption⟩ | exact ite_ff (by assumption) | exact ite_f1 (by assumption) | exact ite_f2 (by assumption))
     rw [en]
     exact ⟨fun _ => rfl, ow⟩
    ·rintro ρ_ σ_ hfit
     refine SW_fits hfit ?_
     clear hfit
     refine SW_region ?_
     refine oV (.int .i64 2) ?_
     refine os 1 ?_
     refine nt ?_
     refine SWr_s ?_
     refine sr ?_
     refine oV (.bool true) ?_
     refine nq ?_
     refine ct ?_
     refine SW_skip (n_then ?_)
     refine SW_seq ?_
     refine SW_block ?_
     refine sr ?_
     refine L (O_indexAddr' 2 (4) b9 0 3 3 .i64 2 Tryd.underlying120 (by kernel_rfl) (fun _ => rfl) (fun _ => rfl) (by omega) (by omega) (by omega) rfl ?_)
     refine L (lds 2 ?_)
     refine L (nw 119 2 [.int .i64 0, .int .i64 0] ?_)
     intro b14
     refine L (st [.int .i64 8, .int .i64 4] ?_)
     refine nsr ?_
     refine os 1 ?_
     refine L (ld ?_)
     refine oV (pt b14 0) ?_
     refine L (ld ?_)
     refine oV (.int .i64 (band x.has 8)) ?_
     refine os 1 ?_
     refine kp [60, 9, 52, 51, 50, 49, 5, 4, 3] ?_
     refine nt ?_
     refine SW_cutI (fun ρ_ σ_ => Fits ρ_ σ_ [(51, .int .i64 2), (50, .int .i64 3), (49, .slice (some ⟨b9, 0, none⟩) 3 3), (5, pt b4 0), (4, pt b3 0), (3, pt b2 0)] ((b14, .cells 119 2 [.int .i64 8, .int .i64 4]) :: ((b12, .cells 119 2 [.int .i64 4, .int .i64 2]) :: ((b10, .cells 119 2 [.int .i64 2, .int .i64 1]) :: ((b9, .cells 119 6 [.int .i64 2, .int .i64 1, .int .i64 4, .int .i64 2, .int .i64 8, .int .i64 4]) :: ((b4, .cells 41 3 [.int .u64 d2.1, .int .u64 d2.2.1, .int .i64 f3]) :: ((b3, .cells 41 3 [.int .u64 0, .int .u64 0, .int .i64 0]) :: ((b2, .cells 65 5 [.int .i64 x.has, .int .u64 x.value, .int .u64 x.get, .int .u64 x.set, .int .i64 x.flags]) :: ((b1, .cells 41 3 [.int .u64 d.1, .int .u64 d.2.1, .int .i64 d.2.2]) :: ([])))))))))) ?_ ?_
     ·refine cd (fun hc15 : ((band x.has 8) != 0) = true => ?_) (fun hc15 => ?_)
      ·refine SW_region ?_
       refine os 1 ?_
       refine L (ld ?_)
       refine oV (pt b14 1) ?_
       refine L (ld ?_)
       refine oV (.int .i64 (bandn f2 4)) ?_
       refine os 1 ?_
       refine L (ld ?_)
       refine oV (pt b14 1) ?_
       refine L (ld ?_)
       refine oV (.int .i64 (band x.flags 4)) ?_
       refine oV (.int .i64 (bor (bandn f2 4) (band x.flags 4))) ?_
       refine os 1 ?_
       refine kp [72, 71, 60, 9, 52, 51, 50, 49, 5, 4, 3] ?_
       refine L (st [.int .u64 d2.1, .int .u64 d2.2.1, .int .i64 (bor (bandn f2 4) (band x.flags 4))] ?_)
       refine SL_nil (n_in (n_then ?_))
       have en : f3 = bor (bandn f2 4) (band x.flags 4) := hf3.trans (by unfold flagW; first | exact if_pos (by assumption) | exact if_pos ⟨by assumption, by assumption⟩ | exact ite_ff (by assumption) | exact ite_f1 (by assumption) | exact ite_f2 (by assumption))
       rw [en]
       exact ⟨fun _ => rfl, ow⟩
      refine SW_skip (n_in (n_then ?_))
      have en : f3 = f2 := hf3.trans (by unfold flagW; first | exact if_pos (by assumption) | exact if_pos ⟨by assumption, by assumption⟩ | exact ite_ff (by assumption) | exact ite_f1 (by assumption) | exact ite_f2 (by assumption))
      rw [en]
      exact ⟨fun _ => rfl, ow⟩
     ·rintro ρ_ σ_ hfit
      refine SW_fits hfit ?_
      clear hfit
      refine SW_region ?_
      refine oV (.int .i64 3) ?_
      refine os 1 ?_
      refine nt ?_
      refine SWr_z ?_
      refine sr ?_
      refine oV (.bool false) ?_
      refine nq ?_
      refine cf ?_
      refine SW_exit (x_then (x_then (x_in (n_then ?_))))
      refine SW_seq ?_
      refine SW_seq ?_
      have en : d3 = (d2.1, d2.2.1, f3) := hd3.trans (by unfold wish3 flagsW; rw [← hf1, ← hf2, ← hf3])
      refine SW_sig ((b14, .cells 119 2 [.int .i64 8, .int .i64 4]) :: ((b12, .cells 119 2 [.int .i64 4, .int .i64 2]) :: ((b10, .cells 119 2 [.int .i64 2, .int .i64 1]) :: ((b9, .cells 119 6 [.int .i64 2, .int .i64 1, .int .i64 4, .int .i64 2, .int .i64 8, .int .i64 4]) :: ((b4, .cells 41 3 [.int .u64 d3.1, .int .u64 d3.2.1, .int .i64 d3.2.2]) :: ((b3, .cells 41 3 [.int .u64 0, .int .u64 0, .int .i64 0]) :: ((b2, .cells 65 5 [.int .i64 x.has, .int .u64 x.value, .int .u64 x.get, .int .u64 x.set, .int .i64 x.flags]) :: ((b1, .cells 41 3 [.int .u64 d.1, .int .u64 d.2.1, .int .i64 d.2.2]) :: ([]))))))))) (by rw [en]) ?_
      refine SW_region ?_
      refine os 1 ?_
      refine L (ld ?_)
      refine oV (.int .i64 (band x.has 1)) ?_
      refine os 1 ?_
      refine kp [77, 52, 51, 50, 49, 5, 4, 3] ?_
      refine nt ?_
      refine SW_cut (fun ρ_ σ_ => Fits ρ_ σ_ [(5, pt b4 0), (4, pt b3 0), (3, pt b2 0)] ((b14, .cells 119 2 [.int .i64 8, .int .i64 4]) :: ((b12, .cells 119 2 [.int .i64 4, .int .i64 2]) :: ((b10, .cells 119 2 [.int .i64 2, .int .i64 1]) :: ((b9, .cells 119 6 [.int .i64 2, .int .i64 1, .int .i64 4, .int .i64 2, .int .i64 8, .int .i64 4]) :: ((b4, .cells 41 3 [.int .u64 d4.1, .int .u64 d4.2.1, .int .i64 d4.2.2]) :: ((b3, .cells 41 3 [.int .u64 0, .int .u64 0, .int .i64 0]) :: ((b2, .cells 65 5 [.int .i64 x.has, .int .u64 x.value, .int .u64 x.get, .int .u64 x.set, .int .i64 x.flags]) :: ((b1, .cells 41 3 [.int .u64 d.1, .int .u64 d.2.1, .int .i64 d.2.2]) :: ([])))))))))) ?_ ?_
      ·refine cd (fun hc16 : ((band x.has 1) != 0) = true => ?_) (fun hc16 => ?_)
       ·refine SW_region ?_
        refine os 1 ?_
        refine L (ld ?_)
        refine os 1 ?_
        refine L (st [.int .u64 x.value, .int .u64 d3.2.1, .int .i64 d3.2.2] ?_)
        refine nt ?_
        have en : d4 = (x.value, d3.2.1, d3.2.2) := hd4.trans (by unfold wish4; first | exact if_pos (by assumption) | exact if_pos ⟨by assumption, by assumption⟩ | exact ite_ff (by assumption) | exact ite_f1 (by assumption) | exact ite_f2 (by assumption))
        rw [en]
        exact ⟨fun _ => rfl, ow⟩
       refine SW_skip (n_then ?_)
       have en : d4 = (d3.1, d3.2.1, d3.2.2) := hd4.trans (by unfold wish4; first | exact if_pos (by assumption) | exact if_pos ⟨by assumption, by assumption⟩ | exact ite_ff (by assumption) | exact ite_f1 (by assumption) | exact ite_f2 (by assumption))
       rw [en]
       exact ⟨fun _ => rfl, ow⟩
      ·rintro ρ_ σ_ hfit
       refine SW_fits hfit ?_
       clear hfit
       refine SW_seq ?_
       refine sr ?_
       refine os 1 ?_
       refine L (ld ?_)
       refine oV (.int .i64 (band x.has 16)) ?_
       refine os 1 ?_
       refine kp [84, 5, 4, 3] ?_
       refine nt ?_
       refine SW_cut (fun ρ_ σ_ => Fits ρ_ σ_ [(5, pt b4 0), (4, pt b3 0), (3, pt b2 0)] ((b14, .cells 119 2 [.int .i64 8, .int .i64 4]) :: ((b12, .cells 119 2 [.int .i64 4, .int .i64 2]) :: ((b10, .cells 119 2 [.int .i64 2, .int .i64 1]) :: ((b9, .cells 119 6 [.int .i64 2, .int .i64 1, .int .i64 4, .int .i64 2, .int .i64 8, .int .i64 4]) :: ((b4, .cells 41 3 [.int .u64 d5.1, .int .u64 d5.2.1, .int .i64 d5.2.2]) :: ((b3, .cells 41 3 [.int .u64 0, .int .u64 0, .int .i64 0]) :: ((b2, .cells 65 5 [.int .i64 x.has, .int .u64 x.value, .int .u64 x.get, .int .u64 x.set, .int .i64 x.flags]) :: ((b1, .cells 41 3 [.int .u64 d.1, .int .u64 d.2.1, .int .i64 d.2.2]) :: ([])))))))))) ?_ ?_
       ·refine cd (fun hc17 : ((band x.has 16) != 0) = true => ?_) (fun hc17 => ?_)
        ·refine SW_region ?_
         refine os 1 ?_
         refine L (ld ?_)
         refine os 1 ?_
         refine L (st [.int .u64 x.get, .int .u64 d4.2.1, .int .i64 d4.2.2] ?_)
         refine nt ?_
         have en : d5 = (x.get, d4.2.1, d4.2.2) := hd5.trans (by unfold wish5; first | exact if_pos (by assumption) | exact if_pos ⟨by assumption, by assumption⟩ | exact ite_ff (by assumption) | exact ite_f1 (by assumption) | exact ite_f2 (by assumption))
         rw [en]
         exact ⟨fun _ => rfl, ow⟩
        refine SW_skip (n_then ?_)
        have en : d5 = (d4.1, d4.2.1, d4.2.2) := hd5.trans (by unfold wish5; first | exact if_pos (by assumption) | exact if_pos ⟨by assumption, by assumption⟩ | exact ite_ff (by assumption) | exact ite_f1 (by assumption) | exact ite_f2 (by assumption))
        rw [en]
        exact ⟨fun _ => rfl, ow⟩
       ·rintro ρ_ σ_ hfit
        refine SW_fits hfit ?_
        clear hfit
        refine SW_seq ?_
        refine sr ?_
        refine os 1 ?_
        refine L (ld ?_)
        refine oV (.int .i64 (band x.has 32)) ?_
        refine os 1 ?_
        refine kp [91, 5, 4, 3] ?_
        refine nt ?_
        refine SW_cut (fun ρ_ σ_ => Fits ρ_ σ_ [(5, pt b4 0), (4, pt b3 0), (3, pt b2 0)] ((b14, .cells 119 2 [.int .i64 8, .int .i64 4]) :: ((b12, .cells 119 2 [.int .i64 4, .int .i64 2]) :: ((b10, .cells 119 2 [.int .i64 2, .int .i64 1]) :: ((b9, .cells 119 6 [.int .i64 2, .int .i64 1, .int .i64 4, .int .i64 2, .int .i64 8, .int .i64 4]) :: ((b4, .cells 41 3 [.int .u64 d6.1, .int .u64 d6.2.1, .int .i64 d6.2.2]) :: ((b3, .cells 41 3 [.int .u64 0, .int .u64 0, .int .i64 0]) :: ((b2, .cells 65 5 [.int .i64 x.has, .int .u64 x.value, .int .u64 x.get, .int .u64 x.set, .int .i64 x.flags]) :: ((b1, .cells 41 3 [.int .u64 d.1, .int .u64 d.2.1, .int .i64 d.2.2]) :: ([])))))))))) ?_ ?_
        ·refine cd (fun hc18 : ((band x.has 32) != 0) = true => ?_) (fun hc18 => ?_)
         ·refine SW_region ?_
          refine os 1 ?_
          refine L (ld ?_)
          refine os 1 ?_
          refine L (st [.int .u64 d5.1, .int .u64 x.set, .int .i64 d5.2.2] ?_)
          refine nt ?_
          have en : d6 = (d5.1, x.set, d5.2.2) := hd6.trans (by unfold wish6; first | exact if_pos (by assumption) | exact if_pos ⟨by assumption, by assumption⟩ | exact ite_ff (by assumption) | exact ite_f1 (by assumption) | exact ite_f2 (by assumption))
          rw [en]
          exact ⟨fun _ => rfl, ow⟩
         refine SW_skip (n_then ?_)
         have en : d6 = (d5.1, d5.2.1, d5.2.2) := hd6.trans (by unfold wish6; first | exact if_pos (by assumption) | exact if_pos ⟨by assumption, by assumption⟩ | exact ite_ff (by assumption) | exact ite_f1 (by assumption) | exact ite_f2 (by assumption))
         rw [en]
         exact ⟨fun _ => rfl, ow⟩
        ·rintro ρ_ σ_ hfit
         refine SW_fits hfit ?_
         clear hfit
         refine sr ?_
         refine L (lds 3 ?_)
         refine L (st [.int .u64 d6.1, .int .u64 d6.2.1, .int .i64 d6.2.2] ?_)
         refine nt ?_
         refine SW_ret ?_
         refine body_endC [.agg #[.int .u64 d6.1, .int .u64 d6.2.1, .int .i64 d6.2.2]] (fun _ => (.cons ⟨b3, 0, rfl, .inl ⟨[.int .u64 d6.1, .int .u64 d6.2.1, .int .i64 d6.2.2], by kernel_rfl, (cells_cons (Cell.own mem_z rfl) (cells_cons (Cell.own mem_z rfl) (cells_cons (Cell.own mem_z rfl) cells_nil))), rfl⟩⟩ .nil)) ?_
         exact ⟨(), ⟨_, List.Perm.refl _⟩, rfl⟩

end Go.Proofs.YthflblophelioaaDoor
namespace Go.Proofs.YthflblophelioaaDoor
open Go.Sl

theorem prop_may {W0 : World} (d e : DescP) : SC Tryd.prog W0 40 #[.agg #[.int .u64 d.1, .int .u64 d.2.1, .int .i64 d.2.2], .agg #[.int .u64 e.1, .int .u64 e.2.1, .int .i64 e.2.2]] [] (Ret (fun _ : Unit => []) (fun v _ => v = .bool (mayW d e))) := by
 refine SC_body (fn := Tryd.f40) (n := 39) Tryd.func40 rfl (by kernel_rfl) (ρ := [(0, .agg #[.int .u64 d.1, .int .u64 d.2.1, .int .i64 d.2.2]), (1, .agg #[.int .u64 e.1, .int .u64 e.2.1, .int .i64 e.2.2])]) rfl ?_
 refine sr ?_
 refine L (nw 41 3 [.int .u64 d.1, .int .u64 d.2.1, .int .i64 d.2.2] ?_)
 intro b1
 refine L (nw 41 3 [.int .u64 e.1, .int .u64 e.2.1, .int .i64 e.2.2] ?_)
 intro b2
 refine os 1 ?_
 refine nq ?_
 refine sr ?_
 refine os 1 ?_
 refine L (ld ?_)
 refine oV (.int .i64 (band d.2.2 4)) ?_
 refine os 2 ?_
 refine tb 9 (fun hg3 => ?_) (fun hg3 => ?_)
 ·replace hg3 : ((band d.2.2 4) != 0) = true := hg3
  refine os 4 ?_
  refine kp [13, 4, 3, 2, 0, 1] ?_
  refine nt ?_
  refine ct ?_
  refine sr ?_
  refine os 1 ?_
  refine nt ?_
  refine SW_ret (r_then ?_)
  refine body_end (.bool true) (fun _ => rfl) ?_
  exact ⟨(), ⟨_, List.Perm.refl _⟩, congrArg Value.bool (by rw [mayW_eq]; unfold deqB; simp only [*, Bool.or_true, Bool.true_or, Bool.false_or, Bool.or_false, Bool.not_true, Bool.not_false, Bool.true_and, Bool.false_and, Bool.and_true, Bool.and_false])⟩
 replace hg3 : ((band d.2.2 4) != 0) = false := hg3
 refine L (lds 3 ?_)
 refine L (lds 3 ?_)
 refine oV (.bool ((d.1 == e.1) && ((d.2.1 == e.2.1) && (d.2.2 == e.2.2)))) ?_ (hs := eqlD)
 refine os 1 ?_
 refine kp [13, 4, 3, 2, 0, 1] ?_
 refine nt ?_
 refine cd (fun hc4 : (((d.1 == e.1) && ((d.2.1 == e.2.1) && (d.2.2 == e.2.2)))) = true => ?_) (fun hc4 => ?_)
 ·refine sr ?_
  refine os 1 ?_
  refine nt ?_
  refine SW_ret (r_then ?_)
  refine body_end (.bool true) (fun _ => rfl) ?_
  exact ⟨(), ⟨_, List.Perm.refl _⟩, congrArg Value.bool (by rw [mayW_eq]; unfold deqB; simp only [*, Bool.or_true, Bool.true_or, Bool.false_or, Bool.or_false, Bool.not_true, Bool.not_false, Bool.true_and, Bool.false_and, Bool.and_true, Bool.and_false])⟩
 refine SW_skip (n_then ?_)
 refine SW_seq ?_
 refine sr ?_
 refine os 1 ?_
 refine L (ld ?_)
 refine oV (.int .i64 (bandn d.2.2 1)) ?_
 refine os 1 ?_
 refine L (ld ?_)
 refine oV (.int .i64 (bandn e.2.2 1)) ?_
 refine os 2 ?_
 refine kp [21, 13, 4, 3, 2, 0, 1] ?_
 refine tb 21 (fun hg5 => ?_) (fun hg5 => ?_)
 ·replace hg5 : ((bandn d.2.2 1) != (bandn e.2.2 1)) = true := hg5
  refine os 5 ?_
  refine kp [26, 13, 4, 3, 2, 0, 1] ?_
  refine nt ?_
  refine ct ?_
  refine sr ?_
  refine os 1 ?_
  refine nt ?_
  refine SW_ret (r_then ?_)
  refine body_end (.bool false) (fun _ => rfl) ?_
  exact ⟨(), ⟨_, List.Perm.refl _⟩, congrArg Value.bool (by rw [mayW_eq]; unfold deqB; simp only [*, Bool.or_true, Bool.true_or, Bool.false_or, Bool.or_false, Bool.not_true, Bool.not_false, Bool.true_and, Bool.false_and, Bool.and_true, Bool.and_false])⟩
 replace hg5 : ((bandn d.2.2 1) != (bandn e.2.2 1)) = false := hg5
 refine os 1 ?_
 refine L (ld ?_)
 refine oV (.int .i64 (band d.2.2 8)) ?_
 refine os 2 ?_
 refine kp [26, 13, 4, 3, 2, 0, 1] ?_
 refine nt ?_
 refine cd (fun hc6 : ((band d.2.2 8) != 0) = true => ?_) (fun hc6 => ?_)
 ·refine sr ?_
  refine os 1 ?_
  refine nt ?_
  refine SW_ret (r_then ?_)
  refine body_end (.bool false) (fun _ => rfl) ?_
  exact ⟨(), ⟨_, List.Perm.refl _⟩, congrArg Value.bool (by rw [mayW_eq]; unfold deqB; simp only [*, Bool.or_true, Bool.true_or, Bool.false_or, Bool.or_false, Bool.not_true, Bool.not_false, Bool.true_and, Bool.false_and, Bool.and_true, Bool.and_false])⟩
 refine SW_skip (n_then ?_)
 refine sr ?_
 refine os 1 ?_
 refine L (ld ?_)
 refine oV (.int .i64 (band d.2.2 1)) ?_
 refine os 2 ?_
 refine tb 31 (fun hg7 => ?_) (fun hg7 => ?_)
 ·replace hg7 : ((band d.2.2 1) != 0) = true := hg7
  refine os 1 ?_
  refine L (ld ?_)
  refine oV (.int .i64 (bor e.2.2 1)) ?_
  refine os 1 ?_
  refine kp [35, 34, 31, 26, 13, 4, 3, 2, 0, 1] ?_
  refine L (ld ?_)
  refine os 3 ?_
  refine kp [4, 26, 13, 3, 2, 0, 1] ?_
  refine nt ?_
  refine SW_ret ?_
  refine body_end (.bool ((bor e.2.2 1) == d.2.2)) (fun _ => rfl) ?_
  exact ⟨(), ⟨_, List.Perm.refl _⟩, congrArg Value.bool (by rw [mayW_eq]; unfold deqB; simp only [*, Bool.or_true, Bool.true_or, Bool.false_or, Bool.or_false, Bool.not_true, Bool.not_false, Bool.true_and, Bool.false_and, Bool.and_true, Bool.and_false])⟩
 replace hg7 : ((band d.2.2 1) != 0) = false := hg7
 refine os 8 ?_
 refine kp [4, 26, 13, 3, 2, 0, 1] ?_
 refine nt ?_
 refine SW_ret ?_
 refine body_end (.bool false) (fun _ => rfl) ?_
 exact ⟨(), ⟨_, List.Perm.refl _⟩, congrArg Value.bool (by rw [mayW_eq]; unfold deqB; simp only [*, Bool.or_true, Bool.true_or, Bool.false_or, Bool.or_false, Bool.not_true, Bool.not_false, Bool.true_and, Bool.false_and, Bool.and_true, Bool.and_false])⟩

theorem prop_length {W0 : World} {k : Nat} {H : HeapV} {F : HeapF} (hk : k ≤ 8000000) (h : HInv k H F) (w y : Int) : SC Tryd.prog W0 42 #[.pointer (some ⟨F.p, 0, none⟩), .int .u64 w, .int .u64 y] (HeapV.ent H F) (Ret (fun H2 : HeapV => HeapV.ent H2 F) (fun v H2 => v = .bool (lenGo (H.pub F) w y).2 ∧ PStp k H H2 F (lenGo (H.pub F) w y).1)) := by
 refine SC_body (fn := Tryd.f42) (n := 22) Tryd.func42 rfl (by kernel_rfl) (ρ := [(0, pt F.p 0), (1, .int .u64 w), (2, .int .u64 y)]) rfl ?_
 refine SW_sig ((HeapV.ent H F) ++ ([])) (by simp only [List.append_nil, List.append_assoc]) ?_
 refine sr ?_
 refine os 1 ?_
 refine nsr ?_
 refine os 1 ?_
 rcases hm1 : isI y with _ | m1
 ·refine L (cl (word_IsInt (w := y)) ?_)
  rintro v1 _ hv1
  obtain rfl : v1 = .tuple #[.int .i32 0, .bool false] := hv1.trans (by rw [hm1])
  refine un ?_
  refine os 5 ?_
  refine kp [8, 7, 6, 0, 1, 2] ?_
  refine nsr ?_
  refine os 9 ?_
  refine kp [6, 8, 7, 0, 1, 2] ?_
  refine nt ?_
  refine SW_ret ?_
  refine body_end (.bool false) (fun _ => rfl) ?_
  exact ⟨H, ow, by rw [show lenGo (H.pub F) w y = (H.pub F, false) from by unfold lenGo; rw [hm1]]; exact ⟨rfl, PStp.same h⟩⟩
 have hir := isI_range hm1
 refine L (cl (word_IsInt (w := y)) ?_)
 rintro v2 _ hv2
 obtain rfl : v2 = .tuple #[.int .i32 m1, .bool true] := hv2.trans (by rw [hm1])
 refine un ?_
 refine os 5 ?_
 refine kp [8, 7, 6, 0, 1, 2] ?_
 refine nsr ?_
 refine os 6 ?_
 refine L (cl (hq_SetLen hk h w m1) ?_)
 rintro _ H2 ⟨rfl, hst⟩
 refine os 2 ?_
 refine kp [6, 8, 7, 0, 1, 2] ?_
 refine nt ?_
 refine SW_ret ?_
 refine body_end (.bool (lenQ (H.pub F) w m1)) (fun _ => rfl) ?_
 exact ⟨H2, ow, by rw [show lenGo (H.pub F) w y = (modP (H.pub F) w (lenO m1), lenQ (H.pub F) w m1) from by unfold lenGo; rw [hm1]]; exact ⟨rfl, hst.p⟩⟩

end Go.Proofs.YthflblophelioaaDoor
namespace Go.Proofs.YthflblophelioaaDoor
open Go.Sl

theorem prop_Define {W0 : World} (hL : Laid W0) {k : Nat} {H : HeapV} {F : HeapF} (h : HInv k H F) (hk : k ≤ 8000000) (hfl : ∀ o ∈ HeapV.pub H F, ∀ d ∈ o.descs, normF d.2.2 = d.2.2) (w : Int) {key : ByteArray} (hks : key.size ≤ 281474976710656) (x : WishP) : SC Tryd.prog W0 23 #[.pointer (some ⟨F.p, 0, none⟩), .int .u64 w, .string key, .agg #[.int .i64 x.has, .int .u64 x.value, .int .u64 x.get, .int .u64 x.set, .int .i64 x.flags]] (HeapV.ent H F) (Ret (fun H2 : HeapV => HeapV.ent H2 F) (fun v H2 => v = .bool (defP (HeapV.pub H F) w key x).2 ∧ PStp (k + 1) H H2 F (defP (HeapV.pub H F) w key x).1)) := by
 refine SC_body (fn := Tryd.f23) (n := 96) Tryd.func23 rfl (by kernel_rfl) (ρ := [(0, pt F.p 0), (1, .int .u64 w), (2, .string key), (3, .agg #[.int .i64 x.has, .int .u64 x.value, .int .u64 x.get, .int .u64 x.set, .int .i64 x.flags])]) rfl ?_
 refine SW_sig ((HeapV.ent H F) ++ ([])) (by simp only [List.append_nil, List.append_assoc]) ?_
 refine sr ?_
 refine L (nw 65 5 [.int .i64 x.has, .int .u64 x.value, .int .u64 x.get, .int .u64 x.set, .int .i64 x.flags] ?_)
 intro b1
 refine os 1 ?_
 refine nsr ?_
 refine os 2 ?_
 refine L (cl (hz_Kind h w) ?_)
 rintro _ _ rfl
 refine os 5 ?_
 refine kp [10, 8, 7, 0, 1, 2, 3] ?_
 refine nq ?_
 refine sr ?_
 refine os 3 ?_
 refine tb 24 (fun hg2 => ?_) (fun hg2 => ?_)
 ·replace hg2 : (!((kindQ (HeapV.pub H F) w).2)) = true := hg2
  replace hg2 := bnot_t hg2
  refine os 3 ?_
  refine kp [27, 10, 8, 7, 0, 1, 2, 3] ?_
  refine nt ?_
  refine ct ?_
  refine sr ?_
  refine os 1 ?_
  refine nt ?_
  refine SW_ret (r_then ?_)
  refine body_end (.bool false) (fun _ => rfl) ?_
  exact ⟨H, ow, by rw [defP_no (by first | exact .inl (by assumption) | exact .inr (.inl (by assumption)))]; exact ⟨rfl, (PStp.same h).mono (Nat.le_succ _)⟩⟩
 replace hg2 : (!((kindQ (HeapV.pub H F) w).2)) = false := hg2
 replace hg2 := bnot_f hg2
 refine L (lds 5 ?_)
 refine L (cl (prop_both x) ?_)
 rintro _ _ rfl
 refine un ?_
 refine os 1 ?_
 refine kp [27, 10, 8, 7, 0, 1, 2, 3] ?_
 refine nt ?_
 refine cd (fun hc3 : ((bothP x)) = true => ?_) (fun hc3 => ?_)
 ·refine sr ?_
  refine os 1 ?_
  refine nt ?_
  refine SW_ret (r_then ?_)
  refine body_end (.bool false) (fun _ => rfl) ?_
  exact ⟨H, ow, by rw [defP_no (by first | exact .inl (by assumption) | exact .inr (.inl (by assumption)))]; exact ⟨rfl, (PStp.same h).mono (Nat.le_succ _)⟩⟩
 refine SW_skip (n_then ?_)
 refine sr ?_
 refine os 3 ?_
 refine L (cl (prop_Own hL h w hks) ?_)
 rintro v3 _ hv3
 obtain rfl : v3 = .tuple #[.agg #[.int .u64 ((descG (ownQ (HeapV.pub H F) w key)).1), .int .u64 ((descG (ownQ (HeapV.pub H F) w key)).2.1), .int .i64 ((descG (ownQ (HeapV.pub H F) w key)).2.2)], .bool ((ownQ (HeapV.pub H F) w key).isSome)] := hv3.trans (descR_eq _)
 refine os 3 ?_
 refine L (nw 41 3 [.int .u64 0, .int .u64 0, .int .i64 0] ?_)
 intro b4
 refine L (st [.int .u64 ((descG (ownQ (HeapV.pub H F) w key)).1), .int .u64 ((descG (ownQ (HeapV.pub H F) w key)).2.1), .int .i64 ((descG (ownQ (HeapV.pub H F) w key)).2.2)] ?_)
 refine os 1 ?_
 refine kp [12, 11, 27, 10, 8, 7, 0, 1, 2, 3] ?_
 refine nq ?_
 refine sr ?_
 refine os 2 ?_
 refine nt ?_
 refine cd (fun hc5 : (!((ownQ (HeapV.pub H F) w key).isSome)) = true => ?_) (fun hc5 => ?_)
 ·replace hc5 := bnot_t hc5
  refine SW_seq ?_
  refine sr ?_
  refine os 2 ?_
  refine L (cl (hz_Open h w) ?_)
  rintro _ _ rfl
  refine os 1 ?_
  refine kp [40, 36, 12, 11, 27, 10, 8, 7, 0, 1, 2, 3] ?_
  refine nt ?_
  refine cd (fun hc6 : (!(openQ (HeapV.pub H F) w)) = true => ?_) (fun hc6 => ?_)
  ·replace hc6 := bnot_t hc6
   refine sr ?_
   refine os 1 ?_
   refine nt ?_
   refine SW_ret (r_then (r_then ?_))
   refine body_end (.bool false) (fun _ => rfl) ?_
   exact ⟨H, ow, by rw [defP_no (by exact .inr (.inr (.inl ⟨by assumption, by assumption⟩)))]; exact ⟨rfl, (PStp.same h).mono (Nat.le_succ _)⟩⟩
  replace hc6 := bnot_f hc6
  refine SW_skip (n_then ?_)
  refine SW_region ?_
  refine oV (.agg #[.int .u64 18445336698825998336, .int .u64 18445336698825998336, .int .i64 0]) ?_
  refine L (st [.int .u64 18445336698825998336, .int .u64 18445336698825998336, .int .i64 0] ?_)
  refine nq ?_
  have ho : (ownQ (HeapV.pub H F) w key).getD zeroD = (undefW, undefW, 0) := getD_none (by assumption)
  obtain ⟨d, hd⟩ : ∃ q, q = defD (HeapV.pub H F) w key x := ⟨_, rfl⟩
  refine SW_region ?_
  refine L (lds 3 ?_)
  refine L (lds 5 ?_)
  refine L (cl (prop_wished (undefW, undefW, 0) x) ?_)
  rintro v5 _ hv5
  obtain rfl : v5 = .agg #[.int .u64 d.1, .int .u64 d.2.1, .int .i64 d.2.2] := hv5.trans (by rw [hd, defD, ho])
  refine un ?_
  refine L (nw 41 3 [.int .u64 0, .int .u64 0, .int .i64 0] ?_)
  intro b7
  refine L (st [.int .u64 d.1, .int .u64 d.2.1, .int .i64 d.2.2] ?_)
  refine nq ?_
  refine sr ?_
  refine os 2 ?_
  refine pn 46 (show ((ownQ (HeapV.pub H F) w key).isSome) = false from (by assumption)) ?_
  refine os 5 ?_
  refine kp [51, 13, 40, 36, 12, 11, 27, 10, 8, 7, 0, 1, 2, 3] ?_
  refine nt ?_
  refine cf ?_
  refine SW_skip (n_then ?_)
  refine SW_seq ?_
  refine SW_seq ?_
  have hno : ¬ defNo (HeapV.pub H F) w key x := by
    rintro (a_ | a_ | ⟨a_, b_⟩ | ⟨a_, b_⟩)
    · have z_ : (kindQ (HeapV.pub H F) w).2 = true := by assumption
      rw [a_] at z_; cases z_
    · have z_ : bothP x = false := by assumption
      rw [a_] at z_; cases z_
    · have z_ : openQ (HeapV.pub H F) w = true := by assumption
      rw [b_] at z_; cases z_
    · have z_ : (ownQ (HeapV.pub H F) w key).isSome = false := by assumption
      rw [a_] at z_; cases z_
  refine SW_region ?_
  refine os 2 ?_
  refine L (cl (prop_array h w) ?_)
  rintro _ _ rfl
  refine nt ?_
  refine cd (fun hc9 : ((arrP (HeapV.pub H F) w)) = true => ?_) (fun hc9 => ?_)
  ·refine SW_seq ?_
   refine sr ?_
   refine os 1 ?_
   refine oX (.bool (key.toList == (ByteArray.mk (List.toArray (List.cons 108 (List.cons 101 (List.cons 110 (List.cons 103 (List.cons 116 (List.cons 104 List.nil)))))))).toList)) (.bool (decide (key = (ByteArray.mk (List.toArray (List.cons 108 (List.cons 101 (List.cons 110 (List.cons 103 (List.cons 116 (List.cons 104 List.nil))))))))))) (congrArg Value.bool (by rw [str_eq])) ?_
   refine kp [56, 54, 51, 13, 40, 36, 12, 11, 27, 10, 8, 7, 0, 1, 2, 3] ?_
   refine nt ?_
   refine cdp (fun hc10 : key = (ByteArray.mk (List.toArray (List.cons 108 (List.cons 101 (List.cons 110 (List.cons 103 (List.cons 116 (List.cons 104 List.nil)))))))) => ?_) (fun hc10 => ?_)
   ·refine sr ?_
    refine os 1 ?_
    refine L (ld ?_)
    refine os 2 ?_
    refine tb 60 (fun hg11 => ?_) (fun hg11 => ?_)
    ·replace hg11 : (d.2.2 == 1) = true := hg11
     refine os 3 ?_
     refine L (ld ?_)
     refine L (cl (prop_length hk h w d.1) ?_)
     rintro _ H2 ⟨rfl, hst⟩
     refine os 2 ?_
     refine kp [8, 56, 54, 51, 13, 40, 36, 12, 11, 27, 10, 7, 0, 1, 2, 3] ?_
     refine nt ?_
     refine SW_ret (r_then (r_then ?_))
     refine body_end (.bool ((lenGo (HeapV.pub H F) w d.1).2)) (fun _ => rfl) ?_
     rw [defP_go hno, ← hd]
     rw [defGo_len (by assumption) (by assumption) (by assumption)]
     exact ⟨H2, ow, rfl, hst.mono (Nat.le_succ _)⟩
    replace hg11 : (d.2.2 == 1) = false := hg11
    refine os 7 ?_
    refine kp [8, 56, 54, 51, 13, 40, 36, 12, 11, 27, 10, 7, 0, 1, 2, 3] ?_
    refine nt ?_
    refine SW_ret (r_then (r_then ?_))
    refine body_end (.bool false) (fun _ => rfl) ?_
    rw [defP_go hno, ← hd]
    rw [defGo_len' (by assumption) (by assumption) (by assumption)]
    exact ⟨H, ow, rfl, (PStp.same h).mono (Nat.le_succ _)⟩
   refine SW_skip (n_then ?_)
   refine sr ?_
   refine os 1 ?_
   refine L (cl (prop_Index hL hks) ?_)
   rintro _ _ rfl
   refine un ?_
   refine os 5 ?_
   refine kp [15, 14, 56, 54, 51, 13, 40, 36, 12, 11, 27, 10, 8, 7, 0, 1, 2, 3] ?_
   refine nsr ?_
   refine os 1 ?_
   refine nt ?_
   refine cd (fun hc12 : ((idxV key).2) = true => ?_) (fun hc12 => ?_)
   ·refine sr ?_
    refine os 1 ?_
    refine L (ld ?_)
    refine os 2 ?_
    refine tb 76 (fun hg13 => ?_) (fun hg13 => ?_)
    ·replace hg13 : (d.2.2 == 7) = true := hg13
     refine os 4 ?_
     refine L (ld ?_)
     refine L (cl (hq_SetElem hk h w ((idxV key).1) d.1) ?_)
     rintro _ H2 ⟨rfl, hst⟩
     refine os 2 ?_
     refine kp [8, 72, 15, 14, 56, 54, 51, 13, 40, 36, 12, 11, 27, 10, 7, 0, 1, 2, 3] ?_
     refine nt ?_
     refine SW_ret (r_then ?_)
     refine body_end (.bool (setQ (HeapV.pub H F) w ((idxV key).1))) (fun _ => rfl) ?_
     rw [defP_go hno, ← hd]
     rw [defGo_ix (by assumption) (by assumption) (by assumption) (by assumption)]
     exact ⟨H2, ow, rfl, hst.p.mono (Nat.le_succ _)⟩
    replace hg13 : (d.2.2 == 7) = false := hg13
    refine os 8 ?_
    refine kp [8, 72, 15, 14, 56, 54, 51, 13, 40, 36, 12, 11, 27, 10, 7, 0, 1, 2, 3] ?_
    refine nt ?_
    refine SW_ret (r_then ?_)
    refine body_end (.bool false) (fun _ => rfl) ?_
    rw [defP_go hno, ← hd]
    rw [defGo_ix' (by assumption) (by assumption) (by assumption) (by assumption)]
    exact ⟨H, ow, rfl, (PStp.same h).mono (Nat.le_succ _)⟩
   refine SW_skip (n_then ?_)
   refine SW_seq ?_
   refine sr ?_
   refine os 1 ?_
   refine oV (.bool true) ?_
   refine os 5 ?_
   refine kp [90, 72, 15, 14, 56, 54, 51, 13, 40, 36, 12, 11, 27, 10, 8, 7, 0, 1, 2, 3] ?_
   refine nt ?_
   refine ct ?_
   refine SW_region ?_
   refine os 3 ?_
   refine L (lds 3 ?_)
   refine L (cl (hq_Put hk h w key d) ?_)
   rintro _ H2 ⟨rfl, hst⟩
   refine nsr ?_
   refine os 1 ?_
   refine kp [8, 90, 72, 15, 14, 56, 54, 51, 13, 40, 36, 12, 11, 27, 10, 7, 0, 1, 2, 3] ?_
   refine nt ?_
   refine SW_ret ?_
   refine body_end (.bool true) (fun _ => rfl) ?_
   rw [defP_go hno, ← hd]
   rw [defGo_put (by assumption) (by assumption) (by assumption)]
   exact ⟨H2, ow, rfl, hst.p⟩
  refine SW_skip (n_then ?_)
  refine SW_seq ?_
  refine sr ?_
  refine os 1 ?_
  refine oV (.bool true) ?_
  refine os 5 ?_
  refine kp [90, 54, 51, 13, 40, 36, 12, 11, 27, 10, 8, 7, 0, 1, 2, 3] ?_
  refine nt ?_
  refine ct ?_
  refine SW_region ?_
  refine os 3 ?_
  refine L (lds 3 ?_)
  refine L (cl (hq_Put hk h w key d) ?_)
  rintro _ H2 ⟨rfl, hst⟩
  refine nsr ?_
  refine os 1 ?_
  refine kp [8, 90, 54, 51, 13, 40, 36, 12, 11, 27, 10, 7, 0, 1, 2, 3] ?_
  refine nt ?_
  refine SW_ret ?_
  refine body_end (.bool true) (fun _ => rfl) ?_
  rw [defP_go hno, ← hd]
  rw [defGo_plain (by assumption)]
  exact ⟨H2, ow, rfl, hst.p⟩
 replace hc5 := bnot_f hc5
 refine SW_skip (n_then ?_)
 refine SW_seq ?_
 have ho : (ownQ (HeapV.pub H F) w key).getD zeroD = descG (ownQ (HeapV.pub H F) w key) := getD_some (by assumption)
 obtain ⟨d, hd⟩ : ∃ q, q = defD (HeapV.pub H F) w key x := ⟨_, rfl⟩
 refine SW_region ?_
 refine L (lds 3 ?_)
 refine L (lds 5 ?_)
 refine L (cl (prop_wished (descG (ownQ (HeapV.pub H F) w key)) x) ?_)
 rintro v12 _ hv12
 obtain rfl : v12 = .agg #[.int .u64 d.1, .int .u64 d.2.1, .int .i64 d.2.2] := hv12.trans (by rw [hd, defD, ho])
 refine un ?_
 refine L (nw 41 3 [.int .u64 0, .int .u64 0, .int .i64 0] ?_)
 intro b14
 refine L (st [.int .u64 d.1, .int .u64 d.2.1, .int .i64 d.2.2] ?_)
 refine nq ?_
 refine sr ?_
 refine os 2 ?_
 refine pn 46 (show ((ownQ (HeapV.pub H F) w key).isSome) = true from (by assumption)) ?_
 refine L (lds 3 ?_)
 refine L (lds 3 ?_)
 refine L (cl (prop_may (descG (ownQ (HeapV.pub H F) w key)) d) ?_)
 rintro _ _ rfl
 refine un ?_
 refine os 2 ?_
 refine kp [51, 13, 36, 12, 11, 27, 10, 8, 7, 0, 1, 2, 3] ?_
 refine nt ?_
 refine cd (fun hc16 : (!(mayW (descG (ownQ (HeapV.pub H F) w key)) d)) = true => ?_) (fun hc16 => ?_)
 ·replace hc16 := bnot_t hc16
  refine sr ?_
  refine os 1 ?_
  refine nt ?_
  refine SW_ret (r_then ?_)
  refine body_end (.bool false) (fun _ => rfl) ?_
  exact ⟨H, ow, by rw [defP_no (by exact .inr (.inr (.inr ⟨by assumption, by rw [ho, ← hd]; assumption⟩)))]; exact ⟨rfl, (PStp.same h).mono (Nat.le_succ _)⟩⟩
 replace hc16 := bnot_f hc16
 refine SW_skip (n_then ?_)
 refine SW_seq ?_
 refine SW_seq ?_
 have hno : ¬ defNo (HeapV.pub H F) w key x := by
   rintro (a_ | a_ | ⟨a_, b_⟩ | ⟨a_, b_⟩)
   · have z_ : (kindQ (HeapV.pub H F) w).2 = true := by assumption
     rw [a_] at z_; cases z_
   · have z_ : bothP x = false := by assumption
     rw [a_] at z_; cases z_
   · have z_ : (ownQ (HeapV.pub H F) w key).isSome = true := by assumption
     rw [a_] at z_; cases z_
   · have z_ : mayW (descG (ownQ (HeapV.pub H F) w key)) d = true := by assumption
     rw [ho, ← hd, z_] at b_; cases b_
 refine SW_region ?_
 refine os 2 ?_
 refine L (cl (prop_array h w) ?_)
 rintro _ _ rfl
 refine nt ?_
 refine cd (fun hc17 : ((arrP (HeapV.pub H F) w)) = true => ?_) (fun hc17 => ?_)
 ·refine SW_seq ?_
  refine sr ?_
  refine os 1 ?_
  refine oX (.bool (key.toList == (ByteArray.mk (List.toArray (List.cons 108 (List.cons 101 (List.cons 110 (List.cons 103 (List.cons 116 (List.cons 104 List.nil)))))))).toList)) (.bool (decide (key = (ByteArray.mk (List.toArray (List.cons 108 (List.cons 101 (List.cons 110 (List.cons 103 (List.cons 116 (List.cons 104 List.nil))))))))))) (congrArg Value.bool (by rw [str_eq])) ?_
  refine kp [56, 54, 51, 13, 36, 12, 11, 27, 10, 8, 7, 0, 1, 2, 3] ?_
  refine nt ?_
  refine cdp (fun hc18 : key = (ByteArray.mk (List.toArray (List.cons 108 (List.cons 101 (List.cons 110 (List.cons 103 (List.cons 116 (List.cons 104 List.nil)))))))) => ?_) (fun hc18 => ?_)
  ·refine sr ?_
   refine os 1 ?_
   refine L (ld ?_)
   refine os 2 ?_
   refine tb 60 (fun hg19 => ?_) (fun hg19 => ?_)
   ·replace hg19 : (d.2.2 == 1) = true := hg19
    refine os 3 ?_
    refine L (ld ?_)
    refine L (cl (prop_length hk h w d.1) ?_)
    rintro _ H2 ⟨rfl, hst⟩
    refine os 2 ?_
    refine kp [8, 56, 54, 51, 13, 36, 12, 11, 27, 10, 7, 0, 1, 2, 3] ?_
    refine nt ?_
    refine SW_ret (r_then (r_then ?_))
    refine body_end (.bool ((lenGo (HeapV.pub H F) w d.1).2)) (fun _ => rfl) ?_
    rw [defP_go hno, ← hd]
    rw [defGo_len (by assumption) (by assumption) (by assumption)]
    exact ⟨H2, ow, rfl, hst.mono (Nat.le_succ _)⟩
   replace hg19 : (d.2.2 == 1) = false := hg19
   refine os 7 ?_
   refine kp [8, 56, 54, 51, 13, 36, 12, 11, 27, 10, 7, 0, 1, 2, 3] ?_
   refine nt ?_
   refine SW_ret (r_then (r_then ?_))
   refine body_end (.bool false) (fun _ => rfl) ?_
   rw [defP_go hno, ← hd]
   rw [defGo_len' (by assumption) (by assumption) (by assumption)]
   exact ⟨H, ow, rfl, (PStp.same h).mono (Nat.le_succ _)⟩
  refine SW_skip (n_then ?_)
  refine sr ?_
  refine os 1 ?_
  refine L (cl (prop_Index hL hks) ?_)
  rintro _ _ rfl
  refine un ?_
  refine os 5 ?_
  refine kp [15, 14, 56, 54, 51, 13, 36, 12, 11, 27, 10, 8, 7, 0, 1, 2, 3] ?_
  refine nsr ?_
  refine os 1 ?_
  refine nt ?_
  refine cd (fun hc20 : ((idxV key).2) = true => ?_) (fun hc20 => ?_)
  ·refine sr ?_
   refine os 1 ?_
   refine L (ld ?_)
   refine os 2 ?_
   refine tb 76 (fun hg21 => ?_) (fun hg21 => ?_)
   ·replace hg21 : (d.2.2 == 7) = true := hg21
    refine os 4 ?_
    refine L (ld ?_)
    refine L (cl (hq_SetElem hk h w ((idxV key).1) d.1) ?_)
    rintro _ H2 ⟨rfl, hst⟩
    refine os 2 ?_
    refine kp [8, 72, 15, 14, 56, 54, 51, 13, 36, 12, 11, 27, 10, 7, 0, 1, 2, 3] ?_
    refine nt ?_
    refine SW_ret (r_then ?_)
    refine body_end (.bool (setQ (HeapV.pub H F) w ((idxV key).1))) (fun _ => rfl) ?_
    rw [defP_go hno, ← hd]
    rw [defGo_ix (by assumption) (by assumption) (by assumption) (by assumption)]
    exact ⟨H2, ow, rfl, hst.p.mono (Nat.le_succ _)⟩
   replace hg21 : (d.2.2 == 7) = false := hg21
   refine os 8 ?_
   refine kp [8, 72, 15, 14, 56, 54, 51, 13, 36, 12, 11, 27, 10, 7, 0, 1, 2, 3] ?_
   refine nt ?_
   refine SW_ret (r_then ?_)
   refine body_end (.bool false) (fun _ => rfl) ?_
   rw [defP_go hno, ← hd]
   rw [defGo_ix' (by assumption) (by assumption) (by assumption) (by assumption)]
   exact ⟨H, ow, rfl, (PStp.same h).mono (Nat.le_succ _)⟩
  refine SW_skip (n_then ?_)
  refine SW_seq ?_
  refine sr ?_
  refine os 1 ?_
  refine oV (.bool false) ?_
  refine os 1 ?_
  refine L (lds 3 ?_)
  refine L (lds 3 ?_)
  refine oV (.bool (!(((descG (ownQ (HeapV.pub H F) w key)).1 == d.1) && (((descG (ownQ (HeapV.pub H F) w key)).2.1 == d.2.1) && ((descG (ownQ (HeapV.pub H F) w key)).2.2 == d.2.2))))) ?_ (hs := neqD)
  refine os 1 ?_
  refine kp [90, 72, 15, 14, 56, 54, 51, 13, 36, 12, 11, 27, 10, 8, 7, 0, 1, 2, 3] ?_
  refine nt ?_
  refine cd (fun hc22 : (!(((descG (ownQ (HeapV.pub H F) w key)).1 == d.1) && (((descG (ownQ (HeapV.pub H F) w key)).2.1 == d.2.1) && ((descG (ownQ (HeapV.pub H F) w key)).2.2 == d.2.2)))) = true => ?_) (fun hc22 => ?_)
  ·replace hc22 := bnot_t hc22
   refine SW_region ?_
   refine os 3 ?_
   refine L (lds 3 ?_)
   refine L (cl (hq_Put hk h w key d) ?_)
   rintro _ H2 ⟨rfl, hst⟩
   refine nsr ?_
   refine os 1 ?_
   refine kp [8, 90, 72, 15, 14, 56, 54, 51, 13, 36, 12, 11, 27, 10, 7, 0, 1, 2, 3] ?_
   refine nt ?_
   refine SW_ret ?_
   refine body_end (.bool true) (fun _ => rfl) ?_
   rw [defP_go hno, ← hd]
   rw [defGo_put (by assumption) (by assumption) (by assumption)]
   exact ⟨H2, ow, rfl, hst.p⟩
  replace hc22 := bnot_f hc22
  refine SW_skip (n_then ?_)
  refine sr ?_
  refine os 1 ?_
  refine nt ?_
  refine SW_ret ?_
  refine body_end (.bool true) (fun _ => rfl) ?_
  rw [defP_go hno, ← hd]
  rw [defGo_put (by assumption) (by assumption) (by assumption)]
  rw [put_same hfl (d := d) (by rw [← own_get (by assumption) (by assumption) (by assumption)]; exact (some_of (by assumption)).trans (congrArg some (deq_iff.1 (by assumption))))]
  exact ⟨H, ow, rfl, (PStp.same h).mono (Nat.le_succ _)⟩
 refine SW_skip (n_then ?_)
 refine SW_seq ?_
 refine sr ?_
 refine os 1 ?_
 refine oV (.bool false) ?_
 refine os 1 ?_
 refine L (lds 3 ?_)
 refine L (lds 3 ?_)
 refine oV (.bool (!(((descG (ownQ (HeapV.pub H F) w key)).1 == d.1) && (((descG (ownQ (HeapV.pub H F) w key)).2.1 == d.2.1) && ((descG (ownQ (HeapV.pub H F) w key)).2.2 == d.2.2))))) ?_ (hs := neqD)
 refine os 1 ?_
 refine kp [90, 54, 51, 13, 36, 12, 11, 27, 10, 8, 7, 0, 1, 2, 3] ?_
 refine nt ?_
 refine cd (fun hc23 : (!(((descG (ownQ (HeapV.pub H F) w key)).1 == d.1) && (((descG (ownQ (HeapV.pub H F) w key)).2.1 == d.2.1) && ((descG (ownQ (HeapV.pub H F) w key)).2.2 == d.2.2)))) = true => ?_) (fun hc23 => ?_)
 ·replace hc23 := bnot_t hc23
  refine SW_region ?_
  refine os 3 ?_
  refine L (lds 3 ?_)
  refine L (cl (hq_Put hk h w key d) ?_)
  rintro _ H2 ⟨rfl, hst⟩
  refine nsr ?_
  refine os 1 ?_
  refine kp [8, 90, 54, 51, 13, 36, 12, 11, 27, 10, 7, 0, 1, 2, 3] ?_
  refine nt ?_
  refine SW_ret ?_
  refine body_end (.bool true) (fun _ => rfl) ?_
  rw [defP_go hno, ← hd]
  rw [defGo_plain (by assumption)]
  exact ⟨H2, ow, rfl, hst.p⟩
 replace hc23 := bnot_f hc23
 refine SW_skip (n_then ?_)
 refine sr ?_
 refine os 1 ?_
 refine nt ?_
 refine SW_ret ?_
 refine body_end (.bool true) (fun _ => rfl) ?_
 rw [defP_go hno, ← hd]
 rw [defGo_plain (by assumption)]
 rw [put_same hfl (d := d) (by rw [← ownQ_plain (by assumption)]; exact (some_of (by assumption)).trans (congrArg some (deq_iff.1 (by assumption))))]
 exact ⟨H, ow, rfl, (PStp.same h).mono (Nat.le_succ _)⟩

end Go.Proofs.YthflblophelioaaDoor
namespace Go.Proofs.YthflblophelioaaDoor
open Go.Sl

theorem prop_Assign {W0 : World} (hL : Laid W0) {k : Nat} {H : HeapV} {F : HeapF} (h : HInv k H F) (hk : k ≤ 8000000) (hfl : ∀ o ∈ HeapV.pub H F, ∀ d ∈ o.descs, normF d.2.2 = d.2.2) (w : Int) {key : ByteArray} (hks : key.size ≤ 281474976710656) (y : Int) : SC Tryd.prog W0 12 #[.pointer (some ⟨F.p, 0, none⟩), .int .u64 w, .string key, .int .u64 y] (HeapV.ent H F) (Ret (fun H2 : HeapV => HeapV.ent H2 F) (fun v H2 => v = .tuple #[.int .u64 (asgP (HeapV.pub H F) w key y).2.1, .int .i64 (asgP (HeapV.pub H F) w key y).2.2] ∧ PStp (k + 1) H H2 F (asgP (HeapV.pub H F) w key y).1)) := by
 refine SC_body (fn := Tryd.f12) (n := 60) Tryd.func12 rfl (by kernel_rfl) (ρ := [(0, pt F.p 0), (1, .int .u64 w), (2, .string key), (3, .int .u64 y)]) rfl ?_
 refine SW_sig ((HeapV.ent H F) ++ ([])) (by simp only [List.append_nil, List.append_assoc]) ?_
 refine sr ?_
 refine os 2 ?_
 refine nsr ?_
 refine os 3 ?_
 refine L (cl (prop_Lookup hL h w hks) ?_)
 rintro _ _ rfl
 refine os 4 ?_
 refine L (nw 41 3 [.int .u64 0, .int .u64 0, .int .i64 0] ?_)
 intro b1
 refine os 1 ?_
 refine kp [10, 11, 21, 20, 9, 8, 0, 1, 2, 3] ?_
 refine L (st [.int .u64 ((lookV (lookQ (HeapV.pub H F) w key)).2.1), .int .u64 ((lookV (lookQ (HeapV.pub H F) w key)).2.2.1), .int .i64 ((lookV (lookQ (HeapV.pub H F) w key)).2.2.2)] ?_)
 refine os 1 ?_
 refine nq ?_
 refine SW_block ?_
 refine sr ?_
 refine os 2 ?_
 refine tb 24 (fun hg2 => ?_) (fun hg2 => ?_)
 ·replace hg2 : ((lookQ (HeapV.pub H F) w key).isSome) = true := hg2
  refine os 1 ?_
  refine L (ld ?_)
  refine oV (.int .i64 (band ((lookV (lookQ (HeapV.pub H F) w key)).2.2.2) 8)) ?_
  refine os 3 ?_
  refine kp [22, 12, 10, 11, 9, 8, 0, 1, 2, 3] ?_
  refine nt ?_
  refine cd (fun hc3 : ((band ((lookV (lookQ (HeapV.pub H F) w key)).2.2.2) 8) != 0) = true => ?_) (fun hc3 => ?_)
  ·refine SW_seq ?_
   refine sr ?_
   refine os 1 ?_
   refine L (ld ?_)
   refine os 1 ?_
   refine nt ?_
   refine cd (fun hc4 : (((lookV (lookQ (HeapV.pub H F) w key)).2.2.1) == 18445336698825998336) = true => ?_) (fun hc4 => ?_)
   ·refine sr ?_
    refine os 2 ?_
    refine nt ?_
    refine SW_ret (r_then (r_in (r_then ?_)))
    refine body_end (.tuple #[.int .u64 18445336698825998336, .int .i64 1]) (fun _ => rfl) ?_
    exact ⟨H, ow, by rw [asgP_ref (by assumption) (by assumption) (by assumption)]; exact ⟨rfl, (PStp.same h).mono (Nat.le_succ _)⟩⟩
   refine SW_skip (n_then ?_)
   refine sr ?_
   refine os 1 ?_
   refine L (ld ?_)
   refine os 2 ?_
   refine kp [9, 8, 32, 22, 12, 10, 11, 0, 1, 2, 3] ?_
   refine nt ?_
   refine SW_ret (r_in (r_then ?_))
   refine body_end (.tuple #[.int .u64 ((lookV (lookQ (HeapV.pub H F) w key)).2.2.1), .int .i64 2]) (fun _ => rfl) ?_
   exact ⟨H, ow, by rw [asgP_call (by assumption) (by assumption) (by assumption)]; exact ⟨rfl, (PStp.same h).mono (Nat.le_succ _)⟩⟩
  refine sr ?_
  refine os 3 ?_
  refine L (ld ?_)
  refine oV (.int .i64 (band ((lookV (lookQ (HeapV.pub H F) w key)).2.2.2) 1)) ?_
  refine os 3 ?_
  refine kp [35, 22, 12, 10, 11, 9, 8, 0, 1, 2, 3] ?_
  refine nt ?_
  refine cd (fun hc5 : ((band ((lookV (lookQ (HeapV.pub H F) w key)).2.2.2) 1) == 0) = true => ?_) (fun hc5 => ?_)
  ·refine sr ?_
   refine os 2 ?_
   refine nt ?_
   refine SW_ret (r_in (r_then ?_))
   refine body_end (.tuple #[.int .u64 18445336698825998336, .int .i64 1]) (fun _ => rfl) ?_
   exact ⟨H, ow, by rw [asgP_ro (by assumption) (by assumption) (by assumption)]; exact ⟨rfl, (PStp.same h).mono (Nat.le_succ _)⟩⟩
  refine SW_skip (n_in (n_then ?_))
  refine sr ?_
  refine os 1 ?_
  refine oV (.agg #[.int .i64 1, .int .u64 y, .int .u64 0, .int .u64 0, .int .i64 0]) ?_
  refine L (nw 65 5 [.int .i64 0, .int .u64 0, .int .u64 0, .int .u64 0, .int .i64 0] ?_)
  intro b6
  refine L (st [.int .i64 1, .int .u64 y, .int .u64 0, .int .u64 0, .int .i64 0] ?_)
  refine nq ?_
  refine sr ?_
  refine os 1 ?_
  refine oV (.bool false) ?_
  refine os 5 ?_
  refine kp [51, 13, 35, 22, 12, 10, 11, 9, 8, 0, 1, 2, 3] ?_
  refine nt ?_
  refine cd (fun hc7 : (((lookV (lookQ (HeapV.pub H F) w key)).1) != w) = true => ?_) (fun hc7 => ?_)
  ·refine SW_region ?_
   refine os 1 ?_
   refine oV (.agg #[.int .i64 15, .int .u64 y, .int .u64 0, .int .u64 0, .int .i64 7]) ?_
   refine L (st [.int .i64 15, .int .u64 y, .int .u64 0, .int .u64 0, .int .i64 7] ?_)
   refine nq ?_
   refine sr ?_
   refine os 3 ?_
   refine L (lds 5 ?_)
   have hW : asgW (HeapV.pub H F) w key y = ⟨15, y, 0, 0, 7⟩ := asgW_new (by first | exact .inl (by assumption) | exact .inr (by assumption))
   refine L (cl (prop_Define hL h hk hfl w hks ⟨15, y, 0, 0, 7⟩) ?_)
   rintro _ H2 ⟨rfl, hst⟩
   rw [← hW] at hst
   refine os 1 ?_
   refine kp [59, 51, 13, 35, 22, 12, 10, 11, 9, 8, 0, 1, 2, 3] ?_
   refine nt ?_
   refine cd (fun hc8 : (!((defP (HeapV.pub H F) w key ⟨15, y, 0, 0, 7⟩).2)) = true => ?_) (fun hc8 => ?_)
   ·replace hc8 := bnot_t hc8
    refine sr ?_
    refine os 2 ?_
    refine nt ?_
    refine SW_ret (r_then ?_)
    refine body_end (.tuple #[.int .u64 18445336698825998336, .int .i64 1]) (fun _ => rfl) ?_
    refine ⟨H2, ow, ?_⟩
    rw [asgP_def (by first | exact .inl (by assumption) | exact .inr ⟨by assumption, by assumption⟩)]
    exact ⟨by rw [hW, ite_ff (by assumption)], hst⟩
   replace hc8 := bnot_f hc8
   refine SW_skip (n_then ?_)
   refine sr ?_
   refine os 2 ?_
   refine nt ?_
   refine SW_ret ?_
   refine body_end (.tuple #[.int .u64 18445336698825998336, .int .i64 0]) (fun _ => rfl) ?_
   refine ⟨H2, ow, ?_⟩
   rw [asgP_def (by first | exact .inl (by assumption) | exact .inr ⟨by assumption, by assumption⟩)]
   exact ⟨by rw [hW, if_pos (by assumption)], hst⟩
  refine SW_skip (n_then ?_)
  refine SW_seq ?_
  refine sr ?_
  refine os 3 ?_
  refine L (lds 5 ?_)
  have hW : asgW (HeapV.pub H F) w key y = ⟨1, y, 0, 0, 0⟩ := asgW_own (by assumption) (by assumption)
  refine L (cl (prop_Define hL h hk hfl w hks ⟨1, y, 0, 0, 0⟩) ?_)
  rintro _ H2 ⟨rfl, hst⟩
  rw [← hW] at hst
  refine os 1 ?_
  refine kp [59, 51, 13, 35, 22, 12, 10, 11, 9, 8, 0, 1, 2, 3] ?_
  refine nt ?_
  refine cd (fun hc9 : (!((defP (HeapV.pub H F) w key ⟨1, y, 0, 0, 0⟩).2)) = true => ?_) (fun hc9 => ?_)
  ·replace hc9 := bnot_t hc9
   refine sr ?_
   refine os 2 ?_
   refine nt ?_
   refine SW_ret (r_then ?_)
   refine body_end (.tuple #[.int .u64 18445336698825998336, .int .i64 1]) (fun _ => rfl) ?_
   refine ⟨H2, ow, ?_⟩
   rw [asgP_def (by first | exact .inl (by assumption) | exact .inr ⟨by assumption, by assumption⟩)]
   exact ⟨by rw [hW, ite_ff (by assumption)], hst⟩
  replace hc9 := bnot_f hc9
  refine SW_skip (n_then ?_)
  refine sr ?_
  refine os 2 ?_
  refine nt ?_
  refine SW_ret ?_
  refine body_end (.tuple #[.int .u64 18445336698825998336, .int .i64 0]) (fun _ => rfl) ?_
  refine ⟨H2, ow, ?_⟩
  rw [asgP_def (by first | exact .inl (by assumption) | exact .inr ⟨by assumption, by assumption⟩)]
  exact ⟨by rw [hW, if_pos (by assumption)], hst⟩
 replace hg2 : ((lookQ (HeapV.pub H F) w key).isSome) = false := hg2
 refine os 6 ?_
 refine kp [22, 12, 10, 11, 9, 8, 0, 1, 2, 3] ?_
 refine nt ?_
 refine cf ?_
 refine sr ?_
 refine os 8 ?_
 refine kp [35, 22, 12, 10, 11, 9, 8, 0, 1, 2, 3] ?_
 refine nt ?_
 refine cf ?_
 refine SW_skip (n_in (n_then ?_))
 refine sr ?_
 refine os 1 ?_
 refine oV (.agg #[.int .i64 1, .int .u64 y, .int .u64 0, .int .u64 0, .int .i64 0]) ?_
 refine L (nw 65 5 [.int .i64 0, .int .u64 0, .int .u64 0, .int .u64 0, .int .i64 0] ?_)
 intro b10
 refine L (st [.int .i64 1, .int .u64 y, .int .u64 0, .int .u64 0, .int .i64 0] ?_)
 refine nq ?_
 refine sr ?_
 refine os 1 ?_
 refine oV (.bool true) ?_
 refine os 5 ?_
 refine kp [51, 13, 35, 22, 12, 10, 11, 9, 8, 0, 1, 2, 3] ?_
 refine nt ?_
 refine ct ?_
 refine SW_region ?_
 refine os 1 ?_
 refine oV (.agg #[.int .i64 15, .int .u64 y, .int .u64 0, .int .u64 0, .int .i64 7]) ?_
 refine L (st [.int .i64 15, .int .u64 y, .int .u64 0, .int .u64 0, .int .i64 7] ?_)
 refine nq ?_
 refine sr ?_
 refine os 3 ?_
 refine L (lds 5 ?_)
 have hW : asgW (HeapV.pub H F) w key y = ⟨15, y, 0, 0, 7⟩ := asgW_new (by first | exact .inl (by assumption) | exact .inr (by assumption))
 refine L (cl (prop_Define hL h hk hfl w hks ⟨15, y, 0, 0, 7⟩) ?_)
 rintro _ H2 ⟨rfl, hst⟩
 rw [← hW] at hst
 refine os 1 ?_
 refine kp [59, 51, 13, 35, 22, 12, 10, 11, 9, 8, 0, 1, 2, 3] ?_
 refine nt ?_
 refine cd (fun hc11 : (!((defP (HeapV.pub H F) w key ⟨15, y, 0, 0, 7⟩).2)) = true => ?_) (fun hc11 => ?_)
 ·replace hc11 := bnot_t hc11
  refine sr ?_
  refine os 2 ?_
  refine nt ?_
  refine SW_ret (r_then ?_)
  refine body_end (.tuple #[.int .u64 18445336698825998336, .int .i64 1]) (fun _ => rfl) ?_
  refine ⟨H2, ow, ?_⟩
  rw [asgP_def (by first | exact .inl (by assumption) | exact .inr ⟨by assumption, by assumption⟩)]
  exact ⟨by rw [hW, ite_ff (by assumption)], hst⟩
 replace hc11 := bnot_f hc11
 refine SW_skip (n_then ?_)
 refine sr ?_
 refine os 2 ?_
 refine nt ?_
 refine SW_ret ?_
 refine body_end (.tuple #[.int .u64 18445336698825998336, .int .i64 0]) (fun _ => rfl) ?_
 refine ⟨H2, ow, ?_⟩
 rw [asgP_def (by first | exact .inl (by assumption) | exact .inr ⟨by assumption, by assumption⟩)]
 exact ⟨by rw [hW, if_pos (by assumption)], hst⟩

end Go.Proofs.YthflblophelioaaDoor
namespace Go.Proofs.YthflblophelioaaDoor
open Go.Sl
abbrev wA : Int := 18445055223849287680
abbrev wB : Int := 18445055223849287681
abbrev vA : Int := 18444773748872577027
abbrev lA1 : List ObjS := [newS 0 nullW]
abbrev lA2 : List ObjS := [newS 0 nullW, newS 0 wA]
theorem alive_make1 : makeV [] 0 nullW = (wA, true) ∧ makeL [] 0 nullW = lA1 := by
 have h : mayP [] 0 nullW := ⟨by decide, .inl rfl, by decide⟩
 unfold makeV makeL
 rw [if_pos h, if_pos h]
 exact ⟨rfl, rfl⟩
theorem alive_make2 : makeV lA1 0 wA = (wB, true) ∧ makeL lA1 0 wA = lA2 := by
 have h : mayP lA1 0 wA := ⟨by decide, .inr (by decide), by decide⟩
 unfold makeV makeL
 rw [if_pos h, if_pos h]
 exact ⟨rfl, rfl⟩
theorem alive_asg : (asgP lA2 wA keyA vA).2 = (undefW, 0) := by decide +kernel
theorem alive_look : lookQ (asgP lA2 wA keyA vA).1 wB keyA = some (wA, (vA, undefW, 7)) := by decide +kernel
theorem refInt3 : refInt 3 = vA := by decide +kernel
theorem flags_A2 : ∀ o ∈ lA2, ∀ d ∈ o.descs, normF d.2.2 = d.2.2 := by
 intro o ho d hd
 simp at ho
 rcases ho with rfl | rfl <;> simp at hd
def digB (n : Int) : ByteArray := byteS (Lib.decDigits n.toNat)
theorem idx_digits (n : Int) (h : 0 ≤ n ∧ n < 4096) : idxV (digB n) = (n, true) ∧ (digB n).size ≤ 281474976710656 := by
 obtain ⟨m, rfl⟩ := Int.eq_ofNat_of_zero_le h.1
 have e : idxK (digB (m : Int)) = some m := by
   show idxL (digB (m : Int)).data.toList = some m
   rw [show (digB (m : Int)).data.toList = Lib.decDigits m from by simp [digB, byteS]]
   exact idx_dec (by omega)
 have h1 := dec_len 3 m (by omega)
 have h2 : (digB (m : Int)).size = (Lib.decDigits m).length := by simp [digB, byteS, ByteArray.size]
 exact ⟨idxV_some e, by omega⟩
end Go.Proofs.YthflblophelioaaDoor
namespace Go.Proofs.YthflblophelioaaDoor
open Go.Sl

theorem law_alive14 {W0 : World} (hL : Laid W0) : SC Tryd.prog W0 6 #[] [] (Ret (fun _ : Unit => []) (fun v _ => v = .bool true)) := by
 refine SC_body (fn := Tryd.f6) (n := 60) Tryd.func6 rfl (by kernel_rfl) (ρ := []) rfl ?_
 refine sr ?_
 refine os 1 ?_
 refine nsr ?_
 refine L (cl (hp_New 9) ?_)
 rintro _ ⟨H0, F⟩ ⟨rfl, hI0, hp0, ht0, htr0, ho0, hcl0⟩
 simp only [] at hp0 ht0 htr0 ho0 hcl0 hI0
 refine os 1 ?_
 refine nq ?_
 refine sr ?_
 refine os 1 ?_
 refine oV (.bool false) ?_
 refine nt ?_
 refine cf ?_
 refine SW_skip (n_then ?_)
 refine sr ?_
 refine os 1 ?_
 refine L (cl (hq_Make hI0 0 18445336698825998337) ?_)
 rintro v2 H1 ⟨hv2, hI1, hpx1, htx1, hgx1⟩
 obtain rfl : v2 = .tuple #[.int .u64 wA, .bool true] := hv2.trans (by rw [hp0, alive_make1.1])
 have hp1 : HeapV.pub H1 F = lA1 := by rw [hpx1, hp0]; exact alive_make1.2
 refine os 5 ?_
 refine kp [2, 13, 1, 0] ?_
 refine nsr ?_
 refine os 2 ?_
 refine L (cl (hq_Make hI1 0 wA) ?_)
 rintro v3 H2 ⟨hv3, hI2, hpx2, htx2, hgx2⟩
 obtain rfl : v3 = .tuple #[.int .u64 wB, .bool true] := hv3.trans (by rw [hp1, alive_make2.1])
 have hp2 : HeapV.pub H2 F = lA2 := by rw [hpx2, hp1]; exact alive_make2.2
 refine os 5 ?_
 refine kp [4, 2, 13, 1, 0] ?_
 refine nsr ?_
 refine os 2 ?_
 refine L (cl (rf_Int (n := 3)) ?_)
 rintro v4 _ hv4
 obtain rfl : v4 = .int .u64 vA := hv4.trans (congrArg (Value.int .u64) refInt3)
 refine un ?_
 have hflA : ∀ o ∈ HeapV.pub H2 F, ∀ d ∈ o.descs, normF d.2.2 = d.2.2 := by rw [hp2]; exact flags_A2
 refine L (cl (prop_Assign hL hI2 (by omega) hflA wA (key := keyA) (by decide) vA) ?_)
 rintro v5 H3 ⟨hv5, hst3⟩
 obtain rfl : v5 = .tuple #[.int .u64 undefW, .int .i64 0] := hv5.trans (by rw [hp2, alive_asg])
 rw [hp2] at hst3
 refine os 5 ?_
 refine kp [7, 4, 2, 13, 1, 0] ?_
 refine nsr ?_
 refine os 2 ?_
 refine L (cl (prop_Lookup hL hst3.inv wB (key := keyA) (by decide)) ?_)
 rintro v6 _ hv6
 obtain rfl : v6 = .tuple #[.int .u64 wA, .agg #[.int .u64 vA, .int .u64 undefW, .int .i64 7], .bool true] := hv6.trans (by rw [hst3.pub, alive_look]; rfl)
 refine os 4 ?_
 refine L (nw 41 3 [.int .u64 0, .int .u64 0, .int .i64 0] ?_)
 intro b1
 refine os 1 ?_
 refine L (st [.int .u64 vA, .int .u64 undefW, .int .i64 7] ?_)
 refine os 1 ?_
 refine kp [10, 8, 9, 7, 4, 2, 13, 1, 0] ?_
 refine nq ?_
 refine SW_draw [(b1, 0, .int .u64 vA), (b1, 2, .int .i64 7)] [0, 1, 2, 3, 4, 5, 6, 7, 8, 9, 10, 11, 12, 13, 14, 15, 16, 17] (by kernel_rfl) (rd_cons (Cell.own mem_z rfl) (rd_cons (Cell.own mem_z rfl) rd_nil)) ?_
 refine aS 0 ?_
 refine tk 1 (.bool true) ?_
 refine aS 2 ?_
 refine aS 3 ?_
 refine aS 4 ?_
 refine aS 5 ?_
 refine aS 6 ?_
 refine aS 7 ?_
 refine aS 8 ?_
 refine aS 9 ?_
 refine kpA [48, 10, 8, 9, 7, 4, 2, 13, 1, 0] ?_
 refine aS 10 ?_
 refine pnA 49 (show (wA == wA) = true from (by decide)) ?_
 refine aF 11 ?_
 refine aL 12 ?_
 refine sa1 true 13 (h := cl (rf_Int (n := 3)) ?_)
 rintro v8 _ hv8
 obtain rfl : v8 = .int .u64 vA := hv8.trans (congrArg (Value.int .u64) refInt3)
 try simp only [List.cons_append, List.append_assoc, List.nil_append]
 refine ⟨fun hnd => (rd_cons (Cell.own mem_z rfl) (rd_cons (Cell.own mem_z rfl) rd_nil)), ?_⟩
 refine aS 14 ?_
 refine aS 15 ?_
 refine aS 16 ?_
 refine pnA 55 (show (vA == vA) = true from (by decide)) ?_
 refine aF 17 ?_
 refine aL 18 ?_
 refine kpA [57, 55, 10, 8, 9, 7, 4, 2, 13, 1, 0] ?_
 refine tk 19 (.bool true) ?_
 refine aS 20 ?_
 refine aS 21 ?_
 refine SA_done (by kernel_rfl) (n_then ?_)
 refine SW_ret ?_
 refine body_end (.bool true) (fun _ => rfl) ?_
 exact ⟨(), ⟨_, List.Perm.refl _⟩, congrArg Value.bool (by decide)⟩

end Go.Proofs.YthflblophelioaaDoor
