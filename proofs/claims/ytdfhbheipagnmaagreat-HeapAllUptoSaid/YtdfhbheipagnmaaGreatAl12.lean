/-
  The laws over scripts, in plain words: what holds of both stores all the way. No condition.
-/
import Derived.Test.YtdfhbheipagnmaaGreatAl11
import Derived.Test.YtdfhbheipagnmaaGreatAl6
import Derived.Laws.StructEq
import Derived.Laws.Tables
import Derived.Laws.Cover2
import Derived.Test.YtdfhbheipagnmaaGreatAl4
set_option linter.unusedVariables false
set_option linter.unusedSimpArgs false
set_option maxRecDepth 100000
set_option maxHeartbeats 4000000
namespace Go.Proofs.YtdfhbheipagnmaaGreat
open Go.Sl
variable {k : Nat} {H H2 : HeapV} {F : HeapF} {R R2 : RSt} {n : Nat} {W0 : World} {x : OpP}
abbrev RSt.none : RSt := ⟨.nil, [], .nil, []⟩
theorem DOk.nil : DOk [] := ⟨fun o ho => (by cases ho), fun o ho => (by cases ho), fun o ho => (by cases ho), fun p => ⟨0, by
  show objAt p 0 = _
  unfold objAt
  cases tagOf p 65530 with
  | none => rfl
  | some n => simp only []; rw [if_neg (by omega)]⟩, fun o ho => (by cases ho)⟩
theorem Sim.new (hI : HInv 0 H F) (hp : H.pub F = []) (ht : H.texts = []) (ho : H.objs = []) (hc : H.cl = []) : Sim 0 H F RSt.none := by
  refine ⟨hI, ⟨⟨rfl, rfl⟩, fun y hy => (by cases hy), ⟨rfl, rfl⟩⟩, hp, ht, DOk.nil, ?_⟩
  have : H.gd = ([], []) := by unfold HeapV.gd; rw [ho, hc]; rfl
  rw [this]
  exact GInv.nil
def hitsB (l l' : List ObjS) (p : Int) (x : OpP) : Bool := onQ l p x.o && (decide (x.kind = 1) || (decide (x.kind = 2) && hasQ l x.o x.key) || (decide (x.kind = 3) && decide (protoW l' x.o ≠ protoW l x.o)))
def quietB (l : List ObjS) (p : Int) (x : OpP) : Bool := decide (x.kind = 0) || decide (x.kind = 6) || decide (x.kind = 7) || decide (x.kind = 8) || decide (x.kind = 9) || !onQ l p x.o
theorem guard_go {p c : Int} (hS : Sim k H F R) (hd : Did (k + 1) H F R x H2 R2) (hH : Held R.pub H.gd p c) :
    Held R2.pub H2.gd p c ∧ (hitsB R.pub R2.pub p x = true → valP H2.gd.2 c = false) ∧ (quietB R.pub p x = true → valP H2.gd.2 c = valP H.gd.2 c) := by
  have e : (docStep R.D x).1 = R2.pub := congrArg Prod.fst hd.doc.symm
  obtain ⟨h1, h2, h3⟩ := GInv.held (D := R.D) hS.gds hS.doc hd.gd hH
  rw [e] at h1 h2
  refine ⟨h1, fun q => ?_, fun q => ?_⟩
  · unfold hitsB at q
    simp only [Bool.and_eq_true, Bool.or_eq_true, decide_eq_true_eq] at q
    cases hv : valP H2.gd.2 c with
    | false => rfl
    | true =>
      refine absurd (valP_iff.1 hv) (h2 q.1 ?_)
      rcases q.2 with (z | z) | z
      · exact .inl z
      · exact .inr (.inl z)
      · exact .inr (.inr z)
  · unfold quietB at q
    simp only [Bool.or_eq_true, decide_eq_true_eq, Bool.not_eq_true'] at q
    have hq : x.kind = 0 ∨ x.kind = 6 ∨ x.kind = 7 ∨ x.kind = 8 ∨ x.kind = 9 ∨ onQ R.pub p x.o = false := by
      rcases q with ((((z | z) | z) | z) | z) | z
      · exact .inl z
      · exact .inr (.inl z)
      · exact .inr (.inr (.inl z))
      · exact .inr (.inr (.inr (.inl z)))
      · exact .inr (.inr (.inr (.inr (.inl z))))
      · exact .inr (.inr (.inr (.inr (.inr z))))
    rw [Bool.eq_iff_iff, valP_iff, valP_iff]
    exact h3 hq
/-- A guard that was made. -/
theorem guard_new {p : Int} (hS : Sim k H F R) (hi : HInv (k + 1) H2 F) (hp : H2.pub F = H.pub F) (ht : H2.texts = H.texts) (hg : H2.gd = (guardF (H.pub F) (H.pub F).length p H.gd).1) :
    Sim (k + 1) H2 F R ∧ ((guardF R.pub R.pub.length p H.gd).2 = -1 → atW R.pub p < 0) ∧ ((guardF R.pub R.pub.length p H.gd).2 ≠ -1 → Held R.pub H2.gd p (guardF R.pub R.pub.length p H.gd).2) := by
  rw [hS.objs] at hp hg
  obtain ⟨h1, h2, h3⟩ := hS.gds.new hS.doc p
  rw [← hg] at h1 h3
  exact ⟨⟨hi, hS.ok, hp, ht.trans hS.texts, hS.doc, h1⟩, fun q => atW_neg.2 (h2.1 q), fun q => (h3 fun z => q (h2.2 z)).1⟩
end Go.Proofs.YtdfhbheipagnmaaGreat
namespace Go.Proofs.YtdfhbheipagnmaaGreat
open Go.Sl
variable {k : Nat} {H : HeapV} {F : HeapF} {R : RSt} {t : TreeP} {x z : ObjL}
theorem Sim.len (hS : Sim k H F R) : H.objs.length = R.objs.length := by rw [← HeapV.pub_len H F, hS.objs, RSt.pub_len]
theorem Sim.at (hS : Sim k H F R) {n : Nat} {y : RObj} (hx : H.objs[n]? = some x) (hy : R.objs[n]? = some y) : y.pub = pubO (H.V.abs F.T) x := by
  have h1 := HeapV.pub_at F hx
  rw [hS.objs, RSt.pub_at hy] at h1
  exact Option.some.inj h1
theorem OInv.keys (h : OInv t x) (h0 : ¬ x.shape < 0) : ∃ s, shapeAt t x.shape = some s ∧ s.proto = rootKey x.proto x.kind ∧ s.l.map (·.2) = x.vals.map (·.2.2) ∧ keysOf t x = s.l.map (·.1) := by
  obtain ⟨s, h1, h2, h3⟩ := h.fast (by omega)
  refine ⟨s, h1, h2, h3, ?_⟩
  unfold keysOf
  rw [if_neg h0]
  unfold keysP
  rw [h1]
theorem sh_find (h : OInv t x) (h0 : ¬ x.shape < 0) {i : Nat} {key : ByteArray} {d : DescP} (hk : (keysOf t x)[i]? = some key) (hd : x.vals[i]? = some d) : findP t x.shape key = ((i : Int), d.2.2, true) := by
  obtain ⟨s, h1, h2, h3, h4⟩ := h.keys h0
  have hn := h.nodup
  rw [h4] at hk hn
  have e := ixS_at hn hk
  rw [← keyIx_eq] at e
  have hp : (s.l.map (·.2))[i]? = some d.2.2 := by rw [h3, List.getElem?_map, hd]; rfl
  rw [List.getElem?_map] at hp
  obtain ⟨p, hp1, hp2⟩ := Option.map_eq_some_iff.1 hp
  simp only [findP, h1]
  rw [if_neg (by omega), e, show ((i : Int)).toNat = i by omega, hp1]
  simp only [hp2]
theorem sh_same (h : OInv t x) (g : OInv t z) (h0 : ¬ x.shape < 0) (e : x.shape = z.shape) : keysOf t x = keysOf t z ∧ x.vals.map (·.2.2) = z.vals.map (·.2.2) ∧ rootKey x.proto x.kind = rootKey z.proto z.kind := by
  obtain ⟨s, h1, h2, h3, h4⟩ := h.keys h0
  obtain ⟨s', g1, g2, g3, g4⟩ := g.keys (by omega)
  rw [e, g1] at h1
  obtain rfl := Option.some.inj h1
  exact ⟨h4.trans g4.symm, h3.symm.trans g3, h2.symm.trans g2⟩
theorem rootKey_eq {p k : Int} (hp : 16140901064495857664 ≤ p ∧ p < 18446744073709551616) (hk : 0 ≤ k ∧ k ≤ 6) : rootKey p k = (p - 16140901064495857664) * 8 + k := by
  obtain ⟨a, ha⟩ := Int.eq_ofNat_of_zero_le (show 0 ≤ p - 16140901064495857664 by omega)
  obtain ⟨b, rfl⟩ := Int.eq_ofNat_of_zero_le hk.1
  obtain rfl : p = (a : Int) + 16140901064495857664 := by omega
  unfold rootKey
  have h1 : (BitVec.ofInt 64 (IntKind.wrap .u64 (((a : Int) + 16140901064495857664) * 8))).toNat = 2 ^ 3 * a := by
    rw [BitVec.toNat_ofInt]; simp only [IntKind.wrap, IntKind.bits, IntKind.signed]; simp; omega
  have h2 : (BitVec.ofInt 64 (IntKind.wrap .u64 (b : Int))).toNat = b := by
    rw [BitVec.toNat_ofInt]; simp only [IntKind.wrap, IntKind.bits, IntKind.signed]; simp; omega
  rw [BitVec.toNat_or, h1, h2, ← Nat.two_pow_add_eq_or_of_lt (by omega)]
  simp only [IntKind.wrap, IntKind.bits, IntKind.signed]
  simp
  omega
theorem proto_big {l : List ObjS} (hP : ProtosIn l) {o : ObjS} (ho : o ∈ l) (hl : l.length ≤ 65536) : 16140901064495857664 ≤ o.proto ∧ o.proto < 18446744073709551616 := by
  rcases hP o ho with h | h
  · rw [h]; decide
  · cases hn : objAt o.proto l.length with
    | none => exact absurd hn h
    | some n =>
      have h1 := (objAt_tag hn).1
      unfold tagOf at h1
      split at h1
      · omega
      · cases h1
theorem Sim.same (hS : Sim k H F R) {n m : Nat} {y u : RObj} (hx : H.objs[n]? = some x) (hz : H.objs[m]? = some z) (hy : R.objs[n]? = some y) (hu : R.objs[m]? = some u) (h0 : ¬ x.shape < 0) (e : x.shape = z.shape) :
    y.kind = u.kind ∧ y.proto = u.proto ∧ y.names = u.names ∧ y.descs.map (·.2.2) = u.descs.map (·.2.2) := by
  have e1 := hS.at hx hy
  have e2 := hS.at hz hu
  obtain ⟨h1, h2, h3⟩ := sh_same (hS.inv.obj hx) (hS.inv.obj hz) h0 e
  have m1 := List.mem_of_getElem? (RSt.pub_at hy)
  have m2 := List.mem_of_getElem? (RSt.pub_at hu)
  have hl := hS.lok.len
  have k1 := hS.doc.kinds _ m1
  have k2 := hS.doc.kinds _ m2
  have p1 := proto_big hS.doc.protos m1 hl
  have p2 := proto_big hS.doc.protos m2 hl
  rw [e1] at k1 p1
  rw [e2] at k2 p2
  simp only [pubO] at k1 k2 p1 p2
  rw [rootKey_eq p1 k1, rootKey_eq p2 k2] at h3
  have q1 : y.kind = x.kind := congrArg ObjS.kind e1
  have q2 : u.kind = z.kind := congrArg ObjS.kind e2
  have r1 : y.proto = x.proto := congrArg ObjS.proto e1
  have r2 : u.proto = z.proto := congrArg ObjS.proto e2
  have n1 : y.names = keysOf (H.V.abs F.T) x := congrArg ObjS.names e1
  have n2 : u.names = keysOf (H.V.abs F.T) z := congrArg ObjS.names e2
  have d1 : y.descs = x.vals := congrArg ObjS.descs e1
  have d2 : u.descs = z.vals := congrArg ObjS.descs e2
  exact ⟨by rw [q1, q2]; omega, by rw [r1, r2]; omega, by rw [n1, n2, h1], by rw [d1, d2, h2]⟩
theorem Sim.find (hS : Sim k H F R) {n i : Nat} {y : RObj} {key : ByteArray} {d : DescP} (hx : H.objs[n]? = some x) (hy : R.objs[n]? = some y) (h0 : ¬ x.shape < 0) (hk : y.names[i]? = some key) (hd : y.descs[i]? = some d) :
    findP (H.V.abs F.T) x.shape key = ((i : Int), d.2.2, true) := by
  have e1 := hS.at hx hy
  rw [show y.names = keysOf (H.V.abs F.T) x from congrArg ObjS.names e1] at hk
  rw [show y.descs = x.vals from congrArg ObjS.descs e1] at hd
  exact sh_find (hS.inv.obj hx) h0 hk hd
theorem flags_at {a b : List DescP} (h : a.map (·.2.2) = b.map (·.2.2)) {i : Nat} {d e : DescP} (hd : a[i]? = some d) (he : b[i]? = some e) : d.2.2 = e.2.2 := by
  have := congrArg (fun l => l[i]?) h
  simp only [List.getElem?_map, hd, he, Option.map_some, Option.some.injEq] at this
  exact this
theorem names_at {a b : List ByteArray} (h : a = b) {i : Nat} {d e : ByteArray} (hd : a[i]? = some d) (he : b[i]? = some e) : d = e := by
  subst h; exact Option.some.inj (hd.symm.trans he)
theorem objA' {n len : Nat} (h : n < len) (hl : len ≤ 65536) : objAt (18445055223849287680 + (n : Int)) len = some n := by
  rw [show (18445055223849287680 : Int) = 65530 * 281474976710656 from by decide]; exact objAt_mk h hl
end Go.Proofs.YtdfhbheipagnmaaGreat
namespace Go.Proofs.YtdfhbheipagnmaaGreat
open Go.Sl

theorem ref_Int {W0 : World} {n : Int} : SC Tryz.prog W0 12 #[.int .i32 n] [] (Ret (fun _ : Unit => []) (fun v _ => v = .int .u64 (refInt n))) := by
 refine SC_body (fn := Tryz.f12) (n := 7) Tryz.func12 rfl (by kernel_rfl) (ρ := [(0, .int .i32 n)]) rfl ?_
 refine sr ?_
 refine os 1 ?_
 refine nsr ?_
 refine os 1 ?_
 refine oV (.int .u32 (IntKind.wrap .u32 (n))) ?_
 refine oV (.int .u64 (IntKind.wrap .u64 (IntKind.wrap .u32 (n)))) ?_
 refine oV (.int .u64 (IntKind.wrap .u64 (18444773748872577024 + (IntKind.wrap .u64 (IntKind.wrap .u32 (n)))))) ?_
 refine os 1 ?_
 refine kp [2, 0] ?_
 refine nt ?_
 refine SW_ret ?_
 refine body_end (.int .u64 (IntKind.wrap .u64 (18444773748872577024 + (IntKind.wrap .u64 (IntKind.wrap .u32 (n)))))) (fun _ => rfl) ?_
 exact ⟨(), Own.of_perm (List.Perm.refl _), rfl⟩

theorem law_alive {W0 : World}  : SC Tryz.prog W0 5 #[] [] (Ret (fun _ : Unit => []) (fun v _ => v = .bool true)) := by
 refine SC_body (fn := Tryz.f5) (n := 72) Tryz.func5 rfl (by kernel_rfl) (ρ := []) rfl ?_
 refine sr ?_
 refine os 1 ?_
 refine nsr ?_
 refine L (cl (al_New) ?_)
 rintro _ ⟨H0, F⟩ ⟨rfl, hA0⟩
 refine os 1 ?_
 refine nq ?_
 refine sr ?_
 refine os 1 ?_
 refine oV (.bool false) ?_
 refine nt ?_
 refine cf ?_
 refine SW_skip (n_then ?_)
 refine sr ?_
 refine os 1 ?_
 refine L (cl (al_Make hA0) ?_)
 rintro _ H1 ⟨rfl, hA1⟩
 refine os 5 ?_
 refine kp [3, 2, 13, 1, 0] ?_
 refine nsr ?_
 refine os 2 ?_
 refine L (cl (ref_Int (n := 7)) ?_)
 rintro v3 _ hv3
 obtain rfl : v3 = .int .u64 18444773748872577031 := hv3.trans (congrArg (Value.int .u64) refInt7)
 refine un ?_
 refine oV (.agg #[.int .u64 18444773748872577031, .int .u64 0, .int .i64 7]) ?_
 refine L (cl (al_Put hA1) ?_)
 rintro _ H2 ⟨rfl, hA2⟩
 refine nsr ?_
 refine os 2 ?_
 refine L (cl (al_Get hA2) ?_)
 rintro _ _ rfl
 refine os 3 ?_
 refine kp [29, 28, 3, 2, 13, 1, 0] ?_
 refine L (nw 35 3 [.int .u64 0, .int .u64 0, .int .i64 0] ?_)
 intro b1
 refine L (st [.int .u64 18444773748872577031, .int .u64 0, .int .i64 7] ?_)
 refine os 1 ?_
 refine nsr ?_
 refine os 2 ?_
 refine L (cl (al_Shape hA2) ?_)
 rintro _ _ rfl
 refine os 5 ?_
 refine kp [7, 6, 5, 4, 3, 2, 13, 1, 0] ?_
 refine nsr ?_
 refine os 2 ?_
 refine L (cl (al_Find hA2) ?_)
 rintro _ _ rfl
 refine os 7 ?_
 refine kp [10, 9, 8, 7, 6, 5, 4, 3, 2, 13, 1, 0] ?_
 refine nq ?_
 refine SW_draw [(b1, 0, .int .u64 18444773748872577031)] [0, 1, 2, 3, 4, 5, 7] (by kernel_rfl) (rd_cons (Cell.own (mem_a mem_z) rfl) rd_nil) ?_
 refine aS 0 ?_
 refine aS 1 ?_
 refine aS 2 ?_
 refine aS 3 ?_
 refine aS 4 ?_
 refine aF 5 ?_
 refine aL 6 ?_
 refine sa1 true 7 (h := cl (ref_Int (n := 7)) ?_)
 rintro v10 _ hv10
 obtain rfl : v10 = .int .u64 18444773748872577031 := hv10.trans (congrArg (Value.int .u64) refInt7)
 try simp only [List.cons_append, List.append_assoc, List.nil_append]
 refine ⟨fun hnd => (rd_cons (Cell.own (mem_a mem_z) rfl) rd_nil), ?_⟩
 refine tk 8 (.bool true) ?_
 refine aS 9 ?_
 refine kpA [52, 10, 9, 8, 7, 6, 5, 4, 3, 2, 13, 1, 0] ?_
 refine aS 10 ?_
 refine aS 11 ?_
 refine aS 12 ?_
 refine aS 13 ?_
 refine aS 14 ?_
 refine aS 15 ?_
 refine aS 16 ?_
 refine aS 17 ?_
 refine tk 18 (.bool true) ?_
 refine kpA [61, 59, 10, 9, 8, 7, 6, 5, 4, 3, 2, 13, 1, 0] ?_
 refine aS 19 ?_
 refine aS 20 ?_
 refine aS 21 ?_
 refine tk 22 (.bool true) ?_
 refine aS 23 ?_
 refine aS 24 ?_
 refine aS 25 ?_
 refine sa1 false 26 (h := cl (al_Objects hA2) ?_)
 rintro _ _ rfl
 refine ⟨fun hnd => (by cases hnd), ?_⟩
 refine kpA [69, 67, 10, 9, 8, 7, 6, 5, 4, 3, 2, 13, 1, 0] ?_
 refine tk 27 (.bool true) ?_
 refine aS 28 ?_
 refine aS 29 ?_
 refine SA_done (by kernel_rfl) (n_then ?_)
 refine SW_ret ?_
 refine body_end (.bool true) (fun _ => rfl) ?_
 exact ⟨(), ⟨_, List.Perm.refl _⟩, rfl⟩

end Go.Proofs.YtdfhbheipagnmaaGreat
namespace Go.Proofs.YtdfhbheipagnmaaGreat
open Go.Sl
variable {k : Nat} {H : HeapV} {F : HeapF} {R : RSt} {x : ObjL}
theorem eqDesc (a b c a' b' c' : Int) (w : World) : (Op.equalIn 10000 35 (.agg #[.int .u64 a, .int .u64 b, .int .i64 c]) (.agg #[.int .u64 a', .int .u64 b', .int .i64 c'])).run Tryz.prog w = .ok (a == a' && (b == b' && c == c')) w := by
  have u1 := Tryz.underlying33
  have a1 := Tryz.isAgg33
  have z1 := Tryz.sizeOf33
  have u2 := Tryz.underlying3
  have a2 := Tryz.isAgg3
  have z2 := Tryz.sizeOf3
  rw [show (10000 : Nat) = 9999 + 1 from rfl, run_equalIn_agg w 9999 35 _ _ (by kernel_rfl) (by kernel_rfl)]
  simp only [Program.fieldsOf, Tryz.underlying35]
  go_simp
  by_cases h1 : a = a' <;> by_cases h2 : b = b' <;> by_cases h3 : c = c' <;> simp [h1, h2, h3]
theorem neqD {ρ : Fr} {x y : Operand} {dst : Option Tmp} {t2 ty : TypeId} {pos : String} {after : Array Edge} {gd : Option (Nat × Bool)} {a b c a' b' c' : Int} (hx : ∀ δ, ev δ ρ x = .agg #[.int .u64 a, .int .u64 b, .int .i64 c] := by exact fun _ => rfl) (hy : ∀ δ, ev δ ρ y = .agg #[.int .u64 a', .int .u64 b', .int .i64 c'] := by exact fun _ => rfl) :
    ∀ δ w, (execOp (ev δ ρ) ⟨dst, .binOp .neq 35 x y t2, ty, pos, after, gd⟩).run Tryz.prog w = .ok (.value (.bool (!(a == a' && (b == b' && c == c'))))) w := by
  intro δ w
  simp only [execOp, hx, hy]
  rw [Sem.run_bind, Sem.run_bind, run_eqGuard_agg _ _ _ _ _ _ _ (by kernel_rfl), Result.andThen_ok, run_neq_struct, eqDesc]
  rfl
theorem eqlD {ρ : Fr} {x y : Operand} {dst : Option Tmp} {t2 ty : TypeId} {pos : String} {after : Array Edge} {gd : Option (Nat × Bool)} {a b c a' b' c' : Int} (hx : ∀ δ, ev δ ρ x = .agg #[.int .u64 a, .int .u64 b, .int .i64 c] := by exact fun _ => rfl) (hy : ∀ δ, ev δ ρ y = .agg #[.int .u64 a', .int .u64 b', .int .i64 c'] := by exact fun _ => rfl) :
    ∀ δ w, (execOp (ev δ ρ) ⟨dst, .binOp .eql 35 x y t2, ty, pos, after, gd⟩).run Tryz.prog w = .ok (.value (.bool (a == a' && (b == b' && c == c')))) w := by
  intro δ w
  simp only [execOp, hx, hy]
  rw [Sem.run_bind, Sem.run_bind, run_eqGuard_agg _ _ _ _ _ _ _ (by kernel_rfl), Result.andThen_ok, run_eql_struct, eqDesc]
  rfl
theorem Sim.pubAt (hS : Sim k H F R) {n : Nat} {y : RObj} (hy : R.objs[n]? = some y) : (H.pub F)[n]? = some y.pub := by rw [hS.objs]; exact RSt.pub_at hy
theorem Sim.objAt (hS : Sim k H F R) {n : Nat} (hn : n < R.objs.length) (hl : R.objs.length ≤ 65536) : Go.Proofs.YtdfhbheipagnmaaGreat.objAt (18445055223849287680 + (n : Int)) (H.pub F).length = some n := by
  rw [HeapV.pub_len, hS.len]; exact objA' hn hl
theorem Sim.get (hS : Sim k H F R) {n i : Nat} {y : RObj} {key : ByteArray} {d : DescP} (hy : R.objs[n]? = some y) (hk : y.names[i]? = some key) (hd : y.descs[i]? = some d) : getP y.pub.names y.pub.descs key = some d := by
  have hn : y.names.Nodup := hS.inv.nodup (List.mem_of_getElem? (hS.pubAt hy))
  have e := ixS_at hn hk
  show getP y.names y.descs key = some d
  unfold getP
  rw [if_neg (by omega), e]
  exact hd
theorem Sim.slot (hS : Sim k H F R) {n i : Nat} {y : RObj} {d : DescP} (hx : H.objs[n]? = some x) (hy : R.objs[n]? = some y) (hd : y.descs[i]? = some d) : slotO x (i : Int) = some d := by
  rw [show y.descs = x.vals from congrArg ObjS.descs (hS.at hx hy)] at hd
  unfold slotO
  rw [if_pos ⟨by omega, by have := (List.getElem?_eq_some_iff.1 hd).1; omega⟩]
  exact hd
theorem Sim.text (hS : Sim k H F R) {i : Nat} {t : ByteArray} (ht : R.texts[i]? = some t) : textO H.texts (18445618173802708992 + (i : Int)) = some t := by
  have hl := (List.getElem?_eq_some_iff.1 ht).1
  have hm := hS.inv.ok.texts
  rw [hS.texts] at hm
  unfold textO
  rw [show (18445618173802708992 : Int) = 65532 * 281474976710656 from by decide, tagOf_mk (by decide) (by omega), hS.texts]
  exact ht
theorem Sim.shapes (hS : Sim k H F R) (hm : F.T.most ≤ 256) : (H.V.l.length : Int) ≤ 256 := by have := hS.inv.ok.tree.cap; omega
theorem wordOk_obj {n : Nat} (h : n < 65536) : wordOk (18445055223849287680 + (n : Int)) := ⟨by omega, by omega⟩
end Go.Proofs.YtdfhbheipagnmaaGreat
namespace Go.Proofs.YtdfhbheipagnmaaGreat
open Go.Sl

theorem law_words {W0 : World} {σ : Heaplet} {a b : List Int} {A B : Option Addr} {c d : Nat} (ha : Src W0 σ A (a.map encU)) (hb : Src W0 σ B (b.map encU)) (hr : a.length ≤ 1099511627776) : SC Tryz.prog W0 44 #[.slice A a.length c, .slice B b.length d] σ (Ret (fun _ : Unit => σ) (fun v _ => v = .bool (decide (a = b)))) := by
  by_cases hne : a.length = b.length
  rotate_left
  · skip
    refine SC_body (fn := Tryz.f44) (n := 26) Tryz.func44 rfl (by kernel_rfl) (ρ := [(0, .slice A a.length c), (1, .slice B b.length d)]) rfl ?_
    refine SW_sig (σ ++ ([])) (by simp only [List.append_nil, List.append_assoc]) ?_
    have hka := ha
    have hkb := hb
    refine sr ?_
    refine os 1 ?_
    refine nq ?_
    refine sr ?_
    refine os 5 ?_
    refine kp [10, 4, 0, 1] ?_
    refine nt ?_
    refine SW_true (fun _ => (congrArg Value.bool (show ((a.length : Int) != (b.length : Int)) = true from (by simp only [bne_iff_ne, ne_eq]; omega)))) ?_
    refine sr ?_
    refine os 1 ?_
    refine nt ?_
    refine SW_ret (r_then ?_)
    refine body_end (.bool false) (fun _ => rfl) ?_
    exact ⟨(), ow, congrArg Value.bool ((decide_eq_false (fun q => hne (by rw [q]))).symm)⟩
  by_cases hz : a.length = 0
  · skip
    refine SC_body (fn := Tryz.f44) (n := 26) Tryz.func44 rfl (by kernel_rfl) (ρ := [(0, .slice A a.length c), (1, .slice B b.length d)]) rfl ?_
    refine SW_sig (σ ++ ([])) (by simp only [List.append_nil, List.append_assoc]) ?_
    have hka := ha
    have hkb := hb
    refine sr ?_
    refine os 1 ?_
    refine nq ?_
    refine sr ?_
    refine os 5 ?_
    refine kp [10, 4, 0, 1] ?_
    refine nt ?_
    refine SW_false (fun _ => (congrArg Value.bool (show ((a.length : Int) != (b.length : Int)) = false from (by simp only [bne_eq_false_iff_eq]; omega)))) ?_
    refine SW_skip (n_then ?_)
    refine SW_seq ?_
    refine sr ?_
    refine os 3 ?_
    refine nt ?_
    refine SW_block ?_
    refine SW_loop (α := Nat) (fun z_ ρ_ σ_ => Fits ρ_ σ_ [(13, .int .i64 (z_ : Int)), (12, .int .i64 (a.length : Int)), (0, .slice A a.length c), (1, .slice B b.length d)] (σ ++ ([])) ∧ z_ ≤ a.length ∧ a.take z_ = b.take z_) (fun z_ => a.length - z_) 0 ⟨⟨fun _ => rfl, ow⟩, Nat.zero_le _, rfl⟩ ?_
    rintro i ρ_ σ_ ⟨hfit, hi0, hi1⟩
    refine SW_fits hfit ?_
    clear hfit
    refine sr ?_
    refine os 1 ?_
    refine nq ?_
    refine SW_false (fun _ => (congrArg Value.bool (show (decide ((i : Int) < (a.length : Int))) = false from (by simp; omega)))) ?_
    refine SW_exit (x_then (x_then (x_in (n_then ?_))))
    refine sr ?_
    refine os 1 ?_
    refine nt ?_
    refine SW_ret ?_
    refine body_end (.bool true) (fun _ => rfl) ?_
    exact ⟨(), ow, congrArg Value.bool ((decide_eq_true (by have h1 := List.take_of_length_le (l := a) (i := i) (by omega); have h2 := List.take_of_length_le (l := b) (i := i) (by omega); rw [← h1, ← h2]; exact hi1)).symm)⟩
  · obtain ⟨ba, oa, rfl, hqa⟩ := ha.resolve_left (by simpa using hz)
    obtain ⟨bb, ob, rfl, hqb⟩ := hb.resolve_left (by simp only [List.length_map]; omega)
    refine SC_body (fn := Tryz.f44) (n := 26) Tryz.func44 rfl (by kernel_rfl) (ρ := [(0, .slice (some ⟨ba, oa, none⟩) a.length c), (1, .slice (some ⟨bb, ob, none⟩) b.length d)]) rfl ?_
    refine SW_sig (σ ++ ([])) (by simp only [List.append_nil, List.append_assoc]) ?_
    refine sr ?_
    refine os 1 ?_
    refine nq ?_
    refine sr ?_
    refine os 5 ?_
    refine kp [10, 4, 0, 1] ?_
    refine nt ?_
    refine SW_false (fun _ => (congrArg Value.bool (show ((a.length : Int) != (b.length : Int)) = false from (by simp only [bne_eq_false_iff_eq]; omega)))) ?_
    refine SW_skip (n_then ?_)
    refine SW_seq ?_
    refine sr ?_
    refine os 3 ?_
    refine nt ?_
    refine SW_block ?_
    refine SW_loop (α := Nat) (fun z_ ρ_ σ_ => Fits ρ_ σ_ [(13, .int .i64 (z_ : Int)), (12, .int .i64 (a.length : Int)), (0, .slice (some ⟨ba, oa, none⟩) a.length c), (1, .slice (some ⟨bb, ob, none⟩) b.length d)] (σ ++ ([])) ∧ z_ ≤ a.length ∧ a.take z_ = b.take z_) (fun z_ => a.length - z_) 0 ⟨⟨fun _ => rfl, ow⟩, Nat.zero_le _, rfl⟩ ?_
    rintro i ρ_ σ_ ⟨hfit, hi0, hi1⟩
    refine SW_fits hfit ?_
    clear hfit
    refine sr ?_
    refine os 1 ?_
    refine nq ?_
    refine cdp (fun hc1 : (i : Int) < (a.length : Int) => ?_) (fun hc1 => ?_)
    ·skip
     refine SW_skip (n_then ?_)
     refine SW_seq ?_
     refine SW_block ?_
     refine sr ?_
     refine os 2 ?_
     refine nq ?_
     obtain ⟨e1, he1⟩ : ∃ y_, a[i]? = some y_ := ⟨_, List.getElem?_eq_getElem (by omega)⟩
     obtain ⟨e2, he2⟩ : ∃ y_, b[i]? = some y_ := ⟨_, List.getElem?_eq_getElem (by omega)⟩
     refine SW_draw [(ba, oa + i, .int .u64 e1), (bb, ob + i, .int .u64 e2)] [0, 1, 2, 3, 4, 5, 6, 7] (by kernel_rfl) (rd_cons (Cell.mono (hqa _ _ (map_cell he1 rfl)) (fun e he => (mem_h he))) (rd_cons (Cell.mono (hqb _ _ (map_cell he2 rfl)) (fun e he => (mem_h he))) rd_nil)) ?_
     refine aS 0 ?_
     refine aS 1 ?_
     refine tk 2 (pt ba (oa + i)) ?_ (hy := fun δ w => run_indexAddr (i : Int) (oa + i) ba oa a.length c .i64 1 Tryz.underlying36 (by kernel_rfl) (fun _ => rfl) (fun _ => rfl) (by omega) (by omega) (by omega))
     refine aL 3 ?_
     refine aS 4 ?_
     refine aS 5 ?_
     refine tk 6 (pt bb (ob + i)) ?_ (hy := fun δ w => run_indexAddr (i : Int) (ob + i) bb ob b.length d .i64 1 Tryz.underlying36 (by kernel_rfl) (fun _ => rfl) (fun _ => rfl) (by omega) (by omega) (by omega))
     refine aL 7 ?_
     refine aS 8 ?_
     refine kpA [24, 5, 14, 13, 12, 0, 1] ?_
     refine SA_done (by kernel_rfl) (n_then ?_)
     refine cd (fun hc2 : (e1 != e2) = true => ?_) (fun hc2 => ?_)
     ·skip
      refine sr ?_
      refine os 1 ?_
      refine nt ?_
      refine SW_ret (r_in (r_then (r_then (r_in (r_then ?_)))))
      refine body_end (.bool false) (fun _ => rfl) ?_
      exact ⟨(), ow, congrArg Value.bool ((decide_eq_false (by rintro rfl; have q := he1.symm.trans he2; simp only [Option.some.injEq] at q; simp [q] at hc2)).symm)⟩
     ·skip
      refine SW_skip (n_in (n_then ?_))
      refine SW_region ?_
      refine os 2 ?_
      refine nt ?_
      exact ⟨i + 1, by omega, ⟨fun _ => rfl, ow⟩, by omega, by rw [List.take_add_one, List.take_add_one, hi1, he1, he2]; simpa using hc2⟩
    ·skip
     refine SW_exit (x_then (x_then (x_in (n_then ?_))))
     refine sr ?_
     refine os 1 ?_
     refine nt ?_
     refine SW_ret ?_
     refine body_end (.bool true) (fun _ => rfl) ?_
     exact ⟨(), ow, congrArg Value.bool ((decide_eq_true (by have h1 := List.take_of_length_le (l := a) (i := i) (by omega); have h2 := List.take_of_length_le (l := b) (i := i) (by omega); rw [← h1, ← h2]; exact hi1)).symm)⟩

end Go.Proofs.YtdfhbheipagnmaaGreat
namespace Go.Proofs.YtdfhbheipagnmaaGreat
open Go.Sl

theorem law_stands {W0 : World} {k : Nat} {H : HeapV} {F : HeapF} {R : RSt} (hS : Sim k H F R) (hk : k ≤ 8000000) (hm : F.T.most ≤ 256) : SC Tryz.prog W0 7 #[.pointer (some ⟨F.p, 0, none⟩), R.val] (HeapV.ent H F ++ (RSt.ent R ++ [])) (Ret (fun _ : Unit => HeapV.ent H F ++ (RSt.ent R ++ [])) (fun v _ => v = .bool true)) := by
 refine SC_body (fn := Tryz.f7) (n := 217) Tryz.func7 rfl (by kernel_rfl) (ρ := [(0, pt F.p 0), (1, .agg #[Gs.val R.s R.objs.length, Gs.val R.ts R.texts.length])]) rfl ?_
 rw [RSt.eq]
 have hR := hS.ok
 have hlen := hS.len
 have hcap : R.objs.length ≤ 65536 := by rw [← RSt.pub_len]; exact hS.lok.len
 have hsh := hS.shapes hm
 have htx : R.texts.length ≤ 16384 := by rw [← hS.texts]; exact hS.inv.ok.texts
 refine sr ?_
 refine L (nw 28 2 [Gs.val R.s R.objs.length, Gs.val R.ts R.texts.length] ?_)
 intro b1
 refine os 1 ?_
 refine nq ?_
 refine SW_seq ?_
 refine SW_draw [(b1, 0, Gs.val R.s R.objs.length)] [0, 1, 2] (by kernel_rfl) (rd_cons (Cell.own mem_z rfl) rd_nil) ?_
 refine aS 0 ?_
 refine aF 2 ?_
 refine aL 3 ?_
 refine aS 4 ?_
 refine sa1 true 1 (h := cl (heap_Objects hS.inv.ok) ?_)
 rintro v3 _ hv3
 obtain rfl : v3 = .int .i64 (R.objs.length : Int) := hv3.trans (congrArg (fun q : Nat => Value.int .i64 (q : Int)) hlen)
 refine ⟨fun hnd => (rd_cons (Cell.own (mem_a mem_z) rfl) rd_nil), ?_⟩
 refine aS 5 ?_
 refine aS 6 ?_
 refine pnA 30 (show ((R.objs.length : Int) != (R.objs.length : Int)) = false from (by simp)) ?_
 refine aS 7 ?_
 refine sa1 false 8 (h := cl (heap_Shapes hS.inv.ok) ?_)
 rintro _ _ rfl
 refine ⟨fun hnd => (by cases hnd), ?_⟩
 refine aS 9 ?_
 refine kpA [33, 30, 4, 3, 0, 1] ?_
 refine aS 10 ?_
 refine SA_done (by kernel_rfl) (n_then ?_)
 refine SW_false (fun _ => (congrArg Value.bool (show (decide ((H.V.l.length : Int) > 256)) = false from (by simp; omega)))) ?_
 refine SW_skip (n_then ?_)
 refine SW_seq ?_
 refine sr ?_
 refine os 1 ?_
 refine L (ld ?_)
 refine os 2 ?_
 refine kp [38, 37, 34, 4, 3, 0, 1] ?_
 refine nt ?_
 refine SW_block ?_
 refine SW_loop (α := Nat) (fun z_ ρ_ σ_ => Fits ρ_ σ_ [(0, pt F.p 0), (3, pt b1 0), (4, .bool false), (37, .int .i64 (R.objs.length : Int)), (38, .int .i64 (z_ : Int))] ((HeapV.ent H F) ++ ((b1, .cells 28 2 [Gs.val R.s R.objs.length, Gs.val R.ts R.texts.length]) :: ((Gs.ent 83 7 R.s (R.objs.flatMap RObj.cells)) ++ ((R.objs.flatMap RObj.ent) ++ ((Gs.ent 9 1 R.ts (R.texts.map encS)) ++ ([])))))) ∧ z_ ≤ R.objs.length) (fun z_ => R.objs.length - z_) 0 ⟨⟨fun _ => rfl, ow⟩, Nat.zero_le _⟩ ?_
 rintro n ρ_ σ_ ⟨hfit, hi0⟩
 refine SW_fits hfit ?_
 clear hfit
 refine sr ?_
 refine os 1 ?_
 refine nq ?_
 refine cdp (fun hc2 : (n : Int) < (R.objs.length : Int) => ?_) (fun hc2 => ?_)
 ·skip
  refine SW_skip (n_then ?_)
  refine SW_seq ?_
  refine SW_block ?_
  refine SW_seq ?_
  obtain ⟨y, hy⟩ : ∃ q_, R.objs[n]? = some q_ := ⟨_, List.getElem?_eq_getElem (by omega)⟩
  obtain ⟨x, hx⟩ : ∃ q_, H.objs[n]? = some q_ := ⟨_, List.getElem?_eq_getElem (by omega)⟩
  have q0_ := hS.at hx hy
  have q1_ : y.kind = x.kind := congrArg ObjS.kind q0_
  have q2_ : y.proto = x.proto := congrArg ObjS.proto q0_
  have q3_ : y.shut = x.shut := congrArg ObjS.shut q0_
  have hin : y.inner.length ≤ 1048576 := by rw [show y.inner = x.inner from congrArg ObjS.inner q0_]; exact hS.inv.in' hx
  have hmy := List.mem_of_getElem? (RSt.pub_at hy)
  have hsm : y.names.length = y.descs.length := hS.lok.same _ hmy
  have hsd : y.descs.length ≤ k := hS.lok.descs _ hmy
  have hse : y.elems.length ≤ 4096 := hS.lok.elems _ hmy
  refine SW_region ?_
  refine os 2 ?_
  refine nsr ?_
  refine os 4 ?_
  refine kp [6, 5, 39, 0, 3, 4, 37, 38] ?_
  refine nsr ?_
  refine os 1 ?_
  refine L (ld ?_)
  refine os 1 ?_
  refine L (ixg (n : Int) (n * 7) hR.row Tryz.underlying25 ?_)
  refine L (ldr [.int .i64 y.kind, .int .u64 y.proto, .bool y.shut, Gs.val y.ns y.names.length, Gs.val y.ds y.descs.length, Gs.val y.es y.elems.length, Gs.val y.is y.inner.length] (cells_cons (Gs.cell hR.row (fun e he => (mem_a (mem_c (mem_h he)))) (flat_cell RObj.len hy (j := 0) (by decide) rfl)) (cells_cons (Gs.cell hR.row (fun e he => (mem_a (mem_c (mem_h he)))) (flat_cell RObj.len hy (j := 1) (by decide) rfl)) (cells_cons (Gs.cell hR.row (fun e he => (mem_a (mem_c (mem_h he)))) (flat_cell RObj.len hy (j := 2) (by decide) rfl)) (cells_cons (Gs.cell hR.row (fun e he => (mem_a (mem_c (mem_h he)))) (flat_cell RObj.len hy (j := 3) (by decide) rfl)) (cells_cons (Gs.cell hR.row (fun e he => (mem_a (mem_c (mem_h he)))) (flat_cell RObj.len hy (j := 4) (by decide) rfl)) (cells_cons (Gs.cell hR.row (fun e he => (mem_a (mem_c (mem_h he)))) (flat_cell RObj.len hy (j := 5) (by decide) rfl)) (cells_cons (Gs.cell hR.row (fun e he => (mem_a (mem_c (mem_h he)))) (flat_cell RObj.len hy (j := 6) (by decide) rfl)) cells_nil))))))) ?_)
  refine L (nw 83 7 [.int .i64 0, .int .u64 0, .bool false, .slice none 0 0, .slice none 0 0, .slice none 0 0, .slice none 0 0] ?_)
  intro b3
  refine L (st [.int .i64 y.kind, .int .u64 y.proto, .bool y.shut, Gs.val y.ns y.names.length, Gs.val y.ds y.descs.length, Gs.val y.es y.elems.length, Gs.val y.is y.inner.length] ?_)
  refine nsr ?_
  refine os 2 ?_
  refine L (cl (heap_Kind_some hS.inv.ok (w := (18445055223849287680 + (n : Int))) (objA' (by omega) (by omega)) hx) ?_)
  rintro v5 _ hv5
  obtain rfl : v5 = .tuple #[.int .i64 y.kind, .bool true] := hv5.trans (by rw [← q1_])
  refine os 5 ?_
  refine kp [9, 8, 7, 6, 5, 39, 0, 3, 4, 37, 38] ?_
  refine nsr ?_
  refine os 2 ?_
  refine L (cl (hp_Keys hk hS.inv (w := (18445055223849287680 + (n : Int))) (hS.objAt (by omega) hcap) (hS.pubAt hy)) ?_)
  rintro _ kg ⟨rfl, hkg⟩
  refine un ?_
  replace hkg : Gs.ok 1 y.names.length kg (y.names.map encS) := hkg
  refine os 1 ?_
  refine kp [10, 9, 8, 7, 6, 5, 39, 0, 3, 4, 37, 38] ?_
  refine nq ?_
  refine SW_seq ?_
  refine SW_draw [(b3, 0, .int .i64 y.kind), (b3, 1, .int .u64 y.proto), (b3, 2, .bool y.shut), (b3, 3, Gs.val y.ns y.names.length), (b3, 5, Gs.val y.es y.elems.length), (b3, 6, Gs.val y.is y.inner.length)] [0, 1, 2, 3, 4, 5, 6, 7, 8, 9, 10, 11, 12, 13, 14, 15, 16, 17, 18, 19, 20, 21, 22, 23, 24, 25, 26, 27, 28, 29, 30, 31, 32, 33, 34, 35, 36, 37, 38, 39, 40, 41, 42, 43, 44, 45] (by kernel_rfl) (rd_cons (Cell.own (mem_a (mem_a mem_z)) rfl) (rd_cons (Cell.own (mem_a (mem_a mem_z)) rfl) (rd_cons (Cell.own (mem_a (mem_a mem_z)) rfl) (rd_cons (Cell.own (mem_a (mem_a mem_z)) rfl) (rd_cons (Cell.own (mem_a (mem_a mem_z)) rfl) (rd_cons (Cell.own (mem_a (mem_a mem_z)) rfl) rd_nil)))))) ?_
  refine aS 0 ?_
  refine tk 1 (.bool false) ?_
  refine aS 2 ?_
  refine aS 3 ?_
  refine aF 4 ?_
  refine aL 5 ?_
  refine aS 6 ?_
  refine aS 7 ?_
  refine aS 8 ?_
  refine kpA [66, 10, 9, 8, 7, 6, 5, 39, 0, 3, 4, 37, 38] ?_
  refine pnA 66 (show (y.kind != y.kind) = false from (by simp)) ?_
  refine aS 9 ?_
  refine aS 10 ?_
  refine aF 12 ?_
  refine aL 13 ?_
  refine sa1 true 11 (h := cl (heap_Proto_some hS.inv.ok (w := (18445055223849287680 + (n : Int))) (objA' (by omega) (by omega)) hx) ?_)
  rintro v12 _ hv12
  obtain rfl : v12 = .int .u64 y.proto := hv12.trans (by rw [← q2_])
  refine ⟨fun hnd => (rd_cons (Cell.own (mem_a (mem_a mem_z)) rfl) (rd_cons (Cell.own (mem_a (mem_a mem_z)) rfl) (rd_cons (Cell.own (mem_a (mem_a mem_z)) rfl) (rd_cons (Cell.own (mem_a (mem_a mem_z)) rfl) (rd_cons (Cell.own (mem_a (mem_a mem_z)) rfl) (rd_cons (Cell.own (mem_a (mem_a mem_z)) rfl) rd_nil)))))), ?_⟩
  refine aS 14 ?_
  refine aS 15 ?_
  refine aS 16 ?_
  refine kpA [74, 10, 9, 8, 7, 6, 5, 39, 0, 3, 4, 37, 38] ?_
  refine pnA 74 (show (y.proto != y.proto) = false from (by simp)) ?_
  refine aS 17 ?_
  refine aS 18 ?_
  refine aF 20 ?_
  refine aL 21 ?_
  refine sa1 true 19 (h := cl (heap_Open_some hS.inv.ok (w := (18445055223849287680 + (n : Int))) (objA' (by omega) (by omega)) hx) ?_)
  rintro v13 _ hv13
  obtain rfl : v13 = .bool (!y.shut) := hv13.trans (by rw [← q3_])
  refine ⟨fun hnd => (rd_cons (Cell.own (mem_a (mem_a mem_z)) rfl) (rd_cons (Cell.own (mem_a (mem_a mem_z)) rfl) (rd_cons (Cell.own (mem_a (mem_a mem_z)) rfl) (rd_cons (Cell.own (mem_a (mem_a mem_z)) rfl) (rd_cons (Cell.own (mem_a (mem_a mem_z)) rfl) (rd_cons (Cell.own (mem_a (mem_a mem_z)) rfl) rd_nil)))))), ?_⟩
  refine aS 22 ?_
  refine aS 23 ?_
  refine aS 24 ?_
  refine kpA [82, 10, 9, 8, 7, 6, 5, 39, 0, 3, 4, 37, 38] ?_
  refine pnA 82 (show ((!y.shut) == y.shut) = false from (by cases y.shut <;> rfl)) ?_
  refine aS 25 ?_
  refine aS 26 ?_
  refine aF 27 ?_
  refine aL 28 ?_
  refine aS 29 ?_
  refine aS 30 ?_
  refine aS 31 ?_
  refine aS 32 ?_
  refine kpA [90, 10, 9, 8, 7, 6, 5, 39, 0, 3, 4, 37, 38] ?_
  refine pnA 90 (show ((y.names.length : Int) != (y.names.length : Int)) = false from (by simp)) ?_
  refine aS 33 ?_
  refine aS 34 ?_
  refine aF 36 ?_
  refine aL 37 ?_
  refine aS 38 ?_
  refine sa1 true 35 (h := cl (hp_Len hS.inv (w := (18445055223849287680 + (n : Int))) (hS.objAt (by omega) hcap) (hS.pubAt hy)) ?_)
  rintro _ _ rfl
  refine ⟨fun hnd => (rd_cons (Cell.own (mem_a (mem_a mem_z)) rfl) (rd_cons (Cell.own (mem_a (mem_a mem_z)) rfl) (rd_cons (Cell.own (mem_a (mem_a mem_z)) rfl) (rd_cons (Cell.own (mem_a (mem_a mem_z)) rfl) (rd_cons (Cell.own (mem_a (mem_a mem_z)) rfl) (rd_cons (Cell.own (mem_a (mem_a mem_z)) rfl) rd_nil)))))), ?_⟩
  refine aS 39 ?_
  refine aS 40 ?_
  refine kpA [98, 10, 9, 8, 7, 6, 5, 39, 0, 3, 4, 37, 38] ?_
  refine aS 41 ?_
  refine pnA 99 (show ((y.elems.length : Int) != (y.elems.length : Int)) = false from (by simp)) ?_
  refine aS 42 ?_
  refine aS 43 ?_
  refine aF 45 ?_
  refine aL 46 ?_
  refine sa1 true 44 (h := cl (hp_Inner hS.inv (w := (18445055223849287680 + (n : Int))) (hS.objAt (by omega) hcap) (hS.pubAt hy)) ?_)
  rintro _ ig ⟨rfl, hig⟩
  try simp only [List.cons_append, List.append_assoc, List.nil_append]
  refine ⟨fun hnd => (rd_cons (Cell.own (mem_a (mem_a (mem_a mem_z))) rfl) (rd_cons (Cell.own (mem_a (mem_a (mem_a mem_z))) rfl) (rd_cons (Cell.own (mem_a (mem_a (mem_a mem_z))) rfl) (rd_cons (Cell.own (mem_a (mem_a (mem_a mem_z))) rfl) (rd_cons (Cell.own (mem_a (mem_a (mem_a mem_z))) rfl) (rd_cons (Cell.own (mem_a (mem_a (mem_a mem_z))) rfl) rd_nil)))))), ?_⟩
  replace hig : Gs.ok 1 y.inner.length ig (y.inner.map encU) := hig
  refine sa1 false 47 (h := clA (law_words (a := y.inner) (b := y.inner) (Gs.src0 hig (fun e he => (mem_h he))) (Gs.src0 (RSt.ok.at hR hy).is (fun e he => (mem_a (mem_a (mem_a (mem_c (mem_c (mem_a (mem_h ((RObj.mis hy) _ he)))))))))) (by omega)) ?_)
  rintro v16 _ hv16
  obtain rfl : v16 = .bool true := hv16.trans (congrArg Value.bool (decide_eq_true rfl))
  try simp only [List.cons_append, List.append_assoc, List.nil_append]
  refine ⟨fun hnd => (by cases hnd), ?_⟩
  refine tk 48 (.bool false) ?_
  refine aS 49 ?_
  refine kpA [107, 10, 9, 8, 7, 6, 5, 39, 0, 3, 4, 37, 38] ?_
  refine SA_done (by kernel_rfl) (n_then ?_)
  refine cf ?_
  refine SW_skip (n_then ?_)
  refine SW_seq ?_
  refine sr ?_
  refine os 3 ?_
  refine nt ?_
  refine SW_block ?_
  refine SW_loop (α := Nat) (fun z_ ρ_ σ_ => Fits ρ_ σ_ [(0, pt F.p 0), (3, pt b1 0), (4, .bool false), (37, .int .i64 (R.objs.length : Int)), (38, .int .i64 (n : Int)), (6, .int .u64 (18445055223849287680 + (n : Int))), (7, pt b3 0), (10, Gs.val kg y.names.length), (109, .int .i64 (y.names.length : Int)), (110, .int .i64 (z_ : Int))] ((Gs.ent 33 1 ig (y.inner.map encU)) ++ ((HeapV.ent H F) ++ ((Gs.ent 9 1 kg (y.names.map encS)) ++ ((b3, .cells 83 7 [.int .i64 y.kind, .int .u64 y.proto, .bool y.shut, Gs.val y.ns y.names.length, Gs.val y.ds y.descs.length, Gs.val y.es y.elems.length, Gs.val y.is y.inner.length]) :: ((b1, .cells 28 2 [Gs.val R.s R.objs.length, Gs.val R.ts R.texts.length]) :: ((Gs.ent 83 7 R.s (R.objs.flatMap RObj.cells)) ++ ((R.objs.flatMap RObj.ent) ++ ((Gs.ent 9 1 R.ts (R.texts.map encS)) ++ ([]))))))))) ∧ z_ ≤ y.names.length) (fun z_ => y.names.length - z_) 0 ⟨⟨fun _ => rfl, ow⟩, Nat.zero_le _⟩ ?_
  rintro i2_ ρ_ σ_ ⟨hfit, hi0⟩
  refine SW_fits hfit ?_
  clear hfit
  refine sr ?_
  refine os 1 ?_
  refine nq ?_
  refine cdp (fun hc4 : (i2_ : Int) < (y.names.length : Int) => ?_) (fun hc4 => ?_)
  ·skip
   refine SW_skip (n_then ?_)
   refine SW_seq ?_
   refine SW_block ?_
   refine sr ?_
   refine os 2 ?_
   refine nq ?_
   obtain ⟨e1, he1⟩ : ∃ y_, y.names[i2_]? = some y_ := ⟨_, List.getElem?_eq_getElem (by omega)⟩
   obtain ⟨e2, he2⟩ : ∃ y_, y.descs[i2_]? = some y_ := ⟨_, List.getElem?_eq_getElem (by omega)⟩
   refine SW_region ?_
   refine os 4 ?_
   refine L (ixg (i2_ : Int) (i2_) hkg Tryz.underlying26 ?_)
   refine L (ld ?_ (hc := Gs.cell hkg (fun e he => (mem_a (mem_a (mem_h he)))) (map_cell he1 rfl)))
   refine L (cl (hp_Get hS.inv (w := (18445055223849287680 + (n : Int))) (hS.objAt (by omega) hcap) (hS.pubAt hy) e1) ?_)
   rintro v17 _ hv17
   obtain rfl : v17 = .tuple #[.agg #[.int .u64 e2.1, .int .u64 e2.2.1, .int .i64 e2.2.2], .bool true] := hv17.trans (by rw [hS.get hy he1 he2]; rfl)
   refine os 3 ?_
   refine kp [122, 121, 11, 111, 0, 3, 4, 37, 38, 6, 7, 10, 109, 110] ?_
   refine L (nw 35 3 [.int .u64 0, .int .u64 0, .int .i64 0] ?_)
   intro b5
   refine L (st [.int .u64 e2.1, .int .u64 e2.2.1, .int .i64 e2.2.2] ?_)
   refine os 1 ?_
   refine nq ?_
   refine SW_seq ?_
   refine SW_draw [((Gs.blk kg), i2_, .string e1), (b3, 3, Gs.val y.ns y.names.length), ((Gs.blk y.ns), i2_, .string e1), (b5, 0, .int .u64 e2.1), (b5, 1, .int .u64 e2.2.1), (b5, 2, .int .i64 e2.2.2), (b3, 4, Gs.val y.ds y.descs.length), ((Gs.blk y.ds), i2_ * 3, .int .u64 e2.1), ((Gs.blk y.ds), i2_ * 3 + 1, .int .u64 e2.2.1), ((Gs.blk y.ds), i2_ * 3 + 2, .int .i64 e2.2.2)] [0, 1, 2, 3, 4, 5, 6, 7, 8, 9, 10, 11, 12, 13, 14, 15, 16, 17, 18, 19, 20] (by kernel_rfl) (rd_cons (Gs.cell hkg (fun e he => (mem_c (mem_a (mem_a (mem_h he))))) (map_cell he1 rfl)) (rd_cons (Cell.own (mem_c (mem_a (mem_a (mem_a mem_z)))) rfl) (rd_cons (Gs.cell (RSt.ok.at hR hy).ns (fun e he => (mem_c (mem_a (mem_a (mem_a (mem_c (mem_c (mem_a (mem_h ((RObj.mns hy) _ he)))))))))) (map_cell he1 rfl)) (rd_cons (Cell.own mem_z rfl) (rd_cons (Cell.own mem_z rfl) (rd_cons (Cell.own mem_z rfl) (rd_cons (Cell.own (mem_c (mem_a (mem_a (mem_a mem_z)))) rfl) (rd_cons (Gs.cell (RSt.ok.at hR hy).ds (fun e he => (mem_c (mem_a (mem_a (mem_a (mem_c (mem_c (mem_a (mem_h ((RObj.mds hy) _ he)))))))))) (flat_cell descCells_len he2 (j := 0) (by decide) rfl)) (rd_cons (Gs.cell (RSt.ok.at hR hy).ds (fun e he => (mem_c (mem_a (mem_a (mem_a (mem_c (mem_c (mem_a (mem_h ((RObj.mds hy) _ he)))))))))) (flat_cell descCells_len he2 (j := 1) (by decide) rfl)) (rd_cons (Gs.cell (RSt.ok.at hR hy).ds (fun e he => (mem_c (mem_a (mem_a (mem_a (mem_c (mem_c (mem_a (mem_h ((RObj.mds hy) _ he)))))))))) (flat_cell descCells_len he2 (j := 2) (by decide) rfl)) rd_nil)))))))))) ?_
   refine aS 0 ?_
   refine aS 1 ?_
   refine aI 2 (i2_ : Int) (i2_) hkg Tryz.underlying26 ?_
   refine aL 3 ?_
   refine aF 4 ?_
   refine aL 5 ?_
   refine aS 6 ?_
   refine aI 7 (i2_ : Int) (i2_) ((RSt.ok.at hR hy).ns) Tryz.underlying26 ?_
   refine kpA [130, 126, 13, 12, 11, 111, 0, 3, 4, 37, 38, 6, 7, 10, 109, 110] ?_
   refine aL 8 ?_
   refine tk 9 (.bool (!(e1.toList == e1.toList))) ?_
   rw [show (!(e1.toList == e1.toList)) = (!(decide (e1 = e1))) from by rw [str_eq]]
   refine aS 10 ?_
   refine pnA 133 (show (!(decide (e1 = e1))) = false from (by simp)) ?_
   refine aS 11 ?_
   refine tk 12 (.bool false) ?_
   refine aS 13 ?_
   refine aS 14 ?_
   refine kpA [137, 13, 12, 11, 111, 0, 3, 4, 37, 38, 6, 7, 10, 109, 110] ?_
   refine tr 15 (.agg #[.int .u64 e2.1, .int .u64 e2.2.1, .int .i64 e2.2.2]) ?_ (hy := fun δ w hr => Rd_loads b5 0 [.int .u64 e2.1, .int .u64 e2.2.1, .int .i64 e2.2.2] rfl (by kernel_rfl) (rdm_cons (List.mem_cons_of_mem _ (List.mem_cons_of_mem _ (List.mem_cons_of_mem _ List.mem_cons_self))) (rdm_cons (List.mem_cons_of_mem _ (List.mem_cons_of_mem _ (List.mem_cons_of_mem _ (List.mem_cons_of_mem _ List.mem_cons_self)))) (rdm_cons (List.mem_cons_of_mem _ (List.mem_cons_of_mem _ (List.mem_cons_of_mem _ (List.mem_cons_of_mem _ (List.mem_cons_of_mem _ List.mem_cons_self))))) rdm_nil))) hr)
   refine aF 16 ?_
   refine aL 17 ?_
   refine aS 18 ?_
   refine aI 19 (i2_ : Int) (i2_ * 3) ((RSt.ok.at hR hy).ds) Tryz.underlying81 ?_
   refine tr 20 (.agg #[.int .u64 e2.1, .int .u64 e2.2.1, .int .i64 e2.2.2]) ?_ (hy := fun δ w hr => Rd_loads (Gs.blk y.ds) (i2_ * 3) [.int .u64 e2.1, .int .u64 e2.2.1, .int .i64 e2.2.2] rfl (by kernel_rfl) (rdm_cons (List.mem_cons_of_mem _ (List.mem_cons_of_mem _ (List.mem_cons_of_mem _ (List.mem_cons_of_mem _ (List.mem_cons_of_mem _ (List.mem_cons_of_mem _ (List.mem_cons_of_mem _ List.mem_cons_self))))))) (rdm_cons (List.mem_cons_of_mem _ (List.mem_cons_of_mem _ (List.mem_cons_of_mem _ (List.mem_cons_of_mem _ (List.mem_cons_of_mem _ (List.mem_cons_of_mem _ (List.mem_cons_of_mem _ (List.mem_cons_of_mem _ List.mem_cons_self)))))))) (rdm_cons (List.mem_cons_of_mem _ (List.mem_cons_of_mem _ (List.mem_cons_of_mem _ (List.mem_cons_of_mem _ (List.mem_cons_of_mem _ (List.mem_cons_of_mem _ (List.mem_cons_of_mem _ (List.mem_cons_of_mem _ (List.mem_cons_of_mem _ List.mem_cons_self))))))))) rdm_nil))) hr)
   refine tk 21 (.bool (!((e2.1 == e2.1) && ((e2.2.1 == e2.2.1) && (e2.2.2 == e2.2.2))))) ?_ (hy := neqD)
   refine aS 22 ?_
   refine kpA [145, 13, 12, 11, 111, 0, 3, 4, 37, 38, 6, 7, 10, 109, 110] ?_
   refine SA_done (by kernel_rfl) (n_then ?_)
   refine SW_false (fun _ => (congrArg Value.bool (show (!((e2.1 == e2.1) && ((e2.2.1 == e2.2.1) && (e2.2.2 == e2.2.2)))) = false from (by simp)))) ?_
   refine SW_skip (n_then ?_)
   refine sr ?_
   refine os 3 ?_
   refine L (cl (heap_Slot_some hS.inv.ok (w := (18445055223849287680 + (n : Int))) (objA' (by omega) (by omega)) hx (i2_ : Int)) ?_)
   rintro v18 _ hv18
   obtain rfl : v18 = .tuple #[.agg #[.int .u64 e2.1, .int .u64 e2.2.1, .int .i64 e2.2.2], .bool true] := hv18.trans (by rw [hS.slot hx hy he2]; rfl)
   refine os 3 ?_
   refine L (nw 35 3 [.int .u64 0, .int .u64 0, .int .i64 0] ?_)
   intro b6
   refine L (st [.int .u64 e2.1, .int .u64 e2.2.1, .int .i64 e2.2.2] ?_)
   refine os 1 ?_
   refine kp [15, 14, 145, 13, 12, 11, 111, 0, 3, 4, 37, 38, 6, 7, 10, 109, 110] ?_
   refine nsr ?_
   refine os 1 ?_
   refine oV (.bool false) ?_
   refine os 1 ?_
   refine L (lds 3 ?_)
   refine L (lds 3 ?_)
   refine oV (.bool (!((e2.1 == e2.1) && ((e2.2.1 == e2.2.1) && (e2.2.2 == e2.2.2))))) ?_ (hs := neqD)
   refine os 1 ?_
   refine kp [159, 15, 14, 145, 13, 12, 11, 111, 0, 3, 4, 37, 38, 6, 7, 10, 109, 110] ?_
   refine nt ?_
   refine SW_false (fun _ => (congrArg Value.bool (show (!((e2.1 == e2.1) && ((e2.2.1 == e2.2.1) && (e2.2.2 == e2.2.2)))) = false from (by simp)))) ?_
   refine SW_skip (n_in (n_then ?_))
   refine SW_region ?_
   refine os 2 ?_
   refine nt ?_
   exact ⟨i2_ + 1, by omega, ⟨fun _ => rfl, ow⟩, by omega⟩
  ·skip
   refine SW_exit (x_then (x_then (x_in (n_then ?_))))
   refine sr ?_
   refine os 1 ?_
   refine L (ld ?_)
   refine os 2 ?_
   refine nt ?_
   refine SW_block ?_
   refine SW_loop (α := Nat) (fun z_ ρ_ σ_ => Fits ρ_ σ_ [(0, pt F.p 0), (3, pt b1 0), (4, .bool false), (37, .int .i64 (R.objs.length : Int)), (38, .int .i64 (n : Int)), (6, .int .u64 (18445055223849287680 + (n : Int))), (7, pt b3 0), (163, .int .i64 (y.elems.length : Int)), (164, .int .i64 (z_ : Int))] ((Gs.ent 33 1 ig (y.inner.map encU)) ++ ((HeapV.ent H F) ++ ((Gs.ent 9 1 kg (y.names.map encS)) ++ ((b3, .cells 83 7 [.int .i64 y.kind, .int .u64 y.proto, .bool y.shut, Gs.val y.ns y.names.length, Gs.val y.ds y.descs.length, Gs.val y.es y.elems.length, Gs.val y.is y.inner.length]) :: ((b1, .cells 28 2 [Gs.val R.s R.objs.length, Gs.val R.ts R.texts.length]) :: ((Gs.ent 83 7 R.s (R.objs.flatMap RObj.cells)) ++ ((R.objs.flatMap RObj.ent) ++ ((Gs.ent 9 1 R.ts (R.texts.map encS)) ++ ([]))))))))) ∧ z_ ≤ y.elems.length) (fun z_ => y.elems.length - z_) 0 ⟨⟨fun _ => rfl, ow⟩, Nat.zero_le _⟩ ?_
   rintro i3_ ρ_ σ_ ⟨hfit, hi0⟩
   refine SW_fits hfit ?_
   clear hfit
   refine sr ?_
   refine os 1 ?_
   refine nq ?_
   refine cdp (fun hc7 : (i3_ : Int) < (y.elems.length : Int) => ?_) (fun hc7 => ?_)
   ·skip
    refine SW_skip (n_then ?_)
    refine SW_seq ?_
    refine SW_block ?_
    refine sr ?_
    refine os 2 ?_
    refine nsr ?_
    refine os 3 ?_
    refine L (cl (hp_Elem hS.inv (w := (18445055223849287680 + (n : Int))) (hS.objAt (by omega) hcap) (hS.pubAt hy) (i3_ : Int)) ?_)
    rintro _ _ rfl
    refine os 5 ?_
    refine kp [18, 17, 16, 165, 0, 3, 4, 37, 38, 6, 7, 163, 164] ?_
    refine nsr ?_
    refine L (lds 2 ?_)
    refine os 2 ?_
    refine L (cl (rf_Elem_some hR (w := (18445055223849287680 + (n : Int))) (wordOk_obj (by omega)) (objA' (by omega) (by omega)) hy (i3_ : Int)) ?_ (hp := RSt.pm))
    rintro _ _ rfl
    refine SL_sig _ RSt.eq ?_
    refine os 5 ?_
    refine kp [20, 19, 18, 17, 16, 165, 0, 3, 4, 37, 38, 6, 7, 163, 164] ?_
    refine nsr ?_
    refine os 4 ?_
    refine pn 184 (show (((elemO y.elems (i3_ : Int)).1) != ((elemO y.elems (i3_ : Int)).1)) = false from (by simp)) ?_
    refine os 4 ?_
    refine kp [188, 20, 19, 18, 17, 16, 165, 0, 3, 4, 37, 38, 6, 7, 163, 164] ?_
    refine nt ?_
    refine SW_false (fun _ => (congrArg Value.bool (show (!(((elemO y.elems (i3_ : Int)).2) == ((elemO y.elems (i3_ : Int)).2))) = false from (by simp)))) ?_
    refine SW_skip (n_in (n_then ?_))
    refine SW_region ?_
    refine os 2 ?_
    refine nt ?_
    exact ⟨i3_ + 1, by omega, ⟨fun _ => rfl, ow⟩, by omega⟩
   ·skip
    refine SW_exit (x_then (x_then (x_in (n_in (n_then ?_)))))
    refine SW_region ?_
    refine os 2 ?_
    refine nt ?_
    exact ⟨n + 1, by omega, ⟨fun _ => rfl, ow⟩, by omega⟩
 ·skip
  refine SW_exit (x_then (x_then (x_in (n_then ?_))))
  refine SW_seq ?_
  refine sr ?_
  refine os 1 ?_
  refine L (ld ?_)
  refine os 2 ?_
  refine nt ?_
  refine SW_block ?_
  refine SW_loop (α := Nat) (fun z_ ρ_ σ_ => Fits ρ_ σ_ [(0, pt F.p 0), (3, pt b1 0), (4, .bool false), (193, .int .i64 (R.texts.length : Int)), (194, .int .i64 (z_ : Int))] ((HeapV.ent H F) ++ ((b1, .cells 28 2 [Gs.val R.s R.objs.length, Gs.val R.ts R.texts.length]) :: ((Gs.ent 83 7 R.s (R.objs.flatMap RObj.cells)) ++ ((R.objs.flatMap RObj.ent) ++ ((Gs.ent 9 1 R.ts (R.texts.map encS)) ++ ([])))))) ∧ z_ ≤ R.texts.length) (fun z_ => R.texts.length - z_) 0 ⟨⟨fun _ => rfl, ow⟩, Nat.zero_le _⟩ ?_
  rintro i4_ ρ_ σ_ ⟨hfit, hi0⟩
  refine SW_fits hfit ?_
  clear hfit
  refine sr ?_
  refine os 1 ?_
  refine nq ?_
  refine cdp (fun hc9 : (i4_ : Int) < (R.texts.length : Int) => ?_) (fun hc9 => ?_)
  ·skip
   refine SW_skip (n_then ?_)
   refine SW_seq ?_
   refine SW_block ?_
   refine sr ?_
   refine os 2 ?_
   refine nq ?_
   obtain ⟨e3, he3⟩ : ∃ y_, R.texts[i4_]? = some y_ := ⟨_, List.getElem?_eq_getElem (by omega)⟩
   refine SW_region ?_
   refine os 4 ?_
   refine L (cl (hp_TextOf hS.inv (18445618173802708992 + (i4_ : Int))) ?_)
   rintro v21 _ hv21
   obtain rfl : v21 = .tuple #[.string e3, .bool true] := hv21.trans (by rw [hS.text he3]; rfl)
   refine os 5 ?_
   refine kp [23, 22, 21, 195, 0, 3, 4, 193, 194] ?_
   refine nsr ?_
   refine os 1 ?_
   refine oV (.bool false) ?_
   refine os 3 ?_
   refine L (ld ?_)
   refine os 1 ?_
   refine L (ixg (i4_ : Int) (i4_) hR.ts Tryz.underlying26 ?_)
   refine L (ld ?_ (hc := Gs.cell hR.ts (fun e he => (mem_a (mem_c (mem_a (mem_a (mem_h he)))))) (map_cell he3 rfl)))
   refine oX (.bool (!(e3.toList == e3.toList))) (.bool (!(decide (e3 = e3)))) (congrArg Value.bool (by rw [str_eq])) ?_
   refine os 1 ?_
   refine kp [215, 23, 22, 21, 195, 0, 3, 4, 193, 194] ?_
   refine nt ?_
   refine SW_false (fun _ => (congrArg Value.bool (show (!(decide (e3 = e3))) = false from (by simp)))) ?_
   refine SW_skip (n_in (n_then ?_))
   refine SW_region ?_
   refine os 2 ?_
   refine nt ?_
   exact ⟨i4_ + 1, by omega, ⟨fun _ => rfl, ow⟩, by omega⟩
  ·skip
   refine SW_exit (x_then (x_then (x_in (n_then ?_))))
   refine sr ?_
   refine os 1 ?_
   refine nt ?_
   refine SW_ret ?_
   refine body_end (.bool true) (fun _ => rfl) ?_
   exact ⟨(), Own.trans (ow (S := (HeapV.ent H F ++ ((Gs.ent 83 7 R.s (R.objs.flatMap RObj.cells)) ++ ((R.objs.flatMap RObj.ent) ++ ((Gs.ent 9 1 R.ts (R.texts.map encS)) ++ ([]))))))) (Own.of_perm (by simp only [RSt.ent, List.cons_append, List.append_assoc, List.nil_append]; exact List.Perm.refl _)), rfl⟩

end Go.Proofs.YtdfhbheipagnmaaGreat
namespace Go.Proofs.YtdfhbheipagnmaaGreat
open Go.Sl

theorem law_first {W0 : World} {l : List Int} {A : Option Addr} {c : Nat} (ha : ∀ σ, Src W0 σ A (l.map encU)) (hr : l.length ≤ 1048576) : SC Tryz.prog W0 24 #[.slice A l.length c] [] (Ret (fun _ : Unit => []) (fun v _ => v = .int .u64 (l.headD 18445336698825998336))) := by
  by_cases hz : l.length = 0
  · obtain rfl := List.eq_nil_of_length_eq_zero hz
    refine SC_body (fn := Tryz.f24) (n := 9) Tryz.func24 rfl (by kernel_rfl) (ρ := [(0, .slice A (([] : List Int).length) c)]) rfl ?_
    refine sr ?_
    refine os 1 ?_
    refine nq ?_
    refine sr ?_
    refine os 3 ?_
    refine nt ?_
    refine SW_true (fun _ => (congrArg Value.bool (show ((((([] : List Int).length : Nat)) : Int) == 0) = true from (by simp)))) ?_
    refine sr ?_
    refine os 1 ?_
    refine nt ?_
    refine SW_ret (r_then ?_)
    refine body_end (.int .u64 18445336698825998336) (fun _ => rfl) ?_
    exact ⟨(), ⟨_, List.Perm.refl _⟩, rfl⟩
  · obtain ⟨ba, oa, rfl, hqa⟩ := (ha []).resolve_left (by simpa using hz)
    refine SC_body (fn := Tryz.f24) (n := 9) Tryz.func24 rfl (by kernel_rfl) (ρ := [(0, .slice (some ⟨ba, oa, none⟩) l.length c)]) rfl ?_
    refine sr ?_
    refine os 1 ?_
    refine nq ?_
    refine sr ?_
    refine os 3 ?_
    refine nt ?_
    refine SW_false (fun _ => (congrArg Value.bool (show ((l.length : Int) == 0) = false from (by simp only [beq_eq_false_iff_ne]; omega)))) ?_
    refine SW_skip (n_then ?_)
    refine sr ?_
    refine os 1 ?_
    refine L (O_indexAddr' 0 (oa + 0) ba oa l.length c .i64 1 Tryz.underlying36 (by kernel_rfl) (fun _ => rfl) (fun _ => rfl) (by omega) (by omega) (by omega) rfl ?_)
    obtain ⟨e1, he1⟩ : ∃ y_, l[0]? = some y_ := ⟨_, List.getElem?_eq_getElem (by omega)⟩
    refine L (ld ?_ (hc := Cell.mono (hqa _ _ (map_cell he1 rfl)) (fun e he => (by cases he))))
    refine os 1 ?_
    refine kp [2, 5, 0] ?_
    refine nt ?_
    refine SW_ret ?_
    refine body_end (.int .u64 e1) (fun _ => rfl) ?_
    refine ⟨(), ⟨_, List.Perm.refl _⟩, congrArg (Value.int .u64) ?_⟩
    have q_ := he1
    cases l with
    | nil => cases q_
    | cons a r => simp at q_; exact q_.symm

end Go.Proofs.YtdfhbheipagnmaaGreat
namespace Go.Proofs.YtdfhbheipagnmaaGreat
open Go.Sl

theorem law_written_none {W0 : World} {k : Nat} {H : HeapV} {F : HeapF} {R : RSt} (hS : Sim k H F R) (hk : k < 8000000) {x : OpP} (hx : OpOk W0 x) (h0 : objAt x.o R.objs.length = none) : SC Tryz.prog W0 37 #[.pointer (some ⟨F.p, 0, none⟩), R.val, .agg #[.int .i64 x.kind, .int .u64 x.o, .int .u64 x.p, .string x.key, .int .u64 x.d.1, .int .u64 x.d.2.1, .int .i64 x.d.2.2, .int .i64 x.n, .slice x.A x.w.length x.c]] (HeapV.ent H F ++ (RSt.ent R ++ [])) (Ret (fun r : HeapV × RSt => HeapV.ent r.1 F ++ (RSt.ent r.2 ++ [])) (fun v r => v = .tuple #[r.2.val, .bool true] ∧ Stp k H r.1 F (modP (H.pub F) x.o (writeO x.n x.first)) H.texts x.o False ∧ r.2.ok ∧ r.2.pub = modP R.pub x.o (writeO x.n x.first) ∧ r.2.texts = R.texts)) := by
 have hR := hS.ok
 refine SC_body (fn := Tryz.f37) (n := 78) Tryz.func37 rfl (by kernel_rfl) (ρ := [(0, pt F.p 0), (1, .agg #[Gs.val R.s R.objs.length, Gs.val R.ts R.texts.length]), (2, .agg #[.int .i64 x.kind, .int .u64 x.o, .int .u64 x.p, .string x.key, .int .u64 x.d.1, .int .u64 x.d.2.1, .int .i64 x.d.2.2, .int .i64 x.n, .slice x.A x.w.length x.c])]) rfl ?_
 refine SW_sig ((HeapV.ent H F) ++ ((Gs.ent 83 7 R.s (R.objs.flatMap RObj.cells)) ++ ((R.objs.flatMap RObj.ent) ++ ((Gs.ent 9 1 R.ts (R.texts.map encS)) ++ ([]))))) (by simp only [RSt.ent, List.cons_append, List.append_assoc, List.nil_append, List.append_nil]) ?_
 refine sr ?_
 refine L (nw 28 2 [Gs.val R.s R.objs.length, Gs.val R.ts R.texts.length] ?_)
 intro b1
 refine L (nw 38 9 [.int .i64 x.kind, .int .u64 x.o, .int .u64 x.p, .string x.key, .int .u64 x.d.1, .int .u64 x.d.2.1, .int .i64 x.d.2.2, .int .i64 x.n, .slice x.A x.w.length x.c] ?_)
 intro b2
 refine L (nw 28 2 [.slice none 0 0, .slice none 0 0] ?_)
 intro b3
 refine os 1 ?_
 refine nsr ?_
 refine L (lds 2 ?_)
 refine os 1 ?_
 refine L (ld ?_)
 refine L (cl (rf_At (R := R) hx.o) ?_)
 rintro v1 _ hv1
 obtain rfl : v1 = .int .i64 (-1) := hv1.trans (by unfold atI; rw [h0])
 refine un ?_
 refine os 1 ?_
 refine kp [8, 7, 6, 5, 4, 0, 1, 2] ?_
 refine nq ?_
 refine SW_draw [(b2, 1, .int .u64 x.o), (b2, 7, .int .i64 x.n), (b2, 8, .slice x.A x.w.length x.c)] [0, 1, 2, 3, 4, 5, 6, 7] (by kernel_rfl) (rd_cons (Cell.own (mem_c mem_z) rfl) (rd_cons (Cell.own (mem_c mem_z) rfl) (rd_cons (Cell.own (mem_c mem_z) rfl) rd_nil))) ?_
 refine aS 0 ?_
 refine aF 1 ?_
 refine aL 2 ?_
 refine aF 3 ?_
 refine aL 4 ?_
 refine aF 5 ?_
 refine aL 6 ?_
 refine sa1 true 7 (h := cl (law_first hx.src hx.len) ?_)
 rintro _ _ rfl
 try simp only [List.cons_append, List.append_assoc, List.nil_append]
 refine ⟨fun hnd => (rd_cons (Cell.own (mem_c mem_z) rfl) (rd_cons (Cell.own (mem_c mem_z) rfl) (rd_cons (Cell.own (mem_c mem_z) rfl) rd_nil))), ?_⟩
 refine sa1 false 8 (h := cl (hq_Write (by omega) hS.inv x.o x.n (OpP.first x)) ?_)
 rintro _ H2 ⟨rfl, hstp⟩
 refine ⟨fun hnd => (by cases hnd), ?_⟩
 refine kpA [24, 8, 7, 6, 5, 4, 0, 1, 2] ?_
 refine aS 9 ?_
 refine SA_done (by kernel_rfl) (n_then ?_)
 refine SW_seq ?_
 refine SW_seq ?_
 refine SW_draw [] [0, 1, 2, 3, 4, 5, 6, 7, 8, 9, 10, 11, 12, 13, 14, 15, 16] (by kernel_rfl) rd_nil ?_
 refine aS 0 ?_
 refine tk 1 (.bool true) ?_
 refine aS 2 ?_
 refine tn 3 ?_
 refine tn 4 ?_
 refine tn 5 ?_
 refine aS 6 ?_
 refine aS 7 ?_
 refine kpA [32, 9, 8, 7, 6, 5, 4, 0, 1, 2] ?_
 refine tn 8 ?_
 refine tn 9 ?_
 refine tn 10 ?_
 refine tn 11 ?_
 refine tn 12 ?_
 refine tn 13 ?_
 refine tn 14 ?_
 refine tn 15 ?_
 refine tn 16 ?_
 refine tn 17 ?_
 refine aS 18 ?_
 refine kpA [43, 9, 8, 7, 6, 5, 4, 0, 1, 2] ?_
 refine SA_done (by kernel_rfl) (n_then ?_)
 refine ct ?_
 refine sr ?_
 refine L (lds 2 ?_)
 refine os 2 ?_
 refine L (st [Gs.val R.s R.objs.length, Gs.val R.ts R.texts.length] ?_)
 refine os 1 ?_
 refine kp [7, 43, 9, 8, 6, 5, 4, 0, 1, 2] ?_
 refine nt ?_
 refine SW_ret (r_then ?_)
 refine body_endC [.agg #[Gs.val R.s R.objs.length, Gs.val R.ts R.texts.length], .bool (!(slotQ (H.pub F) x.o x.n))] (fun _ => (.cons ⟨b3, 0, rfl, .inl ⟨[Gs.val R.s R.objs.length, Gs.val R.ts R.texts.length], by kernel_rfl, (cells_cons (Cell.own mem_z rfl) (cells_cons (Cell.own mem_z rfl) cells_nil)), rfl⟩⟩ (.cons rfl .nil))) ?_
 have hq_ : slotQ (H.pub F) x.o x.n = false := slotQ_none (by rw [hS.objs, RSt.pub_len]; exact h0)
 rw [hq_]
 refine ⟨(H2, R), Own.trans (ow (S := ((HeapV.ent H2 F) ++ ((Gs.ent 83 7 R.s (R.objs.flatMap RObj.cells)) ++ ((R.objs.flatMap RObj.ent) ++ ((Gs.ent 9 1 R.ts (R.texts.map encS)) ++ ([]))))))) (Own.of_perm (List.Perm.of_eq (by simp only [RSt.ent, List.cons_append, List.append_assoc, List.nil_append, List.append_nil]))), rfl, hstp, hR, ?_, rfl⟩
 exact (modP_none (by rw [RSt.pub_len]; exact h0)).symm

theorem law_written_some {W0 : World} {k : Nat} {H : HeapV} {F : HeapF} {R : RSt} (hS : Sim k H F R) (hk : k < 8000000) {x : OpP} (hx : OpOk W0 x) {n : Nat} {y : RObj} (h0 : objAt x.o R.objs.length = some n) (hy : R.objs[n]? = some y) : SC Tryz.prog W0 37 #[.pointer (some ⟨F.p, 0, none⟩), R.val, .agg #[.int .i64 x.kind, .int .u64 x.o, .int .u64 x.p, .string x.key, .int .u64 x.d.1, .int .u64 x.d.2.1, .int .i64 x.d.2.2, .int .i64 x.n, .slice x.A x.w.length x.c]] (HeapV.ent H F ++ (RSt.ent R ++ [])) (Ret (fun r : HeapV × RSt => HeapV.ent r.1 F ++ (RSt.ent r.2 ++ [])) (fun v r => v = .tuple #[r.2.val, .bool true] ∧ Stp k H r.1 F (modP (H.pub F) x.o (writeO x.n x.first)) H.texts x.o False ∧ r.2.ok ∧ r.2.pub = modP R.pub x.o (writeO x.n x.first) ∧ r.2.texts = R.texts)) := by
 have hR := hS.ok
 have hnl := (List.getElem?_eq_some_iff.1 hy).1
 have hpn : objAt x.o R.pub.length = some n := by rw [RSt.pub_len]; exact h0
 have hyp : R.pub[n]? = some y.pub := RSt.pub_at hy
 have hmy := List.mem_of_getElem? hyp
 have hsy : y.names.length = y.descs.length := hS.lok.same _ hmy
 have hnd : y.names.Nodup := hS.inv.nodup (o := y.pub) (by rw [hS.objs]; exact hmy)
 have hfl : ∀ d ∈ y.descs, normF d.2.2 = d.2.2 := hS.doc.flags _ hmy
 refine SC_body (fn := Tryz.f37) (n := 78) Tryz.func37 rfl (by kernel_rfl) (ρ := [(0, pt F.p 0), (1, .agg #[Gs.val R.s R.objs.length, Gs.val R.ts R.texts.length]), (2, .agg #[.int .i64 x.kind, .int .u64 x.o, .int .u64 x.p, .string x.key, .int .u64 x.d.1, .int .u64 x.d.2.1, .int .i64 x.d.2.2, .int .i64 x.n, .slice x.A x.w.length x.c])]) rfl ?_
 refine SW_sig ((HeapV.ent H F) ++ ((Gs.ent 83 7 R.s (R.objs.flatMap RObj.cells)) ++ ((R.objs.flatMap RObj.ent) ++ ((Gs.ent 9 1 R.ts (R.texts.map encS)) ++ ([]))))) (by simp only [RSt.ent, List.cons_append, List.append_assoc, List.nil_append, List.append_nil]) ?_
 refine sr ?_
 refine L (nw 28 2 [Gs.val R.s R.objs.length, Gs.val R.ts R.texts.length] ?_)
 intro b1
 refine L (nw 38 9 [.int .i64 x.kind, .int .u64 x.o, .int .u64 x.p, .string x.key, .int .u64 x.d.1, .int .u64 x.d.2.1, .int .i64 x.d.2.2, .int .i64 x.n, .slice x.A x.w.length x.c] ?_)
 intro b2
 refine L (nw 28 2 [.slice none 0 0, .slice none 0 0] ?_)
 intro b3
 refine os 1 ?_
 refine nsr ?_
 refine L (lds 2 ?_)
 refine os 1 ?_
 refine L (ld ?_)
 refine L (cl (rf_At (R := R) hx.o) ?_)
 rintro v1 _ hv1
 obtain rfl : v1 = .int .i64 (n : Int) := hv1.trans (by unfold atI; rw [h0])
 refine un ?_
 refine os 1 ?_
 refine kp [8, 7, 6, 5, 4, 0, 1, 2] ?_
 refine nq ?_
 refine SW_draw [(b2, 1, .int .u64 x.o), (b2, 7, .int .i64 x.n), (b2, 8, .slice x.A x.w.length x.c)] [0, 1, 2, 3, 4, 5, 6, 7] (by kernel_rfl) (rd_cons (Cell.own (mem_c mem_z) rfl) (rd_cons (Cell.own (mem_c mem_z) rfl) (rd_cons (Cell.own (mem_c mem_z) rfl) rd_nil))) ?_
 refine aS 0 ?_
 refine aF 1 ?_
 refine aL 2 ?_
 refine aF 3 ?_
 refine aL 4 ?_
 refine aF 5 ?_
 refine aL 6 ?_
 refine sa1 true 7 (h := cl (law_first hx.src hx.len) ?_)
 rintro _ _ rfl
 try simp only [List.cons_append, List.append_assoc, List.nil_append]
 refine ⟨fun hnd => (rd_cons (Cell.own (mem_c mem_z) rfl) (rd_cons (Cell.own (mem_c mem_z) rfl) (rd_cons (Cell.own (mem_c mem_z) rfl) rd_nil))), ?_⟩
 refine sa1 false 8 (h := cl (hq_Write (by omega) hS.inv x.o x.n (OpP.first x)) ?_)
 rintro _ H2 ⟨rfl, hstp⟩
 refine ⟨fun hnd => (by cases hnd), ?_⟩
 refine kpA [24, 8, 7, 6, 5, 4, 0, 1, 2] ?_
 refine aS 9 ?_
 refine SA_done (by kernel_rfl) (n_then ?_)
 refine SW_seq ?_
 refine SW_seq ?_
 refine SW_draw [(b2, 7, .int .i64 x.n), (b2, 7, .int .i64 x.n), (b1, 0, Gs.val R.s R.objs.length), ((Gs.blk R.s), n * 7 + 3, Gs.val y.ns y.names.length)] [0, 1, 2, 3, 4, 5, 6, 7, 8, 9, 10, 11, 12, 13, 14, 15, 16] (by kernel_rfl) (rd_cons (Cell.own (mem_a (mem_c mem_z)) rfl) (rd_cons (Cell.own (mem_a (mem_c mem_z)) rfl) (rd_cons (Cell.own (mem_a (mem_c (mem_c mem_z))) rfl) (rd_cons (Gs.cell hR.row (fun e he => (mem_a (mem_c (mem_c (mem_c (mem_h he)))))) (flat_cell RObj.len hy (j := 3) (by decide) rfl)) rd_nil)))) ?_
 refine aS 0 ?_
 refine aS 1 ?_
 refine aS 2 ?_
 refine tbpA 27 (fun hg4 => ?_) (fun hg4 => ?_)
 ·skip
  replace hg4 : (n : Int) < 0 := hg4
  omega
 ·skip
  replace hg4 : ¬ ((n : Int) < 0) := hg4
  refine aF 3 ?_
  refine aL 4 ?_
  refine aS 5 ?_
  refine aS 6 ?_
  refine aS 7 ?_
  refine kpA [32, 9, 8, 7, 6, 5, 4, 0, 1, 2] ?_
  refine tbpA 32 (fun hg5 => ?_) (fun hg5 => ?_)
  ·skip
   replace hg5 : x.n < 0 := hg5
   refine tn 8 ?_
   refine tn 9 ?_
   refine tn 10 ?_
   refine tn 11 ?_
   refine tn 12 ?_
   refine tn 13 ?_
   refine tn 14 ?_
   refine tn 15 ?_
   refine tn 16 ?_
   refine tn 17 ?_
   refine aS 18 ?_
   refine kpA [43, 9, 8, 7, 6, 5, 4, 0, 1, 2] ?_
   refine SA_done (by kernel_rfl) (n_then ?_)
   refine ct ?_
   refine sr ?_
   refine L (lds 2 ?_)
   refine os 2 ?_
   refine L (st [Gs.val R.s R.objs.length, Gs.val R.ts R.texts.length] ?_)
   refine os 1 ?_
   refine kp [7, 43, 9, 8, 6, 5, 4, 0, 1, 2] ?_
   refine nt ?_
   refine SW_ret (r_then ?_)
   refine body_endC [.agg #[Gs.val R.s R.objs.length, Gs.val R.ts R.texts.length], .bool (!(slotQ (H.pub F) x.o x.n))] (fun _ => (.cons ⟨b3, 0, rfl, .inl ⟨[Gs.val R.s R.objs.length, Gs.val R.ts R.texts.length], by kernel_rfl, (cells_cons (Cell.own mem_z rfl) (cells_cons (Cell.own mem_z rfl) cells_nil)), rfl⟩⟩ (.cons rfl .nil))) ?_
   have hno : ¬ (0 ≤ x.n ∧ x.n < y.descs.length) := by omega
   have hq_ : slotQ (H.pub F) x.o x.n = false := by rw [hS.objs, slotQ_some hpn hyp]; exact decide_eq_false hno
   rw [hq_]
   refine ⟨(H2, R), Own.trans (ow (S := ((HeapV.ent H2 F) ++ ((Gs.ent 83 7 R.s (R.objs.flatMap RObj.cells)) ++ ((R.objs.flatMap RObj.ent) ++ ((Gs.ent 9 1 R.ts (R.texts.map encS)) ++ ([]))))))) (Own.of_perm (List.Perm.of_eq (by simp only [RSt.ent, List.cons_append, List.append_assoc, List.nil_append, List.append_nil]))), rfl, hstp, hR, ?_, rfl⟩
   rw [modP_some hpn hyp, write_out hno]; exact (set_same hyp).symm
  ·skip
   replace hg5 : ¬ (x.n < 0) := hg5
   refine aF 8 ?_
   refine aL 9 ?_
   refine aF 10 ?_
   refine aL 11 ?_
   refine aS 12 ?_
   refine aI 13 (n : Int) (n * 7) hR.row Tryz.underlying25 ?_
   refine aF 14 ?_
   refine aL 15 ?_
   refine aS 16 ?_
   refine aS 17 ?_
   refine kpA [42, 32, 9, 8, 7, 6, 5, 4, 0, 1, 2] ?_
   refine aS 18 ?_
   refine SA_done (by kernel_rfl) (n_then ?_)
   refine cdp (fun hc6 : x.n ≥ (y.names.length : Int) => ?_) (fun hc6 => ?_)
   ·skip
    refine sr ?_
    refine L (lds 2 ?_)
    refine os 2 ?_
    refine L (st [Gs.val R.s R.objs.length, Gs.val R.ts R.texts.length] ?_)
    refine os 1 ?_
    refine kp [7, 43, 9, 8, 6, 5, 4, 0, 1, 2] ?_
    refine nt ?_
    refine SW_ret (r_then ?_)
    refine body_endC [.agg #[Gs.val R.s R.objs.length, Gs.val R.ts R.texts.length], .bool (!(slotQ (H.pub F) x.o x.n))] (fun _ => (.cons ⟨b3, 0, rfl, .inl ⟨[Gs.val R.s R.objs.length, Gs.val R.ts R.texts.length], by kernel_rfl, (cells_cons (Cell.own mem_z rfl) (cells_cons (Cell.own mem_z rfl) cells_nil)), rfl⟩⟩ (.cons rfl .nil))) ?_
    have hno : ¬ (0 ≤ x.n ∧ x.n < y.descs.length) := by omega
    have hq_ : slotQ (H.pub F) x.o x.n = false := by rw [hS.objs, slotQ_some hpn hyp]; exact decide_eq_false hno
    rw [hq_]
    refine ⟨(H2, R), Own.trans (ow (S := ((HeapV.ent H2 F) ++ ((Gs.ent 83 7 R.s (R.objs.flatMap RObj.cells)) ++ ((R.objs.flatMap RObj.ent) ++ ((Gs.ent 9 1 R.ts (R.texts.map encS)) ++ ([]))))))) (Own.of_perm (List.Perm.of_eq (by simp only [RSt.ent, List.cons_append, List.append_assoc, List.nil_append, List.append_nil]))), rfl, hstp, hR, ?_, rfl⟩
    rw [modP_some hpn hyp, write_out hno]; exact (set_same hyp).symm
   ·skip
    refine SW_skip (n_then ?_)
    refine SW_seq ?_
    obtain ⟨e1, he1⟩ : ∃ y_, y.names[(x.n).toNat]? = some y_ := ⟨_, List.getElem?_eq_getElem (by omega)⟩
    refine SW_draw [(b1, 0, Gs.val R.s R.objs.length), ((Gs.blk R.s), n * 7 + 3, Gs.val y.ns y.names.length), (b2, 7, .int .i64 x.n), ((Gs.blk y.ns), (x.n).toNat, .string e1)] [0, 1, 2, 3, 4, 5, 6, 7, 8] (by kernel_rfl) (rd_cons (Cell.own (mem_a (mem_c (mem_c mem_z))) rfl) (rd_cons (Gs.cell hR.row (fun e he => (mem_a (mem_c (mem_c (mem_c (mem_h he)))))) (flat_cell RObj.len hy (j := 3) (by decide) rfl)) (rd_cons (Cell.own (mem_a (mem_c mem_z)) rfl) (rd_cons (Gs.cell (RSt.ok.at hR hy).ns (fun e he => (mem_a (mem_c (mem_c (mem_c (mem_a (mem_h ((RObj.mns hy) _ he)))))))) (map_cell he1 rfl)) rd_nil)))) ?_
    refine aF 0 ?_
    refine aL 1 ?_
    refine aS 2 ?_
    refine aI 3 (n : Int) (n * 7) hR.row Tryz.underlying25 ?_
    refine aF 4 ?_
    refine aL 5 ?_
    refine aF 6 ?_
    refine aL 7 ?_
    refine kpA [54, 52, 43, 9, 8, 7, 6, 5, 4, 0, 1, 2] ?_
    refine aI 8 x.n ((x.n).toNat) ((RSt.ok.at hR hy).ns) Tryz.underlying26 ?_
    refine aL 9 ?_
    refine aS 10 ?_
    refine SA_done (by kernel_rfl) (n_then ?_)
    refine SW_seq ?_
    obtain ⟨e2, he2⟩ : ∃ y_, y.descs[((x.n).toNat)]? = some y_ := ⟨_, List.getElem?_eq_getElem (by omega)⟩
    refine SW_draw [(b1, 0, Gs.val R.s R.objs.length), ((Gs.blk R.s), n * 7 + 4, Gs.val y.ds y.descs.length), (b2, 7, .int .i64 x.n), ((Gs.blk y.ds), ((x.n).toNat) * 3, .int .u64 e2.1), ((Gs.blk y.ds), ((x.n).toNat) * 3 + 1, .int .u64 e2.2.1), ((Gs.blk y.ds), ((x.n).toNat) * 3 + 2, .int .i64 e2.2.2)] [0, 1, 2, 3, 4, 5, 6, 7, 8, 10] (by kernel_rfl) (rd_cons (Cell.own (mem_a (mem_c (mem_c mem_z))) rfl) (rd_cons (Gs.cell hR.row (fun e he => (mem_a (mem_c (mem_c (mem_c (mem_h he)))))) (flat_cell RObj.len hy (j := 4) (by decide) rfl)) (rd_cons (Cell.own (mem_a (mem_c mem_z)) rfl) (rd_cons (Gs.cell (RSt.ok.at hR hy).ds (fun e he => (mem_a (mem_c (mem_c (mem_c (mem_a (mem_h ((RObj.mds hy) _ he)))))))) (flat_cell descCells_len he2 (j := 0) (by decide) rfl)) (rd_cons (Gs.cell (RSt.ok.at hR hy).ds (fun e he => (mem_a (mem_c (mem_c (mem_c (mem_a (mem_h ((RObj.mds hy) _ he)))))))) (flat_cell descCells_len he2 (j := 1) (by decide) rfl)) (rd_cons (Gs.cell (RSt.ok.at hR hy).ds (fun e he => (mem_a (mem_c (mem_c (mem_c (mem_a (mem_h ((RObj.mds hy) _ he)))))))) (flat_cell descCells_len he2 (j := 2) (by decide) rfl)) rd_nil)))))) ?_
    refine aF 0 ?_
    refine aL 1 ?_
    refine aS 2 ?_
    refine aI 3 (n : Int) (n * 7) hR.row Tryz.underlying25 ?_
    refine aF 4 ?_
    refine kpA [61, 10, 43, 9, 8, 7, 6, 5, 4, 0, 1, 2] ?_
    refine aL 5 ?_
    refine aF 6 ?_
    refine aL 7 ?_
    refine aI 8 x.n (((x.n).toNat) * 3) ((RSt.ok.at hR hy).ds) Tryz.underlying81 ?_
    refine tr 9 (.agg #[.int .u64 e2.1, .int .u64 e2.2.1, .int .i64 e2.2.2]) ?_ (hy := fun δ w hr => Rd_loads (Gs.blk y.ds) (((x.n).toNat) * 3) [.int .u64 e2.1, .int .u64 e2.2.1, .int .i64 e2.2.2] rfl (by kernel_rfl) (rdm_cons (List.mem_cons_of_mem _ (List.mem_cons_of_mem _ (List.mem_cons_of_mem _ List.mem_cons_self))) (rdm_cons (List.mem_cons_of_mem _ (List.mem_cons_of_mem _ (List.mem_cons_of_mem _ (List.mem_cons_of_mem _ List.mem_cons_self)))) (rdm_cons (List.mem_cons_of_mem _ (List.mem_cons_of_mem _ (List.mem_cons_of_mem _ (List.mem_cons_of_mem _ (List.mem_cons_of_mem _ List.mem_cons_self))))) rdm_nil))) hr)
    refine sa1 true 10 (h := nw 35 3 [.int .u64 0, .int .u64 0, .int .i64 0] ?_)
    intro b7
    refine ⟨fun hnd => (rd_cons (Cell.own (mem_c (mem_a (mem_c (mem_c mem_z)))) rfl) (rd_cons (Gs.cell hR.row (fun e he => (mem_c (mem_a (mem_c (mem_c (mem_c (mem_h he))))))) (flat_cell RObj.len hy (j := 4) (by decide) rfl)) (rd_cons (Cell.own (mem_c (mem_a (mem_c mem_z))) rfl) (rd_cons (Gs.cell (RSt.ok.at hR hy).ds (fun e he => (mem_c (mem_a (mem_c (mem_c (mem_c (mem_a (mem_h ((RObj.mds hy) _ he))))))))) (flat_cell descCells_len he2 (j := 0) (by decide) rfl)) (rd_cons (Gs.cell (RSt.ok.at hR hy).ds (fun e he => (mem_c (mem_a (mem_c (mem_c (mem_c (mem_a (mem_h ((RObj.mds hy) _ he))))))))) (flat_cell descCells_len he2 (j := 1) (by decide) rfl)) (rd_cons (Gs.cell (RSt.ok.at hR hy).ds (fun e he => (mem_c (mem_a (mem_c (mem_c (mem_c (mem_a (mem_h ((RObj.mds hy) _ he))))))))) (flat_cell descCells_len he2 (j := 2) (by decide) rfl)) rd_nil)))))), ?_⟩
    refine sa1 false 11 (h := st [.int .u64 e2.1, .int .u64 e2.2.1, .int .i64 e2.2.2] ?_)
    refine ⟨fun hnd => (by cases hnd), ?_⟩
    refine SA_done (by kernel_rfl) (n_then ?_)
    refine sr ?_
    refine os 1 ?_
    refine kp [67, 11, 10, 43, 9, 8, 7, 6, 5, 4, 0, 1, 2] ?_
    refine L (ld ?_)
    refine L (cl (law_first hx.src hx.len) ?_)
    rintro _ _ rfl
    refine un ?_
    refine os 1 ?_
    refine L (st [.int .u64 (OpP.first x), .int .u64 e2.2.1, .int .i64 e2.2.2] ?_)
    refine nsr ?_
    refine L (lds 2 ?_)
    refine os 1 ?_
    refine L (ld ?_)
    refine os 1 ?_
    refine L (lds 3 ?_)
    refine L (cl (rq_Put (k := k) (by omega) hR hS.lok hx.o e1 ((OpP.first x), e2.2.1, e2.2.2)) ?_ (hp := RSt.pm))
    rintro _ R2 ⟨rfl, hR2, hp2, ht2⟩
    refine os 1 ?_
    refine kp [77, 76, 11, 10, 43, 9, 8, 7, 6, 5, 4, 0, 1, 2] ?_
    refine L (st [Gs.val R2.s R2.objs.length, Gs.val R2.ts R2.texts.length] ?_)
    refine os 1 ?_
    refine nt ?_
    refine SW_ret ?_
    refine body_endC [.agg #[Gs.val R2.s R2.objs.length, Gs.val R2.ts R2.texts.length], .bool (slotQ (H.pub F) x.o x.n)] (fun _ => (.cons ⟨b3, 0, rfl, .inl ⟨[Gs.val R2.s R2.objs.length, Gs.val R2.ts R2.texts.length], by kernel_rfl, (cells_cons (Cell.own mem_z rfl) (cells_cons (Cell.own mem_z rfl) cells_nil)), rfl⟩⟩ (.cons rfl .nil))) ?_
    have hq_ : slotQ (H.pub F) x.o x.n = true := by rw [hS.objs, slotQ_some hpn hyp]; exact decide_eq_true ⟨by omega, by show x.n < y.descs.length; omega⟩
    rw [hq_]
    refine ⟨(H2, R2), (ow (S := ((HeapV.ent H2 F) ++ ((RSt.ent R2) ++ ([]))))), rfl, hstp, hR2, ?_, ht2⟩
    rw [hp2, modP_some hpn hyp, modP_some hpn hyp, put_write (o := y.pub) (by omega) hnd he1 he2 (hfl _ (List.mem_of_getElem? he2))]

theorem law_written {W0 : World} {k : Nat} {H : HeapV} {F : HeapF} {R : RSt} (hS : Sim k H F R) (hk : k < 8000000) {x : OpP} (hx : OpOk W0 x) : SC Tryz.prog W0 37 #[.pointer (some ⟨F.p, 0, none⟩), R.val, .agg #[.int .i64 x.kind, .int .u64 x.o, .int .u64 x.p, .string x.key, .int .u64 x.d.1, .int .u64 x.d.2.1, .int .i64 x.d.2.2, .int .i64 x.n, .slice x.A x.w.length x.c]] (HeapV.ent H F ++ (RSt.ent R ++ [])) (Ret (fun r : HeapV × RSt => HeapV.ent r.1 F ++ (RSt.ent r.2 ++ [])) (fun v r => v = .tuple #[r.2.val, .bool true] ∧ Stp k H r.1 F (modP (H.pub F) x.o (writeO x.n x.first)) H.texts x.o False ∧ r.2.ok ∧ r.2.pub = modP R.pub x.o (writeO x.n x.first) ∧ r.2.texts = R.texts)) := by
  cases h0 : objAt x.o R.objs.length with
  | none => exact law_written_none hS hk hx h0
  | some n => exact law_written_some hS hk hx h0 (List.getElem?_eq_getElem (objAt_tag h0).2)

end Go.Proofs.YtdfhbheipagnmaaGreat
namespace Go.Proofs.YtdfhbheipagnmaaGreat
open Go.Sl

theorem law_step {W0 : World} {k : Nat} {H : HeapV} {F : HeapF} {R : RSt} (hS : Sim k H F R) (hk : k < 8000000) {x : OpP} (hx : OpOk W0 x) : SC Tryz.prog W0 6 #[.pointer (some ⟨F.p, 0, none⟩), R.val, .agg #[.int .i64 x.kind, .int .u64 x.o, .int .u64 x.p, .string x.key, .int .u64 x.d.1, .int .u64 x.d.2.1, .int .i64 x.d.2.2, .int .i64 x.n, .slice x.A x.w.length x.c]] (HeapV.ent H F ++ (RSt.ent R ++ [])) (Ret (fun r : HeapV × RSt => HeapV.ent r.1 F ++ (RSt.ent r.2 ++ [])) (fun v r => v = .tuple #[r.2.val, .bool true] ∧ Did (k + 1) H F R x r.1 r.2)) := by
 refine SC_body (fn := Tryz.f6) (n := 228) Tryz.func6 rfl (by kernel_rfl) (ρ := [(0, pt F.p 0), (1, .agg #[Gs.val R.s R.objs.length, Gs.val R.ts R.texts.length]), (2, .agg #[.int .i64 x.kind, .int .u64 x.o, .int .u64 x.p, .string x.key, .int .u64 x.d.1, .int .u64 x.d.2.1, .int .i64 x.d.2.2, .int .i64 x.n, .slice x.A x.w.length x.c])]) rfl ?_
 refine sr ?_
 refine L (nw 28 2 [Gs.val R.s R.objs.length, Gs.val R.ts R.texts.length] ?_)
 intro b1
 refine L (nw 38 9 [.int .i64 x.kind, .int .u64 x.o, .int .u64 x.p, .string x.key, .int .u64 x.d.1, .int .u64 x.d.2.1, .int .i64 x.d.2.2, .int .i64 x.n, .slice x.A x.w.length x.c] ?_)
 intro b2
 refine L (nw 28 2 [.slice none 0 0, .slice none 0 0] ?_)
 intro b3
 refine os 1 ?_
 refine nsr ?_
 refine os 1 ?_
 refine nsr ?_
 refine os 1 ?_
 refine nq ?_
 refine sr ?_
 refine os 1 ?_
 refine L (ld ?_)
 refine nt ?_
 refine SW_block ?_
 refine sr ?_
 refine os 2 ?_
 refine nt ?_
 refine cd (fun hc4 : (x.kind == 0) = true => ?_) (fun hc4 => ?_)
 ·skip
  simp only [beq_iff_eq, beq_eq_false_iff_ne, ne_eq] at hc4
  refine sr ?_
  refine os 2 ?_
  refine L (ld ?_)
  refine os 1 ?_
  refine L (ld ?_)
  refine L (cl (hq_Make hS.inv x.n x.p) ?_)
  rintro v1 H2 ⟨hv1, hi2, hpub2, htx2, hgd2⟩
  obtain rfl : v1 = .tuple #[.int .u64 ((makeV R.pub x.n x.p).1), .bool ((makeV R.pub x.n x.p).2)] := hv1.trans (by rw [hS.objs])
  refine os 5 ?_
  refine kp [11, 10, 23, 22, 9, 8, 7, 6, 5, 4, 0, 1, 2] ?_
  refine nsr ?_
  refine L (lds 2 ?_)
  refine os 1 ?_
  refine L (ld ?_)
  refine os 1 ?_
  refine L (ld ?_)
  refine L (cl (rq_Make hS.ok x.n hx.p) ?_)
  rintro _ R2 ⟨rfl, hR2, hp2, ht2⟩
  refine os 4 ?_
  refine kp [43, 42, 41, 11, 10, 23, 22, 9, 8, 7, 6, 5, 4, 0, 1, 2] ?_
  refine L (nw 28 2 [.slice none 0 0, .slice none 0 0] ?_)
  intro b5
  refine L (st [Gs.val R2.s R2.objs.length, Gs.val R2.ts R2.texts.length] ?_)
  refine os 2 ?_
  refine kp [14, 13, 12, 11, 10, 23, 22, 9, 8, 7, 6, 5, 4, 0, 1, 2] ?_
  refine nsr ?_
  refine L (lds 2 ?_)
  refine os 4 ?_
  refine pn 48 (show (((makeV R.pub x.n x.p).1) == ((makeV R.pub x.n x.p).1)) = true from (by rw [beq_self_eq_true])) ?_
  refine os 4 ?_
  refine kp [52, 44, 14, 13, 12, 11, 10, 23, 22, 9, 8, 7, 6, 5, 4, 0, 1, 2] ?_
  refine L (st [Gs.val R2.s R2.objs.length, Gs.val R2.ts R2.texts.length] ?_)
  refine os 1 ?_
  refine nt ?_
  refine SW_ret (r_in (r_then ?_))
  refine body_endC [.agg #[Gs.val R2.s R2.objs.length, Gs.val R2.ts R2.texts.length], .bool (((makeV R.pub x.n x.p).2) == ((makeV R.pub x.n x.p).2))] (fun _ => (.cons ⟨b3, 0, rfl, .inl ⟨[Gs.val R2.s R2.objs.length, Gs.val R2.ts R2.texts.length], by kernel_rfl, (cells_cons (Cell.own mem_z rfl) (cells_cons (Cell.own mem_z rfl) cells_nil)), rfl⟩⟩ (.cons rfl .nil))) ?_
  exact ⟨(H2, R2), ow, congrArg (fun b => Value.tuple #[_, .bool b]) (by rw [beq_self_eq_true]), Did.mk' hS hx.p (ds0 hc4) (Nat.le_succ k) hi2 (by rw [hpub2, hS.objs]) (by rw [htx2, hS.texts]) hR2 hp2 ht2 (gs_make hc4 (by rw [hgd2, hS.objs]))⟩
 ·skip
  simp only [beq_iff_eq, beq_eq_false_iff_ne, ne_eq] at hc4
  refine sr ?_
  refine os 2 ?_
  refine kp [53, 23, 22, 9, 8, 7, 6, 5, 4, 0, 1, 2] ?_
  refine nt ?_
  refine cd (fun hc7 : (x.kind == 1) = true => ?_) (fun hc7 => ?_)
  ·skip
   simp only [beq_iff_eq, beq_eq_false_iff_ne, ne_eq] at hc7
   refine sr ?_
   refine os 2 ?_
   refine L (ld ?_)
   refine os 1 ?_
   refine L (ld ?_)
   refine os 1 ?_
   refine L (lds 3 ?_)
   refine L (cl (hq_Put (by omega) hS.inv x.o x.key x.d) ?_)
   rintro _ H2 ⟨rfl, hstp⟩
   refine nsr ?_
   refine L (lds 2 ?_)
   refine os 1 ?_
   refine kp [64, 63, 53, 23, 22, 9, 8, 7, 6, 5, 4, 0, 1, 2] ?_
   refine L (ld ?_)
   refine os 1 ?_
   refine L (ld ?_)
   refine os 1 ?_
   refine L (lds 3 ?_)
   refine L (cl (rq_Put (k := k) (by omega) hS.ok hS.lok hx.o x.key x.d) ?_)
   rintro _ R2 ⟨rfl, hR2, hp2, ht2⟩
   refine L (st [Gs.val R2.s R2.objs.length, Gs.val R2.ts R2.texts.length] ?_)
   refine os 1 ?_
   refine kp [7, 53, 23, 22, 9, 8, 6, 5, 4, 0, 1, 2] ?_
   refine nt ?_
   refine SW_ret (r_in (r_then ?_))
   refine body_endC [.agg #[Gs.val R2.s R2.objs.length, Gs.val R2.ts R2.texts.length], .bool true] (fun _ => (.cons ⟨b3, 0, rfl, .inl ⟨[Gs.val R2.s R2.objs.length, Gs.val R2.ts R2.texts.length], by kernel_rfl, (cells_cons (Cell.own mem_z rfl) (cells_cons (Cell.own mem_z rfl) cells_nil)), rfl⟩⟩ (.cons rfl .nil))) ?_
   exact ⟨(H2, R2), ow, rfl, Did.mk' hS hx.p (ds1 hc7) (Nat.le_refl _) hstp.inv (by rw [hstp.pub, hS.objs]) (by rw [hstp.texts, hS.texts]) hR2 hp2 ht2 (by rw [ds1 hc7]; exact gs_touch (by omega) (by omega) (by omega) (by have q_ := hstp.gd; rw [hS.objs] at q_; exact q_) (by rintro (⟨z, q⟩ | ⟨z, q⟩ | ⟨z, q⟩) <;> first | exact q | (exfalso; omega)))⟩
  ·skip
   simp only [beq_iff_eq, beq_eq_false_iff_ne, ne_eq] at hc7
   refine sr ?_
   refine os 2 ?_
   refine nt ?_
   refine cd (fun hc8 : (x.kind == 2) = true => ?_) (fun hc8 => ?_)
   ·skip
    simp only [beq_iff_eq, beq_eq_false_iff_ne, ne_eq] at hc8
    refine sr ?_
    refine os 2 ?_
    refine L (ld ?_)
    refine os 1 ?_
    refine L (ld ?_)
    refine L (cl (hq_Drop (by omega) hS.inv x.o x.key) ?_)
    rintro v5 H2 ⟨hv5, hstp⟩
    obtain rfl : v5 = .bool (hasQ R.pub x.o x.key) := hv5.trans (by rw [hS.objs])
    refine os 1 ?_
    refine kp [8, 71, 53, 23, 22, 9, 7, 6, 5, 4, 0, 1, 2] ?_
    refine nr ?_
    refine L (lds 2 ?_)
    refine os 1 ?_
    refine L (ld ?_)
    refine os 1 ?_
    refine L (ld ?_)
    refine L (cl (rq_Drop (k := k) (by omega) hS.ok hS.lok hx.o x.key) ?_)
    rintro _ R2 ⟨rfl, hR2, hp2, ht2⟩
    refine os 3 ?_
    refine kp [87, 86, 8, 71, 53, 23, 22, 9, 7, 6, 5, 4, 0, 1, 2] ?_
    refine L (st [Gs.val R2.s R2.objs.length, Gs.val R2.ts R2.texts.length] ?_)
    refine os 1 ?_
    refine SL_nil (n_in (n_then ?_))
    refine sr ?_
    refine L (lds 2 ?_)
    refine os 3 ?_
    refine L (st [Gs.val R2.s R2.objs.length, Gs.val R2.ts R2.texts.length] ?_)
    refine os 1 ?_
    refine kp [7, 9, 8, 71, 53, 23, 22, 6, 5, 4, 0, 1, 2] ?_
    refine nt ?_
    refine SW_ret ?_
    refine body_endC [.agg #[Gs.val R2.s R2.objs.length, Gs.val R2.ts R2.texts.length], .bool ((hasQ R.pub x.o x.key) == (hasQ R.pub x.o x.key))] (fun _ => (.cons ⟨b3, 0, rfl, .inl ⟨[Gs.val R2.s R2.objs.length, Gs.val R2.ts R2.texts.length], by kernel_rfl, (cells_cons (Cell.own mem_z rfl) (cells_cons (Cell.own mem_z rfl) cells_nil)), rfl⟩⟩ (.cons rfl .nil))) ?_
    exact ⟨(H2, R2), ow, congrArg (fun b => Value.tuple #[_, .bool b]) (by rw [beq_self_eq_true]), Did.mk' hS hx.p (ds2 hc8) (Nat.le_succ k) hstp.inv (by rw [hstp.pub, hS.objs]) (by rw [hstp.texts, hS.texts]) hR2 hp2 ht2 (by rw [ds2 hc8]; exact gs_touch (by omega) (by omega) (by omega) (by have q_ := hstp.gd; rw [hS.objs] at q_; exact q_) (by rintro (⟨z, q⟩ | ⟨z, q⟩ | ⟨z, q⟩) <;> first | exact q | (exfalso; omega)))⟩
   ·skip
    simp only [beq_iff_eq, beq_eq_false_iff_ne, ne_eq] at hc8
    refine sr ?_
    refine os 2 ?_
    refine nt ?_
    refine cd (fun hc9 : (x.kind == 3) = true => ?_) (fun hc9 => ?_)
    ·skip
     simp only [beq_iff_eq, beq_eq_false_iff_ne, ne_eq] at hc9
     refine sr ?_
     refine os 2 ?_
     refine L (ld ?_)
     refine os 1 ?_
     refine L (ld ?_)
     refine L (cl (hq_SetProto (by omega) hS.inv x.o x.p (by rw [hS.objs]; exact hS.doc.ends _)) ?_)
     rintro _ H2 ⟨rfl, hstp⟩
     refine nr ?_
     refine L (lds 2 ?_)
     refine os 1 ?_
     refine kp [97, 96, 88, 71, 53, 23, 22, 9, 8, 7, 6, 5, 4, 0, 1, 2] ?_
     refine L (ld ?_)
     refine os 1 ?_
     refine L (ld ?_)
     refine L (cl (rq_Reproto (k := k) hS.ok hS.lok hx.o hx.p hS.doc.words) ?_)
     rintro _ R2 ⟨rfl, hR2, hp2, ht2⟩
     refine L (st [Gs.val R2.s R2.objs.length, Gs.val R2.ts R2.texts.length] ?_)
     refine SL_nil (n_in (n_then ?_))
     refine sr ?_
     refine L (lds 2 ?_)
     refine os 2 ?_
     refine oV (.bool true) ?_
     refine kp [227, 224, 88, 71, 53, 23, 22, 9, 8, 7, 6, 5, 4, 0, 1, 2] ?_
     refine L (st [Gs.val R2.s R2.objs.length, Gs.val R2.ts R2.texts.length] ?_)
     refine os 1 ?_
     refine nt ?_
     refine SW_ret ?_
     refine body_endC [.agg #[Gs.val R2.s R2.objs.length, Gs.val R2.ts R2.texts.length], .bool true] (fun _ => (.cons ⟨b3, 0, rfl, .inl ⟨[Gs.val R2.s R2.objs.length, Gs.val R2.ts R2.texts.length], by kernel_rfl, (cells_cons (Cell.own mem_z rfl) (cells_cons (Cell.own mem_z rfl) cells_nil)), rfl⟩⟩ (.cons rfl .nil))) ?_
     exact ⟨(H2, R2), ow, rfl, Did.mk' hS hx.p (ds3 hc9) (Nat.le_succ k) hstp.inv (by rw [hstp.pub, hS.objs]) (by rw [hstp.texts, hS.texts]) hR2 hp2 ht2 (by rw [ds3 hc9]; exact gs_touch (by omega) (by omega) (by omega) (by have q_ := hstp.gd; rw [hS.objs] at q_; exact q_) (by rintro (⟨z, q⟩ | ⟨z, q⟩ | ⟨z, q⟩) <;> first | exact q | (exfalso; omega)))⟩
    ·skip
     simp only [beq_iff_eq, beq_eq_false_iff_ne, ne_eq] at hc9
     refine sr ?_
     refine os 2 ?_
     refine kp [102, 88, 71, 53, 23, 22, 9, 8, 7, 6, 5, 4, 0, 1, 2] ?_
     refine nt ?_
     refine cd (fun hc10 : (x.kind == 4) = true => ?_) (fun hc10 => ?_)
     ·skip
      simp only [beq_iff_eq, beq_eq_false_iff_ne, ne_eq] at hc10
      refine SW_seq ?_
      refine SW_draw [(b2, 1, .int .u64 x.o), (b2, 7, .int .i64 x.n), (b2, 8, .slice x.A x.w.length x.c)] [0, 1, 2, 3, 4, 5, 6, 7] (by kernel_rfl) (rd_cons (Cell.own (mem_c mem_z) rfl) (rd_cons (Cell.own (mem_c mem_z) rfl) (rd_cons (Cell.own (mem_c mem_z) rfl) rd_nil))) ?_
      refine aS 0 ?_
      refine aF 1 ?_
      refine aL 2 ?_
      refine aF 3 ?_
      refine aL 4 ?_
      refine aF 5 ?_
      refine aL 6 ?_
      refine sa1 true 7 (h := cl (law_first hx.src hx.len) ?_)
      rintro _ _ rfl
      try simp only [List.cons_append, List.append_assoc, List.nil_append]
      refine ⟨fun hnd => (rd_cons (Cell.own (mem_c mem_z) rfl) (rd_cons (Cell.own (mem_c mem_z) rfl) (rd_cons (Cell.own (mem_c mem_z) rfl) rd_nil))), ?_⟩
      refine sa1 false 8 (h := cl (hq_SetElem (by omega) hS.inv x.o x.n (OpP.first x)) ?_)
      rintro v12 H2 ⟨hv12, hstp⟩
      obtain rfl : v12 = .bool (setQ R.pub x.o x.n) := hv12.trans (by rw [hS.objs])
      refine ⟨fun hnd => (by cases hnd), ?_⟩
      refine kpA [112, 102, 88, 71, 53, 23, 22, 9, 8, 7, 6, 5, 4, 0, 1, 2] ?_
      refine aS 9 ?_
      refine SA_done (by kernel_rfl) (n_then ?_)
      refine SW_draw [(b1, 0, Gs.val R.s R.objs.length), (b1, 1, Gs.val R.ts R.texts.length), (b2, 1, .int .u64 x.o), (b2, 7, .int .i64 x.n), (b2, 8, .slice x.A x.w.length x.c)] [0, 1, 2, 3, 4, 5, 6, 7] (by kernel_rfl) (rd_cons (Cell.own (mem_a (mem_c (mem_c mem_z))) rfl) (rd_cons (Cell.own (mem_a (mem_c (mem_c mem_z))) rfl) (rd_cons (Cell.own (mem_a (mem_c mem_z)) rfl) (rd_cons (Cell.own (mem_a (mem_c mem_z)) rfl) (rd_cons (Cell.own (mem_a (mem_c mem_z)) rfl) rd_nil))))) ?_
      refine tr 0 (.agg #[Gs.val R.s R.objs.length, Gs.val R.ts R.texts.length]) ?_ (hy := fun δ w hr => Rd_loads b1 0 [Gs.val R.s R.objs.length, Gs.val R.ts R.texts.length] rfl (by kernel_rfl) (rdm_cons List.mem_cons_self (rdm_cons (List.mem_cons_of_mem _ List.mem_cons_self) rdm_nil)) hr)
      refine aF 1 ?_
      refine aL 2 ?_
      refine aF 3 ?_
      refine aL 4 ?_
      refine aF 5 ?_
      refine aL 6 ?_
      refine sa1 true 7 (h := cl (law_first hx.src hx.len) ?_)
      rintro _ _ rfl
      try simp only [List.cons_append, List.append_assoc, List.nil_append]
      refine ⟨fun hnd => (rd_cons (Cell.own (mem_a (mem_c (mem_c mem_z))) rfl) (rd_cons (Cell.own (mem_a (mem_c (mem_c mem_z))) rfl) (rd_cons (Cell.own (mem_a (mem_c mem_z)) rfl) (rd_cons (Cell.own (mem_a (mem_c mem_z)) rfl) (rd_cons (Cell.own (mem_a (mem_c mem_z)) rfl) rd_nil))))), ?_⟩
      refine sa1 false 8 (h := cl (rq_SetElem (k := k) hS.ok hS.lok hx.o x.n (OpP.first x)) ?_)
      rintro _ R2 ⟨rfl, hR2, hp2, ht2⟩
      refine ⟨fun hnd => (by cases hnd), ?_⟩
      refine kpA [122, 8, 102, 88, 71, 53, 23, 22, 9, 7, 6, 5, 4, 0, 1, 2] ?_
      refine aS 9 ?_
      refine aS 10 ?_
      refine aS 11 ?_
      refine sa1 false 12 (h := st [Gs.val R2.s R2.objs.length, Gs.val R2.ts R2.texts.length] ?_)
      refine ⟨fun hnd => (by cases hnd), ?_⟩
      refine aS 13 ?_
      refine SA_done (by kernel_rfl) (n_in (n_then ?_))
      refine sr ?_
      refine L (lds 2 ?_)
      refine os 3 ?_
      refine kp [227, 224, 9, 8, 102, 88, 71, 53, 23, 22, 7, 6, 5, 4, 0, 1, 2] ?_
      refine L (st [Gs.val R2.s R2.objs.length, Gs.val R2.ts R2.texts.length] ?_)
      refine os 1 ?_
      refine nt ?_
      refine SW_ret ?_
      refine body_endC [.agg #[Gs.val R2.s R2.objs.length, Gs.val R2.ts R2.texts.length], .bool ((setQ R.pub x.o x.n) == (setQ R.pub x.o x.n))] (fun _ => (.cons ⟨b3, 0, rfl, .inl ⟨[Gs.val R2.s R2.objs.length, Gs.val R2.ts R2.texts.length], by kernel_rfl, (cells_cons (Cell.own mem_z rfl) (cells_cons (Cell.own mem_z rfl) cells_nil)), rfl⟩⟩ (.cons rfl .nil))) ?_
      exact ⟨(H2, R2), ow, congrArg (fun b => Value.tuple #[_, .bool b]) (by rw [beq_self_eq_true]), Did.mk' hS hx.p (ds4 hc10) (Nat.le_succ k) hstp.inv (by rw [hstp.pub, hS.objs]) (by rw [hstp.texts, hS.texts]) hR2 hp2 ht2 (by rw [ds4 hc10]; exact gs_touch (by omega) (by omega) (by omega) (by have q_ := hstp.gd; rw [hS.objs] at q_; exact q_) (by rintro (⟨z, q⟩ | ⟨z, q⟩ | ⟨z, q⟩) <;> first | exact q | (exfalso; omega)))⟩
     ·skip
      simp only [beq_iff_eq, beq_eq_false_iff_ne, ne_eq] at hc10
      refine sr ?_
      refine os 2 ?_
      refine nt ?_
      refine cd (fun hc11 : (x.kind == 5) = true => ?_) (fun hc11 => ?_)
      ·skip
       simp only [beq_iff_eq, beq_eq_false_iff_ne, ne_eq] at hc11
       refine sr ?_
       refine os 2 ?_
       refine L (ld ?_)
       refine os 1 ?_
       refine L (ld ?_)
       refine L (cl (hq_SetLen (by omega) hS.inv x.o x.n) ?_)
       rintro v17 H2 ⟨hv17, hstp⟩
       obtain rfl : v17 = .bool (lenQ R.pub x.o x.n) := hv17.trans (by rw [hS.objs])
       refine os 1 ?_
       refine kp [8, 125, 102, 88, 71, 53, 23, 22, 9, 7, 6, 5, 4, 0, 1, 2] ?_
       refine nr ?_
       refine L (lds 2 ?_)
       refine os 1 ?_
       refine L (ld ?_)
       refine os 1 ?_
       refine L (ld ?_)
       refine L (cl (rq_SetLen hS.ok hx.o x.n) ?_)
       rintro _ R2 ⟨rfl, hR2, hp2, ht2⟩
       refine os 3 ?_
       refine kp [141, 140, 8, 125, 102, 88, 71, 53, 23, 22, 9, 7, 6, 5, 4, 0, 1, 2] ?_
       refine L (st [Gs.val R2.s R2.objs.length, Gs.val R2.ts R2.texts.length] ?_)
       refine os 1 ?_
       refine SL_nil (n_in (n_then ?_))
       refine sr ?_
       refine L (lds 2 ?_)
       refine os 3 ?_
       refine L (st [Gs.val R2.s R2.objs.length, Gs.val R2.ts R2.texts.length] ?_)
       refine os 1 ?_
       refine kp [7, 9, 8, 125, 102, 88, 71, 53, 23, 22, 6, 5, 4, 0, 1, 2] ?_
       refine nt ?_
       refine SW_ret ?_
       refine body_endC [.agg #[Gs.val R2.s R2.objs.length, Gs.val R2.ts R2.texts.length], .bool ((lenQ R.pub x.o x.n) == (lenQ R.pub x.o x.n))] (fun _ => (.cons ⟨b3, 0, rfl, .inl ⟨[Gs.val R2.s R2.objs.length, Gs.val R2.ts R2.texts.length], by kernel_rfl, (cells_cons (Cell.own mem_z rfl) (cells_cons (Cell.own mem_z rfl) cells_nil)), rfl⟩⟩ (.cons rfl .nil))) ?_
       exact ⟨(H2, R2), ow, congrArg (fun b => Value.tuple #[_, .bool b]) (by rw [beq_self_eq_true]), Did.mk' hS hx.p (ds5 hc11) (Nat.le_succ k) hstp.inv (by rw [hstp.pub, hS.objs]) (by rw [hstp.texts, hS.texts]) hR2 hp2 ht2 (by rw [ds5 hc11]; exact gs_touch (by omega) (by omega) (by omega) (by have q_ := hstp.gd; rw [hS.objs] at q_; exact q_) (by rintro (⟨z, q⟩ | ⟨z, q⟩ | ⟨z, q⟩) <;> first | exact q | (exfalso; omega)))⟩
      ·skip
       simp only [beq_iff_eq, beq_eq_false_iff_ne, ne_eq] at hc11
       refine sr ?_
       refine os 2 ?_
       refine nt ?_
       refine cd (fun hc12 : (x.kind == 6) = true => ?_) (fun hc12 => ?_)
       ·skip
        simp only [beq_iff_eq, beq_eq_false_iff_ne, ne_eq] at hc12
        refine sr ?_
        refine os 2 ?_
        refine L (ld ?_)
        refine L (cl (hq_Close hS.inv x.o) ?_)
        rintro _ H2 ⟨rfl, hstp, hgd2⟩
        refine nr ?_
        refine L (lds 2 ?_)
        refine os 1 ?_
        refine kp [149, 148, 142, 125, 102, 88, 71, 53, 23, 22, 9, 8, 7, 6, 5, 4, 0, 1, 2] ?_
        refine L (ld ?_)
        refine L (cl (rq_Shut hS.ok hx.o) ?_)
        rintro _ R2 ⟨rfl, hR2, hp2, ht2⟩
        refine L (st [Gs.val R2.s R2.objs.length, Gs.val R2.ts R2.texts.length] ?_)
        refine SL_nil (n_in (n_then ?_))
        refine sr ?_
        refine L (lds 2 ?_)
        refine os 2 ?_
        refine oV (.bool true) ?_
        refine kp [227, 224, 142, 125, 102, 88, 71, 53, 23, 22, 9, 8, 7, 6, 5, 4, 0, 1, 2] ?_
        refine L (st [Gs.val R2.s R2.objs.length, Gs.val R2.ts R2.texts.length] ?_)
        refine os 1 ?_
        refine nt ?_
        refine SW_ret ?_
        refine body_endC [.agg #[Gs.val R2.s R2.objs.length, Gs.val R2.ts R2.texts.length], .bool true] (fun _ => (.cons ⟨b3, 0, rfl, .inl ⟨[Gs.val R2.s R2.objs.length, Gs.val R2.ts R2.texts.length], by kernel_rfl, (cells_cons (Cell.own mem_z rfl) (cells_cons (Cell.own mem_z rfl) cells_nil)), rfl⟩⟩ (.cons rfl .nil))) ?_
        exact ⟨(H2, R2), ow, rfl, Did.mk' hS hx.p (ds6 hc12) (Nat.le_succ k) hstp.inv (by rw [hstp.pub, hS.objs]) (by rw [hstp.texts, hS.texts]) hR2 hp2 ht2 (gs_same (by omega) (by omega) (by omega) (by omega) (by omega) hgd2)⟩
       ·skip
        simp only [beq_iff_eq, beq_eq_false_iff_ne, ne_eq] at hc12
        refine sr ?_
        refine os 2 ?_
        refine kp [152, 142, 125, 102, 88, 71, 53, 23, 22, 9, 8, 7, 6, 5, 4, 0, 1, 2] ?_
        refine nt ?_
        refine cd (fun hc13 : (x.kind == 7) = true => ?_) (fun hc13 => ?_)
        ·skip
         simp only [beq_iff_eq, beq_eq_false_iff_ne, ne_eq] at hc13
         refine sr ?_
         refine os 2 ?_
         refine L (ld ?_)
         refine os 1 ?_
         refine L (ld ?_)
         refine L (cl (hq_SetInner0 hS.inv x.o hx.src hx.len) ?_)
         rintro _ H2 ⟨rfl, hstp, hgd2⟩
         refine nr ?_
         refine L (lds 2 ?_)
         refine os 1 ?_
         refine kp [161, 160, 152, 142, 125, 102, 88, 71, 53, 23, 22, 9, 8, 7, 6, 5, 4, 0, 1, 2] ?_
         refine L (ld ?_)
         refine os 1 ?_
         refine L (ld ?_)
         refine L (cl (rq_SetInner0 hS.ok hx.o hx.src hx.len) ?_)
         rintro _ R2 ⟨rfl, hR2, hp2, ht2⟩
         refine L (st [Gs.val R2.s R2.objs.length, Gs.val R2.ts R2.texts.length] ?_)
         refine SL_nil (n_in (n_then ?_))
         refine sr ?_
         refine L (lds 2 ?_)
         refine os 2 ?_
         refine oV (.bool true) ?_
         refine kp [227, 224, 152, 142, 125, 102, 88, 71, 53, 23, 22, 9, 8, 7, 6, 5, 4, 0, 1, 2] ?_
         refine L (st [Gs.val R2.s R2.objs.length, Gs.val R2.ts R2.texts.length] ?_)
         refine os 1 ?_
         refine nt ?_
         refine SW_ret ?_
         refine body_endC [.agg #[Gs.val R2.s R2.objs.length, Gs.val R2.ts R2.texts.length], .bool true] (fun _ => (.cons ⟨b3, 0, rfl, .inl ⟨[Gs.val R2.s R2.objs.length, Gs.val R2.ts R2.texts.length], by kernel_rfl, (cells_cons (Cell.own mem_z rfl) (cells_cons (Cell.own mem_z rfl) cells_nil)), rfl⟩⟩ (.cons rfl .nil))) ?_
         exact ⟨(H2, R2), ow, rfl, Did.mk' hS hx.p (ds7 hc13) (Nat.le_succ k) hstp.inv (by rw [hstp.pub, hS.objs]) (by rw [hstp.texts, hS.texts]) hR2 hp2 ht2 (gs_same (by omega) (by omega) (by omega) (by omega) (by omega) hgd2)⟩
        ·skip
         simp only [beq_iff_eq, beq_eq_false_iff_ne, ne_eq] at hc13
         refine sr ?_
         refine os 2 ?_
         refine nt ?_
         refine cd (fun hc14 : (x.kind == 8) = true => ?_) (fun hc14 => ?_)
         ·skip
          simp only [beq_iff_eq, beq_eq_false_iff_ne, ne_eq] at hc14
          refine sr ?_
          refine os 2 ?_
          refine L (ld ?_)
          refine L (cl (hq_Text hS.inv x.key) ?_)
          rintro v23 H2 ⟨hv23, hi2, hpub2, htx2, hgd2⟩
          obtain rfl : v23 = .tuple #[.int .u64 ((textP R.texts x.key).2.1), .bool ((textP R.texts x.key).2.2)] := hv23.trans (by rw [hS.texts])
          refine os 5 ?_
          refine kp [16, 15, 166, 152, 142, 125, 102, 88, 71, 53, 23, 22, 9, 8, 7, 6, 5, 4, 0, 1, 2] ?_
          refine nsr ?_
          refine L (lds 2 ?_)
          refine os 1 ?_
          refine L (ld ?_)
          refine L (cl (rq_Text hS.ok (by rw [← hS.texts]; exact hS.inv.ok.texts) x.key) ?_)
          rintro _ R2 ⟨rfl, hR2, hp2, ht2⟩
          refine os 4 ?_
          refine L (nw 28 2 [.slice none 0 0, .slice none 0 0] ?_)
          intro b15
          refine L (st [Gs.val R2.s R2.objs.length, Gs.val R2.ts R2.texts.length] ?_)
          refine os 2 ?_
          refine kp [19, 18, 17, 16, 15, 166, 152, 142, 125, 102, 88, 71, 53, 23, 22, 9, 8, 7, 6, 5, 4, 0, 1, 2] ?_
          refine nsr ?_
          refine L (lds 2 ?_)
          refine os 4 ?_
          refine pn 187 (show (((textP R.texts x.key).2.1) == ((textP R.texts x.key).2.1)) = true from (by rw [beq_self_eq_true])) ?_
          refine os 4 ?_
          refine kp [191, 183, 19, 18, 17, 16, 15, 166, 152, 142, 125, 102, 88, 71, 53, 23, 22, 9, 8, 7, 6, 5, 4, 0, 1, 2] ?_
          refine L (st [Gs.val R2.s R2.objs.length, Gs.val R2.ts R2.texts.length] ?_)
          refine os 1 ?_
          refine nt ?_
          refine SW_ret (r_in (r_then ?_))
          refine body_endC [.agg #[Gs.val R2.s R2.objs.length, Gs.val R2.ts R2.texts.length], .bool (((textP R.texts x.key).2.2) == ((textP R.texts x.key).2.2))] (fun _ => (.cons ⟨b3, 0, rfl, .inl ⟨[Gs.val R2.s R2.objs.length, Gs.val R2.ts R2.texts.length], by kernel_rfl, (cells_cons (Cell.own mem_z rfl) (cells_cons (Cell.own mem_z rfl) cells_nil)), rfl⟩⟩ (.cons rfl .nil))) ?_
          exact ⟨(H2, R2), ow, congrArg (fun b => Value.tuple #[_, .bool b]) (by rw [beq_self_eq_true]), Did.mk' hS hx.p (ds8 hc14) (Nat.le_succ k) hi2 (by rw [hpub2, hS.objs]) (by rw [htx2, hS.texts]) hR2 hp2 ht2 (gs_same (by omega) (by omega) (by omega) (by omega) (by omega) hgd2)⟩
         ·skip
          simp only [beq_iff_eq, beq_eq_false_iff_ne, ne_eq] at hc14
          refine sr ?_
          refine os 2 ?_
          refine nt ?_
          refine cd (fun hc17 : (x.kind == 9) = true => ?_) (fun hc17 => ?_)
          ·skip
           simp only [beq_iff_eq, beq_eq_false_iff_ne, ne_eq] at hc17
           refine sr ?_
           refine os 2 ?_
           refine L (ld ?_)
           refine L (cl (hq_Guard (by omega) hS.inv x.p (by rw [hS.objs]; exact hS.doc.ends _)) ?_)
           rintro v25 H2 ⟨hv25, hi2, hpub2, htx2, hgd2⟩
           obtain rfl : v25 = .int .i64 ((guardF R.pub R.pub.length x.p H.gd).2) := hv25.trans (by rw [hS.objs])
           refine os 1 ?_
           refine kp [20, 192, 166, 152, 142, 125, 102, 88, 71, 53, 23, 22, 9, 8, 7, 6, 5, 4, 0, 1, 2] ?_
           refine nq ?_
           refine SW_draw [(b1, 0, Gs.val R.s R.objs.length), (b1, 1, Gs.val R.ts R.texts.length), (b1, 0, Gs.val R.s R.objs.length), (b1, 1, Gs.val R.ts R.texts.length), (b2, 2, .int .u64 x.p)] [0, 1, 2, 3, 4, 5, 6, 7, 8, 9, 10, 11, 12, 13, 14, 15, 16, 17] (by kernel_rfl) (rd_cons (Cell.own (mem_a (mem_c (mem_c mem_z))) rfl) (rd_cons (Cell.own (mem_a (mem_c (mem_c mem_z))) rfl) (rd_cons (Cell.own (mem_a (mem_c (mem_c mem_z))) rfl) (rd_cons (Cell.own (mem_a (mem_c (mem_c mem_z))) rfl) (rd_cons (Cell.own (mem_a (mem_c mem_z)) rfl) rd_nil))))) ?_
           refine tr 0 (.agg #[Gs.val R.s R.objs.length, Gs.val R.ts R.texts.length]) ?_ (hy := fun δ w hr => Rd_loads b1 0 [Gs.val R.s R.objs.length, Gs.val R.ts R.texts.length] rfl (by kernel_rfl) (rdm_cons List.mem_cons_self (rdm_cons (List.mem_cons_of_mem _ List.mem_cons_self) rdm_nil)) hr)
           refine aS 1 ?_
           refine aS 2 ?_
           refine tr 3 (.agg #[Gs.val R.s R.objs.length, Gs.val R.ts R.texts.length]) ?_ (hy := fun δ w hr => Rd_loads b1 0 [Gs.val R.s R.objs.length, Gs.val R.ts R.texts.length] rfl (by kernel_rfl) (rdm_cons List.mem_cons_self (rdm_cons (List.mem_cons_of_mem _ List.mem_cons_self) rdm_nil)) hr)
           refine aF 4 ?_
           refine aL 5 ?_
           refine sa1 true 6 (h := cl (rq_At (R := R) hx.p) ?_)
           rintro _ _ rfl
           try simp only [List.cons_append, List.append_assoc, List.nil_append]
           refine ⟨fun hnd => (rd_cons (Cell.own (mem_a (mem_c (mem_c mem_z))) rfl) (rd_cons (Cell.own (mem_a (mem_c (mem_c mem_z))) rfl) (rd_cons (Cell.own (mem_a (mem_c (mem_c mem_z))) rfl) (rd_cons (Cell.own (mem_a (mem_c (mem_c mem_z))) rfl) (rd_cons (Cell.own (mem_a (mem_c mem_z)) rfl) rd_nil))))), ?_⟩
           refine aS 7 ?_
           refine aS 8 ?_
           refine aS 9 ?_
           refine kpA [207, 198, 20, 192, 166, 152, 142, 125, 102, 88, 71, 53, 23, 22, 9, 8, 7, 6, 5, 4, 0, 1, 2] ?_
           refine tbA 207 (fun hg18 => ?_) (fun hg18 => ?_)
           ·skip
            replace hg18 : ((((guardF R.pub R.pub.length x.p H.gd).2) == (-1)) == (decide ((atW R.pub x.p) < 0))) = true := hg18
            refine aS 10 ?_
            refine aS 11 ?_
            refine aS 12 ?_
            refine tbA 210 (fun hg19 => ?_) (fun hg19 => ?_)
            ·skip
             replace hg19 : (((guardF R.pub R.pub.length x.p H.gd).2) == (-1)) = true := hg19
             simp only [beq_iff_eq, beq_eq_false_iff_ne, ne_eq] at hg19
             refine tn 13 ?_
             refine tn 14 ?_
             refine tn 15 ?_
             refine aS 16 ?_
             refine aS 17 ?_
             refine kpA [215, 198, 20, 192, 166, 152, 142, 125, 102, 88, 71, 53, 23, 22, 9, 8, 7, 6, 5, 4, 0, 1, 2] ?_
             refine sa1 false 18 (h := st [Gs.val R.s R.objs.length, Gs.val R.ts R.texts.length] ?_)
             refine ⟨fun hnd => (by cases hnd), ?_⟩
             refine aS 19 ?_
             refine SA_done (by kernel_rfl) (n_then ?_)
             refine SW_ret (r_in (r_then ?_))
             refine body_endC [.agg #[Gs.val R.s R.objs.length, Gs.val R.ts R.texts.length], .bool true] (fun _ => (.cons ⟨b3, 0, rfl, .inl ⟨[Gs.val R.s R.objs.length, Gs.val R.ts R.texts.length], by kernel_rfl, (cells_cons (Cell.own mem_z rfl) (cells_cons (Cell.own mem_z rfl) cells_nil)), rfl⟩⟩ (.cons rfl .nil))) ?_
             exact ⟨(H2, R), ow, rfl, Did.mk' hS hx.p (ds9 hc17) (Nat.le_refl _) hi2 (by rw [hpub2, hS.objs]) (by rw [htx2, hS.texts]) hS.ok rfl rfl (gs_guard hc17 (by rw [hgd2, hS.objs]))⟩
            ·skip
             replace hg19 : (((guardF R.pub R.pub.length x.p H.gd).2) == (-1)) = false := hg19
             simp only [beq_iff_eq, beq_eq_false_iff_ne, ne_eq] at hg19
             refine aS 13 ?_
             refine aS 14 ?_
             refine sa1 true 15 (h := cl (hq_Valid hi2 ((guardF R.pub R.pub.length x.p H.gd).2)) ?_)
             rintro _ _ rfl
             refine ⟨fun hnd => (rd_cons (Cell.own (mem_a (mem_c (mem_c mem_z))) rfl) (rd_cons (Cell.own (mem_a (mem_c (mem_c mem_z))) rfl) (rd_cons (Cell.own (mem_a (mem_c (mem_c mem_z))) rfl) (rd_cons (Cell.own (mem_a (mem_c (mem_c mem_z))) rfl) (rd_cons (Cell.own (mem_a (mem_c mem_z)) rfl) rd_nil))))), ?_⟩
             refine aS 16 ?_
             refine aS 17 ?_
             refine kpA [215, 198, 20, 192, 166, 152, 142, 125, 102, 88, 71, 53, 23, 22, 9, 8, 7, 6, 5, 4, 0, 1, 2] ?_
             refine sa1 false 18 (h := st [Gs.val R.s R.objs.length, Gs.val R.ts R.texts.length] ?_)
             refine ⟨fun hnd => (by cases hnd), ?_⟩
             refine aS 19 ?_
             refine SA_done (by kernel_rfl) (n_then ?_)
             refine SW_ret (r_in (r_then ?_))
             refine body_endC [.agg #[Gs.val R.s R.objs.length, Gs.val R.ts R.texts.length], .bool (valP H2.gd.2 ((guardF R.pub R.pub.length x.p H.gd).2))] (fun _ => (.cons ⟨b3, 0, rfl, .inl ⟨[Gs.val R.s R.objs.length, Gs.val R.ts R.texts.length], by kernel_rfl, (cells_cons (Cell.own mem_z rfl) (cells_cons (Cell.own mem_z rfl) cells_nil)), rfl⟩⟩ (.cons rfl .nil))) ?_
             exact ⟨(H2, R), ow, congrArg (fun b => Value.tuple #[_, .bool b]) (by rw [hgd2, hS.objs]; exact (hS.guard x.p).2 (by assumption)), Did.mk' hS hx.p (ds9 hc17) (Nat.le_refl _) hi2 (by rw [hpub2, hS.objs]) (by rw [htx2, hS.texts]) hS.ok rfl rfl (gs_guard hc17 (by rw [hgd2, hS.objs]))⟩
           ·skip
            replace hg18 : ((((guardF R.pub R.pub.length x.p H.gd).2) == (-1)) == (decide ((atW R.pub x.p) < 0))) = false := hg18
            rw [(hS.guard x.p).1] at hg18; cases hg18
          ·skip
           simp only [beq_iff_eq, beq_eq_false_iff_ne, ne_eq] at hc17
           refine sr ?_
           refine os 2 ?_
           refine kp [216, 192, 166, 152, 142, 125, 102, 88, 71, 53, 23, 22, 9, 8, 7, 6, 5, 4, 0, 1, 2] ?_
           refine nt ?_
           refine cd (fun hc20 : (x.kind == 10) = true => ?_) (fun hc20 => ?_)
           ·skip
            simp only [beq_iff_eq, beq_eq_false_iff_ne, ne_eq] at hc20
            refine sr ?_
            refine os 1 ?_
            refine L (lds 2 ?_)
            refine L (lds 9 ?_)
            refine L (cl (law_written hS hk hx) ?_)
            rintro _ ⟨H2, R2⟩ ⟨rfl, hstp, hR2, hp2, ht2⟩
            refine un ?_
            refine os 2 ?_
            refine L (st [Gs.val R2.s R2.objs.length, Gs.val R2.ts R2.texts.length] ?_)
            refine os 1 ?_
            refine kp [7, 216, 192, 166, 152, 142, 125, 102, 88, 71, 53, 23, 22, 9, 8, 6, 5, 4, 0, 1, 2] ?_
            refine nt ?_
            refine SW_ret (r_in (r_then ?_))
            refine body_endC [.agg #[Gs.val R2.s R2.objs.length, Gs.val R2.ts R2.texts.length], .bool true] (fun _ => (.cons ⟨b3, 0, rfl, .inl ⟨[Gs.val R2.s R2.objs.length, Gs.val R2.ts R2.texts.length], by kernel_rfl, (cells_cons (Cell.own mem_z rfl) (cells_cons (Cell.own mem_z rfl) cells_nil)), rfl⟩⟩ (.cons rfl .nil))) ?_
            exact ⟨(H2, R2), ow, rfl, Did.mk' hS hx.p (ds10 hc20) (Nat.le_succ k) hstp.inv (by rw [hstp.pub, hS.objs]) (by rw [hstp.texts, hS.texts]) hR2 hp2 ht2 (by rw [ds10 hc20]; exact gs_touch (by omega) (by omega) (by omega) (by have q_ := hstp.gd; rw [hS.objs] at q_; exact q_) (by rintro (⟨z, q⟩ | ⟨z, q⟩ | ⟨z, q⟩) <;> first | exact q | (exfalso; omega)))⟩
           ·skip
            simp only [beq_iff_eq, beq_eq_false_iff_ne, ne_eq] at hc20
            refine SW_skip (n_in (n_then ?_))
            refine sr ?_
            refine L (lds 2 ?_)
            refine os 2 ?_
            refine oV (.bool true) ?_
            refine L (st [Gs.val R.s R.objs.length, Gs.val R.ts R.texts.length] ?_)
            refine os 1 ?_
            refine kp [7, 216, 192, 166, 152, 142, 125, 102, 88, 71, 53, 23, 22, 9, 8, 6, 5, 4, 0, 1, 2] ?_
            refine nt ?_
            refine SW_ret ?_
            refine body_endC [.agg #[Gs.val R.s R.objs.length, Gs.val R.ts R.texts.length], .bool true] (fun _ => (.cons ⟨b3, 0, rfl, .inl ⟨[Gs.val R.s R.objs.length, Gs.val R.ts R.texts.length], by kernel_rfl, (cells_cons (Cell.own mem_z rfl) (cells_cons (Cell.own mem_z rfl) cells_nil)), rfl⟩⟩ (.cons rfl .nil))) ?_
            exact ⟨(H, R), ow, rfl, Did.mk' hS hx.p (dsE fun c c0 c1 => by omega) (Nat.le_succ k) hS.inv hS.objs hS.texts hS.ok rfl rfl (gs_same (by omega) (by omega) (by omega) (by omega) (by omega) rfl)⟩

end Go.Proofs.YtdfhbheipagnmaaGreat
