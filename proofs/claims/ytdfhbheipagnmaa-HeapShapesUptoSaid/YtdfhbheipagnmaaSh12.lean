/-
  The heap and the document's store side by side: what a script's call leaves of both. No condition.
-/
import Derived.Test.YtdfhbheipagnmaaSh11
import Derived.Test.YtdfhbheipagnmaaSh6
set_option linter.unusedVariables false
set_option linter.unusedSimpArgs false
set_option maxRecDepth 100000
set_option maxHeartbeats 4000000
namespace Go.Proofs.Ytdfhbheipagnmaa
open Go.Sl
structure Sim (k : Nat) (H : HeapV) (F : HeapF) (R : RSt) : Prop where
  inv : HInv k H F
  ok : R.ok
  objs : H.pub F = R.pub
  texts : H.texts = R.texts
  doc : DOk R.pub
  gds : GInv R.pub H.gd
variable {k : Nat} {H H2 : HeapV} {F : HeapF} {R R2 : RSt} {n : Nat} {W0 : World} {x : OpP}
theorem Sim.lok (h : Sim k H F R) : LOk k R.pub := h.objs ▸ h.inv.lok
abbrev RSt.D (R : RSt) : DocS := (R.pub, R.texts)
/-- What a step leaves. -/
structure Did (k : Nat) (H : HeapV) (F : HeapF) (R : RSt) (x : OpP) (H2 : HeapV) (R2 : RSt) : Prop where
  sim : Sim k H2 F R2
  doc : R2.D = docStep R.D x
  gd : GdS R.D (docStep R.D x) H.gd H2.gd x
theorem Did.mk' (hS : Sim k H F R) (hp : wordOk x.p) {l : List ObjS} {t : List ByteArray} {k' : Nat} (hd : docStep R.D x = (l, t)) (hk : k' ≤ k + 1) (hi : HInv k' H2 F) (hpub : H2.pub F = l) (htx : H2.texts = t) (hR : R2.ok) (hp2 : R2.pub = l) (ht2 : R2.texts = t)
    (hg : GdS R.D (docStep R.D x) H.gd H2.gd x) : Did (k + 1) H F R x H2 R2 := by
  have hdoc : R2.D = docStep R.D x := by rw [hd]; exact Prod.ext hp2 ht2
  have h1 := DOk.step (D := R.D) hS.doc x hp
  have h2 := GInv.step (D := R.D) hS.gds hS.doc hg
  rw [← hdoc] at h1 h2
  exact ⟨⟨hi.mono hk, hR, hpub.trans hp2.symm, htx.trans ht2.symm, h1, h2⟩, hdoc, hg⟩
theorem ds0 {D : DocS} (h : x.kind = 0) : docStep D x = (makeL D.1 x.n x.p, D.2) := by unfold docStep; simp [h]
theorem ds1 {D : DocS} (h : x.kind = 1) : docStep D x = (modP D.1 x.o (putO x.key x.d), D.2) := by unfold docStep; simp [h]
theorem ds2 {D : DocS} (h : x.kind = 2) : docStep D x = (modP D.1 x.o (dropO x.key), D.2) := by unfold docStep; simp [h]
theorem ds3 {D : DocS} (h : x.kind = 3) : docStep D x = (reproP D.1 x.o x.p, D.2) := by unfold docStep; simp [h]
theorem ds4 {D : DocS} (h : x.kind = 4) : docStep D x = (modP D.1 x.o (setO x.n x.first), D.2) := by unfold docStep; simp [h]
theorem ds5 {D : DocS} (h : x.kind = 5) : docStep D x = (modP D.1 x.o (lenO x.n), D.2) := by unfold docStep; simp [h]
theorem ds6 {D : DocS} (h : x.kind = 6) : docStep D x = (modP D.1 x.o shutO, D.2) := by unfold docStep; simp [h]
theorem ds7 {D : DocS} (h : x.kind = 7) : docStep D x = (modP D.1 x.o (innerO x.w), D.2) := by unfold docStep; simp [h]
theorem ds8 {D : DocS} (h : x.kind = 8) : docStep D x = (D.1, (textP D.2 x.key).1) := by unfold docStep; simp [h]
theorem ds9 {D : DocS} (h : x.kind = 9) : docStep D x = D := by unfold docStep; simp [h]
theorem ds10 {D : DocS} (h : x.kind = 10) : docStep D x = (modP D.1 x.o (writeO x.n x.first), D.2) := by unfold docStep; simp [h]
theorem dsE {D : DocS} (h : ∀ c, 0 ≤ c → c ≤ 10 → x.kind ≠ c) : docStep D x = D := by
  unfold docStep
  simp [h 0 (by decide) (by decide), h 1 (by decide) (by decide), h 2 (by decide) (by decide), h 3 (by decide) (by decide), h 4 (by decide) (by decide), h 5 (by decide) (by decide), h 6 (by decide) (by decide), h 7 (by decide) (by decide), h 8 (by decide) (by decide), h 9 (by decide) (by decide), h 10 (by decide) (by decide)]
theorem gs_touch {D D' : DocS} {g g' : GdP} {must : Prop} (h0 : x.kind ≠ 0) (h9 : x.kind ≠ 9) (h6 : ¬ (x.kind = 6 ∨ x.kind = 7 ∨ x.kind = 8)) (hc : GdC g g' (objAt x.o D.1.length) must)
    (hm : ((x.kind = 1 ∧ objAt x.o D.1.length ≠ none) ∨ (x.kind = 2 ∧ hasQ D.1 x.o x.key = true) ∨ (x.kind = 3 ∧ protoW D'.1 x.o ≠ protoW D.1 x.o)) → must) : GdS D D' g g' x := by
  unfold GdS
  rw [if_neg h0, if_neg h9, if_neg h6]
  rcases hc with ⟨q, e⟩ | q
  · exact .inl ⟨fun z => q (hm z), e⟩
  · exact .inr q
theorem gs_same {D D' : DocS} {g g' : GdP} (h0 : x.kind ≠ 0) (h9 : x.kind ≠ 9) (h1 : x.kind ≠ 1) (h2 : x.kind ≠ 2) (h3 : x.kind ≠ 3) (he : g' = g) : GdS D D' g g' x := by
  unfold GdS
  rw [if_neg h0, if_neg h9]
  split
  · exact he
  · exact .inl ⟨by rintro (⟨q, _⟩ | ⟨q, _⟩ | ⟨q, _⟩); exact h1 q; exact h2 q; exact h3 q, he⟩
theorem gs_guard {D D' : DocS} {g g' : GdP} (h : x.kind = 9) (he : g' = (guardF D.1 D.1.length x.p g).1) : GdS D D' g g' x := by
  unfold GdS; rw [if_neg (by omega), if_pos h]; exact he
theorem gs_make {D D' : DocS} {g g' : GdP} (h : x.kind = 0) (he : g' = (if mayP D.1 x.n x.p then (g.1 ++ [-1], g.2) else g)) : GdS D D' g g' x := by
  unfold GdS; rw [if_pos h]; exact he
/-! written -/
theorem writeD_out {l : List DescP} {m wd : Int} (h : ¬ (0 ≤ m ∧ m < l.length)) : writeD l m wd = l := by
  unfold writeD
  by_cases q : 0 ≤ m
  · rw [if_pos q, List.getElem?_eq_none (by omega)]
  · rw [if_neg q]
theorem write_out {o : ObjS} {m wd : Int} (h : ¬ (0 ≤ m ∧ m < o.descs.length)) : writeO m wd o = o := by unfold writeO; rw [writeD_out h]
theorem ixS_at {l : List ByteArray} {m : Nat} {key : ByteArray} (hn : l.Nodup) (hk : l[m]? = some key) : ixS l key = m := by
  have hm := List.mem_of_getElem? hk
  have h0 : 0 ≤ ixS l key := by
    by_cases q : ixS l key < 0
    · exact absurd hm (ixS_none.1 q)
    · omega
  have h1 := ixS_some h0
  have hlt := (List.getElem?_eq_some_iff.1 hk).1
  have hlt2 := (List.getElem?_eq_some_iff.1 h1).1
  have hp := List.pairwise_iff_getElem.1 hn
  have g1 := (List.getElem?_eq_some_iff.1 h1).2
  have g2 := (List.getElem?_eq_some_iff.1 hk).2
  rcases Nat.lt_trichotomy (ixS l key).toNat m with q | q | q
  · exact absurd (g1.trans g2.symm) (hp _ _ hlt2 hlt q)
  · omega
  · exact absurd (g2.trans g1.symm) (hp _ _ hlt hlt2 q)
theorem put_write {o : ObjS} {m wd : Int} {key : ByteArray} {d : DescP} (h0 : 0 ≤ m) (hn : o.names.Nodup) (hk : o.names[m.toNat]? = some key) (hd : o.descs[m.toNat]? = some d) (hf : normF d.2.2 = d.2.2) : putO key (wd, d.2.1, d.2.2) o = writeO m wd o := by
  have e := ixS_at hn hk
  have hneg : ¬ ixS o.names key < 0 := by omega
  unfold putO writeO
  have e1 : putNm o.names key = o.names := if_neg hneg
  have e2 : putDs o.names o.descs key (normD (wd, d.2.1, d.2.2)) = o.descs.set m.toNat (wd, d.2.1, d.2.2) := by
    refine (if_neg hneg).trans ?_
    rw [e]
    unfold normD
    simp only []
    rw [hf]; rfl
  have e3 : writeD o.descs m wd = o.descs.set m.toNat (wd, d.2.1, d.2.2) := by unfold writeD; rw [if_pos h0, hd]
  rw [e1, e2, e3]
theorem HInv.nodup (h : HInv k H F) {o : ObjS} (ho : o ∈ H.pub F) : o.names.Nodup := by
  obtain ⟨x, hx, rfl⟩ := List.mem_map.1 ho
  exact (h.objs x hx).nodup
theorem onQ_at {l : List ObjS} {p w : Int} : onQ l p w = true ↔ ∃ i, i ≤ l.length ∧ (∀ j, j ≤ i → objAt (upN l p j) l.length ≠ none) ∧ upN l p i = w := by
  rw [onQ_iff]
  constructor
  · rintro ⟨n, i, h1, h2, h3⟩
    refine ⟨i, h2, fun j hj hn => ?_, h3⟩
    have := upN_null hn (i - j)
    rw [show j + (i - j) = i by omega, h3, h1] at this
    cases this
  · rintro ⟨i, h1, h2, h3⟩
    have := h2 i (Nat.le_refl i)
    rw [h3] at this
    cases hn : objAt w l.length with
    | none => exact absurd hn this
    | some n => exact ⟨n, i, rfl, h1, h3⟩
theorem onQ_no {l : List ObjS} {p w : Int} {i : Nat} (hb : ∀ j, j < i → upN l p j ≠ w) (he : l.length < i ∨ objAt (upN l p i) l.length = none) : onQ l p w = false := by
  cases h : onQ l p w with
  | false => rfl
  | true =>
    obtain ⟨j, h1, h2, h3⟩ := onQ_at.1 h
    by_cases hj : j < i
    · exact absurd h3 (hb j hj)
    · rcases he with q | q
      · omega
      · exact absurd q (h2 i (by omega))
theorem atW_neg {l : List ObjS} {w : Int} : atW l w < 0 ↔ objAt w l.length = none := by
  unfold atW
  cases objAt w l.length with
  | none => simp
  | some n => simp
theorem Sim.guard (hS : Sim k H F R) (p : Int) : (((guardF R.pub R.pub.length p H.gd).2 == (-1)) == decide (atW R.pub p < 0)) = true ∧ ((guardF R.pub R.pub.length p H.gd).2 ≠ -1 → valP (guardF R.pub R.pub.length p H.gd).1.2 (guardF R.pub R.pub.length p H.gd).2 = true) := by
  obtain ⟨h1, h2, h3⟩ := hS.gds.new hS.doc p
  refine ⟨?_, fun q => ?_⟩
  · rw [beq_iff_eq, Bool.eq_iff_iff, beq_iff_eq, decide_eq_true_eq, atW_neg]
    exact h2
  · exact valP_iff.2 (h3 fun z => q (h2.2 z)).2
theorem hq_SetInner0 (h : HInv k H F) (w : Int) {l : List Int} {A : Option Addr} {c : Nat} (hs : ∀ σ, Src W0 σ A (l.map encU)) (hl : l.length ≤ 1048576) :
    SC Try.prog W0 12 #[.pointer (some ⟨F.p, 0, none⟩), .int .u64 w, .slice A l.length c] (HeapV.ent H F)
    (Ret (fun H' : HeapV => H'.ent F) (fun v H' => v = .tuple #[] ∧ Stp k H H' F (modP (H.pub F) w (innerO l)) H.texts w False ∧ H'.gd = H.gd)) := by
  have := hq_SetInner h w (τ := []) (c := c) (hs []) hl
  simp only [List.append_nil] at this
  exact this
theorem rq_SetInner0 (hR : R.ok) {w : Int} (hw : wordOk w) {l : List Int} {A : Option Addr} {c : Nat} (hs : ∀ σ, Src W0 σ A (l.map encU)) (hr : l.length ≤ 1048576) :
    SC Try.prog W0 64 #[R.val, .int .u64 w, .slice A l.length c] R.ent
    (Ret (fun R' : RSt => R'.ent) (fun v R' => v = R'.val ∧ R'.ok ∧ R'.pub = modP R.pub w (innerO l) ∧ R'.texts = R.texts)) := by
  have := rq_SetInner (W0 := W0) hR hw (τ := []) (c := c) (hs []) hr
  simp only [List.append_nil] at this
  exact this
end Go.Proofs.Ytdfhbheipagnmaa
namespace Go.Proofs.Ytdfhbheipagnmaa
open Go.Sl

theorem law_written_none {W0 : World} {k : Nat} {H : HeapV} {F : HeapF} {R : RSt} (hS : Sim k H F R) (hk : k < 8000000) {x : OpP} (hx : OpOk W0 x) (h0 : objAt x.o R.objs.length = none) : SC Try.prog W0 66 #[.pointer (some ⟨F.p, 0, none⟩), R.val, .agg #[.int .i64 x.kind, .int .u64 x.o, .int .u64 x.p, .string x.key, .int .u64 x.d.1, .int .u64 x.d.2.1, .int .i64 x.d.2.2, .int .i64 x.n, .slice x.A x.w.length x.c]] (HeapV.ent H F ++ (RSt.ent R ++ [])) (Ret (fun r : HeapV × RSt => HeapV.ent r.1 F ++ (RSt.ent r.2 ++ [])) (fun v r => v = .tuple #[r.2.val, .bool true] ∧ Stp k H r.1 F (modP (H.pub F) x.o (writeO x.n x.first)) H.texts x.o False ∧ r.2.ok ∧ r.2.pub = modP R.pub x.o (writeO x.n x.first) ∧ r.2.texts = R.texts)) := by
 have hR := hS.ok
 refine SC_body (fn := Try.f66) (n := 78) Try.func66 rfl (by kernel_rfl) (ρ := [(0, pt F.p 0), (1, .agg #[Gs.val R.s R.objs.length, Gs.val R.ts R.texts.length]), (2, .agg #[.int .i64 x.kind, .int .u64 x.o, .int .u64 x.p, .string x.key, .int .u64 x.d.1, .int .u64 x.d.2.1, .int .i64 x.d.2.2, .int .i64 x.n, .slice x.A x.w.length x.c])]) rfl ?_
 refine SW_sig ((HeapV.ent H F) ++ ((Gs.ent 66 7 R.s (R.objs.flatMap RObj.cells)) ++ ((R.objs.flatMap RObj.ent) ++ ((Gs.ent 9 1 R.ts (R.texts.map encS)) ++ ([]))))) (by simp only [RSt.ent, List.cons_append, List.append_assoc, List.nil_append, List.append_nil]) ?_
 refine sr ?_
 refine L (nw 59 2 [Gs.val R.s R.objs.length, Gs.val R.ts R.texts.length] ?_)
 intro b1
 refine L (nw 61 9 [.int .i64 x.kind, .int .u64 x.o, .int .u64 x.p, .string x.key, .int .u64 x.d.1, .int .u64 x.d.2.1, .int .i64 x.d.2.2, .int .i64 x.n, .slice x.A x.w.length x.c] ?_)
 intro b2
 refine L (nw 59 2 [.slice none 0 0, .slice none 0 0] ?_)
 intro b3
 refine os 1 ?_
 refine nsr ?_
 refine L (lds 2 ?_)
 refine os 1 ?_
 refine L (ld ?_)
 refine L (cl (rf_At (R := R) hx.o) ?_)
 rintro v1 _ hv1
 obtain rfl : v1 = .int .i64 (-1) := hv1.trans (by unfold atI; rw [h0])
 refine un ?_
 refine os 1 ?_
 refine kp [8, 7, 6, 5, 4, 0, 1, 2] ?_
 refine nq ?_
 refine SW_draw [(b2, 1, .int .u64 x.o), (b2, 7, .int .i64 x.n), (b2, 8, .slice x.A x.w.length x.c)] [0, 1, 2, 3, 4, 5, 6, 7] (by kernel_rfl) (rd_cons (Cell.own (mem_c mem_z) rfl) (rd_cons (Cell.own (mem_c mem_z) rfl) (rd_cons (Cell.own (mem_c mem_z) rfl) rd_nil))) ?_
 refine aS 0 ?_
 refine aF 1 ?_
 refine aL 2 ?_
 refine aF 3 ?_
 refine aL 4 ?_
 refine aF 5 ?_
 refine aL 6 ?_
 refine sa1 true 7 (h := cl (law_first hx.src hx.len) ?_)
 rintro _ _ rfl
 try simp only [List.cons_append, List.append_assoc, List.nil_append]
 refine ⟨fun hnd => (rd_cons (Cell.own (mem_c mem_z) rfl) (rd_cons (Cell.own (mem_c mem_z) rfl) (rd_cons (Cell.own (mem_c mem_z) rfl) rd_nil))), ?_⟩
 refine sa1 false 8 (h := cl (hq_Write (by omega) hS.inv x.o x.n (OpP.first x)) ?_)
 rintro _ H2 ⟨rfl, hstp⟩
 refine ⟨fun hnd => (by cases hnd), ?_⟩
 refine kpA [24, 8, 7, 6, 5, 4, 0, 1, 2] ?_
 refine aS 9 ?_
 refine SA_done (by kernel_rfl) (n_then ?_)
 refine SW_seq ?_
 refine SW_seq ?_
 refine SW_draw [] [0, 1, 2, 3, 4, 5, 6, 7, 8, 9, 10, 11, 12, 13, 14, 15, 16] (by kernel_rfl) rd_nil ?_
 refine aS 0 ?_
 refine tk 1 (.bool true) ?_
 refine aS 2 ?_
 refine tn 3 ?_
 refine tn 4 ?_
 refine tn 5 ?_
 refine aS 6 ?_
 refine aS 7 ?_
 refine kpA [32, 9, 8, 7, 6, 5, 4, 0, 1, 2] ?_
 refine tn 8 ?_
 refine tn 9 ?_
 refine tn 10 ?_
 refine tn 11 ?_
 refine tn 12 ?_
 refine tn 13 ?_
 refine tn 14 ?_
 refine tn 15 ?_
 refine tn 16 ?_
 refine tn 17 ?_
 refine aS 18 ?_
 refine kpA [43, 9, 8, 7, 6, 5, 4, 0, 1, 2] ?_
 refine SA_done (by kernel_rfl) (n_then ?_)
 refine ct ?_
 refine sr ?_
 refine L (lds 2 ?_)
 refine os 2 ?_
 refine L (st [Gs.val R.s R.objs.length, Gs.val R.ts R.texts.length] ?_)
 refine os 1 ?_
 refine kp [7, 43, 9, 8, 6, 5, 4, 0, 1, 2] ?_
 refine nt ?_
 refine SW_ret (r_then ?_)
 refine body_endC [.agg #[Gs.val R.s R.objs.length, Gs.val R.ts R.texts.length], .bool (!(slotQ (H.pub F) x.o x.n))] (fun _ => (.cons ⟨b3, 0, rfl, .inl ⟨[Gs.val R.s R.objs.length, Gs.val R.ts R.texts.length], by kernel_rfl, (cells_cons (Cell.own mem_z rfl) (cells_cons (Cell.own mem_z rfl) cells_nil)), rfl⟩⟩ (.cons rfl .nil))) ?_
 have hq_ : slotQ (H.pub F) x.o x.n = false := slotQ_none (by rw [hS.objs, RSt.pub_len]; exact h0)
 rw [hq_]
 refine ⟨(H2, R), Own.trans (ow (S := ((HeapV.ent H2 F) ++ ((Gs.ent 66 7 R.s (R.objs.flatMap RObj.cells)) ++ ((R.objs.flatMap RObj.ent) ++ ((Gs.ent 9 1 R.ts (R.texts.map encS)) ++ ([]))))))) (Own.of_perm (List.Perm.of_eq (by simp only [RSt.ent, List.cons_append, List.append_assoc, List.nil_append, List.append_nil]))), rfl, hstp, hR, ?_, rfl⟩
 exact (modP_none (by rw [RSt.pub_len]; exact h0)).symm

theorem law_written_some {W0 : World} {k : Nat} {H : HeapV} {F : HeapF} {R : RSt} (hS : Sim k H F R) (hk : k < 8000000) {x : OpP} (hx : OpOk W0 x) {n : Nat} {y : RObj} (h0 : objAt x.o R.objs.length = some n) (hy : R.objs[n]? = some y) : SC Try.prog W0 66 #[.pointer (some ⟨F.p, 0, none⟩), R.val, .agg #[.int .i64 x.kind, .int .u64 x.o, .int .u64 x.p, .string x.key, .int .u64 x.d.1, .int .u64 x.d.2.1, .int .i64 x.d.2.2, .int .i64 x.n, .slice x.A x.w.length x.c]] (HeapV.ent H F ++ (RSt.ent R ++ [])) (Ret (fun r : HeapV × RSt => HeapV.ent r.1 F ++ (RSt.ent r.2 ++ [])) (fun v r => v = .tuple #[r.2.val, .bool true] ∧ Stp k H r.1 F (modP (H.pub F) x.o (writeO x.n x.first)) H.texts x.o False ∧ r.2.ok ∧ r.2.pub = modP R.pub x.o (writeO x.n x.first) ∧ r.2.texts = R.texts)) := by
 have hR := hS.ok
 have hnl := (List.getElem?_eq_some_iff.1 hy).1
 have hpn : objAt x.o R.pub.length = some n := by rw [RSt.pub_len]; exact h0
 have hyp : R.pub[n]? = some y.pub := RSt.pub_at hy
 have hmy := List.mem_of_getElem? hyp
 have hsy : y.names.length = y.descs.length := hS.lok.same _ hmy
 have hnd : y.names.Nodup := hS.inv.nodup (o := y.pub) (by rw [hS.objs]; exact hmy)
 have hfl : ∀ d ∈ y.descs, normF d.2.2 = d.2.2 := hS.doc.flags _ hmy
 refine SC_body (fn := Try.f66) (n := 78) Try.func66 rfl (by kernel_rfl) (ρ := [(0, pt F.p 0), (1, .agg #[Gs.val R.s R.objs.length, Gs.val R.ts R.texts.length]), (2, .agg #[.int .i64 x.kind, .int .u64 x.o, .int .u64 x.p, .string x.key, .int .u64 x.d.1, .int .u64 x.d.2.1, .int .i64 x.d.2.2, .int .i64 x.n, .slice x.A x.w.length x.c])]) rfl ?_
 refine SW_sig ((HeapV.ent H F) ++ ((Gs.ent 66 7 R.s (R.objs.flatMap RObj.cells)) ++ ((R.objs.flatMap RObj.ent) ++ ((Gs.ent 9 1 R.ts (R.texts.map encS)) ++ ([]))))) (by simp only [RSt.ent, List.cons_append, List.append_assoc, List.nil_append, List.append_nil]) ?_
 refine sr ?_
 refine L (nw 59 2 [Gs.val R.s R.objs.length, Gs.val R.ts R.texts.length] ?_)
 intro b1
 refine L (nw 61 9 [.int .i64 x.kind, .int .u64 x.o, .int .u64 x.p, .string x.key, .int .u64 x.d.1, .int .u64 x.d.2.1, .int .i64 x.d.2.2, .int .i64 x.n, .slice x.A x.w.length x.c] ?_)
 intro b2
 refine L (nw 59 2 [.slice none 0 0, .slice none 0 0] ?_)
 intro b3
 refine os 1 ?_
 refine nsr ?_
 refine L (lds 2 ?_)
 refine os 1 ?_
 refine L (ld ?_)
 refine L (cl (rf_At (R := R) hx.o) ?_)
 rintro v1 _ hv1
 obtain rfl : v1 = .int .i64 (n : Int) := hv1.trans (by unfold atI; rw [h0])
 refine un ?_
 refine os 1 ?_
 refine kp [8, 7, 6, 5, 4, 0, 1, 2] ?_
 refine nq ?_
 refine SW_draw [(b2, 1, .int .u64 x.o), (b2, 7, .int .i64 x.n), (b2, 8, .slice x.A x.w.length x.c)] [0, 1, 2, 3, 4, 5, 6, 7] (by kernel_rfl) (rd_cons (Cell.own (mem_c mem_z) rfl) (rd_cons (Cell.own (mem_c mem_z) rfl) (rd_cons (Cell.own (mem_c mem_z) rfl) rd_nil))) ?_
 refine aS 0 ?_
 refine aF 1 ?_
 refine aL 2 ?_
 refine aF 3 ?_
 refine aL 4 ?_
 refine aF 5 ?_
 refine aL 6 ?_
 refine sa1 true 7 (h := cl (law_first hx.src hx.len) ?_)
 rintro _ _ rfl
 try simp only [List.cons_append, List.append_assoc, List.nil_append]
 refine ⟨fun hnd => (rd_cons (Cell.own (mem_c mem_z) rfl) (rd_cons (Cell.own (mem_c mem_z) rfl) (rd_cons (Cell.own (mem_c mem_z) rfl) rd_nil))), ?_⟩
 refine sa1 false 8 (h := cl (hq_Write (by omega) hS.inv x.o x.n (OpP.first x)) ?_)
 rintro _ H2 ⟨rfl, hstp⟩
 refine ⟨fun hnd => (by cases hnd), ?_⟩
 refine kpA [24, 8, 7, 6, 5, 4, 0, 1, 2] ?_
 refine aS 9 ?_
 refine SA_done (by kernel_rfl) (n_then ?_)
 refine SW_seq ?_
 refine SW_seq ?_
 refine SW_draw [(b2, 7, .int .i64 x.n), (b2, 7, .int .i64 x.n), (b1, 0, Gs.val R.s R.objs.length), ((Gs.blk R.s), n * 7 + 3, Gs.val y.ns y.names.length)] [0, 1, 2, 3, 4, 5, 6, 7, 8, 9, 10, 11, 12, 13, 14, 15, 16] (by kernel_rfl) (rd_cons (Cell.own (mem_a (mem_c mem_z)) rfl) (rd_cons (Cell.own (mem_a (mem_c mem_z)) rfl) (rd_cons (Cell.own (mem_a (mem_c (mem_c mem_z))) rfl) (rd_cons (Gs.cell hR.row (fun e he => (mem_a (mem_c (mem_c (mem_c (mem_h he)))))) (flat_cell RObj.len hy (j := 3) (by decide) rfl)) rd_nil)))) ?_
 refine aS 0 ?_
 refine aS 1 ?_
 refine aS 2 ?_
 refine tbpA 27 (fun hg4 => ?_) (fun hg4 => ?_)
 ·skip
  replace hg4 : (n : Int) < 0 := hg4
  omega
 ·skip
  replace hg4 : ¬ ((n : Int) < 0) := hg4
  refine aF 3 ?_
  refine aL 4 ?_
  refine aS 5 ?_
  refine aS 6 ?_
  refine aS 7 ?_
  refine kpA [32, 9, 8, 7, 6, 5, 4, 0, 1, 2] ?_
  refine tbpA 32 (fun hg5 => ?_) (fun hg5 => ?_)
  ·skip
   replace hg5 : x.n < 0 := hg5
   refine tn 8 ?_
   refine tn 9 ?_
   refine tn 10 ?_
   refine tn 11 ?_
   refine tn 12 ?_
   refine tn 13 ?_
   refine tn 14 ?_
   refine tn 15 ?_
   refine tn 16 ?_
   refine tn 17 ?_
   refine aS 18 ?_
   refine kpA [43, 9, 8, 7, 6, 5, 4, 0, 1, 2] ?_
   refine SA_done (by kernel_rfl) (n_then ?_)
   refine ct ?_
   refine sr ?_
   refine L (lds 2 ?_)
   refine os 2 ?_
   refine L (st [Gs.val R.s R.objs.length, Gs.val R.ts R.texts.length] ?_)
   refine os 1 ?_
   refine kp [7, 43, 9, 8, 6, 5, 4, 0, 1, 2] ?_
   refine nt ?_
   refine SW_ret (r_then ?_)
   refine body_endC [.agg #[Gs.val R.s R.objs.length, Gs.val R.ts R.texts.length], .bool (!(slotQ (H.pub F) x.o x.n))] (fun _ => (.cons ⟨b3, 0, rfl, .inl ⟨[Gs.val R.s R.objs.length, Gs.val R.ts R.texts.length], by kernel_rfl, (cells_cons (Cell.own mem_z rfl) (cells_cons (Cell.own mem_z rfl) cells_nil)), rfl⟩⟩ (.cons rfl .nil))) ?_
   have hno : ¬ (0 ≤ x.n ∧ x.n < y.descs.length) := by omega
   have hq_ : slotQ (H.pub F) x.o x.n = false := by rw [hS.objs, slotQ_some hpn hyp]; exact decide_eq_false hno
   rw [hq_]
   refine ⟨(H2, R), Own.trans (ow (S := ((HeapV.ent H2 F) ++ ((Gs.ent 66 7 R.s (R.objs.flatMap RObj.cells)) ++ ((R.objs.flatMap RObj.ent) ++ ((Gs.ent 9 1 R.ts (R.texts.map encS)) ++ ([]))))))) (Own.of_perm (List.Perm.of_eq (by simp only [RSt.ent, List.cons_append, List.append_assoc, List.nil_append, List.append_nil]))), rfl, hstp, hR, ?_, rfl⟩
   rw [modP_some hpn hyp, write_out hno]; exact (set_same hyp).symm
  ·skip
   replace hg5 : ¬ (x.n < 0) := hg5
   refine aF 8 ?_
   refine aL 9 ?_
   refine aF 10 ?_
   refine aL 11 ?_
   refine aS 12 ?_
   refine aI 13 (n : Int) (n * 7) hR.row Try.underlying57 ?_
   refine aF 14 ?_
   refine aL 15 ?_
   refine aS 16 ?_
   refine aS 17 ?_
   refine kpA [42, 32, 9, 8, 7, 6, 5, 4, 0, 1, 2] ?_
   refine aS 18 ?_
   refine SA_done (by kernel_rfl) (n_then ?_)
   refine cdp (fun hc6 : x.n ≥ (y.names.length : Int) => ?_) (fun hc6 => ?_)
   ·skip
    refine sr ?_
    refine L (lds 2 ?_)
    refine os 2 ?_
    refine L (st [Gs.val R.s R.objs.length, Gs.val R.ts R.texts.length] ?_)
    refine os 1 ?_
    refine kp [7, 43, 9, 8, 6, 5, 4, 0, 1, 2] ?_
    refine nt ?_
    refine SW_ret (r_then ?_)
    refine body_endC [.agg #[Gs.val R.s R.objs.length, Gs.val R.ts R.texts.length], .bool (!(slotQ (H.pub F) x.o x.n))] (fun _ => (.cons ⟨b3, 0, rfl, .inl ⟨[Gs.val R.s R.objs.length, Gs.val R.ts R.texts.length], by kernel_rfl, (cells_cons (Cell.own mem_z rfl) (cells_cons (Cell.own mem_z rfl) cells_nil)), rfl⟩⟩ (.cons rfl .nil))) ?_
    have hno : ¬ (0 ≤ x.n ∧ x.n < y.descs.length) := by omega
    have hq_ : slotQ (H.pub F) x.o x.n = false := by rw [hS.objs, slotQ_some hpn hyp]; exact decide_eq_false hno
    rw [hq_]
    refine ⟨(H2, R), Own.trans (ow (S := ((HeapV.ent H2 F) ++ ((Gs.ent 66 7 R.s (R.objs.flatMap RObj.cells)) ++ ((R.objs.flatMap RObj.ent) ++ ((Gs.ent 9 1 R.ts (R.texts.map encS)) ++ ([]))))))) (Own.of_perm (List.Perm.of_eq (by simp only [RSt.ent, List.cons_append, List.append_assoc, List.nil_append, List.append_nil]))), rfl, hstp, hR, ?_, rfl⟩
    rw [modP_some hpn hyp, write_out hno]; exact (set_same hyp).symm
   ·skip
    refine SW_skip (n_then ?_)
    refine SW_seq ?_
    obtain ⟨e1, he1⟩ : ∃ y_, y.names[(x.n).toNat]? = some y_ := ⟨_, List.getElem?_eq_getElem (by omega)⟩
    refine SW_draw [(b1, 0, Gs.val R.s R.objs.length), ((Gs.blk R.s), n * 7 + 3, Gs.val y.ns y.names.length), (b2, 7, .int .i64 x.n), ((Gs.blk y.ns), (x.n).toNat, .string e1)] [0, 1, 2, 3, 4, 5, 6, 7, 8] (by kernel_rfl) (rd_cons (Cell.own (mem_a (mem_c (mem_c mem_z))) rfl) (rd_cons (Gs.cell hR.row (fun e he => (mem_a (mem_c (mem_c (mem_c (mem_h he)))))) (flat_cell RObj.len hy (j := 3) (by decide) rfl)) (rd_cons (Cell.own (mem_a (mem_c mem_z)) rfl) (rd_cons (Gs.cell (RSt.ok.at hR hy).ns (fun e he => (mem_a (mem_c (mem_c (mem_c (mem_a (mem_h ((RObj.mns hy) _ he)))))))) (map_cell he1 rfl)) rd_nil)))) ?_
    refine aF 0 ?_
    refine aL 1 ?_
    refine aS 2 ?_
    refine aI 3 (n : Int) (n * 7) hR.row Try.underlying57 ?_
    refine aF 4 ?_
    refine aL 5 ?_
    refine aF 6 ?_
    refine aL 7 ?_
    refine kpA [54, 52, 43, 9, 8, 7, 6, 5, 4, 0, 1, 2] ?_
    refine aI 8 x.n ((x.n).toNat) ((RSt.ok.at hR hy).ns) Try.underlying34 ?_
    refine aL 9 ?_
    refine aS 10 ?_
    refine SA_done (by kernel_rfl) (n_then ?_)
    refine SW_seq ?_
    obtain ⟨e2, he2⟩ : ∃ y_, y.descs[((x.n).toNat)]? = some y_ := ⟨_, List.getElem?_eq_getElem (by omega)⟩
    refine SW_draw [(b1, 0, Gs.val R.s R.objs.length), ((Gs.blk R.s), n * 7 + 4, Gs.val y.ds y.descs.length), (b2, 7, .int .i64 x.n), ((Gs.blk y.ds), ((x.n).toNat) * 3, .int .u64 e2.1), ((Gs.blk y.ds), ((x.n).toNat) * 3 + 1, .int .u64 e2.2.1), ((Gs.blk y.ds), ((x.n).toNat) * 3 + 2, .int .i64 e2.2.2)] [0, 1, 2, 3, 4, 5, 6, 7, 8, 10] (by kernel_rfl) (rd_cons (Cell.own (mem_a (mem_c (mem_c mem_z))) rfl) (rd_cons (Gs.cell hR.row (fun e he => (mem_a (mem_c (mem_c (mem_c (mem_h he)))))) (flat_cell RObj.len hy (j := 4) (by decide) rfl)) (rd_cons (Cell.own (mem_a (mem_c mem_z)) rfl) (rd_cons (Gs.cell (RSt.ok.at hR hy).ds (fun e he => (mem_a (mem_c (mem_c (mem_c (mem_a (mem_h ((RObj.mds hy) _ he)))))))) (flat_cell descCells_len he2 (j := 0) (by decide) rfl)) (rd_cons (Gs.cell (RSt.ok.at hR hy).ds (fun e he => (mem_a (mem_c (mem_c (mem_c (mem_a (mem_h ((RObj.mds hy) _ he)))))))) (flat_cell descCells_len he2 (j := 1) (by decide) rfl)) (rd_cons (Gs.cell (RSt.ok.at hR hy).ds (fun e he => (mem_a (mem_c (mem_c (mem_c (mem_a (mem_h ((RObj.mds hy) _ he)))))))) (flat_cell descCells_len he2 (j := 2) (by decide) rfl)) rd_nil)))))) ?_
    refine aF 0 ?_
    refine aL 1 ?_
    refine aS 2 ?_
    refine aI 3 (n : Int) (n * 7) hR.row Try.underlying57 ?_
    refine aF 4 ?_
    refine kpA [61, 10, 43, 9, 8, 7, 6, 5, 4, 0, 1, 2] ?_
    refine aL 5 ?_
    refine aF 6 ?_
    refine aL 7 ?_
    refine aI 8 x.n (((x.n).toNat) * 3) ((RSt.ok.at hR hy).ds) Try.underlying64 ?_
    refine tr 9 (.agg #[.int .u64 e2.1, .int .u64 e2.2.1, .int .i64 e2.2.2]) ?_ (hy := fun δ w hr => Rd_loads (Gs.blk y.ds) (((x.n).toNat) * 3) [.int .u64 e2.1, .int .u64 e2.2.1, .int .i64 e2.2.2] rfl (by kernel_rfl) (rdm_cons (List.mem_cons_of_mem _ (List.mem_cons_of_mem _ (List.mem_cons_of_mem _ List.mem_cons_self))) (rdm_cons (List.mem_cons_of_mem _ (List.mem_cons_of_mem _ (List.mem_cons_of_mem _ (List.mem_cons_of_mem _ List.mem_cons_self)))) (rdm_cons (List.mem_cons_of_mem _ (List.mem_cons_of_mem _ (List.mem_cons_of_mem _ (List.mem_cons_of_mem _ (List.mem_cons_of_mem _ List.mem_cons_self))))) rdm_nil))) hr)
    refine sa1 true 10 (h := nw 42 3 [.int .u64 0, .int .u64 0, .int .i64 0] ?_)
    intro b7
    refine ⟨fun hnd => (rd_cons (Cell.own (mem_c (mem_a (mem_c (mem_c mem_z)))) rfl) (rd_cons (Gs.cell hR.row (fun e he => (mem_c (mem_a (mem_c (mem_c (mem_c (mem_h he))))))) (flat_cell RObj.len hy (j := 4) (by decide) rfl)) (rd_cons (Cell.own (mem_c (mem_a (mem_c mem_z))) rfl) (rd_cons (Gs.cell (RSt.ok.at hR hy).ds (fun e he => (mem_c (mem_a (mem_c (mem_c (mem_c (mem_a (mem_h ((RObj.mds hy) _ he))))))))) (flat_cell descCells_len he2 (j := 0) (by decide) rfl)) (rd_cons (Gs.cell (RSt.ok.at hR hy).ds (fun e he => (mem_c (mem_a (mem_c (mem_c (mem_c (mem_a (mem_h ((RObj.mds hy) _ he))))))))) (flat_cell descCells_len he2 (j := 1) (by decide) rfl)) (rd_cons (Gs.cell (RSt.ok.at hR hy).ds (fun e he => (mem_c (mem_a (mem_c (mem_c (mem_c (mem_a (mem_h ((RObj.mds hy) _ he))))))))) (flat_cell descCells_len he2 (j := 2) (by decide) rfl)) rd_nil)))))), ?_⟩
    refine sa1 false 11 (h := st [.int .u64 e2.1, .int .u64 e2.2.1, .int .i64 e2.2.2] ?_)
    refine ⟨fun hnd => (by cases hnd), ?_⟩
    refine SA_done (by kernel_rfl) (n_then ?_)
    refine sr ?_
    refine os 1 ?_
    refine kp [67, 11, 10, 43, 9, 8, 7, 6, 5, 4, 0, 1, 2] ?_
    refine L (ld ?_)
    refine L (cl (law_first hx.src hx.len) ?_)
    rintro _ _ rfl
    refine un ?_
    refine os 1 ?_
    refine L (st [.int .u64 (OpP.first x), .int .u64 e2.2.1, .int .i64 e2.2.2] ?_)
    refine nsr ?_
    refine L (lds 2 ?_)
    refine os 1 ?_
    refine L (ld ?_)
    refine os 1 ?_
    refine L (lds 3 ?_)
    refine L (cl (rq_Put (k := k) (by omega) hR hS.lok hx.o e1 ((OpP.first x), e2.2.1, e2.2.2)) ?_ (hp := RSt.pm))
    rintro _ R2 ⟨rfl, hR2, hp2, ht2⟩
    refine os 1 ?_
    refine kp [77, 76, 11, 10, 43, 9, 8, 7, 6, 5, 4, 0, 1, 2] ?_
    refine L (st [Gs.val R2.s R2.objs.length, Gs.val R2.ts R2.texts.length] ?_)
    refine os 1 ?_
    refine nt ?_
    refine SW_ret ?_
    refine body_endC [.agg #[Gs.val R2.s R2.objs.length, Gs.val R2.ts R2.texts.length], .bool (slotQ (H.pub F) x.o x.n)] (fun _ => (.cons ⟨b3, 0, rfl, .inl ⟨[Gs.val R2.s R2.objs.length, Gs.val R2.ts R2.texts.length], by kernel_rfl, (cells_cons (Cell.own mem_z rfl) (cells_cons (Cell.own mem_z rfl) cells_nil)), rfl⟩⟩ (.cons rfl .nil))) ?_
    have hq_ : slotQ (H.pub F) x.o x.n = true := by rw [hS.objs, slotQ_some hpn hyp]; exact decide_eq_true ⟨by omega, by show x.n < y.descs.length; omega⟩
    rw [hq_]
    refine ⟨(H2, R2), (ow (S := ((HeapV.ent H2 F) ++ ((RSt.ent R2) ++ ([]))))), rfl, hstp, hR2, ?_, ht2⟩
    rw [hp2, modP_some hpn hyp, modP_some hpn hyp, put_write (o := y.pub) (by omega) hnd he1 he2 (hfl _ (List.mem_of_getElem? he2))]

theorem law_written {W0 : World} {k : Nat} {H : HeapV} {F : HeapF} {R : RSt} (hS : Sim k H F R) (hk : k < 8000000) {x : OpP} (hx : OpOk W0 x) : SC Try.prog W0 66 #[.pointer (some ⟨F.p, 0, none⟩), R.val, .agg #[.int .i64 x.kind, .int .u64 x.o, .int .u64 x.p, .string x.key, .int .u64 x.d.1, .int .u64 x.d.2.1, .int .i64 x.d.2.2, .int .i64 x.n, .slice x.A x.w.length x.c]] (HeapV.ent H F ++ (RSt.ent R ++ [])) (Ret (fun r : HeapV × RSt => HeapV.ent r.1 F ++ (RSt.ent r.2 ++ [])) (fun v r => v = .tuple #[r.2.val, .bool true] ∧ Stp k H r.1 F (modP (H.pub F) x.o (writeO x.n x.first)) H.texts x.o False ∧ r.2.ok ∧ r.2.pub = modP R.pub x.o (writeO x.n x.first) ∧ r.2.texts = R.texts)) := by
  cases h0 : objAt x.o R.objs.length with
  | none => exact law_written_none hS hk hx h0
  | some n => exact law_written_some hS hk hx h0 (List.getElem?_eq_getElem (objAt_tag h0).2)

end Go.Proofs.Ytdfhbheipagnmaa
namespace Go.Proofs.Ytdfhbheipagnmaa
open Go.Sl

theorem law_step {W0 : World} {k : Nat} {H : HeapV} {F : HeapF} {R : RSt} (hS : Sim k H F R) (hk : k < 8000000) {x : OpP} (hx : OpOk W0 x) : SC Try.prog W0 27 #[.pointer (some ⟨F.p, 0, none⟩), R.val, .agg #[.int .i64 x.kind, .int .u64 x.o, .int .u64 x.p, .string x.key, .int .u64 x.d.1, .int .u64 x.d.2.1, .int .i64 x.d.2.2, .int .i64 x.n, .slice x.A x.w.length x.c]] (HeapV.ent H F ++ (RSt.ent R ++ [])) (Ret (fun r : HeapV × RSt => HeapV.ent r.1 F ++ (RSt.ent r.2 ++ [])) (fun v r => v = .tuple #[r.2.val, .bool true] ∧ Did (k + 1) H F R x r.1 r.2)) := by
 refine SC_body (fn := Try.f27) (n := 228) Try.func27 rfl (by kernel_rfl) (ρ := [(0, pt F.p 0), (1, .agg #[Gs.val R.s R.objs.length, Gs.val R.ts R.texts.length]), (2, .agg #[.int .i64 x.kind, .int .u64 x.o, .int .u64 x.p, .string x.key, .int .u64 x.d.1, .int .u64 x.d.2.1, .int .i64 x.d.2.2, .int .i64 x.n, .slice x.A x.w.length x.c])]) rfl ?_
 refine sr ?_
 refine L (nw 59 2 [Gs.val R.s R.objs.length, Gs.val R.ts R.texts.length] ?_)
 intro b1
 refine L (nw 61 9 [.int .i64 x.kind, .int .u64 x.o, .int .u64 x.p, .string x.key, .int .u64 x.d.1, .int .u64 x.d.2.1, .int .i64 x.d.2.2, .int .i64 x.n, .slice x.A x.w.length x.c] ?_)
 intro b2
 refine L (nw 59 2 [.slice none 0 0, .slice none 0 0] ?_)
 intro b3
 refine os 1 ?_
 refine nsr ?_
 refine os 1 ?_
 refine nsr ?_
 refine os 1 ?_
 refine nq ?_
 refine sr ?_
 refine os 1 ?_
 refine L (ld ?_)
 refine nt ?_
 refine SW_block ?_
 refine sr ?_
 refine os 2 ?_
 refine nt ?_
 refine cd (fun hc4 : (x.kind == 0) = true => ?_) (fun hc4 => ?_)
 ·skip
  simp only [beq_iff_eq, beq_eq_false_iff_ne, ne_eq] at hc4
  refine sr ?_
  refine os 2 ?_
  refine L (ld ?_)
  refine os 1 ?_
  refine L (ld ?_)
  refine L (cl (hq_Make hS.inv x.n x.p) ?_)
  rintro v1 H2 ⟨hv1, hi2, hpub2, htx2, hgd2⟩
  obtain rfl : v1 = .tuple #[.int .u64 ((makeV R.pub x.n x.p).1), .bool ((makeV R.pub x.n x.p).2)] := hv1.trans (by rw [hS.objs])
  refine os 5 ?_
  refine kp [11, 10, 23, 22, 9, 8, 7, 6, 5, 4, 0, 1, 2] ?_
  refine nsr ?_
  refine L (lds 2 ?_)
  refine os 1 ?_
  refine L (ld ?_)
  refine os 1 ?_
  refine L (ld ?_)
  refine L (cl (rq_Make hS.ok x.n hx.p) ?_)
  rintro _ R2 ⟨rfl, hR2, hp2, ht2⟩
  refine os 4 ?_
  refine kp [43, 42, 41, 11, 10, 23, 22, 9, 8, 7, 6, 5, 4, 0, 1, 2] ?_
  refine L (nw 59 2 [.slice none 0 0, .slice none 0 0] ?_)
  intro b5
  refine L (st [Gs.val R2.s R2.objs.length, Gs.val R2.ts R2.texts.length] ?_)
  refine os 2 ?_
  refine kp [14, 13, 12, 11, 10, 23, 22, 9, 8, 7, 6, 5, 4, 0, 1, 2] ?_
  refine nsr ?_
  refine L (lds 2 ?_)
  refine os 4 ?_
  refine pn 48 (show (((makeV R.pub x.n x.p).1) == ((makeV R.pub x.n x.p).1)) = true from (by rw [beq_self_eq_true])) ?_
  refine os 4 ?_
  refine kp [52, 44, 14, 13, 12, 11, 10, 23, 22, 9, 8, 7, 6, 5, 4, 0, 1, 2] ?_
  refine L (st [Gs.val R2.s R2.objs.length, Gs.val R2.ts R2.texts.length] ?_)
  refine os 1 ?_
  refine nt ?_
  refine SW_ret (r_in (r_then ?_))
  refine body_endC [.agg #[Gs.val R2.s R2.objs.length, Gs.val R2.ts R2.texts.length], .bool (((makeV R.pub x.n x.p).2) == ((makeV R.pub x.n x.p).2))] (fun _ => (.cons ⟨b3, 0, rfl, .inl ⟨[Gs.val R2.s R2.objs.length, Gs.val R2.ts R2.texts.length], by kernel_rfl, (cells_cons (Cell.own mem_z rfl) (cells_cons (Cell.own mem_z rfl) cells_nil)), rfl⟩⟩ (.cons rfl .nil))) ?_
  exact ⟨(H2, R2), ow, congrArg (fun b => Value.tuple #[_, .bool b]) (by rw [beq_self_eq_true]), Did.mk' hS hx.p (ds0 hc4) (Nat.le_succ k) hi2 (by rw [hpub2, hS.objs]) (by rw [htx2, hS.texts]) hR2 hp2 ht2 (gs_make hc4 (by rw [hgd2, hS.objs]))⟩
 ·skip
  simp only [beq_iff_eq, beq_eq_false_iff_ne, ne_eq] at hc4
  refine sr ?_
  refine os 2 ?_
  refine kp [53, 23, 22, 9, 8, 7, 6, 5, 4, 0, 1, 2] ?_
  refine nt ?_
  refine cd (fun hc7 : (x.kind == 1) = true => ?_) (fun hc7 => ?_)
  ·skip
   simp only [beq_iff_eq, beq_eq_false_iff_ne, ne_eq] at hc7
   refine sr ?_
   refine os 2 ?_
   refine L (ld ?_)
   refine os 1 ?_
   refine L (ld ?_)
   refine os 1 ?_
   refine L (lds 3 ?_)
   refine L (cl (hq_Put (by omega) hS.inv x.o x.key x.d) ?_)
   rintro _ H2 ⟨rfl, hstp⟩
   refine nsr ?_
   refine L (lds 2 ?_)
   refine os 1 ?_
   refine kp [64, 63, 53, 23, 22, 9, 8, 7, 6, 5, 4, 0, 1, 2] ?_
   refine L (ld ?_)
   refine os 1 ?_
   refine L (ld ?_)
   refine os 1 ?_
   refine L (lds 3 ?_)
   refine L (cl (rq_Put (k := k) (by omega) hS.ok hS.lok hx.o x.key x.d) ?_)
   rintro _ R2 ⟨rfl, hR2, hp2, ht2⟩
   refine L (st [Gs.val R2.s R2.objs.length, Gs.val R2.ts R2.texts.length] ?_)
   refine os 1 ?_
   refine kp [7, 53, 23, 22, 9, 8, 6, 5, 4, 0, 1, 2] ?_
   refine nt ?_
   refine SW_ret (r_in (r_then ?_))
   refine body_endC [.agg #[Gs.val R2.s R2.objs.length, Gs.val R2.ts R2.texts.length], .bool true] (fun _ => (.cons ⟨b3, 0, rfl, .inl ⟨[Gs.val R2.s R2.objs.length, Gs.val R2.ts R2.texts.length], by kernel_rfl, (cells_cons (Cell.own mem_z rfl) (cells_cons (Cell.own mem_z rfl) cells_nil)), rfl⟩⟩ (.cons rfl .nil))) ?_
   exact ⟨(H2, R2), ow, rfl, Did.mk' hS hx.p (ds1 hc7) (Nat.le_refl _) hstp.inv (by rw [hstp.pub, hS.objs]) (by rw [hstp.texts, hS.texts]) hR2 hp2 ht2 (by rw [ds1 hc7]; exact gs_touch (by omega) (by omega) (by omega) (by have q_ := hstp.gd; rw [hS.objs] at q_; exact q_) (by rintro (⟨z, q⟩ | ⟨z, q⟩ | ⟨z, q⟩) <;> first | exact q | (exfalso; omega)))⟩
  ·skip
   simp only [beq_iff_eq, beq_eq_false_iff_ne, ne_eq] at hc7
   refine sr ?_
   refine os 2 ?_
   refine nt ?_
   refine cd (fun hc8 : (x.kind == 2) = true => ?_) (fun hc8 => ?_)
   ·skip
    simp only [beq_iff_eq, beq_eq_false_iff_ne, ne_eq] at hc8
    refine sr ?_
    refine os 2 ?_
    refine L (ld ?_)
    refine os 1 ?_
    refine L (ld ?_)
    refine L (cl (hq_Drop (by omega) hS.inv x.o x.key) ?_)
    rintro v5 H2 ⟨hv5, hstp⟩
    obtain rfl : v5 = .bool (hasQ R.pub x.o x.key) := hv5.trans (by rw [hS.objs])
    refine os 1 ?_
    refine kp [8, 71, 53, 23, 22, 9, 7, 6, 5, 4, 0, 1, 2] ?_
    refine nr ?_
    refine L (lds 2 ?_)
    refine os 1 ?_
    refine L (ld ?_)
    refine os 1 ?_
    refine L (ld ?_)
    refine L (cl (rq_Drop (k := k) (by omega) hS.ok hS.lok hx.o x.key) ?_)
    rintro _ R2 ⟨rfl, hR2, hp2, ht2⟩
    refine os 3 ?_
    refine kp [87, 86, 8, 71, 53, 23, 22, 9, 7, 6, 5, 4, 0, 1, 2] ?_
    refine L (st [Gs.val R2.s R2.objs.length, Gs.val R2.ts R2.texts.length] ?_)
    refine os 1 ?_
    refine SL_nil (n_in (n_then ?_))
    refine sr ?_
    refine L (lds 2 ?_)
    refine os 3 ?_
    refine L (st [Gs.val R2.s R2.objs.length, Gs.val R2.ts R2.texts.length] ?_)
    refine os 1 ?_
    refine kp [7, 9, 8, 71, 53, 23, 22, 6, 5, 4, 0, 1, 2] ?_
    refine nt ?_
    refine SW_ret ?_
    refine body_endC [.agg #[Gs.val R2.s R2.objs.length, Gs.val R2.ts R2.texts.length], .bool ((hasQ R.pub x.o x.key) == (hasQ R.pub x.o x.key))] (fun _ => (.cons ⟨b3, 0, rfl, .inl ⟨[Gs.val R2.s R2.objs.length, Gs.val R2.ts R2.texts.length], by kernel_rfl, (cells_cons (Cell.own mem_z rfl) (cells_cons (Cell.own mem_z rfl) cells_nil)), rfl⟩⟩ (.cons rfl .nil))) ?_
    exact ⟨(H2, R2), ow, congrArg (fun b => Value.tuple #[_, .bool b]) (by rw [beq_self_eq_true]), Did.mk' hS hx.p (ds2 hc8) (Nat.le_succ k) hstp.inv (by rw [hstp.pub, hS.objs]) (by rw [hstp.texts, hS.texts]) hR2 hp2 ht2 (by rw [ds2 hc8]; exact gs_touch (by omega) (by omega) (by omega) (by have q_ := hstp.gd; rw [hS.objs] at q_; exact q_) (by rintro (⟨z, q⟩ | ⟨z, q⟩ | ⟨z, q⟩) <;> first | exact q | (exfalso; omega)))⟩
   ·skip
    simp only [beq_iff_eq, beq_eq_false_iff_ne, ne_eq] at hc8
    refine sr ?_
    refine os 2 ?_
    refine nt ?_
    refine cd (fun hc9 : (x.kind == 3) = true => ?_) (fun hc9 => ?_)
    ·skip
     simp only [beq_iff_eq, beq_eq_false_iff_ne, ne_eq] at hc9
     refine sr ?_
     refine os 2 ?_
     refine L (ld ?_)
     refine os 1 ?_
     refine L (ld ?_)
     refine L (cl (hq_SetProto (by omega) hS.inv x.o x.p (by rw [hS.objs]; exact hS.doc.ends _)) ?_)
     rintro _ H2 ⟨rfl, hstp⟩
     refine nr ?_
     refine L (lds 2 ?_)
     refine os 1 ?_
     refine kp [97, 96, 88, 71, 53, 23, 22, 9, 8, 7, 6, 5, 4, 0, 1, 2] ?_
     refine L (ld ?_)
     refine os 1 ?_
     refine L (ld ?_)
     refine L (cl (rq_Reproto (k := k) hS.ok hS.lok hx.o hx.p hS.doc.words) ?_)
     rintro _ R2 ⟨rfl, hR2, hp2, ht2⟩
     refine L (st [Gs.val R2.s R2.objs.length, Gs.val R2.ts R2.texts.length] ?_)
     refine SL_nil (n_in (n_then ?_))
     refine sr ?_
     refine L (lds 2 ?_)
     refine os 2 ?_
     refine oV (.bool true) ?_
     refine kp [227, 224, 88, 71, 53, 23, 22, 9, 8, 7, 6, 5, 4, 0, 1, 2] ?_
     refine L (st [Gs.val R2.s R2.objs.length, Gs.val R2.ts R2.texts.length] ?_)
     refine os 1 ?_
     refine nt ?_
     refine SW_ret ?_
     refine body_endC [.agg #[Gs.val R2.s R2.objs.length, Gs.val R2.ts R2.texts.length], .bool true] (fun _ => (.cons ⟨b3, 0, rfl, .inl ⟨[Gs.val R2.s R2.objs.length, Gs.val R2.ts R2.texts.length], by kernel_rfl, (cells_cons (Cell.own mem_z rfl) (cells_cons (Cell.own mem_z rfl) cells_nil)), rfl⟩⟩ (.cons rfl .nil))) ?_
     exact ⟨(H2, R2), ow, rfl, Did.mk' hS hx.p (ds3 hc9) (Nat.le_succ k) hstp.inv (by rw [hstp.pub, hS.objs]) (by rw [hstp.texts, hS.texts]) hR2 hp2 ht2 (by rw [ds3 hc9]; exact gs_touch (by omega) (by omega) (by omega) (by have q_ := hstp.gd; rw [hS.objs] at q_; exact q_) (by rintro (⟨z, q⟩ | ⟨z, q⟩ | ⟨z, q⟩) <;> first | exact q | (exfalso; omega)))⟩
    ·skip
     simp only [beq_iff_eq, beq_eq_false_iff_ne, ne_eq] at hc9
     refine sr ?_
     refine os 2 ?_
     refine kp [102, 88, 71, 53, 23, 22, 9, 8, 7, 6, 5, 4, 0, 1, 2] ?_
     refine nt ?_
     refine cd (fun hc10 : (x.kind == 4) = true => ?_) (fun hc10 => ?_)
     ·skip
      simp only [beq_iff_eq, beq_eq_false_iff_ne, ne_eq] at hc10
      refine SW_seq ?_
      refine SW_draw [(b2, 1, .int .u64 x.o), (b2, 7, .int .i64 x.n), (b2, 8, .slice x.A x.w.length x.c)] [0, 1, 2, 3, 4, 5, 6, 7] (by kernel_rfl) (rd_cons (Cell.own (mem_c mem_z) rfl) (rd_cons (Cell.own (mem_c mem_z) rfl) (rd_cons (Cell.own (mem_c mem_z) rfl) rd_nil))) ?_
      refine aS 0 ?_
      refine aF 1 ?_
      refine aL 2 ?_
      refine aF 3 ?_
      refine aL 4 ?_
      refine aF 5 ?_
      refine aL 6 ?_
      refine sa1 true 7 (h := cl (law_first hx.src hx.len) ?_)
      rintro _ _ rfl
      try simp only [List.cons_append, List.append_assoc, List.nil_append]
      refine ⟨fun hnd => (rd_cons (Cell.own (mem_c mem_z) rfl) (rd_cons (Cell.own (mem_c mem_z) rfl) (rd_cons (Cell.own (mem_c mem_z) rfl) rd_nil))), ?_⟩
      refine sa1 false 8 (h := cl (hq_SetElem (by omega) hS.inv x.o x.n (OpP.first x)) ?_)
      rintro v12 H2 ⟨hv12, hstp⟩
      obtain rfl : v12 = .bool (setQ R.pub x.o x.n) := hv12.trans (by rw [hS.objs])
      refine ⟨fun hnd => (by cases hnd), ?_⟩
      refine kpA [112, 102, 88, 71, 53, 23, 22, 9, 8, 7, 6, 5, 4, 0, 1, 2] ?_
      refine aS 9 ?_
      refine SA_done (by kernel_rfl) (n_then ?_)
      refine SW_draw [(b1, 0, Gs.val R.s R.objs.length), (b1, 1, Gs.val R.ts R.texts.length), (b2, 1, .int .u64 x.o), (b2, 7, .int .i64 x.n), (b2, 8, .slice x.A x.w.length x.c)] [0, 1, 2, 3, 4, 5, 6, 7] (by kernel_rfl) (rd_cons (Cell.own (mem_a (mem_c (mem_c mem_z))) rfl) (rd_cons (Cell.own (mem_a (mem_c (mem_c mem_z))) rfl) (rd_cons (Cell.own (mem_a (mem_c mem_z)) rfl) (rd_cons (Cell.own (mem_a (mem_c mem_z)) rfl) (rd_cons (Cell.own (mem_a (mem_c mem_z)) rfl) rd_nil))))) ?_
      refine tr 0 (.agg #[Gs.val R.s R.objs.length, Gs.val R.ts R.texts.length]) ?_ (hy := fun δ w hr => Rd_loads b1 0 [Gs.val R.s R.objs.length, Gs.val R.ts R.texts.length] rfl (by kernel_rfl) (rdm_cons List.mem_cons_self (rdm_cons (List.mem_cons_of_mem _ List.mem_cons_self) rdm_nil)) hr)
      refine aF 1 ?_
      refine aL 2 ?_
      refine aF 3 ?_
      refine aL 4 ?_
      refine aF 5 ?_
      refine aL 6 ?_
      refine sa1 true 7 (h := cl (law_first hx.src hx.len) ?_)
      rintro _ _ rfl
      try simp only [List.cons_append, List.append_assoc, List.nil_append]
      refine ⟨fun hnd => (rd_cons (Cell.own (mem_a (mem_c (mem_c mem_z))) rfl) (rd_cons (Cell.own (mem_a (mem_c (mem_c mem_z))) rfl) (rd_cons (Cell.own (mem_a (mem_c mem_z)) rfl) (rd_cons (Cell.own (mem_a (mem_c mem_z)) rfl) (rd_cons (Cell.own (mem_a (mem_c mem_z)) rfl) rd_nil))))), ?_⟩
      refine sa1 false 8 (h := cl (rq_SetElem (k := k) hS.ok hS.lok hx.o x.n (OpP.first x)) ?_)
      rintro _ R2 ⟨rfl, hR2, hp2, ht2⟩
      refine ⟨fun hnd => (by cases hnd), ?_⟩
      refine kpA [122, 8, 102, 88, 71, 53, 23, 22, 9, 7, 6, 5, 4, 0, 1, 2] ?_
      refine aS 9 ?_
      refine aS 10 ?_
      refine aS 11 ?_
      refine sa1 false 12 (h := st [Gs.val R2.s R2.objs.length, Gs.val R2.ts R2.texts.length] ?_)
      refine ⟨fun hnd => (by cases hnd), ?_⟩
      refine aS 13 ?_
      refine SA_done (by kernel_rfl) (n_in (n_then ?_))
      refine sr ?_
      refine L (lds 2 ?_)
      refine os 3 ?_
      refine kp [227, 224, 9, 8, 102, 88, 71, 53, 23, 22, 7, 6, 5, 4, 0, 1, 2] ?_
      refine L (st [Gs.val R2.s R2.objs.length, Gs.val R2.ts R2.texts.length] ?_)
      refine os 1 ?_
      refine nt ?_
      refine SW_ret ?_
      refine body_endC [.agg #[Gs.val R2.s R2.objs.length, Gs.val R2.ts R2.texts.length], .bool ((setQ R.pub x.o x.n) == (setQ R.pub x.o x.n))] (fun _ => (.cons ⟨b3, 0, rfl, .inl ⟨[Gs.val R2.s R2.objs.length, Gs.val R2.ts R2.texts.length], by kernel_rfl, (cells_cons (Cell.own mem_z rfl) (cells_cons (Cell.own mem_z rfl) cells_nil)), rfl⟩⟩ (.cons rfl .nil))) ?_
      exact ⟨(H2, R2), ow, congrArg (fun b => Value.tuple #[_, .bool b]) (by rw [beq_self_eq_true]), Did.mk' hS hx.p (ds4 hc10) (Nat.le_succ k) hstp.inv (by rw [hstp.pub, hS.objs]) (by rw [hstp.texts, hS.texts]) hR2 hp2 ht2 (by rw [ds4 hc10]; exact gs_touch (by omega) (by omega) (by omega) (by have q_ := hstp.gd; rw [hS.objs] at q_; exact q_) (by rintro (⟨z, q⟩ | ⟨z, q⟩ | ⟨z, q⟩) <;> first | exact q | (exfalso; omega)))⟩
     ·skip
      simp only [beq_iff_eq, beq_eq_false_iff_ne, ne_eq] at hc10
      refine sr ?_
      refine os 2 ?_
      refine nt ?_
      refine cd (fun hc11 : (x.kind == 5) = true => ?_) (fun hc11 => ?_)
      ·skip
       simp only [beq_iff_eq, beq_eq_false_iff_ne, ne_eq] at hc11
       refine sr ?_
       refine os 2 ?_
       refine L (ld ?_)
       refine os 1 ?_
       refine L (ld ?_)
       refine L (cl (hq_SetLen (by omega) hS.inv x.o x.n) ?_)
       rintro v17 H2 ⟨hv17, hstp⟩
       obtain rfl : v17 = .bool (lenQ R.pub x.o x.n) := hv17.trans (by rw [hS.objs])
       refine os 1 ?_
       refine kp [8, 125, 102, 88, 71, 53, 23, 22, 9, 7, 6, 5, 4, 0, 1, 2] ?_
       refine nr ?_
       refine L (lds 2 ?_)
       refine os 1 ?_
       refine L (ld ?_)
       refine os 1 ?_
       refine L (ld ?_)
       refine L (cl (rq_SetLen hS.ok hx.o x.n) ?_)
       rintro _ R2 ⟨rfl, hR2, hp2, ht2⟩
       refine os 3 ?_
       refine kp [141, 140, 8, 125, 102, 88, 71, 53, 23, 22, 9, 7, 6, 5, 4, 0, 1, 2] ?_
       refine L (st [Gs.val R2.s R2.objs.length, Gs.val R2.ts R2.texts.length] ?_)
       refine os 1 ?_
       refine SL_nil (n_in (n_then ?_))
       refine sr ?_
       refine L (lds 2 ?_)
       refine os 3 ?_
       refine L (st [Gs.val R2.s R2.objs.length, Gs.val R2.ts R2.texts.length] ?_)
       refine os 1 ?_
       refine kp [7, 9, 8, 125, 102, 88, 71, 53, 23, 22, 6, 5, 4, 0, 1, 2] ?_
       refine nt ?_
       refine SW_ret ?_
       refine body_endC [.agg #[Gs.val R2.s R2.objs.length, Gs.val R2.ts R2.texts.length], .bool ((lenQ R.pub x.o x.n) == (lenQ R.pub x.o x.n))] (fun _ => (.cons ⟨b3, 0, rfl, .inl ⟨[Gs.val R2.s R2.objs.length, Gs.val R2.ts R2.texts.length], by kernel_rfl, (cells_cons (Cell.own mem_z rfl) (cells_cons (Cell.own mem_z rfl) cells_nil)), rfl⟩⟩ (.cons rfl .nil))) ?_
       exact ⟨(H2, R2), ow, congrArg (fun b => Value.tuple #[_, .bool b]) (by rw [beq_self_eq_true]), Did.mk' hS hx.p (ds5 hc11) (Nat.le_succ k) hstp.inv (by rw [hstp.pub, hS.objs]) (by rw [hstp.texts, hS.texts]) hR2 hp2 ht2 (by rw [ds5 hc11]; exact gs_touch (by omega) (by omega) (by omega) (by have q_ := hstp.gd; rw [hS.objs] at q_; exact q_) (by rintro (⟨z, q⟩ | ⟨z, q⟩ | ⟨z, q⟩) <;> first | exact q | (exfalso; omega)))⟩
      ·skip
       simp only [beq_iff_eq, beq_eq_false_iff_ne, ne_eq] at hc11
       refine sr ?_
       refine os 2 ?_
       refine nt ?_
       refine cd (fun hc12 : (x.kind == 6) = true => ?_) (fun hc12 => ?_)
       ·skip
        simp only [beq_iff_eq, beq_eq_false_iff_ne, ne_eq] at hc12
        refine sr ?_
        refine os 2 ?_
        refine L (ld ?_)
        refine L (cl (hq_Close hS.inv x.o) ?_)
        rintro _ H2 ⟨rfl, hstp, hgd2⟩
        refine nr ?_
        refine L (lds 2 ?_)
        refine os 1 ?_
        refine kp [149, 148, 142, 125, 102, 88, 71, 53, 23, 22, 9, 8, 7, 6, 5, 4, 0, 1, 2] ?_
        refine L (ld ?_)
        refine L (cl (rq_Shut hS.ok hx.o) ?_)
        rintro _ R2 ⟨rfl, hR2, hp2, ht2⟩
        refine L (st [Gs.val R2.s R2.objs.length, Gs.val R2.ts R2.texts.length] ?_)
        refine SL_nil (n_in (n_then ?_))
        refine sr ?_
        refine L (lds 2 ?_)
        refine os 2 ?_
        refine oV (.bool true) ?_
        refine kp [227, 224, 142, 125, 102, 88, 71, 53, 23, 22, 9, 8, 7, 6, 5, 4, 0, 1, 2] ?_
        refine L (st [Gs.val R2.s R2.objs.length, Gs.val R2.ts R2.texts.length] ?_)
        refine os 1 ?_
        refine nt ?_
        refine SW_ret ?_
        refine body_endC [.agg #[Gs.val R2.s R2.objs.length, Gs.val R2.ts R2.texts.length], .bool true] (fun _ => (.cons ⟨b3, 0, rfl, .inl ⟨[Gs.val R2.s R2.objs.length, Gs.val R2.ts R2.texts.length], by kernel_rfl, (cells_cons (Cell.own mem_z rfl) (cells_cons (Cell.own mem_z rfl) cells_nil)), rfl⟩⟩ (.cons rfl .nil))) ?_
        exact ⟨(H2, R2), ow, rfl, Did.mk' hS hx.p (ds6 hc12) (Nat.le_succ k) hstp.inv (by rw [hstp.pub, hS.objs]) (by rw [hstp.texts, hS.texts]) hR2 hp2 ht2 (gs_same (by omega) (by omega) (by omega) (by omega) (by omega) hgd2)⟩
       ·skip
        simp only [beq_iff_eq, beq_eq_false_iff_ne, ne_eq] at hc12
        refine sr ?_
        refine os 2 ?_
        refine kp [152, 142, 125, 102, 88, 71, 53, 23, 22, 9, 8, 7, 6, 5, 4, 0, 1, 2] ?_
        refine nt ?_
        refine cd (fun hc13 : (x.kind == 7) = true => ?_) (fun hc13 => ?_)
        ·skip
         simp only [beq_iff_eq, beq_eq_false_iff_ne, ne_eq] at hc13
         refine sr ?_
         refine os 2 ?_
         refine L (ld ?_)
         refine os 1 ?_
         refine L (ld ?_)
         refine L (cl (hq_SetInner0 hS.inv x.o hx.src hx.len) ?_)
         rintro _ H2 ⟨rfl, hstp, hgd2⟩
         refine nr ?_
         refine L (lds 2 ?_)
         refine os 1 ?_
         refine kp [161, 160, 152, 142, 125, 102, 88, 71, 53, 23, 22, 9, 8, 7, 6, 5, 4, 0, 1, 2] ?_
         refine L (ld ?_)
         refine os 1 ?_
         refine L (ld ?_)
         refine L (cl (rq_SetInner0 hS.ok hx.o hx.src hx.len) ?_)
         rintro _ R2 ⟨rfl, hR2, hp2, ht2⟩
         refine L (st [Gs.val R2.s R2.objs.length, Gs.val R2.ts R2.texts.length] ?_)
         refine SL_nil (n_in (n_then ?_))
         refine sr ?_
         refine L (lds 2 ?_)
         refine os 2 ?_
         refine oV (.bool true) ?_
         refine kp [227, 224, 152, 142, 125, 102, 88, 71, 53, 23, 22, 9, 8, 7, 6, 5, 4, 0, 1, 2] ?_
         refine L (st [Gs.val R2.s R2.objs.length, Gs.val R2.ts R2.texts.length] ?_)
         refine os 1 ?_
         refine nt ?_
         refine SW_ret ?_
         refine body_endC [.agg #[Gs.val R2.s R2.objs.length, Gs.val R2.ts R2.texts.length], .bool true] (fun _ => (.cons ⟨b3, 0, rfl, .inl ⟨[Gs.val R2.s R2.objs.length, Gs.val R2.ts R2.texts.length], by kernel_rfl, (cells_cons (Cell.own mem_z rfl) (cells_cons (Cell.own mem_z rfl) cells_nil)), rfl⟩⟩ (.cons rfl .nil))) ?_
         exact ⟨(H2, R2), ow, rfl, Did.mk' hS hx.p (ds7 hc13) (Nat.le_succ k) hstp.inv (by rw [hstp.pub, hS.objs]) (by rw [hstp.texts, hS.texts]) hR2 hp2 ht2 (gs_same (by omega) (by omega) (by omega) (by omega) (by omega) hgd2)⟩
        ·skip
         simp only [beq_iff_eq, beq_eq_false_iff_ne, ne_eq] at hc13
         refine sr ?_
         refine os 2 ?_
         refine nt ?_
         refine cd (fun hc14 : (x.kind == 8) = true => ?_) (fun hc14 => ?_)
         ·skip
          simp only [beq_iff_eq, beq_eq_false_iff_ne, ne_eq] at hc14
          refine sr ?_
          refine os 2 ?_
          refine L (ld ?_)
          refine L (cl (hq_Text hS.inv x.key) ?_)
          rintro v23 H2 ⟨hv23, hi2, hpub2, htx2, hgd2⟩
          obtain rfl : v23 = .tuple #[.int .u64 ((textP R.texts x.key).2.1), .bool ((textP R.texts x.key).2.2)] := hv23.trans (by rw [hS.texts])
          refine os 5 ?_
          refine kp [16, 15, 166, 152, 142, 125, 102, 88, 71, 53, 23, 22, 9, 8, 7, 6, 5, 4, 0, 1, 2] ?_
          refine nsr ?_
          refine L (lds 2 ?_)
          refine os 1 ?_
          refine L (ld ?_)
          refine L (cl (rq_Text hS.ok (by rw [← hS.texts]; exact hS.inv.ok.texts) x.key) ?_)
          rintro _ R2 ⟨rfl, hR2, hp2, ht2⟩
          refine os 4 ?_
          refine L (nw 59 2 [.slice none 0 0, .slice none 0 0] ?_)
          intro b15
          refine L (st [Gs.val R2.s R2.objs.length, Gs.val R2.ts R2.texts.length] ?_)
          refine os 2 ?_
          refine kp [19, 18, 17, 16, 15, 166, 152, 142, 125, 102, 88, 71, 53, 23, 22, 9, 8, 7, 6, 5, 4, 0, 1, 2] ?_
          refine nsr ?_
          refine L (lds 2 ?_)
          refine os 4 ?_
          refine pn 187 (show (((textP R.texts x.key).2.1) == ((textP R.texts x.key).2.1)) = true from (by rw [beq_self_eq_true])) ?_
          refine os 4 ?_
          refine kp [191, 183, 19, 18, 17, 16, 15, 166, 152, 142, 125, 102, 88, 71, 53, 23, 22, 9, 8, 7, 6, 5, 4, 0, 1, 2] ?_
          refine L (st [Gs.val R2.s R2.objs.length, Gs.val R2.ts R2.texts.length] ?_)
          refine os 1 ?_
          refine nt ?_
          refine SW_ret (r_in (r_then ?_))
          refine body_endC [.agg #[Gs.val R2.s R2.objs.length, Gs.val R2.ts R2.texts.length], .bool (((textP R.texts x.key).2.2) == ((textP R.texts x.key).2.2))] (fun _ => (.cons ⟨b3, 0, rfl, .inl ⟨[Gs.val R2.s R2.objs.length, Gs.val R2.ts R2.texts.length], by kernel_rfl, (cells_cons (Cell.own mem_z rfl) (cells_cons (Cell.own mem_z rfl) cells_nil)), rfl⟩⟩ (.cons rfl .nil))) ?_
          exact ⟨(H2, R2), ow, congrArg (fun b => Value.tuple #[_, .bool b]) (by rw [beq_self_eq_true]), Did.mk' hS hx.p (ds8 hc14) (Nat.le_succ k) hi2 (by rw [hpub2, hS.objs]) (by rw [htx2, hS.texts]) hR2 hp2 ht2 (gs_same (by omega) (by omega) (by omega) (by omega) (by omega) hgd2)⟩
         ·skip
          simp only [beq_iff_eq, beq_eq_false_iff_ne, ne_eq] at hc14
          refine sr ?_
          refine os 2 ?_
          refine nt ?_
          refine cd (fun hc17 : (x.kind == 9) = true => ?_) (fun hc17 => ?_)
          ·skip
           simp only [beq_iff_eq, beq_eq_false_iff_ne, ne_eq] at hc17
           refine sr ?_
           refine os 2 ?_
           refine L (ld ?_)
           refine L (cl (hq_Guard (by omega) hS.inv x.p (by rw [hS.objs]; exact hS.doc.ends _)) ?_)
           rintro v25 H2 ⟨hv25, hi2, hpub2, htx2, hgd2⟩
           obtain rfl : v25 = .int .i64 ((guardF R.pub R.pub.length x.p H.gd).2) := hv25.trans (by rw [hS.objs])
           refine os 1 ?_
           refine kp [20, 192, 166, 152, 142, 125, 102, 88, 71, 53, 23, 22, 9, 8, 7, 6, 5, 4, 0, 1, 2] ?_
           refine nq ?_
           refine SW_draw [(b1, 0, Gs.val R.s R.objs.length), (b1, 1, Gs.val R.ts R.texts.length), (b1, 0, Gs.val R.s R.objs.length), (b1, 1, Gs.val R.ts R.texts.length), (b2, 2, .int .u64 x.p)] [0, 1, 2, 3, 4, 5, 6, 7, 8, 9, 10, 11, 12, 13, 14, 15, 16, 17] (by kernel_rfl) (rd_cons (Cell.own (mem_a (mem_c (mem_c mem_z))) rfl) (rd_cons (Cell.own (mem_a (mem_c (mem_c mem_z))) rfl) (rd_cons (Cell.own (mem_a (mem_c (mem_c mem_z))) rfl) (rd_cons (Cell.own (mem_a (mem_c (mem_c mem_z))) rfl) (rd_cons (Cell.own (mem_a (mem_c mem_z)) rfl) rd_nil))))) ?_
           refine tr 0 (.agg #[Gs.val R.s R.objs.length, Gs.val R.ts R.texts.length]) ?_ (hy := fun δ w hr => Rd_loads b1 0 [Gs.val R.s R.objs.length, Gs.val R.ts R.texts.length] rfl (by kernel_rfl) (rdm_cons List.mem_cons_self (rdm_cons (List.mem_cons_of_mem _ List.mem_cons_self) rdm_nil)) hr)
           refine aS 1 ?_
           refine aS 2 ?_
           refine tr 3 (.agg #[Gs.val R.s R.objs.length, Gs.val R.ts R.texts.length]) ?_ (hy := fun δ w hr => Rd_loads b1 0 [Gs.val R.s R.objs.length, Gs.val R.ts R.texts.length] rfl (by kernel_rfl) (rdm_cons List.mem_cons_self (rdm_cons (List.mem_cons_of_mem _ List.mem_cons_self) rdm_nil)) hr)
           refine aF 4 ?_
           refine aL 5 ?_
           refine sa1 true 6 (h := cl (rq_At (R := R) hx.p) ?_)
           rintro _ _ rfl
           try simp only [List.cons_append, List.append_assoc, List.nil_append]
           refine ⟨fun hnd => (rd_cons (Cell.own (mem_a (mem_c (mem_c mem_z))) rfl) (rd_cons (Cell.own (mem_a (mem_c (mem_c mem_z))) rfl) (rd_cons (Cell.own (mem_a (mem_c (mem_c mem_z))) rfl) (rd_cons (Cell.own (mem_a (mem_c (mem_c mem_z))) rfl) (rd_cons (Cell.own (mem_a (mem_c mem_z)) rfl) rd_nil))))), ?_⟩
           refine aS 7 ?_
           refine aS 8 ?_
           refine aS 9 ?_
           refine kpA [207, 198, 20, 192, 166, 152, 142, 125, 102, 88, 71, 53, 23, 22, 9, 8, 7, 6, 5, 4, 0, 1, 2] ?_
           refine tbA 207 (fun hg18 => ?_) (fun hg18 => ?_)
           ·skip
            replace hg18 : ((((guardF R.pub R.pub.length x.p H.gd).2) == (-1)) == (decide ((atW R.pub x.p) < 0))) = true := hg18
            refine aS 10 ?_
            refine aS 11 ?_
            refine aS 12 ?_
            refine tbA 210 (fun hg19 => ?_) (fun hg19 => ?_)
            ·skip
             replace hg19 : (((guardF R.pub R.pub.length x.p H.gd).2) == (-1)) = true := hg19
             simp only [beq_iff_eq, beq_eq_false_iff_ne, ne_eq] at hg19
             refine tn 13 ?_
             refine tn 14 ?_
             refine tn 15 ?_
             refine aS 16 ?_
             refine aS 17 ?_
             refine kpA [215, 198, 20, 192, 166, 152, 142, 125, 102, 88, 71, 53, 23, 22, 9, 8, 7, 6, 5, 4, 0, 1, 2] ?_
             refine sa1 false 18 (h := st [Gs.val R.s R.objs.length, Gs.val R.ts R.texts.length] ?_)
             refine ⟨fun hnd => (by cases hnd), ?_⟩
             refine aS 19 ?_
             refine SA_done (by kernel_rfl) (n_then ?_)
             refine SW_ret (r_in (r_then ?_))
             refine body_endC [.agg #[Gs.val R.s R.objs.length, Gs.val R.ts R.texts.length], .bool true] (fun _ => (.cons ⟨b3, 0, rfl, .inl ⟨[Gs.val R.s R.objs.length, Gs.val R.ts R.texts.length], by kernel_rfl, (cells_cons (Cell.own mem_z rfl) (cells_cons (Cell.own mem_z rfl) cells_nil)), rfl⟩⟩ (.cons rfl .nil))) ?_
             exact ⟨(H2, R), ow, rfl, Did.mk' hS hx.p (ds9 hc17) (Nat.le_refl _) hi2 (by rw [hpub2, hS.objs]) (by rw [htx2, hS.texts]) hS.ok rfl rfl (gs_guard hc17 (by rw [hgd2, hS.objs]))⟩
            ·skip
             replace hg19 : (((guardF R.pub R.pub.length x.p H.gd).2) == (-1)) = false := hg19
             simp only [beq_iff_eq, beq_eq_false_iff_ne, ne_eq] at hg19
             refine aS 13 ?_
             refine aS 14 ?_
             refine sa1 true 15 (h := cl (hq_Valid hi2 ((guardF R.pub R.pub.length x.p H.gd).2)) ?_)
             rintro _ _ rfl
             refine ⟨fun hnd => (rd_cons (Cell.own (mem_a (mem_c (mem_c mem_z))) rfl) (rd_cons (Cell.own (mem_a (mem_c (mem_c mem_z))) rfl) (rd_cons (Cell.own (mem_a (mem_c (mem_c mem_z))) rfl) (rd_cons (Cell.own (mem_a (mem_c (mem_c mem_z))) rfl) (rd_cons (Cell.own (mem_a (mem_c mem_z)) rfl) rd_nil))))), ?_⟩
             refine aS 16 ?_
             refine aS 17 ?_
             refine kpA [215, 198, 20, 192, 166, 152, 142, 125, 102, 88, 71, 53, 23, 22, 9, 8, 7, 6, 5, 4, 0, 1, 2] ?_
             refine sa1 false 18 (h := st [Gs.val R.s R.objs.length, Gs.val R.ts R.texts.length] ?_)
             refine ⟨fun hnd => (by cases hnd), ?_⟩
             refine aS 19 ?_
             refine SA_done (by kernel_rfl) (n_then ?_)
             refine SW_ret (r_in (r_then ?_))
             refine body_endC [.agg #[Gs.val R.s R.objs.length, Gs.val R.ts R.texts.length], .bool (valP H2.gd.2 ((guardF R.pub R.pub.length x.p H.gd).2))] (fun _ => (.cons ⟨b3, 0, rfl, .inl ⟨[Gs.val R.s R.objs.length, Gs.val R.ts R.texts.length], by kernel_rfl, (cells_cons (Cell.own mem_z rfl) (cells_cons (Cell.own mem_z rfl) cells_nil)), rfl⟩⟩ (.cons rfl .nil))) ?_
             exact ⟨(H2, R), ow, congrArg (fun b => Value.tuple #[_, .bool b]) (by rw [hgd2, hS.objs]; exact (hS.guard x.p).2 (by assumption)), Did.mk' hS hx.p (ds9 hc17) (Nat.le_refl _) hi2 (by rw [hpub2, hS.objs]) (by rw [htx2, hS.texts]) hS.ok rfl rfl (gs_guard hc17 (by rw [hgd2, hS.objs]))⟩
           ·skip
            replace hg18 : ((((guardF R.pub R.pub.length x.p H.gd).2) == (-1)) == (decide ((atW R.pub x.p) < 0))) = false := hg18
            rw [(hS.guard x.p).1] at hg18; cases hg18
          ·skip
           simp only [beq_iff_eq, beq_eq_false_iff_ne, ne_eq] at hc17
           refine sr ?_
           refine os 2 ?_
           refine kp [216, 192, 166, 152, 142, 125, 102, 88, 71, 53, 23, 22, 9, 8, 7, 6, 5, 4, 0, 1, 2] ?_
           refine nt ?_
           refine cd (fun hc20 : (x.kind == 10) = true => ?_) (fun hc20 => ?_)
           ·skip
            simp only [beq_iff_eq, beq_eq_false_iff_ne, ne_eq] at hc20
            refine sr ?_
            refine os 1 ?_
            refine L (lds 2 ?_)
            refine L (lds 9 ?_)
            refine L (cl (law_written hS hk hx) ?_)
            rintro _ ⟨H2, R2⟩ ⟨rfl, hstp, hR2, hp2, ht2⟩
            refine un ?_
            refine os 2 ?_
            refine L (st [Gs.val R2.s R2.objs.length, Gs.val R2.ts R2.texts.length] ?_)
            refine os 1 ?_
            refine kp [7, 216, 192, 166, 152, 142, 125, 102, 88, 71, 53, 23, 22, 9, 8, 6, 5, 4, 0, 1, 2] ?_
            refine nt ?_
            refine SW_ret (r_in (r_then ?_))
            refine body_endC [.agg #[Gs.val R2.s R2.objs.length, Gs.val R2.ts R2.texts.length], .bool true] (fun _ => (.cons ⟨b3, 0, rfl, .inl ⟨[Gs.val R2.s R2.objs.length, Gs.val R2.ts R2.texts.length], by kernel_rfl, (cells_cons (Cell.own mem_z rfl) (cells_cons (Cell.own mem_z rfl) cells_nil)), rfl⟩⟩ (.cons rfl .nil))) ?_
            exact ⟨(H2, R2), ow, rfl, Did.mk' hS hx.p (ds10 hc20) (Nat.le_succ k) hstp.inv (by rw [hstp.pub, hS.objs]) (by rw [hstp.texts, hS.texts]) hR2 hp2 ht2 (by rw [ds10 hc20]; exact gs_touch (by omega) (by omega) (by omega) (by have q_ := hstp.gd; rw [hS.objs] at q_; exact q_) (by rintro (⟨z, q⟩ | ⟨z, q⟩ | ⟨z, q⟩) <;> first | exact q | (exfalso; omega)))⟩
           ·skip
            simp only [beq_iff_eq, beq_eq_false_iff_ne, ne_eq] at hc20
            refine SW_skip (n_in (n_then ?_))
            refine sr ?_
            refine L (lds 2 ?_)
            refine os 2 ?_
            refine oV (.bool true) ?_
            refine L (st [Gs.val R.s R.objs.length, Gs.val R.ts R.texts.length] ?_)
            refine os 1 ?_
            refine kp [7, 216, 192, 166, 152, 142, 125, 102, 88, 71, 53, 23, 22, 9, 8, 6, 5, 4, 0, 1, 2] ?_
            refine nt ?_
            refine SW_ret ?_
            refine body_endC [.agg #[Gs.val R.s R.objs.length, Gs.val R.ts R.texts.length], .bool true] (fun _ => (.cons ⟨b3, 0, rfl, .inl ⟨[Gs.val R.s R.objs.length, Gs.val R.ts R.texts.length], by kernel_rfl, (cells_cons (Cell.own mem_z rfl) (cells_cons (Cell.own mem_z rfl) cells_nil)), rfl⟩⟩ (.cons rfl .nil))) ?_
            exact ⟨(H, R), ow, rfl, Did.mk' hS hx.p (dsE fun c c0 c1 => by omega) (Nat.le_succ k) hS.inv hS.objs hS.texts hS.ok rfl rfl (gs_same (by omega) (by omega) (by omega) (by omega) (by omega) rfl)⟩

end Go.Proofs.Ytdfhbheipagnmaa
namespace Go.Proofs.Ytdfhbheipagnmaa
open Go.Sl
variable {k : Nat} {H H2 : HeapV} {F : HeapF} {R R2 : RSt} {n : Nat} {W0 : World} {x : OpP}
abbrev RSt.none : RSt := ⟨.nil, [], .nil, []⟩
theorem DOk.nil : DOk [] := ⟨fun o ho => (by cases ho), fun o ho => (by cases ho), fun o ho => (by cases ho), fun p => ⟨0, by
  show objAt p 0 = _
  unfold objAt
  cases tagOf p 65530 with
  | none => rfl
  | some n => simp only []; rw [if_neg (by omega)]⟩, fun o ho => (by cases ho)⟩
theorem Sim.new (hI : HInv 0 H F) (hp : H.pub F = []) (ht : H.texts = []) (ho : H.objs = []) (hc : H.cl = []) : Sim 0 H F RSt.none := by
  refine ⟨hI, ⟨⟨rfl, rfl⟩, fun y hy => (by cases hy), ⟨rfl, rfl⟩⟩, hp, ht, DOk.nil, ?_⟩
  have : H.gd = ([], []) := by unfold HeapV.gd; rw [ho, hc]; rfl
  rw [this]
  exact GInv.nil
def hitsB (l l' : List ObjS) (p : Int) (x : OpP) : Bool := onQ l p x.o && (decide (x.kind = 1) || (decide (x.kind = 2) && hasQ l x.o x.key) || (decide (x.kind = 3) && decide (protoW l' x.o ≠ protoW l x.o)))
def quietB (l : List ObjS) (p : Int) (x : OpP) : Bool := decide (x.kind = 0) || decide (x.kind = 6) || decide (x.kind = 7) || decide (x.kind = 8) || decide (x.kind = 9) || !onQ l p x.o
theorem guard_go {p c : Int} (hS : Sim k H F R) (hd : Did (k + 1) H F R x H2 R2) (hH : Held R.pub H.gd p c) :
    Held R2.pub H2.gd p c ∧ (hitsB R.pub R2.pub p x = true → valP H2.gd.2 c = false) ∧ (quietB R.pub p x = true → valP H2.gd.2 c = valP H.gd.2 c) := by
  have e : (docStep R.D x).1 = R2.pub := congrArg Prod.fst hd.doc.symm
  obtain ⟨h1, h2, h3⟩ := GInv.held (D := R.D) hS.gds hS.doc hd.gd hH
  rw [e] at h1 h2
  refine ⟨h1, fun q => ?_, fun q => ?_⟩
  · unfold hitsB at q
    simp only [Bool.and_eq_true, Bool.or_eq_true, decide_eq_true_eq] at q
    cases hv : valP H2.gd.2 c with
    | false => rfl
    | true =>
      refine absurd (valP_iff.1 hv) (h2 q.1 ?_)
      rcases q.2 with (z | z) | z
      · exact .inl z
      · exact .inr (.inl z)
      · exact .inr (.inr z)
  · unfold quietB at q
    simp only [Bool.or_eq_true, decide_eq_true_eq, Bool.not_eq_true'] at q
    have hq : x.kind = 0 ∨ x.kind = 6 ∨ x.kind = 7 ∨ x.kind = 8 ∨ x.kind = 9 ∨ onQ R.pub p x.o = false := by
      rcases q with ((((z | z) | z) | z) | z) | z
      · exact .inl z
      · exact .inr (.inl z)
      · exact .inr (.inr (.inl z))
      · exact .inr (.inr (.inr (.inl z)))
      · exact .inr (.inr (.inr (.inr (.inl z))))
      · exact .inr (.inr (.inr (.inr (.inr z))))
    rw [Bool.eq_iff_iff, valP_iff, valP_iff]
    exact h3 hq
/-- A guard that was made. -/
theorem guard_new {p : Int} (hS : Sim k H F R) (hi : HInv (k + 1) H2 F) (hp : H2.pub F = H.pub F) (ht : H2.texts = H.texts) (hg : H2.gd = (guardF (H.pub F) (H.pub F).length p H.gd).1) :
    Sim (k + 1) H2 F R ∧ ((guardF R.pub R.pub.length p H.gd).2 = -1 → atW R.pub p < 0) ∧ ((guardF R.pub R.pub.length p H.gd).2 ≠ -1 → Held R.pub H2.gd p (guardF R.pub R.pub.length p H.gd).2) := by
  rw [hS.objs] at hp hg
  obtain ⟨h1, h2, h3⟩ := hS.gds.new hS.doc p
  rw [← hg] at h1 h3
  exact ⟨⟨hi, hS.ok, hp, ht.trans hS.texts, hS.doc, h1⟩, fun q => atW_neg.2 (h2.1 q), fun q => (h3 fun z => q (h2.2 z)).1⟩
end Go.Proofs.Ytdfhbheipagnmaa
namespace Go.Proofs.Ytdfhbheipagnmaa
open Go.Sl
variable {k : Nat} {H : HeapV} {F : HeapF} {R : RSt} {t : TreeP} {x z : ObjL}
theorem Sim.len (hS : Sim k H F R) : H.objs.length = R.objs.length := by rw [← HeapV.pub_len H F, hS.objs, RSt.pub_len]
theorem Sim.at (hS : Sim k H F R) {n : Nat} {y : RObj} (hx : H.objs[n]? = some x) (hy : R.objs[n]? = some y) : y.pub = pubO (H.V.abs F.T) x := by
  have h1 := HeapV.pub_at F hx
  rw [hS.objs, RSt.pub_at hy] at h1
  exact Option.some.inj h1
theorem OInv.keys (h : OInv t x) (h0 : ¬ x.shape < 0) : ∃ s, shapeAt t x.shape = some s ∧ s.proto = rootKey x.proto x.kind ∧ s.l.map (·.2) = x.vals.map (·.2.2) ∧ keysOf t x = s.l.map (·.1) := by
  obtain ⟨s, h1, h2, h3⟩ := h.fast (by omega)
  refine ⟨s, h1, h2, h3, ?_⟩
  unfold keysOf
  rw [if_neg h0]
  unfold keysP
  rw [h1]
theorem sh_find (h : OInv t x) (h0 : ¬ x.shape < 0) {i : Nat} {key : ByteArray} {d : DescP} (hk : (keysOf t x)[i]? = some key) (hd : x.vals[i]? = some d) : findP t x.shape key = ((i : Int), d.2.2, true) := by
  obtain ⟨s, h1, h2, h3, h4⟩ := h.keys h0
  have hn := h.nodup
  rw [h4] at hk hn
  have e := ixS_at hn hk
  rw [← keyIx_eq] at e
  have hp : (s.l.map (·.2))[i]? = some d.2.2 := by rw [h3, List.getElem?_map, hd]; rfl
  rw [List.getElem?_map] at hp
  obtain ⟨p, hp1, hp2⟩ := Option.map_eq_some_iff.1 hp
  simp only [findP, h1]
  rw [if_neg (by omega), e, show ((i : Int)).toNat = i by omega, hp1]
  simp only [hp2]
theorem sh_same (h : OInv t x) (g : OInv t z) (h0 : ¬ x.shape < 0) (e : x.shape = z.shape) : keysOf t x = keysOf t z ∧ x.vals.map (·.2.2) = z.vals.map (·.2.2) ∧ rootKey x.proto x.kind = rootKey z.proto z.kind := by
  obtain ⟨s, h1, h2, h3, h4⟩ := h.keys h0
  obtain ⟨s', g1, g2, g3, g4⟩ := g.keys (by omega)
  rw [e, g1] at h1
  obtain rfl := Option.some.inj h1
  exact ⟨h4.trans g4.symm, h3.symm.trans g3, h2.symm.trans g2⟩
theorem rootKey_eq {p k : Int} (hp : 16140901064495857664 ≤ p ∧ p < 18446744073709551616) (hk : 0 ≤ k ∧ k ≤ 6) : rootKey p k = (p - 16140901064495857664) * 8 + k := by
  obtain ⟨a, ha⟩ := Int.eq_ofNat_of_zero_le (show 0 ≤ p - 16140901064495857664 by omega)
  obtain ⟨b, rfl⟩ := Int.eq_ofNat_of_zero_le hk.1
  obtain rfl : p = (a : Int) + 16140901064495857664 := by omega
  unfold rootKey
  have h1 : (BitVec.ofInt 64 (IntKind.wrap .u64 (((a : Int) + 16140901064495857664) * 8))).toNat = 2 ^ 3 * a := by
    rw [BitVec.toNat_ofInt]; simp only [IntKind.wrap, IntKind.bits, IntKind.signed]; simp; omega
  have h2 : (BitVec.ofInt 64 (IntKind.wrap .u64 (b : Int))).toNat = b := by
    rw [BitVec.toNat_ofInt]; simp only [IntKind.wrap, IntKind.bits, IntKind.signed]; simp; omega
  rw [BitVec.toNat_or, h1, h2, ← Nat.two_pow_add_eq_or_of_lt (by omega)]
  simp only [IntKind.wrap, IntKind.bits, IntKind.signed]
  simp
  omega
theorem proto_big {l : List ObjS} (hP : ProtosIn l) {o : ObjS} (ho : o ∈ l) (hl : l.length ≤ 65536) : 16140901064495857664 ≤ o.proto ∧ o.proto < 18446744073709551616 := by
  rcases hP o ho with h | h
  · rw [h]; decide
  · cases hn : objAt o.proto l.length with
    | none => exact absurd hn h
    | some n =>
      have h1 := (objAt_tag hn).1
      unfold tagOf at h1
      split at h1
      · omega
      · cases h1
theorem Sim.same (hS : Sim k H F R) {n m : Nat} {y u : RObj} (hx : H.objs[n]? = some x) (hz : H.objs[m]? = some z) (hy : R.objs[n]? = some y) (hu : R.objs[m]? = some u) (h0 : ¬ x.shape < 0) (e : x.shape = z.shape) :
    y.kind = u.kind ∧ y.proto = u.proto ∧ y.names = u.names ∧ y.descs.map (·.2.2) = u.descs.map (·.2.2) := by
  have e1 := hS.at hx hy
  have e2 := hS.at hz hu
  obtain ⟨h1, h2, h3⟩ := sh_same (hS.inv.obj hx) (hS.inv.obj hz) h0 e
  have m1 := List.mem_of_getElem? (RSt.pub_at hy)
  have m2 := List.mem_of_getElem? (RSt.pub_at hu)
  have hl := hS.lok.len
  have k1 := hS.doc.kinds _ m1
  have k2 := hS.doc.kinds _ m2
  have p1 := proto_big hS.doc.protos m1 hl
  have p2 := proto_big hS.doc.protos m2 hl
  rw [e1] at k1 p1
  rw [e2] at k2 p2
  simp only [pubO] at k1 k2 p1 p2
  rw [rootKey_eq p1 k1, rootKey_eq p2 k2] at h3
  have q1 : y.kind = x.kind := congrArg ObjS.kind e1
  have q2 : u.kind = z.kind := congrArg ObjS.kind e2
  have r1 : y.proto = x.proto := congrArg ObjS.proto e1
  have r2 : u.proto = z.proto := congrArg ObjS.proto e2
  have n1 : y.names = keysOf (H.V.abs F.T) x := congrArg ObjS.names e1
  have n2 : u.names = keysOf (H.V.abs F.T) z := congrArg ObjS.names e2
  have d1 : y.descs = x.vals := congrArg ObjS.descs e1
  have d2 : u.descs = z.vals := congrArg ObjS.descs e2
  exact ⟨by rw [q1, q2]; omega, by rw [r1, r2]; omega, by rw [n1, n2, h1], by rw [d1, d2, h2]⟩
theorem Sim.find (hS : Sim k H F R) {n i : Nat} {y : RObj} {key : ByteArray} {d : DescP} (hx : H.objs[n]? = some x) (hy : R.objs[n]? = some y) (h0 : ¬ x.shape < 0) (hk : y.names[i]? = some key) (hd : y.descs[i]? = some d) :
    findP (H.V.abs F.T) x.shape key = ((i : Int), d.2.2, true) := by
  have e1 := hS.at hx hy
  rw [show y.names = keysOf (H.V.abs F.T) x from congrArg ObjS.names e1] at hk
  rw [show y.descs = x.vals from congrArg ObjS.descs e1] at hd
  exact sh_find (hS.inv.obj hx) h0 hk hd
theorem flags_at {a b : List DescP} (h : a.map (·.2.2) = b.map (·.2.2)) {i : Nat} {d e : DescP} (hd : a[i]? = some d) (he : b[i]? = some e) : d.2.2 = e.2.2 := by
  have := congrArg (fun l => l[i]?) h
  simp only [List.getElem?_map, hd, he, Option.map_some, Option.some.injEq] at this
  exact this
theorem names_at {a b : List ByteArray} (h : a = b) {i : Nat} {d e : ByteArray} (hd : a[i]? = some d) (he : b[i]? = some e) : d = e := by
  subst h; exact Option.some.inj (hd.symm.trans he)
theorem objA' {n len : Nat} (h : n < len) (hl : len ≤ 65536) : objAt (18445055223849287680 + (n : Int)) len = some n := by
  rw [show (18445055223849287680 : Int) = 65530 * 281474976710656 from by decide]; exact objAt_mk h hl
end Go.Proofs.Ytdfhbheipagnmaa
namespace Go.Proofs.Ytdfhbheipagnmaa
open Go.Sl

theorem ref_Int {W0 : World} {n : Int} : SC Try.prog W0 18 #[.int .i32 n] [] (Ret (fun _ : Unit => []) (fun v _ => v = .int .u64 (refInt n))) := by
 refine SC_body (fn := Try.f18) (n := 7) Try.func18 rfl (by kernel_rfl) (ρ := [(0, .int .i32 n)]) rfl ?_
 refine sr ?_
 refine os 1 ?_
 refine nsr ?_
 refine os 1 ?_
 refine oV (.int .u32 (IntKind.wrap .u32 (n))) ?_
 refine oV (.int .u64 (IntKind.wrap .u64 (IntKind.wrap .u32 (n)))) ?_
 refine oV (.int .u64 (IntKind.wrap .u64 (18444773748872577024 + (IntKind.wrap .u64 (IntKind.wrap .u32 (n)))))) ?_
 refine os 1 ?_
 refine kp [2, 0] ?_
 refine nt ?_
 refine SW_ret ?_
 refine body_end (.int .u64 (IntKind.wrap .u64 (18444773748872577024 + (IntKind.wrap .u64 (IntKind.wrap .u32 (n)))))) (fun _ => rfl) ?_
 exact ⟨(), Own.of_perm (List.Perm.refl _), rfl⟩

theorem law_alive {W0 : World}  : SC Try.prog W0 10 #[] [] (Ret (fun _ : Unit => []) (fun v _ => v = .bool true)) := by
 refine SC_body (fn := Try.f10) (n := 72) Try.func10 rfl (by kernel_rfl) (ρ := []) rfl ?_
 refine sr ?_
 refine os 1 ?_
 refine nsr ?_
 refine L (cl (al_New) ?_)
 rintro _ ⟨H0, F⟩ ⟨rfl, hA0⟩
 refine os 1 ?_
 refine nq ?_
 refine sr ?_
 refine os 1 ?_
 refine oV (.bool false) ?_
 refine nt ?_
 refine cf ?_
 refine SW_skip (n_then ?_)
 refine sr ?_
 refine os 1 ?_
 refine L (cl (al_Make hA0) ?_)
 rintro _ H1 ⟨rfl, hA1⟩
 refine os 5 ?_
 refine kp [3, 2, 13, 1, 0] ?_
 refine nsr ?_
 refine os 2 ?_
 refine L (cl (ref_Int (n := 7)) ?_)
 rintro v3 _ hv3
 obtain rfl : v3 = .int .u64 18444773748872577031 := hv3.trans (congrArg (Value.int .u64) refInt7)
 refine un ?_
 refine oV (.agg #[.int .u64 18444773748872577031, .int .u64 0, .int .i64 7]) ?_
 refine L (cl (al_Put hA1) ?_)
 rintro _ H2 ⟨rfl, hA2⟩
 refine nsr ?_
 refine os 2 ?_
 refine L (cl (al_Get hA2) ?_)
 rintro _ _ rfl
 refine os 3 ?_
 refine kp [29, 28, 3, 2, 13, 1, 0] ?_
 refine L (nw 42 3 [.int .u64 0, .int .u64 0, .int .i64 0] ?_)
 intro b1
 refine L (st [.int .u64 18444773748872577031, .int .u64 0, .int .i64 7] ?_)
 refine os 1 ?_
 refine nsr ?_
 refine os 2 ?_
 refine L (cl (al_Shape hA2) ?_)
 rintro _ _ rfl
 refine os 5 ?_
 refine kp [7, 6, 5, 4, 3, 2, 13, 1, 0] ?_
 refine nsr ?_
 refine os 2 ?_
 refine L (cl (al_Find hA2) ?_)
 rintro _ _ rfl
 refine os 7 ?_
 refine kp [10, 9, 8, 7, 6, 5, 4, 3, 2, 13, 1, 0] ?_
 refine nq ?_
 refine SW_draw [(b1, 0, .int .u64 18444773748872577031)] [0, 1, 2, 3, 4, 5, 7] (by kernel_rfl) (rd_cons (Cell.own (mem_a mem_z) rfl) rd_nil) ?_
 refine aS 0 ?_
 refine aS 1 ?_
 refine aS 2 ?_
 refine aS 3 ?_
 refine aS 4 ?_
 refine aF 5 ?_
 refine aL 6 ?_
 refine sa1 true 7 (h := cl (ref_Int (n := 7)) ?_)
 rintro v10 _ hv10
 obtain rfl : v10 = .int .u64 18444773748872577031 := hv10.trans (congrArg (Value.int .u64) refInt7)
 try simp only [List.cons_append, List.append_assoc, List.nil_append]
 refine ⟨fun hnd => (rd_cons (Cell.own (mem_a mem_z) rfl) rd_nil), ?_⟩
 refine tk 8 (.bool true) ?_
 refine aS 9 ?_
 refine kpA [52, 10, 9, 8, 7, 6, 5, 4, 3, 2, 13, 1, 0] ?_
 refine aS 10 ?_
 refine aS 11 ?_
 refine aS 12 ?_
 refine aS 13 ?_
 refine aS 14 ?_
 refine aS 15 ?_
 refine aS 16 ?_
 refine aS 17 ?_
 refine tk 18 (.bool true) ?_
 refine kpA [61, 59, 10, 9, 8, 7, 6, 5, 4, 3, 2, 13, 1, 0] ?_
 refine aS 19 ?_
 refine aS 20 ?_
 refine aS 21 ?_
 refine tk 22 (.bool true) ?_
 refine aS 23 ?_
 refine aS 24 ?_
 refine aS 25 ?_
 refine sa1 false 26 (h := cl (al_Objects hA2) ?_)
 rintro _ _ rfl
 refine ⟨fun hnd => (by cases hnd), ?_⟩
 refine kpA [69, 67, 10, 9, 8, 7, 6, 5, 4, 3, 2, 13, 1, 0] ?_
 refine tk 27 (.bool true) ?_
 refine aS 28 ?_
 refine aS 29 ?_
 refine SA_done (by kernel_rfl) (n_then ?_)
 refine SW_ret ?_
 refine body_end (.bool true) (fun _ => rfl) ?_
 exact ⟨(), ⟨_, List.Perm.refl _⟩, rfl⟩

end Go.Proofs.Ytdfhbheipagnmaa
namespace Go.Proofs.Ytdfhbheipagnmaa
open Go.Sl

theorem law_HeapShapes {W0 : World} (most : Int) {A : Option Addr} {c : Nat} {l : List OpP} (hls : ∀ σ, Src W0 σ A (l.flatMap OpP.cells)) (hl : l.length ≤ 1048576) (hops : ∀ x ∈ l, OpOk W0 x) : SC Try.prog W0 7 #[.int .i64 most, .slice A l.length c] [] (Ret (fun _ : Unit => []) (fun v _ => v = .bool true)) := by
 refine SC_body (fn := Try.f7) (n := 191) Try.func7 rfl (by kernel_rfl) (ρ := [(0, .int .i64 most), (1, .slice A l.length c)]) rfl ?_
 refine sr ?_
 refine os 1 ?_
 refine nsr ?_
 refine os 1 ?_
 refine L (cl (hp_New most) ?_)
 rintro _ ⟨H0, F⟩ ⟨rfl, hI0, hp0, ht0, htr0, ho0, hcl0⟩
 simp only [] at hp0 ht0 htr0 ho0 hcl0 hI0
 have hS0 := Sim.new hI0 hp0 ht0 ho0 hcl0
 refine os 1 ?_
 refine nsr ?_
 refine oV (.agg #[.slice none 0 0, .slice none 0 0]) ?_
 refine L (nw 59 2 [.slice none 0 0, .slice none 0 0] ?_)
 intro b1
 refine L (st [.slice none 0 0, .slice none 0 0] ?_)
 refine nq ?_
 refine SW_seq ?_
 refine SW_perm _ (perm_cc perm_cz) ?_
 refine SW_sig ((HeapV.ent H0 F) ++ ((RSt.ent RSt.none) ++ ((b1, .cells 59 2 [Gs.val RSt.none.s RSt.none.objs.length, Gs.val RSt.none.ts RSt.none.texts.length]) :: ([])))) rfl ?_
 refine SW_region ?_
 refine os 1 ?_
 refine oV (.bool false) ?_
 refine os 1 ?_
 refine L (cl (law_alive) ?_)
 rintro _ _ rfl
 refine un ?_
 refine oV (.bool false) ?_
 refine os 1 ?_
 refine kp [32, 6, 5, 4, 0, 1] ?_
 refine nt ?_
 refine cf ?_
 refine SW_skip (n_then ?_)
 refine SW_seq ?_
 refine sr ?_
 refine os 3 ?_
 refine nt ?_
 refine SW_block ?_
 refine SW_loop (α := Nat × HeapV × RSt) (fun z_ ρ_ σ_ => Fits ρ_ σ_ [(0, .int .i64 most), (1, .slice A l.length c), (4, .bool false), (5, pt F.p 0), (6, pt b1 0), (33, .slice A l.length c), (34, .int .i64 (l.length : Int)), (35, .int .i64 (z_.1 : Int))] ((HeapV.ent z_.2.1 F) ++ ((RSt.ent z_.2.2) ++ ((b1, .cells 59 2 [Gs.val z_.2.2.s z_.2.2.objs.length, Gs.val z_.2.2.ts z_.2.2.texts.length]) :: ([])))) ∧ z_.1 ≤ l.length ∧ Sim (z_.1) z_.2.1 F z_.2.2) (fun z_ => l.length - z_.1) (0, H0, RSt.none) ⟨⟨fun _ => rfl, ow⟩, Nat.zero_le _, hS0⟩ ?_
 rintro ⟨i, H, R⟩ ρ_ σ_ ⟨hfit, hi0, hi1⟩
 refine SW_fits hfit ?_
 clear hfit
 simp only [] at hi0 hi1 ⊢
 refine sr ?_
 refine os 1 ?_
 refine nq ?_
 refine cdp (fun hc2 : (i : Int) < (l.length : Int) => ?_) (fun hc2 => ?_)
 ·skip
  refine SW_skip (n_then ?_)
  refine SW_seq ?_
  refine SW_block ?_
  refine SW_seq ?_
  obtain ⟨b0_, o0_, rfl, hqb0_⟩ := (hls []).resolve_left (by rw [flat_len OpP.len]; omega)
  refine SW_region ?_
  refine L (O_indexAddr' (i : Int) (o0_ + i * 9) b0_ o0_ l.length c .i64 9 Try.underlying56 (by kernel_rfl) (fun _ => rfl) (fun _ => rfl) (by omega) (by omega) (by omega) rfl ?_)
  obtain ⟨e1, he1⟩ : ∃ y_, l[i]? = some y_ := ⟨_, List.getElem?_eq_getElem (by omega)⟩
  refine L (ldr [.int .i64 e1.kind, .int .u64 e1.o, .int .u64 e1.p, .string e1.key, .int .u64 e1.d.1, .int .u64 e1.d.2.1, .int .i64 e1.d.2.2, .int .i64 e1.n, .slice e1.A e1.w.length e1.c] (cells_cons (Cell.mono (hqb0_ _ _ (flat_cell OpP.len he1 (j := 0) (by decide) rfl)) (fun e he => absurd he List.not_mem_nil)) (cells_cons (Cell.mono (hqb0_ _ _ (flat_cell OpP.len he1 (j := 1) (by decide) rfl)) (fun e he => absurd he List.not_mem_nil)) (cells_cons (Cell.mono (hqb0_ _ _ (flat_cell OpP.len he1 (j := 2) (by decide) rfl)) (fun e he => absurd he List.not_mem_nil)) (cells_cons (Cell.mono (hqb0_ _ _ (flat_cell OpP.len he1 (j := 3) (by decide) rfl)) (fun e he => absurd he List.not_mem_nil)) (cells_cons (Cell.mono (hqb0_ _ _ (flat_cell OpP.len he1 (j := 4) (by decide) rfl)) (fun e he => absurd he List.not_mem_nil)) (cells_cons (Cell.mono (hqb0_ _ _ (flat_cell OpP.len he1 (j := 5) (by decide) rfl)) (fun e he => absurd he List.not_mem_nil)) (cells_cons (Cell.mono (hqb0_ _ _ (flat_cell OpP.len he1 (j := 6) (by decide) rfl)) (fun e he => absurd he List.not_mem_nil)) (cells_cons (Cell.mono (hqb0_ _ _ (flat_cell OpP.len he1 (j := 7) (by decide) rfl)) (fun e he => absurd he List.not_mem_nil)) (cells_cons (Cell.mono (hqb0_ _ _ (flat_cell OpP.len he1 (j := 8) (by decide) rfl)) (fun e he => absurd he List.not_mem_nil)) cells_nil))))))))) ?_)
  refine L (nw 61 9 [.int .i64 0, .int .u64 0, .int .u64 0, .string ByteArray.empty, .int .u64 0, .int .u64 0, .int .i64 0, .int .i64 0, .slice none 0 0] ?_)
  intro b3
  refine L (st [.int .i64 e1.kind, .int .u64 e1.o, .int .u64 e1.p, .string e1.key, .int .u64 e1.d.1, .int .u64 e1.d.2.1, .int .i64 e1.d.2.2, .int .i64 e1.n, .slice e1.A e1.w.length e1.c] ?_)
  refine nr ?_
  refine os 1 ?_
  refine L (lds 2 ?_)
  refine L (lds 9 ?_)
  have hop_ := hops _ (List.mem_of_getElem? he1)
  refine L (cl (law_step hi1 (by omega) hop_) ?_)
  rintro _ ⟨H4, R4⟩ ⟨rfl, hd4⟩
  refine un ?_
  simp only [] at hd4
  refine os 3 ?_
  refine kp [44, 8, 36, 0, 1, 4, 5, 6, 33, 34, 35] ?_
  refine L (st [Gs.val R4.s R4.objs.length, Gs.val R4.ts R4.texts.length] ?_)
  refine SL_nil (n_in (n_then ?_))
  refine SW_region ?_
  refine os 2 ?_
  refine nt ?_
  exact ⟨(i + 1, H4, R4), by simp only []; omega, ⟨fun _ => rfl, ow⟩, by simp only []; omega, (by simp only []; exact hd4.sim)⟩
 ·skip
  refine SW_exit (x_then (x_then (x_in (n_then ?_))))
  refine SW_seq ?_
  refine SW_seq ?_
  rw [RSt.eq]
  have hR := hi1.ok
  have hlen := hi1.len
  have hcap : R.objs.length ≤ 65536 := by rw [← RSt.pub_len]; exact hi1.lok.len
  refine SW_region ?_
  refine os 1 ?_
  refine L (ld ?_)
  refine os 2 ?_
  refine nt ?_
  refine SW_block ?_
  refine SW_loop (α := Nat) (fun z_ ρ_ σ_ => Fits ρ_ σ_ [(4, .bool false), (5, pt F.p 0), (6, pt b1 0), (49, .int .i64 (R.objs.length : Int)), (50, .int .i64 (z_ : Int))] ((HeapV.ent H F) ++ ((Gs.ent 66 7 R.s (R.objs.flatMap RObj.cells)) ++ ((R.objs.flatMap RObj.ent) ++ ((Gs.ent 9 1 R.ts (R.texts.map encS)) ++ ((b1, .cells 59 2 [Gs.val R.s R.objs.length, Gs.val R.ts R.texts.length]) :: ([])))))) ∧ z_ ≤ R.objs.length) (fun z_ => R.objs.length - z_) 0 ⟨⟨fun _ => rfl, ow⟩, Nat.zero_le _⟩ ?_
  rintro n ρ_ σ_ ⟨hfit, hi0⟩
  refine SW_fits hfit ?_
  clear hfit
  refine sr ?_
  refine os 1 ?_
  refine nq ?_
  refine cdp (fun hc4 : (n : Int) < (R.objs.length : Int) => ?_) (fun hc4 => ?_)
  ·skip
   refine SW_skip (n_then ?_)
   refine SW_seq ?_
   refine SW_block ?_
   refine sr ?_
   refine os 2 ?_
   refine nsr ?_
   refine os 4 ?_
   refine kp [10, 9, 51, 4, 5, 6, 49, 50] ?_
   refine nq ?_
   obtain ⟨y, hy⟩ : ∃ q_, R.objs[n]? = some q_ := ⟨_, List.getElem?_eq_getElem (by omega)⟩
   obtain ⟨x, hx⟩ : ∃ q_, H.objs[n]? = some q_ := ⟨_, List.getElem?_eq_getElem (by omega)⟩
   refine SW_region ?_
   refine os 2 ?_
   by_cases hp2 : x.shape < 0
   ·skip
    refine L (cl (heap_Shape_some hi1.inv.ok (w := 18445055223849287680 + (n : Int)) (objA' (by omega) (by omega)) hx) ?_)
    rintro v4 _ hv4
    obtain rfl : v4 = .tuple #[.int .i64 0, .bool false] := hv4.trans (by rw [if_pos hp2])
    refine os 5 ?_
    refine kp [12, 11, 10, 9, 51, 4, 5, 6, 49, 50] ?_
    refine nq ?_
    refine sr ?_
    refine os 1 ?_
    refine oV (.bool true) ?_
    refine nt ?_
    refine ct ?_
    refine SW_exit (x_then (x_in (n_then ?_)))
    refine SW_region ?_
    refine os 2 ?_
    refine nt ?_
    exact ⟨n + 1, by omega, ⟨fun _ => rfl, ow⟩, by omega⟩
   ·skip
    refine L (cl (heap_Shape_some hi1.inv.ok (w := 18445055223849287680 + (n : Int)) (objA' (by omega) (by omega)) hx) ?_)
    rintro v5 _ hv5
    obtain rfl : v5 = .tuple #[.int .i64 x.shape, .bool true] := hv5.trans (by rw [if_neg hp2])
    refine os 5 ?_
    refine kp [12, 11, 10, 9, 51, 4, 5, 6, 49, 50] ?_
    refine nq ?_
    refine sr ?_
    refine os 1 ?_
    refine oV (.bool false) ?_
    refine nt ?_
    refine cf ?_
    refine SW_skip (n_then ?_)
    refine SW_seq ?_
    refine sr ?_
    refine os 1 ?_
    refine L (ld ?_)
    refine os 1 ?_
    refine L (ixg (n : Int) (n * 7) hR.row Try.underlying57 ?_)
    refine os 1 ?_
    refine L (ld ?_ (hc := Gs.cell hR.row (fun e he => (mem_a (mem_h he))) (flat_cell RObj.len hy (j := 3) (by decide) rfl)))
    refine os 2 ?_
    refine kp [71, 70, 69, 63, 12, 11, 10, 9, 51, 4, 5, 6, 49, 50] ?_
    refine nt ?_
    refine SW_block ?_
    refine SW_loop (α := Nat) (fun z_ ρ_ σ_ => Fits ρ_ σ_ [(4, .bool false), (5, pt F.p 0), (6, pt b1 0), (69, Gs.val y.ns y.names.length), (70, .int .i64 (y.names.length : Int)), (71, .int .i64 (z_ : Int)), (49, .int .i64 (R.objs.length : Int)), (50, .int .i64 (n : Int)), (9, .int .i64 (n : Int)), (11, .int .i64 x.shape)] ((HeapV.ent H F) ++ ((Gs.ent 66 7 R.s (R.objs.flatMap RObj.cells)) ++ ((R.objs.flatMap RObj.ent) ++ ((Gs.ent 9 1 R.ts (R.texts.map encS)) ++ ((b1, .cells 59 2 [Gs.val R.s R.objs.length, Gs.val R.ts R.texts.length]) :: ([])))))) ∧ z_ ≤ y.names.length) (fun z_ => y.names.length - z_) 0 ⟨⟨fun _ => rfl, ow⟩, Nat.zero_le _⟩ ?_
    rintro i2_ ρ_ σ_ ⟨hfit, hi0⟩
    refine SW_fits hfit ?_
    clear hfit
    have hsm := hi1.lok.same _ (List.mem_of_getElem? (RSt.pub_at hy))
    replace hsm : y.names.length = y.descs.length := hsm
    have hsd : y.descs.length ≤ i := hi1.lok.descs _ (List.mem_of_getElem? (RSt.pub_at hy))
    refine sr ?_
    refine os 1 ?_
    refine nq ?_
    refine cdp (fun hc5 : (i2_ : Int) < (y.names.length : Int) => ?_) (fun hc5 => ?_)
    ·skip
     refine SW_skip (n_then ?_)
     refine SW_seq ?_
     refine SW_block ?_
     refine sr ?_
     refine os 1 ?_
     refine L (ixg (i2_ : Int) (i2_) ((RSt.ok.at hR hy).ns) Try.underlying34 ?_)
     obtain ⟨e3, he3⟩ : ∃ y_, y.names[i2_]? = some y_ := ⟨_, List.getElem?_eq_getElem (by omega)⟩
     refine L (ld ?_ (hc := Gs.cell (RSt.ok.at hR hy).ns (fun e he => (mem_a (mem_a (mem_h ((RObj.mns hy) _ he))))) (map_cell he3 rfl)))
     refine os 2 ?_
     refine kp [14, 13, 72, 4, 5, 6, 69, 70, 71, 49, 50, 9, 11] ?_
     refine nq ?_
     obtain ⟨e4, he4⟩ : ∃ y_, y.descs[i2_]? = some y_ := ⟨_, List.getElem?_eq_getElem (by omega)⟩
     refine SW_region ?_
     refine os 3 ?_
     refine L (cl (heap_Find hi1.inv.ok x.shape e3) ?_)
     rintro v6 _ hv6
     obtain rfl : v6 = .tuple #[.int .i64 (i2_ : Int), .int .i64 e4.2.2, .bool true] := hv6.trans (congrArg three (hi1.find hx hy hp2 he3 he4))
     refine os 7 ?_
     refine kp [17, 16, 15, 14, 13, 72, 4, 5, 6, 69, 70, 71, 49, 50, 9, 11] ?_
     refine nsr ?_
     refine os 1 ?_
     refine oV (.bool false) ?_
     refine os 6 ?_
     refine kp [91, 17, 16, 15, 14, 13, 72, 4, 5, 6, 69, 70, 71, 49, 50, 9, 11] ?_
     refine pn 91 (show ((i2_ : Int) != (i2_ : Int)) = false from (by simp)) ?_
     refine os 2 ?_
     refine L (ld ?_)
     refine os 1 ?_
     refine L (ixg (n : Int) (n * 7) hR.row Try.underlying57 ?_)
     refine os 1 ?_
     refine L (ld ?_ (hc := Gs.cell hR.row (fun e he => (mem_a (mem_h he))) (flat_cell RObj.len hy (j := 4) (by decide) rfl)))
     refine os 1 ?_
     refine L (ixg (i2_ : Int) (i2_ * 3) ((RSt.ok.at hR hy).ds) Try.underlying64 ?_)
     refine os 1 ?_
     refine kp [101, 92, 91, 17, 16, 15, 14, 13, 72, 4, 5, 6, 69, 70, 71, 49, 50, 9, 11] ?_
     refine L (ld ?_ (hc := Gs.cell (RSt.ok.at hR hy).ds (fun e he => (mem_a (mem_a (mem_h ((RObj.mds hy) _ he))))) (flat_cell descCells_len he4 (j := 2) (by decide) rfl)))
     refine os 2 ?_
     refine kp [104, 17, 16, 15, 14, 13, 72, 4, 5, 6, 69, 70, 71, 49, 50, 9, 11] ?_
     refine nt ?_
     refine SW_false (fun _ => (congrArg Value.bool (show (e4.2.2 != e4.2.2) = false from (by simp)))) ?_
     refine SW_skip (n_in (n_then ?_))
     refine SW_region ?_
     refine os 2 ?_
     refine nt ?_
     exact ⟨i2_ + 1, by omega, ⟨fun _ => rfl, ow⟩, by omega⟩
    ·skip
     refine SW_exit (x_then (x_then (x_in (n_then ?_))))
     refine sr ?_
     refine os 2 ?_
     refine nt ?_
     refine SW_block ?_
     refine SW_loop (α := Nat) (fun z_ ρ_ σ_ => Fits ρ_ σ_ [(4, .bool false), (5, pt F.p 0), (6, pt b1 0), (106, .int .i64 (n : Int)), (107, .int .i64 (z_ : Int)), (49, .int .i64 (R.objs.length : Int)), (50, .int .i64 (n : Int)), (9, .int .i64 (n : Int)), (11, .int .i64 x.shape)] ((HeapV.ent H F) ++ ((Gs.ent 66 7 R.s (R.objs.flatMap RObj.cells)) ++ ((R.objs.flatMap RObj.ent) ++ ((Gs.ent 9 1 R.ts (R.texts.map encS)) ++ ((b1, .cells 59 2 [Gs.val R.s R.objs.length, Gs.val R.ts R.texts.length]) :: ([])))))) ∧ z_ ≤ n) (fun z_ => n - z_) 0 ⟨⟨fun _ => rfl, ow⟩, Nat.zero_le _⟩ ?_
     rintro m ρ_ σ_ ⟨hfit, hi0⟩
     refine SW_fits hfit ?_
     clear hfit
     refine sr ?_
     refine os 1 ?_
     refine nq ?_
     refine cdp (fun hc7 : (m : Int) < (n : Int) => ?_) (fun hc7 => ?_)
     ·skip
      refine SW_skip (n_then ?_)
      refine SW_seq ?_
      refine SW_block ?_
      refine sr ?_
      refine os 2 ?_
      refine nq ?_
      obtain ⟨u, hu⟩ : ∃ q_, R.objs[m]? = some q_ := ⟨_, List.getElem?_eq_getElem (by omega)⟩
      obtain ⟨z, hz⟩ : ∃ q_, H.objs[m]? = some q_ := ⟨_, List.getElem?_eq_getElem (by omega)⟩
      refine SW_region ?_
      refine os 4 ?_
      by_cases hp5 : z.shape < 0
      ·skip
       refine L (cl (heap_Shape_some hi1.inv.ok (w := 18445055223849287680 + (m : Int)) (objA' (by omega) (by omega)) hz) ?_)
       rintro v7 _ hv7
       obtain rfl : v7 = .tuple #[.int .i64 0, .bool false] := hv7.trans (by rw [if_pos hp5])
       refine os 5 ?_
       refine kp [20, 19, 18, 108, 4, 5, 6, 106, 107, 49, 50, 9, 11] ?_
       refine nq ?_
       refine sr ?_
       refine os 1 ?_
       refine oV (.bool true) ?_
       refine os 5 ?_
       refine kp [124, 20, 19, 18, 108, 4, 5, 6, 106, 107, 49, 50, 9, 11] ?_
       refine nt ?_
       refine ct ?_
       refine SW_exit (x_then (x_in (n_then ?_)))
       refine SW_region ?_
       refine os 2 ?_
       refine nt ?_
       exact ⟨m + 1, by omega, ⟨fun _ => rfl, ow⟩, by omega⟩
      ·skip
       refine L (cl (heap_Shape_some hi1.inv.ok (w := 18445055223849287680 + (m : Int)) (objA' (by omega) (by omega)) hz) ?_)
       rintro v8 _ hv8
       obtain rfl : v8 = .tuple #[.int .i64 z.shape, .bool true] := hv8.trans (by rw [if_neg hp5])
       refine os 5 ?_
       refine kp [20, 19, 18, 108, 4, 5, 6, 106, 107, 49, 50, 9, 11] ?_
       refine nq ?_
       refine sr ?_
       refine os 1 ?_
       refine oV (.bool false) ?_
       refine os 5 ?_
       refine kp [124, 20, 19, 18, 108, 4, 5, 6, 106, 107, 49, 50, 9, 11] ?_
       refine nt ?_
       refine cd (fun hc8 : (x.shape != z.shape) = true => ?_) (fun hc8 => ?_)
       ·skip
        simp only [bne_iff_ne, ne_eq, bne_eq_false_iff_eq] at hc8
        refine SW_exit (x_then (x_in (n_then ?_)))
        refine SW_region ?_
        refine os 2 ?_
        refine nt ?_
        exact ⟨m + 1, by omega, ⟨fun _ => rfl, ow⟩, by omega⟩
       ·skip
        simp only [bne_iff_ne, ne_eq, bne_eq_false_iff_eq] at hc8
        obtain ⟨ek, ep, en, ed⟩ := hi1.same hx hz hy hu hp2 hc8
        refine SW_skip (n_then ?_)
        refine sr ?_
        refine os 1 ?_
        refine L (ld ?_)
        refine os 1 ?_
        refine L (ixg (n : Int) (n * 7) hR.row Try.underlying57 ?_)
        refine L (ldr [.int .i64 y.kind, .int .u64 y.proto, .bool y.shut, Gs.val y.ns y.names.length, Gs.val y.ds y.descs.length, Gs.val y.es y.elems.length, Gs.val y.is y.inner.length] (cells_cons (Gs.cell hR.row (fun e he => (mem_a (mem_h he))) (flat_cell RObj.len hy (j := 0) (by decide) rfl)) (cells_cons (Gs.cell hR.row (fun e he => (mem_a (mem_h he))) (flat_cell RObj.len hy (j := 1) (by decide) rfl)) (cells_cons (Gs.cell hR.row (fun e he => (mem_a (mem_h he))) (flat_cell RObj.len hy (j := 2) (by decide) rfl)) (cells_cons (Gs.cell hR.row (fun e he => (mem_a (mem_h he))) (flat_cell RObj.len hy (j := 3) (by decide) rfl)) (cells_cons (Gs.cell hR.row (fun e he => (mem_a (mem_h he))) (flat_cell RObj.len hy (j := 4) (by decide) rfl)) (cells_cons (Gs.cell hR.row (fun e he => (mem_a (mem_h he))) (flat_cell RObj.len hy (j := 5) (by decide) rfl)) (cells_cons (Gs.cell hR.row (fun e he => (mem_a (mem_h he))) (flat_cell RObj.len hy (j := 6) (by decide) rfl)) cells_nil))))))) ?_)
        refine L (nw 66 7 [.int .i64 0, .int .u64 0, .bool false, .slice none 0 0, .slice none 0 0, .slice none 0 0, .slice none 0 0] ?_)
        intro b9
        refine L (st [.int .i64 y.kind, .int .u64 y.proto, .bool y.shut, Gs.val y.ns y.names.length, Gs.val y.ds y.descs.length, Gs.val y.es y.elems.length, Gs.val y.is y.inner.length] ?_)
        refine nsr ?_
        refine os 1 ?_
        refine L (ld ?_)
        refine os 1 ?_
        refine kp [132, 131, 21, 124, 20, 19, 18, 108, 4, 5, 6, 106, 107, 49, 50, 9, 11] ?_
        refine L (ixg (m : Int) (m * 7) hR.row Try.underlying57 ?_)
        refine L (ldr [.int .i64 u.kind, .int .u64 u.proto, .bool u.shut, Gs.val u.ns u.names.length, Gs.val u.ds u.descs.length, Gs.val u.es u.elems.length, Gs.val u.is u.inner.length] (cells_cons (Gs.cell hR.row (fun e he => (mem_c (mem_a (mem_h he)))) (flat_cell RObj.len hu (j := 0) (by decide) rfl)) (cells_cons (Gs.cell hR.row (fun e he => (mem_c (mem_a (mem_h he)))) (flat_cell RObj.len hu (j := 1) (by decide) rfl)) (cells_cons (Gs.cell hR.row (fun e he => (mem_c (mem_a (mem_h he)))) (flat_cell RObj.len hu (j := 2) (by decide) rfl)) (cells_cons (Gs.cell hR.row (fun e he => (mem_c (mem_a (mem_h he)))) (flat_cell RObj.len hu (j := 3) (by decide) rfl)) (cells_cons (Gs.cell hR.row (fun e he => (mem_c (mem_a (mem_h he)))) (flat_cell RObj.len hu (j := 4) (by decide) rfl)) (cells_cons (Gs.cell hR.row (fun e he => (mem_c (mem_a (mem_h he)))) (flat_cell RObj.len hu (j := 5) (by decide) rfl)) (cells_cons (Gs.cell hR.row (fun e he => (mem_c (mem_a (mem_h he)))) (flat_cell RObj.len hu (j := 6) (by decide) rfl)) cells_nil))))))) ?_)
        refine L (nw 66 7 [.int .i64 0, .int .u64 0, .bool false, .slice none 0 0, .slice none 0 0, .slice none 0 0, .slice none 0 0] ?_)
        intro b10
        refine L (st [.int .i64 u.kind, .int .u64 u.proto, .bool u.shut, Gs.val u.ns u.names.length, Gs.val u.ds u.descs.length, Gs.val u.es u.elems.length, Gs.val u.is u.inner.length] ?_)
        refine nq ?_
        refine sr ?_
        refine os 1 ?_
        refine L (ld ?_)
        refine os 1 ?_
        refine L (ld ?_)
        refine os 2 ?_
        refine kp [140, 22, 21, 124, 20, 19, 18, 108, 4, 5, 6, 106, 107, 49, 50, 9, 11] ?_
        refine pn 140 (show (y.kind != u.kind) = false from (by rw [ek]; simp)) ?_
        refine os 1 ?_
        refine L (ld ?_)
        refine os 1 ?_
        refine L (ld ?_)
        refine os 3 ?_
        refine kp [147, 22, 21, 124, 20, 19, 18, 108, 4, 5, 6, 106, 107, 49, 50, 9, 11] ?_
        refine pn 147 (show (y.proto != u.proto) = false from (by rw [ep]; simp)) ?_
        refine os 1 ?_
        refine L (ld ?_)
        refine os 2 ?_
        refine L (ld ?_)
        refine os 3 ?_
        refine kp [155, 22, 21, 124, 20, 19, 18, 108, 4, 5, 6, 106, 107, 49, 50, 9, 11] ?_
        refine nt ?_
        refine SW_false (fun _ => (congrArg Value.bool (show ((y.names.length : Int) != (u.names.length : Int)) = false from (by rw [en]; simp)))) ?_
        refine SW_skip (n_then ?_)
        refine sr ?_
        refine os 1 ?_
        refine L (ld ?_)
        refine os 2 ?_
        refine nt ?_
        refine SW_block ?_
        refine SW_loop (α := Nat) (fun z_ ρ_ σ_ => Fits ρ_ σ_ [(4, .bool false), (5, pt F.p 0), (6, pt b1 0), (106, .int .i64 (n : Int)), (107, .int .i64 (m : Int)), (21, pt b9 0), (22, pt b10 0), (158, .int .i64 (y.names.length : Int)), (159, .int .i64 (z_ : Int)), (49, .int .i64 (R.objs.length : Int)), (50, .int .i64 (n : Int)), (9, .int .i64 (n : Int)), (11, .int .i64 x.shape)] ((b10, .cells 66 7 [.int .i64 u.kind, .int .u64 u.proto, .bool u.shut, Gs.val u.ns u.names.length, Gs.val u.ds u.descs.length, Gs.val u.es u.elems.length, Gs.val u.is u.inner.length]) :: ((b9, .cells 66 7 [.int .i64 y.kind, .int .u64 y.proto, .bool y.shut, Gs.val y.ns y.names.length, Gs.val y.ds y.descs.length, Gs.val y.es y.elems.length, Gs.val y.is y.inner.length]) :: ((HeapV.ent H F) ++ ((Gs.ent 66 7 R.s (R.objs.flatMap RObj.cells)) ++ ((R.objs.flatMap RObj.ent) ++ ((Gs.ent 9 1 R.ts (R.texts.map encS)) ++ ((b1, .cells 59 2 [Gs.val R.s R.objs.length, Gs.val R.ts R.texts.length]) :: ([])))))))) ∧ z_ ≤ y.names.length) (fun z_ => y.names.length - z_) 0 ⟨⟨fun _ => rfl, ow⟩, Nat.zero_le _⟩ ?_
        rintro i3_ ρ_ σ_ ⟨hfit, hi0⟩
        refine SW_fits hfit ?_
        clear hfit
        have hsm := hi1.lok.same _ (List.mem_of_getElem? (RSt.pub_at hy))
        replace hsm : y.names.length = y.descs.length := hsm
        have hsd : y.descs.length ≤ i := hi1.lok.descs _ (List.mem_of_getElem? (RSt.pub_at hy))
        have hsu := hi1.lok.same _ (List.mem_of_getElem? (RSt.pub_at hu))
        replace hsu : u.names.length = u.descs.length := hsu
        have hnn : y.names.length = u.names.length := by rw [en]
        refine sr ?_
        refine os 1 ?_
        refine nq ?_
        refine cdp (fun hc13 : (i3_ : Int) < (y.names.length : Int) => ?_) (fun hc13 => ?_)
        ·skip
         refine SW_skip (n_then ?_)
         refine SW_seq ?_
         refine SW_block ?_
         refine sr ?_
         refine os 2 ?_
         refine nq ?_
         obtain ⟨e6, he6⟩ : ∃ y_, y.names[i3_]? = some y_ := ⟨_, List.getElem?_eq_getElem (by omega)⟩
         obtain ⟨e7, he7⟩ : ∃ y_, u.names[i3_]? = some y_ := ⟨_, List.getElem?_eq_getElem (by omega)⟩
         obtain ⟨e8, he8⟩ : ∃ y_, y.descs[i3_]? = some y_ := ⟨_, List.getElem?_eq_getElem (by omega)⟩
         obtain ⟨e9, he9⟩ : ∃ y_, u.descs[i3_]? = some y_ := ⟨_, List.getElem?_eq_getElem (by omega)⟩
         refine SW_draw [(b9, 3, Gs.val y.ns y.names.length), ((Gs.blk y.ns), i3_, .string e6), (b10, 3, Gs.val u.ns u.names.length), ((Gs.blk u.ns), i3_, .string e7), (b9, 4, Gs.val y.ds y.descs.length), ((Gs.blk y.ds), i3_ * 3 + 2, .int .i64 e8.2.2), (b10, 4, Gs.val u.ds u.descs.length), ((Gs.blk u.ds), i3_ * 3 + 2, .int .i64 e9.2.2)] [0, 1, 2, 3, 4, 5, 6, 7, 8, 9, 10, 11, 12, 13, 14, 15, 16, 17, 18, 19, 20, 21, 22, 23] (by kernel_rfl) (rd_cons (Cell.own (mem_c mem_z) rfl) (rd_cons (Gs.cell (RSt.ok.at hR hy).ns (fun e he => (mem_c (mem_c (mem_a (mem_a (mem_h ((RObj.mns hy) _ he))))))) (map_cell he6 rfl)) (rd_cons (Cell.own mem_z rfl) (rd_cons (Gs.cell (RSt.ok.at hR hu).ns (fun e he => (mem_c (mem_c (mem_a (mem_a (mem_h ((RObj.mns hu) _ he))))))) (map_cell he7 rfl)) (rd_cons (Cell.own (mem_c mem_z) rfl) (rd_cons (Gs.cell (RSt.ok.at hR hy).ds (fun e he => (mem_c (mem_c (mem_a (mem_a (mem_h ((RObj.mds hy) _ he))))))) (flat_cell descCells_len he8 (j := 2) (by decide) rfl)) (rd_cons (Cell.own mem_z rfl) (rd_cons (Gs.cell (RSt.ok.at hR hu).ds (fun e he => (mem_c (mem_c (mem_a (mem_a (mem_h ((RObj.mds hu) _ he))))))) (flat_cell descCells_len he9 (j := 2) (by decide) rfl)) rd_nil)))))))) ?_
         refine aF 0 ?_
         refine aL 1 ?_
         refine aS 2 ?_
         refine aI 3 (i3_ : Int) (i3_) ((RSt.ok.at hR hy).ns) Try.underlying34 ?_
         refine aL 4 ?_
         refine aF 5 ?_
         refine aL 6 ?_
         refine aS 7 ?_
         refine aI 8 (i3_ : Int) (i3_) ((RSt.ok.at hR hu).ns) Try.underlying34 ?_
         refine kpA [170, 166, 23, 160, 4, 5, 6, 106, 107, 21, 22, 158, 159, 49, 50, 9, 11] ?_
         refine aL 9 ?_
         refine tk 10 (.bool (!(e6.toList == e7.toList))) ?_
         rw [show (!(e6.toList == e7.toList)) = (!(decide (e6 = e7))) from by rw [str_eq]]
         refine aS 11 ?_
         refine pnA 173 (show (!(decide (e6 = e7))) = false from (by rw [names_at en he6 he7]; simp)) ?_
         refine aF 12 ?_
         refine aL 13 ?_
         refine aS 14 ?_
         refine aI 15 (i3_ : Int) (i3_ * 3) ((RSt.ok.at hR hy).ds) Try.underlying64 ?_
         refine aF 16 ?_
         refine kpA [178, 173, 23, 160, 4, 5, 6, 106, 107, 21, 22, 158, 159, 49, 50, 9, 11] ?_
         refine aL 17 ?_
         refine aF 18 ?_
         refine aL 19 ?_
         refine aS 20 ?_
         refine aI 21 (i3_ : Int) (i3_ * 3) ((RSt.ok.at hR hu).ds) Try.underlying64 ?_
         refine aF 22 ?_
         refine aL 23 ?_
         refine aS 24 ?_
         refine kpA [186, 173, 23, 160, 4, 5, 6, 106, 107, 21, 22, 158, 159, 49, 50, 9, 11] ?_
         refine aS 25 ?_
         refine SA_done (by kernel_rfl) (n_then ?_)
         refine SW_false (fun _ => (congrArg Value.bool (show (e8.2.2 != e9.2.2) = false from (by rw [flags_at ed he8 he9]; simp)))) ?_
         refine SW_skip (n_in (n_then ?_))
         refine SW_region ?_
         refine os 2 ?_
         refine kp [159, 187, 23, 160, 4, 5, 6, 106, 107, 21, 22, 158, 49, 50, 9, 11] ?_
         refine nt ?_
         exact ⟨i3_ + 1, by omega, ⟨fun _ => rfl, ow⟩, by omega⟩
        ·skip
         refine SW_exit (x_then (x_then (x_in (n_in (n_then ?_)))))
         refine SW_region ?_
         refine os 2 ?_
         refine nt ?_
         exact ⟨m + 1, by omega, ⟨fun _ => rfl, ow⟩, by omega⟩
     ·skip
      refine SW_exit (x_then (x_then (x_in (n_in (n_then ?_)))))
      refine SW_region ?_
      refine os 2 ?_
      refine nt ?_
      exact ⟨n + 1, by omega, ⟨fun _ => rfl, ow⟩, by omega⟩
  ·skip
   refine SW_exit (x_then (x_then (x_in (n_then ?_))))
   refine sr ?_
   refine os 1 ?_
   refine nt ?_
   refine SW_ret ?_
   refine body_end (.bool true) (fun _ => rfl) ?_
   exact ⟨(), ⟨_, List.Perm.refl _⟩, rfl⟩

end Go.Proofs.Ytdfhbheipagnmaa
