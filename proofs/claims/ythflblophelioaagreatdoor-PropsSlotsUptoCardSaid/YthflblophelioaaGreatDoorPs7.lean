/-
  What the document's own functions do to the memory they own, step by step: each theorem is one function's contract. Conditions: those that each theorem names.
-/
import Derived.Test.YthflblophelioaaGreatDoorPs6
import Derived.Test.YthflblophelioaaGreatDoorPs5
import Derived.Test.YthflblophelioaaGreatDoorPs3
set_option linter.unusedVariables false
set_option linter.unusedSimpArgs false
set_option maxRecDepth 100000
set_option maxHeartbeats 4000000
namespace Go.Proofs.YthflblophelioaaGreatDoor
open Go.Sl

theorem rf_Reproto_none {W0 : World} {R : RSt} (hR : R.ok) (hlen : R.objs.length ≤ 65536) {w : Int} (hw : wordOk w) (h0 : objAt w R.objs.length = none) {p : Int} (hwp : wordOk p) (hP : protosOk R.pub) : SC Tryz.prog W0 78 #[R.val, .int .u64 w, .int .u64 p] R.ent (Ret (fun R' : RSt => R'.ent) (fun v R' => v = R'.val ∧ R'.ok ∧ R'.pub = reproP R.pub w p ∧ R'.texts = R.texts)) := by
 refine SC_body (fn := Tryz.f78) (n := 53) Tryz.func78 rfl (by kernel_rfl) (ρ := [(0, .agg #[Gs.val R.s R.objs.length, Gs.val R.ts R.texts.length]), (1, .int .u64 w), (2, .int .u64 p)]) rfl ?_
 refine SW_sig _ RSt.eq0 ?_
 have hcap : R.objs.length ≤ 65536 := hlen
 refine sr ?_
 refine L (nw 28 2 [Gs.val R.s R.objs.length, Gs.val R.ts R.texts.length] ?_)
 intro b1
 refine L (nw 28 2 [.slice none 0 0, .slice none 0 0] ?_)
 intro b2
 refine nsr ?_
 refine L (lds 2 ?_)
 refine os 1 ?_
 refine L (cl (rf_At (R := RSt.mk R.s R.objs R.ts R.texts) hw (w := w)) ?_)
 rintro v1 _ hv1
 obtain rfl : v1 = .int .i64 (-1) := hv1.trans (by simp only []; unfold atI; rw [h0])
 refine un ?_
 refine os 1 ?_
 refine kp [7, 6, 3, 0, 1, 2] ?_
 refine nq ?_
 refine sr ?_
 refine os 1 ?_
 refine oV (.bool true) ?_
 refine os 10 ?_
 refine kp [25, 7, 6, 3, 0, 1, 2] ?_
 refine nt ?_
 refine ct ?_
 refine sr ?_
 refine L (lds 2 ?_)
 refine L (st [Gs.val R.s R.objs.length, Gs.val R.ts R.texts.length] ?_)
 refine nt ?_
 refine Qi (Qm ?_)
 refine body_endC [.agg #[Gs.val R.s R.objs.length, Gs.val R.ts R.texts.length]] (fun _ => (.cons ⟨b2, 0, rfl, .inl ⟨[Gs.val R.s R.objs.length, Gs.val R.ts R.texts.length], by kernel_rfl, (Qb (Cell.own Qe rfl) (Qb (Cell.own Qe rfl) Qo)), rfl⟩⟩ .nil)) ?_
 exact ⟨R, RSt.own, rfl, hR, by rw [reproP_none (by rw [RSt.pub_len]; exact h0)], rfl⟩

theorem rf_Reproto_some {W0 : World} {R : RSt} (hR : R.ok) (hlen : R.objs.length ≤ 65536) {w : Int} (hw : wordOk w) {n : Nat} {x : RObj} (h0 : objAt w R.objs.length = some n) (hx : R.objs[n]? = some x) {p : Int} (hwp : wordOk p) (hP : protosOk R.pub) : SC Tryz.prog W0 78 #[R.val, .int .u64 w, .int .u64 p] R.ent (Ret (fun R' : RSt => R'.ent) (fun v R' => v = R'.val ∧ R'.ok ∧ R'.pub = reproP R.pub w p ∧ R'.texts = R.texts)) := by
 have hnl := (List.getElem?_eq_some_iff.1 hx).1
 refine SC_body (fn := Tryz.f78) (n := 53) Tryz.func78 rfl (by kernel_rfl) (ρ := [(0, .agg #[Gs.val R.s R.objs.length, Gs.val R.ts R.texts.length]), (1, .int .u64 w), (2, .int .u64 p)]) rfl ?_
 refine SW_sig _ RSt.eq0 ?_
 have hcap : R.objs.length ≤ 65536 := hlen
 refine sr ?_
 refine L (nw 28 2 [Gs.val R.s R.objs.length, Gs.val R.ts R.texts.length] ?_)
 intro b1
 refine L (nw 28 2 [.slice none 0 0, .slice none 0 0] ?_)
 intro b2
 refine nsr ?_
 refine L (lds 2 ?_)
 refine os 1 ?_
 refine L (cl (rf_At (R := RSt.mk R.s R.objs R.ts R.texts) hw (w := w)) ?_)
 rintro v1 _ hv1
 obtain rfl : v1 = .int .i64 (n : Int) := hv1.trans (by simp only []; unfold atI; rw [h0])
 refine un ?_
 refine os 1 ?_
 refine kp [7, 6, 3, 0, 1, 2] ?_
 refine nq ?_
 refine sr ?_
 refine os 3 ?_
 refine pn 16 (show (decide ((n : Int) < 0)) = false from (by simp)) ?_
 refine os 3 ?_
 refine tb 19 (fun hg4 => ?_) (fun hg4 => ?_)
 ·replace hg4 : (p != 18445336698825998337) = true := hg4
  simp only [beq_iff_eq, bne_iff_ne, ne_eq, beq_eq_false_iff_ne, bne_eq_false_iff_eq] at hg4
  refine L (lds 2 ?_)
  refine os 1 ?_
  rcases hm1 : objAt p R.objs.length with _ | m1
  ·refine L (cl (rf_At (R := RSt.mk R.s R.objs R.ts R.texts) hwp (w := p)) ?_)
   rintro v2 _ hv2
   obtain rfl : v2 = .int .i64 (-1) := hv2.trans (by simp only []; unfold atI; rw [hm1])
   refine un ?_
   refine oV (.bool true) ?_
   refine os 2 ?_
   refine kp [25, 7, 6, 3, 0, 1, 2] ?_
   refine nt ?_
   refine ct ?_
   refine sr ?_
   refine L (lds 2 ?_)
   refine L (st [Gs.val R.s R.objs.length, Gs.val R.ts R.texts.length] ?_)
   refine nt ?_
   refine Qi (Qm ?_)
   refine body_endC [.agg #[Gs.val R.s R.objs.length, Gs.val R.ts R.texts.length]] (fun _ => (.cons ⟨b2, 0, rfl, .inl ⟨[Gs.val R.s R.objs.length, Gs.val R.ts R.texts.length], by kernel_rfl, (Qb (Cell.own Qe rfl) (Qb (Cell.own Qe rfl) Qo)), rfl⟩⟩ .nil)) ?_
   first | (exfalso; omega) | exact ⟨R, RSt.own, rfl, hR, by rw [reproP_no (.inl ⟨by first | assumption | omega, by rw [RSt.pub_len]; assumption⟩)], rfl⟩
  refine L (cl (rf_At (R := RSt.mk R.s R.objs R.ts R.texts) hwp (w := p)) ?_)
  rintro v3 _ hv3
  obtain rfl : v3 = .int .i64 (m1 : Int) := hv3.trans (by simp only []; unfold atI; rw [hm1])
  refine un ?_
  refine os 3 ?_
  refine kp [25, 7, 6, 3, 0, 1, 2] ?_
  refine nt ?_
  refine cdp (fun hc5 : (m1 : Int) < 0 => ?_) (fun hc5 => ?_)
  ·refine sr ?_
   refine L (lds 2 ?_)
   refine L (st [Gs.val R.s R.objs.length, Gs.val R.ts R.texts.length] ?_)
   refine nt ?_
   refine Qi (Qm ?_)
   refine body_endC [.agg #[Gs.val R.s R.objs.length, Gs.val R.ts R.texts.length]] (fun _ => (.cons ⟨b2, 0, rfl, .inl ⟨[Gs.val R.s R.objs.length, Gs.val R.ts R.texts.length], by kernel_rfl, (Qb (Cell.own Qe rfl) (Qb (Cell.own Qe rfl) Qo)), rfl⟩⟩ .nil)) ?_
   first | (exfalso; omega) | exact ⟨R, RSt.own, rfl, hR, by rw [reproP_no (.inl ⟨by first | assumption | omega, by rw [RSt.pub_len]; assumption⟩)], rfl⟩
  refine Ql (Qj ?_)
  refine sr ?_
  refine os 2 ?_
  refine nq ?_
  refine sr ?_
  refine os 1 ?_
  refine nt ?_
  refine SW_block ?_
  refine SW_loop (α := Nat) (fun z_ ρ_ σ_ => Fits ρ_ σ_ [(0, .agg #[Gs.val R.s R.objs.length, Gs.val R.ts R.texts.length]), (1, .int .u64 w), (2, .int .u64 p), (3, pt b1 0), (6, pt b2 0), (7, .int .i64 (n : Int)), (8, .int .u64 (upN R.pub p z_)), (9, .int .i64 (z_ : Int))] ((b2, .cells 28 2 [.slice none 0 0, .slice none 0 0]) :: ((b1, .cells 28 2 [Gs.val R.s R.objs.length, Gs.val R.ts R.texts.length]) :: ((Gs.ent 104 7 R.s (R.objs.flatMap RObj.cells)) ++ ((R.objs.flatMap RObj.ent) ++ ((Gs.ent 9 1 R.ts (R.texts.map encS)) ++ ([])))))) ∧ z_ ≤ R.objs.length + 1 ∧ (∀ j, j < z_ → upN R.pub p j ≠ w)) (fun z_ => R.objs.length + 1 - z_) 0 ⟨⟨fun _ => rfl, ow⟩, Nat.zero_le _, fun j hj => absurd hj (Nat.not_lt_zero j)⟩ ?_
  rintro i ρ_ σ_ ⟨hfit, hi0, hi1⟩
  refine SW_fits hfit ?_
  clear hfit
  refine SW_seq ?_
  refine sr ?_
  refine os 2 ?_
  refine L (ld ?_)
  refine os 2 ?_
  refine kp [32, 0, 1, 2, 3, 6, 7, 8, 9] ?_
  refine nt ?_
  refine cdp (fun hc6 : (i : Int) ≤ (R.objs.length : Int) => ?_) (fun hc6 => ?_)
  ·refine Ql (Qj ?_)
   refine SW_seq ?_
   refine SW_block ?_
   refine SW_seq ?_
   refine sr ?_
   refine os 3 ?_
   refine nt ?_
   refine cd (fun hc7 : ((upN R.pub p i) == w) = true => ?_) (fun hc7 => ?_)
   ·simp only [beq_iff_eq, beq_eq_false_iff_ne, ne_eq] at hc7
    refine sr ?_
    refine L (lds 2 ?_)
    refine L (st [Gs.val R.s R.objs.length, Gs.val R.ts R.texts.length] ?_)
    refine nt ?_
    refine Qi (Qm (r_in (Qm (Qm (r_in (Qm ?_))))))
    refine body_endC [.agg #[Gs.val R.s R.objs.length, Gs.val R.ts R.texts.length]] (fun _ => (.cons ⟨b2, 0, rfl, .inl ⟨[Gs.val R.s R.objs.length, Gs.val R.ts R.texts.length], by kernel_rfl, (Qb (Cell.own Qe rfl) (Qb (Cell.own Qe rfl) Qo)), rfl⟩⟩ .nil)) ?_
    exact ⟨R, RSt.own, rfl, hR, by rw [reproP_no (.inr (hitP_iff.2 ⟨i, by rw [RSt.pub_len]; omega, hc7⟩))], rfl⟩
   simp only [beq_iff_eq, beq_eq_false_iff_ne, ne_eq] at hc7
   refine Ql (Qj ?_)
   refine Qn ?_
   refine L (lds 2 ?_)
   refine os 1 ?_
   refine L (cl (rf_ProtoW hR (w := (upN R.pub p i)) (upN_ok hP hwp _)) ?_ (hp := RSt.pm))
   rintro _ _ rfl
   refine SL_sig _ RSt.eq ?_
   refine os 1 ?_
   refine kp [8, 37, 32, 0, 1, 2, 3, 6, 7, 9] ?_
   refine SL_nil (n_in (Qj ?_))
   refine Qn ?_
   refine os 3 ?_
   refine nt ?_
   exact ⟨i + 1, by omega, ⟨fun _ => rfl, ow⟩, by omega, fun j hj => by by_cases q_ : j = i; (subst q_; exact hc7); exact hi1 j (by omega)⟩
  refine SW_exit (x_then (x_then (x_in (Qj ?_))))
  refine SW_seq ?_
  refine SW_perm _ (perm_cc (perm_cc (perm_ca perm_cz))) ?_
  refine SW_perm ((Gs.ent 9 1 x.ns (x.names.map encS)) ++ ((Gs.ent 45 3 x.ds (x.descs.flatMap Qk)) ++ ((Gs.ent 33 1 x.es (x.elems.map encU)) ++ ((Gs.ent 33 1 x.is (x.inner.map encU)) ++ (((List.eraseIdx R.objs n).flatMap RObj.ent) ++ ((b2, .cells 28 2 [.slice none 0 0, .slice none 0 0]) :: ((b1, .cells 28 2 [Gs.val R.s R.objs.length, Gs.val R.ts R.texts.length]) :: ((Gs.ent 104 7 R.s (R.objs.flatMap RObj.cells)) ++ ((Gs.ent 9 1 R.ts (R.texts.map encS)) ++ ([])))))))))) (robj_focus hx _) ?_
  refine Qn ?_
  refine os 1 ?_
  refine L (ld ?_)
  refine os 1 ?_
  refine L (ixg (n : Int) (n * 7) hR.row Tryz.underlying25 ?_)
  refine L (ldr [.int .i64 x.kind, .int .u64 x.proto, .bool x.shut, Gs.val x.ns x.names.length, Gs.val x.ds x.descs.length, Gs.val x.es x.elems.length, Gs.val x.is x.inner.length] (Qb (Gs.cell hR.row (fun e he => (Qa (Qa (Qa (Qa (Qa (Qc (Qc (mem_h he))))))))) (Qh RObj.len hx (j := 0) (by decide) rfl)) (Qb (Gs.cell hR.row (fun e he => (Qa (Qa (Qa (Qa (Qa (Qc (Qc (mem_h he))))))))) (Qh RObj.len hx (j := 1) (by decide) rfl)) (Qb (Gs.cell hR.row (fun e he => (Qa (Qa (Qa (Qa (Qa (Qc (Qc (mem_h he))))))))) (Qh RObj.len hx (j := 2) (by decide) rfl)) (Qb (Gs.cell hR.row (fun e he => (Qa (Qa (Qa (Qa (Qa (Qc (Qc (mem_h he))))))))) (Qh RObj.len hx (j := 3) (by decide) rfl)) (Qb (Gs.cell hR.row (fun e he => (Qa (Qa (Qa (Qa (Qa (Qc (Qc (mem_h he))))))))) (Qh RObj.len hx (j := 4) (by decide) rfl)) (Qb (Gs.cell hR.row (fun e he => (Qa (Qa (Qa (Qa (Qa (Qc (Qc (mem_h he))))))))) (Qh RObj.len hx (j := 5) (by decide) rfl)) (Qb (Gs.cell hR.row (fun e he => (Qa (Qa (Qa (Qa (Qa (Qc (Qc (mem_h he))))))))) (Qh RObj.len hx (j := 6) (by decide) rfl)) Qo))))))) ?_)
  refine L (nw 104 7 [.int .i64 0, .int .u64 0, .bool false, .slice none 0 0, .slice none 0 0, .slice none 0 0, .slice none 0 0] ?_)
  intro b8
  refine L (st [.int .i64 x.kind, .int .u64 x.proto, .bool x.shut, Gs.val x.ns x.names.length, Gs.val x.ds x.descs.length, Gs.val x.es x.elems.length, Gs.val x.is x.inner.length] ?_)
  refine nsr ?_
  refine os 2 ?_
  refine L (st [.int .i64 x.kind, .int .u64 p, .bool x.shut, Gs.val x.ns x.names.length, Gs.val x.ds x.descs.length, Gs.val x.es x.elems.length, Gs.val x.is x.inner.length] ?_)
  refine nsr ?_
  refine L (lds 2 ?_)
  refine os 1 ?_
  refine kp [50, 49, 10, 32, 0, 1, 2, 3, 6, 7, 8, 9] ?_
  refine L (lds 7 ?_)
  refine L (cl (rf_with (RObj.mk x.kind p x.shut x.ns x.names x.ds x.descs x.es x.elems x.is x.inner) hR.row hx) ?_)
  rintro _ _ rfl
  refine L (st [Gs.val R.s R.objs.length, Gs.val R.ts R.texts.length] ?_)
  refine nt ?_
  refine Qi ?_
  refine body_endC [.agg #[Gs.val R.s R.objs.length, Gs.val R.ts R.texts.length]] (fun _ => (.cons ⟨b2, 0, rfl, .inl ⟨[Gs.val R.s R.objs.length, Gs.val R.ts R.texts.length], by kernel_rfl, (Qb (Cell.own Qe rfl) (Qb (Cell.own Qe rfl) Qo)), rfl⟩⟩ .nil)) ?_
  refine ⟨R.put n (RObj.mk x.kind p x.shut x.ns x.names x.ds x.descs x.es x.elems x.is x.inner), ?_, by simp only [RSt.val, RSt.put, List.length_set]; rfl, hR.put hx ⟨(show Gs.ok 1 (x.names).length x.ns (x.names.map encS) from (RSt.ok.at (x := x) hR hx).ns), (show Gs.ok 3 (x.descs).length x.ds (x.descs.flatMap Qk) from (RSt.ok.at (x := x) hR hx).ds), (show Gs.ok 1 (x.elems).length x.es (x.elems.map encU) from (RSt.ok.at (x := x) hR hx).es), (show Gs.ok 1 (x.inner).length x.is (x.inner.map encU) from (RSt.ok.at (x := x) hR hx).is)⟩, ?_, rfl⟩
  · exact Own.trans (ow (S := ((Gs.ent 104 7 R.s ((List.set R.objs n (RObj.mk x.kind p x.shut x.ns x.names x.ds x.descs x.es x.elems x.is x.inner)).flatMap RObj.cells)) ++ ((Gs.ent 9 1 x.ns (x.names.map encS)) ++ ((Gs.ent 45 3 x.ds (x.descs.flatMap Qk)) ++ ((Gs.ent 33 1 x.es (x.elems.map encU)) ++ ((Gs.ent 33 1 x.is (x.inner.map encU)) ++ (((List.eraseIdx R.objs n).flatMap RObj.ent) ++ ((Gs.ent 9 1 R.ts (R.texts.map encS)) ++ ([])))))))))) (Own.of_perm (RSt.back hx (RObj.mk x.kind p x.shut x.ns x.names x.ds x.descs x.es x.elems x.is x.inner)))
  · rw [RSt.pub_put, reproP_yes (by rw [RSt.pub_len]; exact h0) (RSt.pub_at hx)]; rfl
    · rintro ⟨q1, q2⟩; rw [RSt.pub_len] at q2; first | exact absurd q2 (by simp_all) | exact q1 (by assumption)
    · cases hq_ : hitP R.pub p w with
      | false => rfl
      | true => obtain ⟨j, j1, j2⟩ := hitP_iff.1 hq_; rw [RSt.pub_len] at j1; exact absurd j2 (hi1 j (by omega))
 replace hg4 : (p != 18445336698825998337) = false := hg4
 simp only [beq_iff_eq, bne_iff_ne, ne_eq, beq_eq_false_iff_ne, bne_eq_false_iff_eq] at hg4
 refine os 6 ?_
 refine kp [25, 7, 6, 3, 0, 1, 2] ?_
 refine nt ?_
 refine cf ?_
 refine Ql (Qj ?_)
 refine sr ?_
 refine os 2 ?_
 refine nq ?_
 refine sr ?_
 refine os 1 ?_
 refine nt ?_
 refine SW_block ?_
 refine SW_loop (α := Nat) (fun z_ ρ_ σ_ => Fits ρ_ σ_ [(0, .agg #[Gs.val R.s R.objs.length, Gs.val R.ts R.texts.length]), (1, .int .u64 w), (2, .int .u64 p), (3, pt b1 0), (6, pt b2 0), (7, .int .i64 (n : Int)), (8, .int .u64 (upN R.pub p z_)), (9, .int .i64 (z_ : Int))] ((b2, .cells 28 2 [.slice none 0 0, .slice none 0 0]) :: ((b1, .cells 28 2 [Gs.val R.s R.objs.length, Gs.val R.ts R.texts.length]) :: ((Gs.ent 104 7 R.s (R.objs.flatMap RObj.cells)) ++ ((R.objs.flatMap RObj.ent) ++ ((Gs.ent 9 1 R.ts (R.texts.map encS)) ++ ([])))))) ∧ z_ ≤ R.objs.length + 1 ∧ (∀ j, j < z_ → upN R.pub p j ≠ w)) (fun z_ => R.objs.length + 1 - z_) 0 ⟨⟨fun _ => rfl, ow⟩, Nat.zero_le _, fun j hj => absurd hj (Nat.not_lt_zero j)⟩ ?_
 rintro i ρ_ σ_ ⟨hfit, hi0, hi1⟩
 refine SW_fits hfit ?_
 clear hfit
 refine SW_seq ?_
 refine sr ?_
 refine os 2 ?_
 refine L (ld ?_)
 refine os 2 ?_
 refine kp [32, 0, 1, 2, 3, 6, 7, 8, 9] ?_
 refine nt ?_
 refine cdp (fun hc9 : (i : Int) ≤ (R.objs.length : Int) => ?_) (fun hc9 => ?_)
 ·refine Ql (Qj ?_)
  refine SW_seq ?_
  refine SW_block ?_
  refine SW_seq ?_
  refine sr ?_
  refine os 3 ?_
  refine nt ?_
  refine cd (fun hc10 : ((upN R.pub p i) == w) = true => ?_) (fun hc10 => ?_)
  ·simp only [beq_iff_eq, beq_eq_false_iff_ne, ne_eq] at hc10
   refine sr ?_
   refine L (lds 2 ?_)
   refine L (st [Gs.val R.s R.objs.length, Gs.val R.ts R.texts.length] ?_)
   refine nt ?_
   refine Qi (Qm (r_in (Qm (Qm (r_in (Qm ?_))))))
   refine body_endC [.agg #[Gs.val R.s R.objs.length, Gs.val R.ts R.texts.length]] (fun _ => (.cons ⟨b2, 0, rfl, .inl ⟨[Gs.val R.s R.objs.length, Gs.val R.ts R.texts.length], by kernel_rfl, (Qb (Cell.own Qe rfl) (Qb (Cell.own Qe rfl) Qo)), rfl⟩⟩ .nil)) ?_
   exact ⟨R, RSt.own, rfl, hR, by rw [reproP_no (.inr (hitP_iff.2 ⟨i, by rw [RSt.pub_len]; omega, hc10⟩))], rfl⟩
  simp only [beq_iff_eq, beq_eq_false_iff_ne, ne_eq] at hc10
  refine Ql (Qj ?_)
  refine Qn ?_
  refine L (lds 2 ?_)
  refine os 1 ?_
  refine L (cl (rf_ProtoW hR (w := (upN R.pub p i)) (upN_ok hP hwp _)) ?_ (hp := RSt.pm))
  rintro _ _ rfl
  refine SL_sig _ RSt.eq ?_
  refine os 1 ?_
  refine kp [8, 37, 32, 0, 1, 2, 3, 6, 7, 9] ?_
  refine SL_nil (n_in (Qj ?_))
  refine Qn ?_
  refine os 3 ?_
  refine nt ?_
  exact ⟨i + 1, by omega, ⟨fun _ => rfl, ow⟩, by omega, fun j hj => by by_cases q_ : j = i; (subst q_; exact hc10); exact hi1 j (by omega)⟩
 refine SW_exit (x_then (x_then (x_in (Qj ?_))))
 refine SW_seq ?_
 refine SW_perm _ (perm_cc (perm_cc (perm_ca perm_cz))) ?_
 refine SW_perm ((Gs.ent 9 1 x.ns (x.names.map encS)) ++ ((Gs.ent 45 3 x.ds (x.descs.flatMap Qk)) ++ ((Gs.ent 33 1 x.es (x.elems.map encU)) ++ ((Gs.ent 33 1 x.is (x.inner.map encU)) ++ (((List.eraseIdx R.objs n).flatMap RObj.ent) ++ ((b2, .cells 28 2 [.slice none 0 0, .slice none 0 0]) :: ((b1, .cells 28 2 [Gs.val R.s R.objs.length, Gs.val R.ts R.texts.length]) :: ((Gs.ent 104 7 R.s (R.objs.flatMap RObj.cells)) ++ ((Gs.ent 9 1 R.ts (R.texts.map encS)) ++ ([])))))))))) (robj_focus hx _) ?_
 refine Qn ?_
 refine os 1 ?_
 refine L (ld ?_)
 refine os 1 ?_
 refine L (ixg (n : Int) (n * 7) hR.row Tryz.underlying25 ?_)
 refine L (ldr [.int .i64 x.kind, .int .u64 x.proto, .bool x.shut, Gs.val x.ns x.names.length, Gs.val x.ds x.descs.length, Gs.val x.es x.elems.length, Gs.val x.is x.inner.length] (Qb (Gs.cell hR.row (fun e he => (Qa (Qa (Qa (Qa (Qa (Qc (Qc (mem_h he))))))))) (Qh RObj.len hx (j := 0) (by decide) rfl)) (Qb (Gs.cell hR.row (fun e he => (Qa (Qa (Qa (Qa (Qa (Qc (Qc (mem_h he))))))))) (Qh RObj.len hx (j := 1) (by decide) rfl)) (Qb (Gs.cell hR.row (fun e he => (Qa (Qa (Qa (Qa (Qa (Qc (Qc (mem_h he))))))))) (Qh RObj.len hx (j := 2) (by decide) rfl)) (Qb (Gs.cell hR.row (fun e he => (Qa (Qa (Qa (Qa (Qa (Qc (Qc (mem_h he))))))))) (Qh RObj.len hx (j := 3) (by decide) rfl)) (Qb (Gs.cell hR.row (fun e he => (Qa (Qa (Qa (Qa (Qa (Qc (Qc (mem_h he))))))))) (Qh RObj.len hx (j := 4) (by decide) rfl)) (Qb (Gs.cell hR.row (fun e he => (Qa (Qa (Qa (Qa (Qa (Qc (Qc (mem_h he))))))))) (Qh RObj.len hx (j := 5) (by decide) rfl)) (Qb (Gs.cell hR.row (fun e he => (Qa (Qa (Qa (Qa (Qa (Qc (Qc (mem_h he))))))))) (Qh RObj.len hx (j := 6) (by decide) rfl)) Qo))))))) ?_)
 refine L (nw 104 7 [.int .i64 0, .int .u64 0, .bool false, .slice none 0 0, .slice none 0 0, .slice none 0 0, .slice none 0 0] ?_)
 intro b11
 refine L (st [.int .i64 x.kind, .int .u64 x.proto, .bool x.shut, Gs.val x.ns x.names.length, Gs.val x.ds x.descs.length, Gs.val x.es x.elems.length, Gs.val x.is x.inner.length] ?_)
 refine nsr ?_
 refine os 2 ?_
 refine L (st [.int .i64 x.kind, .int .u64 p, .bool x.shut, Gs.val x.ns x.names.length, Gs.val x.ds x.descs.length, Gs.val x.es x.elems.length, Gs.val x.is x.inner.length] ?_)
 refine nsr ?_
 refine L (lds 2 ?_)
 refine os 1 ?_
 refine kp [50, 49, 10, 32, 0, 1, 2, 3, 6, 7, 8, 9] ?_
 refine L (lds 7 ?_)
 refine L (cl (rf_with (RObj.mk x.kind p x.shut x.ns x.names x.ds x.descs x.es x.elems x.is x.inner) hR.row hx) ?_)
 rintro _ _ rfl
 refine L (st [Gs.val R.s R.objs.length, Gs.val R.ts R.texts.length] ?_)
 refine nt ?_
 refine Qi ?_
 refine body_endC [.agg #[Gs.val R.s R.objs.length, Gs.val R.ts R.texts.length]] (fun _ => (.cons ⟨b2, 0, rfl, .inl ⟨[Gs.val R.s R.objs.length, Gs.val R.ts R.texts.length], by kernel_rfl, (Qb (Cell.own Qe rfl) (Qb (Cell.own Qe rfl) Qo)), rfl⟩⟩ .nil)) ?_
 refine ⟨R.put n (RObj.mk x.kind p x.shut x.ns x.names x.ds x.descs x.es x.elems x.is x.inner), ?_, by simp only [RSt.val, RSt.put, List.length_set]; rfl, hR.put hx ⟨(show Gs.ok 1 (x.names).length x.ns (x.names.map encS) from (RSt.ok.at (x := x) hR hx).ns), (show Gs.ok 3 (x.descs).length x.ds (x.descs.flatMap Qk) from (RSt.ok.at (x := x) hR hx).ds), (show Gs.ok 1 (x.elems).length x.es (x.elems.map encU) from (RSt.ok.at (x := x) hR hx).es), (show Gs.ok 1 (x.inner).length x.is (x.inner.map encU) from (RSt.ok.at (x := x) hR hx).is)⟩, ?_, rfl⟩
 · exact Own.trans (ow (S := ((Gs.ent 104 7 R.s ((List.set R.objs n (RObj.mk x.kind p x.shut x.ns x.names x.ds x.descs x.es x.elems x.is x.inner)).flatMap RObj.cells)) ++ ((Gs.ent 9 1 x.ns (x.names.map encS)) ++ ((Gs.ent 45 3 x.ds (x.descs.flatMap Qk)) ++ ((Gs.ent 33 1 x.es (x.elems.map encU)) ++ ((Gs.ent 33 1 x.is (x.inner.map encU)) ++ (((List.eraseIdx R.objs n).flatMap RObj.ent) ++ ((Gs.ent 9 1 R.ts (R.texts.map encS)) ++ ([])))))))))) (Own.of_perm (RSt.back hx (RObj.mk x.kind p x.shut x.ns x.names x.ds x.descs x.es x.elems x.is x.inner)))
 · rw [RSt.pub_put, reproP_yes (by rw [RSt.pub_len]; exact h0) (RSt.pub_at hx)]; rfl
   · rintro ⟨q1, q2⟩; rw [RSt.pub_len] at q2; first | exact absurd q2 (by simp_all) | exact q1 (by assumption)
   · cases hq_ : hitP R.pub p w with
     | false => rfl
     | true => obtain ⟨j, j1, j2⟩ := hitP_iff.1 hq_; rw [RSt.pub_len] at j1; exact absurd j2 (hi1 j (by omega))

theorem rf_Get_none {W0 : World} {R : RSt} (hR : R.ok) {w : Int} (hw : wordOk w) (h0 : objAt w R.objs.length = none) (key : ByteArray) : SC Tryz.prog W0 81 #[R.val, .int .u64 w, .string key] R.ent (Ret (fun _ : Unit => R.ent) (fun v _ => v = descR none)) := by
 refine SC_body (fn := Tryz.f81) (n := 35) Tryz.func81 rfl (by kernel_rfl) (ρ := [(0, .agg #[Gs.val R.s R.objs.length, Gs.val R.ts R.texts.length]), (1, .int .u64 w), (2, .string key)]) rfl ?_
 refine SW_sig _ RSt.eq0 ?_
 refine sr ?_
 refine L (nw 28 2 [Gs.val R.s R.objs.length, Gs.val R.ts R.texts.length] ?_)
 intro b1
 refine L (nw 45 3 [.int .u64 0, .int .u64 0, .int .i64 0] ?_)
 intro b2
 refine os 1 ?_
 refine nsr ?_
 refine L (lds 2 ?_)
 refine os 1 ?_
 refine L (cl (rf_At (R := RSt.mk R.s R.objs R.ts R.texts) hw (w := w)) ?_)
 rintro v1 _ hv1
 obtain rfl : v1 = .int .i64 (-1) := hv1.trans (by simp only []; unfold atI; rw [h0])
 refine un ?_
 refine os 1 ?_
 refine kp [8, 7, 6, 3, 0, 1, 2] ?_
 refine nq ?_
 refine sr ?_
 refine os 1 ?_
 refine oV (.bool true) ?_
 refine nt ?_
 refine ct ?_
 refine sr ?_
 refine oV (.agg #[.int .u64 0, .int .u64 0, .int .i64 0]) ?_
 refine L (st [.int .u64 0, .int .u64 0, .int .i64 0] ?_)
 refine os 1 ?_
 refine nt ?_
 refine Qi (Qm ?_)
 refine body_endC [.agg #[.int .u64 0, .int .u64 0, .int .i64 0], .bool false] (fun _ => (.cons ⟨b2, 0, rfl, .inl ⟨[.int .u64 0, .int .u64 0, .int .i64 0], by kernel_rfl, (Qb (Cell.own Qe rfl) (Qb (Cell.own Qe rfl) (Qb (Cell.own Qe rfl) Qo))), rfl⟩⟩ (.cons rfl .nil))) ?_
 exact ⟨(), RSt.own, rfl⟩

theorem rf_Get_some {W0 : World} {R : RSt} (hR : R.ok) {w : Int} (hw : wordOk w) {n : Nat} {x : RObj} (h0 : objAt w R.objs.length = some n) (hx : R.objs[n]? = some x) (hlen : x.names.length = x.descs.length) (key : ByteArray) : SC Tryz.prog W0 81 #[R.val, .int .u64 w, .string key] R.ent (Ret (fun _ : Unit => R.ent) (fun v _ => v = descR (getP x.names x.descs key))) := by
 have hnl := (List.getElem?_eq_some_iff.1 hx).1
 refine SC_body (fn := Tryz.f81) (n := 35) Tryz.func81 rfl (by kernel_rfl) (ρ := [(0, .agg #[Gs.val R.s R.objs.length, Gs.val R.ts R.texts.length]), (1, .int .u64 w), (2, .string key)]) rfl ?_
 refine SW_sig _ RSt.eq0 ?_
 have hixl : 0 ≤ ixS x.names key → (ixS x.names key).toNat < x.descs.length := fun q => by have q2 := (List.getElem?_eq_some_iff.1 (ixS_some q)).1; omega
 refine SW_perm _ (perm_ca perm_cz) ?_
 refine SW_perm ((Gs.ent 9 1 x.ns (x.names.map encS)) ++ ((Gs.ent 45 3 x.ds (x.descs.flatMap Qk)) ++ ((Gs.ent 33 1 x.es (x.elems.map encU)) ++ ((Gs.ent 33 1 x.is (x.inner.map encU)) ++ (((List.eraseIdx R.objs n).flatMap RObj.ent) ++ ((Gs.ent 104 7 R.s (R.objs.flatMap RObj.cells)) ++ ((Gs.ent 9 1 R.ts (R.texts.map encS)) ++ ([])))))))) (robj_focus hx _) ?_
 refine sr ?_
 refine L (nw 28 2 [Gs.val R.s R.objs.length, Gs.val R.ts R.texts.length] ?_)
 intro b1
 refine L (nw 45 3 [.int .u64 0, .int .u64 0, .int .i64 0] ?_)
 intro b2
 refine os 1 ?_
 refine nsr ?_
 refine L (lds 2 ?_)
 refine os 1 ?_
 refine L (cl (rf_At (R := RSt.mk R.s R.objs R.ts R.texts) hw (w := w)) ?_)
 rintro v1 _ hv1
 obtain rfl : v1 = .int .i64 (n : Int) := hv1.trans (by simp only []; unfold atI; rw [h0])
 refine un ?_
 refine os 1 ?_
 refine kp [8, 7, 6, 3, 0, 1, 2] ?_
 refine nq ?_
 refine sr ?_
 refine os 2 ?_
 refine nt ?_
 refine SW_false (fun _ => (congrArg Value.bool (show (decide ((n : Int) < 0)) = false from (by simp)))) ?_
 refine Ql (Qj ?_)
 refine sr ?_
 refine os 1 ?_
 refine L (ld ?_)
 refine os 1 ?_
 refine L (ixg (n : Int) (n * 7) hR.row Tryz.underlying25 ?_)
 refine L (ldr [.int .i64 x.kind, .int .u64 x.proto, .bool x.shut, Gs.val x.ns x.names.length, Gs.val x.ds x.descs.length, Gs.val x.es x.elems.length, Gs.val x.is x.inner.length] (Qb (Gs.cell hR.row (fun e he => (Qc (Qc (Qa (Qa (Qa (Qa (Qa (mem_h he))))))))) (Qh RObj.len hx (j := 0) (by decide) rfl)) (Qb (Gs.cell hR.row (fun e he => (Qc (Qc (Qa (Qa (Qa (Qa (Qa (mem_h he))))))))) (Qh RObj.len hx (j := 1) (by decide) rfl)) (Qb (Gs.cell hR.row (fun e he => (Qc (Qc (Qa (Qa (Qa (Qa (Qa (mem_h he))))))))) (Qh RObj.len hx (j := 2) (by decide) rfl)) (Qb (Gs.cell hR.row (fun e he => (Qc (Qc (Qa (Qa (Qa (Qa (Qa (mem_h he))))))))) (Qh RObj.len hx (j := 3) (by decide) rfl)) (Qb (Gs.cell hR.row (fun e he => (Qc (Qc (Qa (Qa (Qa (Qa (Qa (mem_h he))))))))) (Qh RObj.len hx (j := 4) (by decide) rfl)) (Qb (Gs.cell hR.row (fun e he => (Qc (Qc (Qa (Qa (Qa (Qa (Qa (mem_h he))))))))) (Qh RObj.len hx (j := 5) (by decide) rfl)) (Qb (Gs.cell hR.row (fun e he => (Qc (Qc (Qa (Qa (Qa (Qa (Qa (mem_h he))))))))) (Qh RObj.len hx (j := 6) (by decide) rfl)) Qo))))))) ?_)
 refine os 1 ?_
 refine L (cl (rf_place (show Gs.ok 1 (x.names).length x.ns (x.names.map encS) from (RSt.ok.at (x := x) hR hx).ns) key) ?_)
 rintro _ _ rfl
 refine os 1 ?_
 refine kp [9, 14, 8, 7, 6, 3, 0, 1, 2] ?_
 refine nq ?_
 refine sr ?_
 refine os 2 ?_
 refine nt ?_
 refine cdp (fun hc3 : (ixS x.names key) < 0 => ?_) (fun hc3 => ?_)
 ·refine sr ?_
  refine oV (.agg #[.int .u64 0, .int .u64 0, .int .i64 0]) ?_
  refine L (st [.int .u64 0, .int .u64 0, .int .i64 0] ?_)
  refine os 1 ?_
  refine nt ?_
  refine Qi (Qm ?_)
  refine body_endC [.agg #[.int .u64 0, .int .u64 0, .int .i64 0], .bool false] (fun _ => (.cons ⟨b2, 0, rfl, .inl ⟨[.int .u64 0, .int .u64 0, .int .i64 0], by kernel_rfl, (Qb (Cell.own Qe rfl) (Qb (Cell.own Qe rfl) (Qb (Cell.own Qe rfl) Qo))), rfl⟩⟩ (.cons rfl .nil))) ?_
  refine ⟨(), (Own.trans (ow (S := ((Gs.ent 104 7 R.s (R.objs.flatMap RObj.cells)) ++ ((Gs.ent 9 1 x.ns (x.names.map encS)) ++ ((Gs.ent 45 3 x.ds (x.descs.flatMap Qk)) ++ ((Gs.ent 33 1 x.es (x.elems.map encU)) ++ ((Gs.ent 33 1 x.is (x.inner.map encU)) ++ (((List.eraseIdx R.objs n).flatMap RObj.ent) ++ ((Gs.ent 9 1 R.ts (R.texts.map encS)) ++ ([])))))))))) (Own.of_perm (by simpa only [RSt.put, set_same hx] using RSt.back hx x))), ?_⟩
  rw [show getP x.names x.descs key = none from if_pos (by omega)]; rfl
 refine Ql (Qj ?_)
 refine SW_seq ?_
 have hixn := hixl (by omega)
 refine Qn ?_
 refine os 1 ?_
 refine L (ld ?_)
 refine os 1 ?_
 refine L (ixg (n : Int) (n * 7) hR.row Tryz.underlying25 ?_)
 refine os 1 ?_
 refine L (ld ?_ (hc := Gs.cell hR.row (fun e he => (Qa (Qc (Qc (Qa (Qa (Qa (Qa (mem_h he))))))))) (Qh RObj.len hx (j := 4) (by decide) rfl)))
 refine os 1 ?_
 refine kp [32, 31, 24, 9, 14, 8, 7, 6, 3, 0, 1, 2] ?_
 refine L (ixg (ixS x.names key) (((ixS x.names key).toNat) * 3) (show Gs.ok 3 (x.descs).length x.ds (x.descs.flatMap Qk) from (RSt.ok.at (x := x) hR hx).ds) Tryz.underlying99 ?_)
 obtain ⟨e1, he1⟩ : ∃ y_, x.descs[((ixS x.names key).toNat)]? = some y_ := ⟨_, List.getElem?_eq_getElem (by omega)⟩
 refine L (ldr [.int .u64 e1.1, .int .u64 e1.2.1, .int .i64 e1.2.2] (Qb (Gs.cell (show Gs.ok 3 (x.descs).length x.ds (x.descs.flatMap Qk) from (RSt.ok.at (x := x) hR hx).ds) (fun e he => (Qa (Qc (Qc (mem_h he))))) (Qh descCells_len he1 (j := 0) (by decide) rfl)) (Qb (Gs.cell (show Gs.ok 3 (x.descs).length x.ds (x.descs.flatMap Qk) from (RSt.ok.at (x := x) hR hx).ds) (fun e he => (Qa (Qc (Qc (mem_h he))))) (Qh descCells_len he1 (j := 1) (by decide) rfl)) (Qb (Gs.cell (show Gs.ok 3 (x.descs).length x.ds (x.descs.flatMap Qk) from (RSt.ok.at (x := x) hR hx).ds) (fun e he => (Qa (Qc (Qc (mem_h he))))) (Qh descCells_len he1 (j := 2) (by decide) rfl)) Qo))) ?_)
 refine L (st [.int .u64 e1.1, .int .u64 e1.2.1, .int .i64 e1.2.2] ?_)
 refine os 1 ?_
 refine kp [7, 24, 9, 14, 8, 6, 3, 0, 1, 2] ?_
 refine nt ?_
 refine Qi ?_
 refine body_endC [.agg #[.int .u64 e1.1, .int .u64 e1.2.1, .int .i64 e1.2.2], .bool true] (fun _ => (.cons ⟨b2, 0, rfl, .inl ⟨[.int .u64 e1.1, .int .u64 e1.2.1, .int .i64 e1.2.2], by kernel_rfl, (Qb (Cell.own Qe rfl) (Qb (Cell.own Qe rfl) (Qb (Cell.own Qe rfl) Qo))), rfl⟩⟩ (.cons rfl .nil))) ?_
 refine ⟨(), (Own.trans (ow (S := ((Gs.ent 104 7 R.s (R.objs.flatMap RObj.cells)) ++ ((Gs.ent 9 1 x.ns (x.names.map encS)) ++ ((Gs.ent 45 3 x.ds (x.descs.flatMap Qk)) ++ ((Gs.ent 33 1 x.es (x.elems.map encU)) ++ ((Gs.ent 33 1 x.is (x.inner.map encU)) ++ (((List.eraseIdx R.objs n).flatMap RObj.ent) ++ ((Gs.ent 9 1 R.ts (R.texts.map encS)) ++ ([])))))))))) (Own.of_perm (by simpa only [RSt.put, set_same hx] using RSt.back hx x))), ?_⟩
 rw [show getP x.names x.descs key = some _ from (if_neg (by omega)).trans he1]; rfl

theorem rf_Elem_some {W0 : World} {R : RSt} (hR : R.ok) {w : Int} (hw : wordOk w) {n : Nat} {x : RObj} (h0 : objAt w R.objs.length = some n) (hx : R.objs[n]? = some x) (m : Int) : SC Tryz.prog W0 80 #[R.val, .int .u64 w, .int .i64 m] R.ent (Ret (fun _ : Unit => R.ent) (fun v _ => v = .tuple #[.int .u64 (elemO x.elems m).1, .bool (elemO x.elems m).2])) := by
 have hnl := (List.getElem?_eq_some_iff.1 hx).1
 refine SC_body (fn := Tryz.f80) (n := 32) Tryz.func80 rfl (by kernel_rfl) (ρ := [(0, .agg #[Gs.val R.s R.objs.length, Gs.val R.ts R.texts.length]), (1, .int .u64 w), (2, .int .i64 m)]) rfl ?_
 refine SW_sig _ RSt.eq0 ?_
 refine sr ?_
 refine L (nw 28 2 [Gs.val R.s R.objs.length, Gs.val R.ts R.texts.length] ?_)
 intro b1
 refine os 2 ?_
 refine nq ?_
 refine sr ?_
 refine os 3 ?_
 refine tbp 11 (fun hg2 => ?_) (fun hg2 => ?_)
 ·replace hg2 : m < 0 := hg2
  refine os 6 ?_
  refine kp [17, 7, 6, 3, 0, 1, 2] ?_
  refine nt ?_
  refine ct ?_
  refine sr ?_
  refine os 2 ?_
  refine nt ?_
  refine Qi (Qm ?_)
  refine Qg (.tuple #[.int .u64 18445336698825998336, .bool false]) (fun _ => rfl) ?_
  refine ⟨(), RSt.own, ?_⟩
  rw [show elemO x.elems m = (18445336698825998336, false) from if_neg (by omega)]
 replace hg2 : ¬ (m < 0) := hg2
 refine os 1 ?_
 refine L (lds 2 ?_)
 refine os 1 ?_
 refine L (cl (rf_Len_some hR hw h0 hx) ?_ (hp := RSt.pm))
 rintro _ _ rfl
 refine SL_sig _ RSt.eq ?_
 refine os 2 ?_
 refine kp [17, 7, 6, 3, 0, 1, 2] ?_
 refine nt ?_
 refine cdp (fun hc3 : m ≥ (x.elems.length : Int) => ?_) (fun hc3 => ?_)
 ·refine sr ?_
  refine os 2 ?_
  refine nt ?_
  refine Qi (Qm ?_)
  refine Qg (.tuple #[.int .u64 18445336698825998336, .bool false]) (fun _ => rfl) ?_
  refine ⟨(), RSt.own, ?_⟩
  rw [show elemO x.elems m = (18445336698825998336, false) from if_neg (by omega)]
 refine Ql (Qj ?_)
 refine SW_seq ?_
 obtain ⟨e1, he1⟩ : ∃ y_, x.elems[m.toNat]? = some y_ := ⟨_, List.getElem?_eq_getElem (by omega)⟩
 refine SW_draw [(b1, 0, Gs.val R.s R.objs.length), (b1, 0, Gs.val R.s R.objs.length), (b1, 1, Gs.val R.ts R.texts.length), ((Gs.blk R.s), n * 7 + 5, Gs.val x.es x.elems.length), ((Gs.blk x.es), m.toNat, .int .u64 e1)] [0, 1, 2, 3, 4, 5, 6, 7, 8, 9] (by kernel_rfl) (Qf (Cell.own (Qa (Qa (Qa Qe))) rfl) (Qf (Cell.own (Qa (Qa (Qa Qe))) rfl) (Qf (Cell.own (Qa (Qa (Qa Qe))) rfl) (Qf (Gs.cell hR.row (fun e he => (mem_h he)) (Qh RObj.len hx (j := 5) (by decide) rfl)) (Qf (Gs.cell (RSt.ok.at hR hx).es (fun e he => (Qa (mem_h ((RObj.mes hx) _ he)))) (map_cell he1 rfl)) rd_nil))))) ?_
 refine aF 0 ?_
 refine aL 1 ?_
 refine tr 2 (.agg #[Gs.val R.s R.objs.length, Gs.val R.ts R.texts.length]) ?_ (hy := fun δ w_ hr => Rd_loads b1 0 [Gs.val R.s R.objs.length, Gs.val R.ts R.texts.length] rfl (by kernel_rfl) (rdm_cons List.mem_cons_self (rdm_cons (List.mem_cons_of_mem _ (List.mem_cons_of_mem _ List.mem_cons_self)) rdm_nil)) hr)
 refine aS 3 ?_
 refine aS 8 ?_
 refine sa1 true 4 (h := cl (rf_At (R := RSt.mk R.s R.objs R.ts R.texts) hw (w := w)) ?_)
 rintro v3 _ hv3
 obtain rfl : v3 = .int .i64 (n : Int) := hv3.trans (by simp only []; unfold atI; rw [h0])
 try simp only [List.cons_append, List.append_assoc, List.nil_append]
 refine ⟨fun hnd => (Qf (Cell.own (Qa (Qa (Qa Qe))) rfl) (Qf (Cell.own (Qa (Qa (Qa Qe))) rfl) (Qf (Cell.own (Qa (Qa (Qa Qe))) rfl) (Qf (Gs.cell hR.row (fun e he => (mem_h he)) (Qh RObj.len hx (j := 5) (by decide) rfl)) (Qf (Gs.cell (RSt.ok.at hR hx).es (fun e he => (Qa (mem_h ((RObj.mes hx) _ he)))) (map_cell he1 rfl)) rd_nil))))), ?_⟩
 refine aI 5 (n : Int) (n * 7) hR.row Tryz.underlying25 ?_
 refine aF 6 ?_
 refine aL 7 ?_
 refine aI 9 m (m.toNat) ((RSt.ok.at hR hx).es) Tryz.underlying100 ?_
 refine kpA [27, 17, 7, 6, 3, 0, 1, 2] ?_
 refine aL 10 ?_
 refine aS 11 ?_
 refine SA_done (by kernel_rfl) (Qj ?_)
 refine SW_seq ?_
 refine sr ?_
 refine os 2 ?_
 refine kp [30, 8, 17, 7, 6, 3, 0, 1, 2] ?_
 refine nt ?_
 refine cd (fun hc4 : (e1 == 18445336698825998340) = true => ?_) (fun hc4 => ?_)
 ·simp only [beq_iff_eq, bne_iff_ne, ne_eq, beq_eq_false_iff_ne, bne_eq_false_iff_eq] at hc4
  refine sr ?_
  refine os 2 ?_
  refine nt ?_
  refine Qi (Qm ?_)
  refine Qg (.tuple #[.int .u64 18445336698825998336, .bool false]) (fun _ => rfl) ?_
  refine ⟨(), RSt.own, ?_⟩
  rw [show elemO x.elems m = (18445336698825998336, false) from by unfold elemO; rw [if_pos (by omega), he1]; exact if_pos hc4]
 simp only [beq_iff_eq, bne_iff_ne, ne_eq, beq_eq_false_iff_ne, bne_eq_false_iff_eq] at hc4
 refine Ql (Qj ?_)
 refine sr ?_
 refine os 3 ?_
 refine nt ?_
 refine Qi ?_
 refine Qg (.tuple #[.int .u64 e1, .bool true]) (fun _ => rfl) ?_
 refine ⟨(), RSt.own, ?_⟩
 rw [show elemO x.elems m = (e1, true) from by unfold elemO; rw [if_pos (by omega), he1]; exact if_neg hc4]

end Go.Proofs.YthflblophelioaaGreatDoor
namespace Go.Proofs.YthflblophelioaaGreatDoor
open Go.Sl
variable {k : Nat} {H : HeapV} {F : HeapF} {n : Nat} {x : ObjL} {W0 : World}
theorem objAt_inj {w v : Int} {len n : Nat} (h : objAt w len = some n) (k : objAt v len = some n) : w = v := by
 obtain ⟨h1, -⟩ := objAt_tag h
 obtain ⟨k1, -⟩ := objAt_tag k
 unfold tagOf at h1 k1
 split at h1 <;> split at k1 <;> first | (cases h1; done) | (cases k1; done) | skip
 have a := Option.some.inj h1
 have b := Option.some.inj k1
 omega
theorem objAt_null (len : Nat) : objAt 18445336698825998337 len = none := by
 unfold objAt tagOf
 rw [if_neg (by decide)]
theorem upN_null {l : List ObjS} {p : Int} {i : Nat} (h : objAt (upN l p i) l.length = none) : ∀ j, objAt (upN l p (i + j)) l.length = none
 | 0 => h
 | j + 1 => by
   show objAt (protoW l (upN l p (i + j))) l.length = none
   rw [protoW_none (upN_null h j)]
   exact objAt_null _
theorem upN_add {l : List ObjS} {p : Int} (i : Nat) : ∀ j, upN l p (i + j) = upN l (upN l p i) j
 | 0 => rfl
 | j + 1 => congrArg (protoW l) (upN_add i j)
theorem pigeon : ∀ (n : Nat) (f : Nat → Nat), (∀ i, i ≤ n → f i < n) → ∃ a b, a < b ∧ b ≤ n ∧ f a = f b
 | 0, f, h => absurd (h 0 (Nat.le_refl 0)) (Nat.not_lt_zero _)
 | n + 1, f, h => by
   by_cases hq : ∃ i, i ≤ n ∧ f i = f (n + 1)
   · obtain ⟨i, h1, h2⟩ := hq
     exact ⟨i, n + 1, by omega, Nat.le_refl _, h2⟩
   · have hne : ∀ i, i ≤ n → f i ≠ f (n + 1) := fun i hi e => hq ⟨i, hi, e⟩
     have hl := h (n + 1) (Nat.le_refl _)
     obtain ⟨a, b, h1, h2, h3⟩ := pigeon n (fun i => if f i = n then f (n + 1) else f i) (fun i hi => by
       have := h i (by omega)
       have := hne i hi
       show (if f i = n then f (n + 1) else f i) < n
       split <;> omega)
     have ha := hne a (by omega)
     have hb := hne b h2
     refine ⟨a, b, h1, by omega, ?_⟩
     split at h3 <;> split at h3 <;> omega
def Ends (l : List ObjS) (p : Int) : Prop := ∃ i, objAt (upN l p i) l.length = none
theorem Ends.bound {l : List ObjS} {p : Int} (h : Ends l p) : objAt (upN l p l.length) l.length = none := by
 apply Classical.byContradiction
 intro hc
 have hall : ∀ i, i ≤ l.length → ∃ m, objAt (upN l p i) l.length = some m := fun i hi => by
   cases q : objAt (upN l p i) l.length with
   | some m => exact ⟨m, rfl⟩
   | none =>
     refine absurd ?_ hc
     have := upN_null q (l.length - i)
     rwa [show i + (l.length - i) = l.length by omega] at this
 have hf : ∀ i, i ≤ l.length → (objAt (upN l p i) l.length).getD 0 < l.length := fun i hi => by
   obtain ⟨m, hm⟩ := hall i hi
   rw [hm]
   exact (objAt_tag hm).2
 obtain ⟨a, b, h1, h2, h3⟩ := pigeon l.length (fun i => (objAt (upN l p i) l.length).getD 0) hf
 obtain ⟨ma, ha⟩ := hall a (by omega)
 obtain ⟨mb, hb⟩ := hall b h2
 simp only [ha, hb, Option.getD_some] at h3
 subst h3
 have e : upN l p a = upN l p b := objAt_inj ha hb
 have hno : ∀ K, objAt (upN l p K) l.length ≠ none := by
   intro K
   induction K using Nat.strongRecOn with
   | _ K ih =>
     intro hK
     by_cases hl : K ≤ l.length
     · obtain ⟨m, hm⟩ := hall K hl
       rw [hm] at hK; cases hK
     · refine ih (a + (K - b)) (by omega) ?_
       rw [upN_add, e, ← upN_add, show b + (K - b) = K by omega]
       exact hK
 obtain ⟨i, hi⟩ := h
 exact hno i hi
theorem hitP_no {l : List ObjS} {p w : Int} {n i : Nat} (h0 : objAt w l.length = some n) (hi : objAt (upN l p i) l.length = none) (hb : ∀ j, j < i → upN l p j ≠ w) : hitP l p w = false := by
 cases h : hitP l p w with
 | false => rfl
 | true =>
   obtain ⟨j, h1, h2⟩ := hitP_iff.1 h
   by_cases hj : j < i
   · exact absurd h2 (hb j hj)
   · have := upN_null hi (j - i)
     rw [show i + (j - i) = j by omega, h2, h0] at this
     cases this
def moveS (t : TreeP) (p : PS) (rk : Int) : TreeP × PS := if p.shape < 0 then (t, p) else ((moveP t p.shape rk).1, stepS (moveP t p.shape rk).1 p (moveP t p.shape rk).2.1 (moveP t p.shape rk).2.2)
structure SameM (x x' : ObjL) (p : Int) : Prop where
  kind : x'.kind = x.kind
  proto : x'.proto = p
  shut : x'.shut = x.shut
  elems : x'.elems = x.elems
  inner : x'.inner = x.inner
  cell : x'.cell = if 0 ≤ x.cell then -1 else x.cell
abbrev ObjL.noC (x : ObjL) : ObjL := ⟨x.kind, x.proto, x.shut, x.shape, x.ns, x.names, x.vs, x.vals, x.es, x.elems, x.is, x.inner, 0⟩
abbrev HeapV.reg (H : HeapV) (objs : List ObjL) (cs : Gs) (cl : List CellL) : HeapV := ⟨H.s, objs, H.ts, H.texts, H.known, H.V, cs, cl, H.br⟩
abbrev GdP := List Int × List PCell
def HeapV.gd (H : HeapV) : GdP := (H.objs.map ObjL.cell, H.cl.map CellL.abs)
def valP (l : List PCell) (n : Int) : Bool := if 0 ≤ n ∧ n < l.length then (match l[n.toNat]? with | some c => c.1 | none => false) else false
def guardF (l : List ObjS) : Nat → Int → GdP → GdP × Int
 | 0, _, g => (g, -1)
 | k + 1, w, g => match objAt w l.length with
   | none => (g, -1)
   | some n => match l[n]?, g.1[n]? with
     | some o, some c => if 0 ≤ c ∧ valP g.2 c = true then (g, c) else
       let r := guardF l k o.proto g
       ((r.1.1.set n r.1.2.length, mkP r.1.2 r.2), (r.1.2.length : Int))
     | _, _ => (g, -1)
theorem guardF_none {l : List ObjS} {w : Int} (h : objAt w l.length = none) (k : Nat) (g : GdP) : guardF l k w g = (g, -1) := by
 cases k with
 | zero => rfl
 | succ k => unfold guardF; rw [h]
theorem guardF_old {l : List ObjS} {w : Int} {n : Nat} {o : ObjS} {c : Int} {g : GdP} (h : objAt w l.length = some n) (ho : l[n]? = some o) (hc : g.1[n]? = some c) (hv : 0 ≤ c ∧ valP g.2 c = true) (k : Nat) : guardF l (k + 1) w g = (g, c) := by
 rw [guardF, h]
 simp only [ho, hc]
 rw [if_pos hv]
theorem guardF_new {l : List ObjS} {w : Int} {n : Nat} {o : ObjS} {c : Int} {g : GdP} (h : objAt w l.length = some n) (ho : l[n]? = some o) (hc : g.1[n]? = some c) (hv : ¬ (0 ≤ c ∧ valP g.2 c = true)) (k : Nat) :
   guardF l (k + 1) w g = (((guardF l k o.proto g).1.1.set n (guardF l k o.proto g).1.2.length, mkP (guardF l k o.proto g).1.2 (guardF l k o.proto g).2), ((guardF l k o.proto g).1.2.length : Int)) := by
 rw [guardF, h]
 simp only [ho, hc]
 rw [if_neg hv]
theorem mkP_len (l : List PCell) (n : Int) : (mkP l n).length = l.length + 1 := by
 unfold mkP
 by_cases h : 0 ≤ n ∧ n < l.length
 · rw [if_pos h, List.getElem?_eq_getElem (show n.toNat < l.length by omega)]; simp
 · rw [if_neg h]; simp
structure CB (l : List PCell) : Prop where
  abv : abv l ≤ l.length
  each : ∀ c ∈ l, c.2.length ≤ l.length
theorem abv_append (a b : List PCell) : abv (a ++ b) = abv a + abv b := by simp [Go.Proofs.YthflblophelioaaGreatDoor.abv]
theorem abv_set {l : List PCell} {i : Nat} {c : PCell} (h : l[i]? = some c) (c' : PCell) : abv (l.set i c') + c.2.length = abv l + c'.2.length := by
 obtain ⟨l1, l2, rfl, rfl⟩ := split_at h
 rw [split_set rfl]
 simp [Go.Proofs.YthflblophelioaaGreatDoor.abv]; omega
theorem CB.mk' {l : List PCell} (h : CB l) (n : Int) : CB (mkP l n) := by
 refine ⟨?_, ?_⟩
 · rw [mkP_len]
   unfold mkP
   by_cases hn : 0 ≤ n ∧ n < l.length
   · have hc : l[n.toNat]? = some l[n.toNat] := List.getElem?_eq_getElem (show n.toNat < l.length by omega)
     rw [if_pos hn, hc]
     simp only []
     rw [abv_append]
     have := abv_set hc (l[n.toNat].1, l[n.toNat].2 ++ [(l.length : Int)])
     have := h.abv
     simp only [List.length_append, List.length_singleton] at *
     simp only [Go.Proofs.YthflblophelioaaGreatDoor.abv, List.map_cons, List.map_nil, List.length_nil, List.sum_cons, List.sum_nil] at *
     omega
   · rw [if_neg hn, abv_append]
     have := h.abv
     simp only [Go.Proofs.YthflblophelioaaGreatDoor.abv, List.map_cons, List.map_nil, List.length_nil, List.sum_cons, List.sum_nil] at *
     omega
 · rw [mkP_len]
   intro c hc
   unfold mkP at hc
   by_cases hn : 0 ≤ n ∧ n < l.length
   · have hg : l[n.toNat]? = some l[n.toNat] := List.getElem?_eq_getElem (show n.toNat < l.length by omega)
     rw [if_pos hn, hg] at hc
     simp only [] at hc
     rcases List.mem_append.1 hc with q | q
     · rcases List.mem_or_eq_of_mem_set q with q | rfl
       · have := h.each c q; omega
       · have := h.each _ (List.mem_of_getElem? hg)
         simp only [List.length_append, List.length_singleton]; omega
     · rw [List.mem_singleton.1 q]; exact Nat.zero_le _
   · rw [if_neg hn] at hc
     rcases List.mem_append.1 hc with q | q
     · have := h.each c q; omega
     · rw [List.mem_singleton.1 q]; exact Nat.zero_le _
structure GuardR (F : HeapF) (H : HeapV) (k : Nat) (w : Int) (r : List ObjL × Gs × List CellL) : Prop where
  ok : (H.reg r.1 r.2.1 r.2.2).ok F
  same : r.1.map ObjL.noC = H.objs.map ObjL.noC
  out : (r.1.map ObjL.cell, r.2.2.map CellL.abs) = (guardF (H.pub F) k w H.gd).1
  len : r.2.2.length ≤ H.cl.length + k
  cb : CB (r.2.2.map CellL.abs)
theorem CB.at {l : List CellL} (h : CB (l.map CellL.abs)) : ∀ c ∈ l, c.above.length ≤ l.length := fun c hc => by
 have := h.each _ (List.mem_map_of_mem hc)
 rwa [List.length_map] at this
theorem GuardR.at {w : Int} {r : List ObjL × Gs × List CellL} (h : GuardR F H k w r) {i : Nat} {y : ObjL} (hy : H.objs[i]? = some y) : ∃ z, r.1[i]? = some z ∧ z.noC = y.noC := by
 have e := congrArg (fun l => l[i]?) h.same
 simp only [List.getElem?_map, hy, Option.map_some] at e
 cases hz : r.1[i]? with
 | none => rw [hz] at e; cases e
 | some z => rw [hz] at e; exact ⟨z, rfl, by simpa using e⟩
theorem HeapV.gd_at (hx : H.objs[n]? = some x) : H.gd.1[n]? = some x.cell := by simp [HeapV.gd, hx]
end Go.Proofs.YthflblophelioaaGreatDoor
namespace Go.Proofs.YthflblophelioaaGreatDoor
open Go.Sl

theorem heap_above {W0 : World} {F : HeapF} {H : HeapV} (hH : H.ok F) {w p : Int} {n K : Nat} (h0 : objAt w H.objs.length = some n) (hK : objAt (upN (H.pub F) p K) H.objs.length = none) (hKl : K ≤ H.objs.length) : SC Tryz.prog W0 106 #[.pointer (some ⟨F.p, 0, none⟩), .int .u64 p, .int .u64 w] (HeapV.ent H F) (Ret (fun _ : Unit => H.ent F) (fun v _ => v = .bool (hitP (H.pub F) p w))) := by
 refine SC_body (fn := Tryz.f106) (n := 20) Tryz.func106 rfl (by kernel_rfl) (ρ := [(0, pt F.p 0), (1, .int .u64 p), (2, .int .u64 w)]) rfl ?_
 refine SW_sig _ HeapV.eq0 ?_
 refine sr ?_
 refine os 1 ?_
 refine nq ?_
 refine SW_block ?_
 refine SW_loop (α := Nat) (fun z_ ρ_ σ_ => Fits ρ_ σ_ [(0, pt F.p 0), (1, .int .u64 (upN (HeapV.pub H F) p z_)), (2, .int .u64 w), (6, .bool false)] ((F.p, .cells 75 6 [Gs.val H.s H.objs.length, Gs.val H.ts H.texts.length, .map (some F.kb), pt F.T.p 0, pt F.cp 0, .int .i64 H.br]) :: ((Gs.ent 102 9 H.s (H.objs.flatMap ObjL.cells)) ++ ((H.objs.flatMap ObjL.ent) ++ ((Gs.ent 9 1 H.ts (H.texts.map encS)) ++ ((F.kb, .map (kvs encS encU H.known)) :: ((TreeV.ent H.V F.T) ++ ((CellsL.ent (CellsL.mk F.cp H.cs H.cl)) ++ ([])))))))) ∧ z_ ≤ K ∧ (∀ j, j < z_ → upN (HeapV.pub H F) p j ≠ w)) (fun z_ => K - z_) 0 ⟨⟨fun _ => rfl, ow⟩, Nat.zero_le _, fun j hj => absurd hj (Nat.not_lt_zero j)⟩ ?_
 rintro i ρ_ σ_ ⟨hfit, hi0, hi1⟩
 refine SW_fits hfit ?_
 clear hfit
 refine SW_seq ?_
 refine sr ?_
 refine os 3 ?_
 refine nt ?_
 refine cd (fun hc1 : ((upN (HeapV.pub H F) p i) != w) = true => ?_) (fun hc1 => ?_)
 ·simp only [bne_iff_ne, ne_eq, bne_eq_false_iff_eq] at hc1
  refine Ql (Qj ?_)
  refine SW_block ?_
  refine sr ?_
  refine os 2 ?_
  rcases hm1 : objAt (upN (HeapV.pub H F) p i) H.objs.length with _ | m1
  ·refine L (cl (heap_at hH (upN (HeapV.pub H F) p i)) ?_ (hp := HeapV.pm))
   rintro v1 _ hv1
   obtain rfl : v1 = .pointer none := hv1.trans (by rw [hm1])
   refine SL_sig _ HeapV.eq ?_
   refine os 1 ?_
   refine kp [7, 10, 0, 1, 2, 6] ?_
   refine nq ?_
   refine sr ?_
   refine os 1 ?_
   refine oV (.bool true) ?_
   refine nt ?_
   refine ct ?_
   refine sr ?_
   refine os 1 ?_
   refine nt ?_
   refine Qi (Qm (r_in (Qm (r_in (Qm ?_)))))
   refine Qg (.bool false) (fun _ => rfl) ?_
   rw [hitP_no (by rw [HeapV.pub_len]; exact h0) (by rw [HeapV.pub_len]; exact hm1) hi1]
   exact ⟨(), HeapV.own, rfl⟩
  have hlt_ := (objAt_tag hm1).2
  refine L (cl (heap_at hH (upN (HeapV.pub H F) p i)) ?_ (hp := HeapV.pm))
  rintro v2 _ hv2
  obtain rfl : v2 = pt (Gs.blk H.s) (m1 * 9) := hv2.trans (by rw [hm1])
  refine SL_sig _ HeapV.eq ?_
  refine os 1 ?_
  refine kp [7, 10, 0, 1, 2, 6] ?_
  refine nq ?_
  refine sr ?_
  refine os 1 ?_
  refine oV (.bool false) ?_
  refine nt ?_
  refine cf ?_
  refine Ql (Qj ?_)
  refine Qn ?_
  refine os 3 ?_
  obtain ⟨e2, he2⟩ : ∃ y_, H.objs[m1]? = some y_ := ⟨_, List.getElem?_eq_getElem (by omega)⟩
  refine L (ld ?_ (hc := Gs.cell hH.row (fun e he => (Qc (mem_h he))) (Qh ObjL.len he2 (j := 1) (by decide) rfl)))
  refine os 1 ?_
  refine kp [1, 15, 7, 10, 0, 2, 6] ?_
  refine SL_nil (n_in (Qj ?_))
  have hne : i ≠ K := fun q => by rw [q, hK] at hm1; cases hm1
  have hup : upN (HeapV.pub H F) p (i + 1) = e2.proto := protoW_some (by rw [HeapV.pub_len]; exact hm1) (HeapV.pub_at F he2)
  refine ⟨i + 1, by omega, ?_⟩
  rw [hup]
  exact ⟨⟨fun _ => rfl, ow⟩, by omega, fun j hj => by by_cases q_ : j = i; (subst q_; exact hc1); exact hi1 j (by omega)⟩
 simp only [bne_iff_ne, ne_eq, bne_eq_false_iff_eq] at hc1
 refine SW_exit (x_then (x_then (x_in (Qj ?_))))
 refine sr ?_
 refine os 1 ?_
 refine nt ?_
 refine Qi ?_
 refine Qg (.bool true) (fun _ => rfl) ?_
 rw [show hitP (HeapV.pub H F) p w = true from hitP_iff.2 ⟨i, by rw [HeapV.pub_len]; omega, hc1⟩]
 exact ⟨(), HeapV.own, rfl⟩

theorem heap_SetProto_none {W0 : World} {F : HeapF} {H : HeapV} (hH : H.ok F) {w : Int} (h0 : objAt w H.objs.length = none) (p : Int) : SC Tryz.prog W0 77 #[.pointer (some ⟨F.p, 0, none⟩), .int .u64 w, .int .u64 p] (HeapV.ent H F) (Ret (fun _ : Unit => H.ent F) (fun v _ => v = .tuple #[])) := by
 refine SC_body (fn := Tryz.f77) (n := 79) Tryz.func77 rfl (by kernel_rfl) (ρ := [(0, pt F.p 0), (1, .int .u64 w), (2, .int .u64 p)]) rfl ?_
 refine SW_sig _ HeapV.eq0 ?_
 refine sr ?_
 refine os 2 ?_
 refine L (cl (heap_at hH w) ?_ (hp := HeapV.pm))
 rintro v1 _ hv1
 obtain rfl : v1 = .pointer none := hv1.trans (by rw [h0])
 refine SL_sig _ HeapV.eq ?_
 refine os 1 ?_
 refine kp [6, 0, 1, 2] ?_
 refine nq ?_
 refine sr ?_
 refine os 1 ?_
 refine oV (.bool true) ?_
 refine os 24 ?_
 refine kp [37, 6, 0, 1, 2] ?_
 refine nt ?_
 refine ct ?_
 refine Qi (Qm ?_)
 refine Qg (.tuple #[]) (fun _ => rfl) ?_
 exact ⟨(), HeapV.own, rfl⟩

theorem heap_SetProto_same {W0 : World} {F : HeapF} {H : HeapV} (hH : H.ok F) {w : Int} {n : Nat} {x : ObjL} (h0 : objAt w H.objs.length = some n) (hx : H.objs[n]? = some x) {p : Int} {K : Nat} (hK : objAt (upN (H.pub F) p K) H.objs.length = none) (hKl : K ≤ H.objs.length) (hsame : (p ≠ 18445336698825998337 ∧ objAt p H.objs.length = none) ∨ x.proto = p ∨ hitP (H.pub F) p w = true) : SC Tryz.prog W0 77 #[.pointer (some ⟨F.p, 0, none⟩), .int .u64 w, .int .u64 p] (HeapV.ent H F) (Ret (fun _ : Unit => H.ent F) (fun v _ => v = .tuple #[])) := by
 refine SC_body (fn := Tryz.f77) (n := 79) Tryz.func77 rfl (by kernel_rfl) (ρ := [(0, pt F.p 0), (1, .int .u64 w), (2, .int .u64 p)]) rfl ?_
 refine SW_sig _ HeapV.eq0 ?_
 refine sr ?_
 refine os 2 ?_
 refine L (cl (heap_at hH w) ?_ (hp := HeapV.pm))
 rintro v1 _ hv1
 obtain rfl : v1 = pt (Gs.blk H.s) (n * 9) := hv1.trans (by rw [h0])
 refine SL_sig _ HeapV.eq ?_
 refine os 1 ?_
 refine kp [6, 0, 1, 2] ?_
 refine nq ?_
 refine sr ?_
 refine os 1 ?_
 refine oV (.bool false) ?_
 refine os 4 ?_
 refine tb 17 (fun hg1 => ?_) (fun hg1 => ?_)
 ·replace hg1 : (p != 18445336698825998337) = true := hg1
  simp only [beq_iff_eq, bne_iff_ne, ne_eq, beq_eq_false_iff_ne, bne_eq_false_iff_eq] at hg1
  refine os 2 ?_
  rcases hm1 : objAt p H.objs.length with _ | m1
  ·refine L (cl (heap_at hH p) ?_ (hp := HeapV.pm))
   rintro v2 _ hv2
   obtain rfl : v2 = .pointer none := hv2.trans (by rw [hm1])
   refine SL_sig _ HeapV.eq ?_
   refine oV (.bool true) ?_
   refine os 16 ?_
   refine kp [37, 6, 0, 1, 2] ?_
   refine nt ?_
   refine ct ?_
   refine Qi (Qm ?_)
   refine Qg (.tuple #[]) (fun _ => rfl) ?_
   exact ⟨(), HeapV.own, rfl⟩
  refine L (cl (heap_at hH p) ?_ (hp := HeapV.pm))
  rintro v3 _ hv3
  obtain rfl : v3 = pt (Gs.blk H.s) (m1 * 9) := hv3.trans (by rw [hm1])
  refine SL_sig _ HeapV.eq ?_
  refine oV (.bool false) ?_
  refine os 6 ?_
  refine kp [27, 24, 6, 0, 1, 2] ?_
  refine L (ld ?_ (hc := Gs.cell hH.row (fun e he => (Qc (mem_h he))) (Qh ObjL.len hx (j := 1) (by decide) rfl)))
  refine os 4 ?_
  refine kp [32, 6, 0, 1, 2] ?_
  refine tb 32 (fun hg2 => ?_) (fun hg2 => ?_)
  ·replace hg2 : (x.proto == p) = true := hg2
   simp only [beq_iff_eq, bne_iff_ne, ne_eq, beq_eq_false_iff_ne, bne_eq_false_iff_eq] at hg2
   refine os 5 ?_
   refine kp [37, 6, 0, 1, 2] ?_
   refine nt ?_
   refine ct ?_
   refine Qi (Qm ?_)
   refine Qg (.tuple #[]) (fun _ => rfl) ?_
   exact ⟨(), HeapV.own, rfl⟩
  replace hg2 : (x.proto == p) = false := hg2
  simp only [beq_iff_eq, bne_iff_ne, ne_eq, beq_eq_false_iff_ne, bne_eq_false_iff_eq] at hg2
  refine os 3 ?_
  refine L (cl (heap_above hH (p := p) h0 hK hKl) ?_ (hp := HeapV.pm))
  rintro _ _ rfl
  refine SL_sig _ HeapV.eq ?_
  refine os 1 ?_
  refine kp [37, 6, 0, 1, 2] ?_
  refine nt ?_
  refine cd (fun hc3 : ((hitP (HeapV.pub H F) p w)) = true => ?_) (fun hc3 => ?_)
  ·refine Qi (Qm ?_)
   refine Qg (.tuple #[]) (fun _ => rfl) ?_
   exact ⟨(), HeapV.own, rfl⟩
  exact absurd hsame (by rintro (⟨q1, q2⟩ | q | q); (first | exact absurd q1 (by assumption) | simp_all); (first | exact absurd q (by assumption) | simp_all); simp_all)
 replace hg1 : (p != 18445336698825998337) = false := hg1
 simp only [beq_iff_eq, bne_iff_ne, ne_eq, beq_eq_false_iff_ne, bne_eq_false_iff_eq] at hg1
 refine os 10 ?_
 refine kp [27, 24, 6, 0, 1, 2] ?_
 refine L (ld ?_ (hc := Gs.cell hH.row (fun e he => (Qc (mem_h he))) (Qh ObjL.len hx (j := 1) (by decide) rfl)))
 refine os 4 ?_
 refine kp [32, 6, 0, 1, 2] ?_
 refine tb 32 (fun hg4 => ?_) (fun hg4 => ?_)
 ·replace hg4 : (x.proto == p) = true := hg4
  simp only [beq_iff_eq, bne_iff_ne, ne_eq, beq_eq_false_iff_ne, bne_eq_false_iff_eq] at hg4
  refine os 5 ?_
  refine kp [37, 6, 0, 1, 2] ?_
  refine nt ?_
  refine ct ?_
  refine Qi (Qm ?_)
  refine Qg (.tuple #[]) (fun _ => rfl) ?_
  exact ⟨(), HeapV.own, rfl⟩
 replace hg4 : (x.proto == p) = false := hg4
 simp only [beq_iff_eq, bne_iff_ne, ne_eq, beq_eq_false_iff_ne, bne_eq_false_iff_eq] at hg4
 refine os 3 ?_
 refine L (cl (heap_above hH (p := p) h0 hK hKl) ?_ (hp := HeapV.pm))
 rintro _ _ rfl
 refine SL_sig _ HeapV.eq ?_
 refine os 1 ?_
 refine kp [37, 6, 0, 1, 2] ?_
 refine nt ?_
 refine cd (fun hc5 : ((hitP (HeapV.pub H F) p w)) = true => ?_) (fun hc5 => ?_)
 ·refine Qi (Qm ?_)
  refine Qg (.tuple #[]) (fun _ => rfl) ?_
  exact ⟨(), HeapV.own, rfl⟩
 exact absurd hsame (by rintro (⟨q1, q2⟩ | q | q); (first | exact absurd q1 (by assumption) | simp_all); (first | exact absurd q (by assumption) | simp_all); simp_all)

theorem heap_SetProto_move {W0 : World} {F : HeapF} {H : HeapV} (hH : H.ok F) {w : Int} {n : Nat} {x : ObjL} (h0 : objAt w H.objs.length = some n) (hx : H.objs[n]? = some x) {p : Int} {K : Nat} (hK : objAt (upN (H.pub F) p K) H.objs.length = none) (hKl : K ≤ H.objs.length) {k : Nat} (hB : H.bud k) (hk : k ≤ 8000000) (hmove : ¬ ((p ≠ 18445336698825998337 ∧ objAt p H.objs.length = none) ∨ x.proto = p ∨ hitP (H.pub F) p w = true)) : SC Tryz.prog W0 77 #[.pointer (some ⟨F.p, 0, none⟩), .int .u64 w, .int .u64 p] (HeapV.ent H F) (Ret (fun r : ObjL × TreeV × List CellL × Int => (H.upd n r.1 r.2.1 r.2.2.1 r.2.2.2).ent F) (fun v r => v = .tuple #[] ∧ (H.upd n r.1 r.2.1 r.2.2.1 r.2.2.2).ok F ∧ SameM x r.1 p ∧ moveS (H.V.abs F.T) x.ps (rootKey p x.kind) = (r.2.1.abs F.T, r.1.ps) ∧ Chg x.cell H.cl r.2.2.1)) := by
 refine SC_body (fn := Tryz.f77) (n := 79) Tryz.func77 rfl (by kernel_rfl) (ρ := [(0, pt F.p 0), (1, .int .u64 w), (2, .int .u64 p)]) rfl ?_
 refine SW_sig _ HeapV.eq0 ?_
 have hnl := (List.getElem?_eq_some_iff.1 hx).1
 refine sr ?_
 refine os 2 ?_
 refine L (cl (heap_at hH w) ?_ (hp := HeapV.pm))
 rintro v1 _ hv1
 obtain rfl : v1 = pt (Gs.blk H.s) (n * 9) := hv1.trans (by rw [h0])
 refine SL_sig _ HeapV.eq ?_
 refine os 1 ?_
 refine kp [6, 0, 1, 2] ?_
 refine nq ?_
 refine sr ?_
 refine os 1 ?_
 refine oV (.bool false) ?_
 refine os 4 ?_
 refine tb 17 (fun hg1 => ?_) (fun hg1 => ?_)
 ·replace hg1 : (p != 18445336698825998337) = true := hg1
  simp only [beq_iff_eq, bne_iff_ne, ne_eq, beq_eq_false_iff_ne, bne_eq_false_iff_eq] at hg1
  refine os 2 ?_
  rcases hm1 : objAt p H.objs.length with _ | m1
  ·refine L (cl (heap_at hH p) ?_ (hp := HeapV.pm))
   rintro v2 _ hv2
   obtain rfl : v2 = .pointer none := hv2.trans (by rw [hm1])
   refine SL_sig _ HeapV.eq ?_
   refine oV (.bool true) ?_
   refine os 16 ?_
   refine kp [37, 6, 0, 1, 2] ?_
   refine nt ?_
   refine ct ?_
   refine Qi (Qm ?_)
   refine Qg (.tuple #[]) (fun _ => rfl) ?_
   exact absurd (by first | (left; exact ⟨by assumption, by assumption⟩) | (right; left; assumption) | (right; right; assumption)) hmove
  refine L (cl (heap_at hH p) ?_ (hp := HeapV.pm))
  rintro v3 _ hv3
  obtain rfl : v3 = pt (Gs.blk H.s) (m1 * 9) := hv3.trans (by rw [hm1])
  refine SL_sig _ HeapV.eq ?_
  refine oV (.bool false) ?_
  refine os 6 ?_
  refine kp [27, 24, 6, 0, 1, 2] ?_
  refine L (ld ?_ (hc := Gs.cell hH.row (fun e he => (Qc (mem_h he))) (Qh ObjL.len hx (j := 1) (by decide) rfl)))
  refine os 4 ?_
  refine kp [32, 6, 0, 1, 2] ?_
  refine pn 32 (show (x.proto == p) = false from (by have q_ := hmove; simp only [not_or] at q_; simp [q_])) ?_
  refine os 3 ?_
  refine L (cl (heap_above hH (p := p) h0 hK hKl) ?_ (hp := HeapV.pm))
  rintro _ _ rfl
  refine SL_sig _ HeapV.eq ?_
  refine os 1 ?_
  refine kp [37, 6, 0, 1, 2] ?_
  refine nt ?_
  refine SW_false (fun _ => (congrArg Value.bool (show (hitP (HeapV.pub H F) p w) = false from (by have q_ := hmove; simp only [not_or] at q_; simp [q_])))) ?_
  refine Ql (Qj ?_)
  refine sr ?_
  refine os 2 ?_
  refine L (cl (heap_changed hH (n := n) hx hB hk) ?_ (hp := HeapV.pm))
  rintro _ ⟨cl1, br1⟩ ⟨rfl, hccl1, hchcl1⟩
  refine SL_sig _ HeapV.eq ?_
  have hH1 : HeapV.ok (HeapV.mk H.s (H.objs.set n (ObjL.chg x)) H.ts H.texts H.known H.V H.cs cl1 br1) F := hH.chg hx hccl1 br1
  refine nsr ?_
  refine os 4 ?_
  have hok1 := Gs.ok.relen (ys := ((H.objs.set n (ObjL.mk x.kind p x.shut x.shape x.ns x.names x.vs x.vals x.es x.elems x.is x.inner (if 0 ≤ x.cell then -1 else x.cell))).flatMap ObjL.cells)) hH1.row (by simp [flat_len ObjL.len])
  refine SL_perm _ (perm_cc perm_cz) ?_
  refine L (O_storeG (ys := ((H.objs.set n (ObjL.mk x.kind p x.shut x.shape x.ns x.names x.vs x.vals x.es x.elems x.is x.inner (if 0 ≤ x.cell then -1 else x.cell))).flatMap ObjL.cells)) H.s (n * 9 + 1) (.int .u64 p) [.int .u64 p] (Gs.ok.ne hH1.row (by first | omega | (simp; omega))) (fun _ => rfl) (fun _ => rfl) rfl (by kernel_rfl) rfl (by rw [flat_len ObjL.len]; simp; omega) ((row_lay (j := 1) ObjL.len (ObjL.mk x.kind p x.shut x.shape x.ns x.names x.vs x.vals x.es x.elems x.is x.inner (if 0 ≤ x.cell then -1 else x.cell)) (Qd hx) (Nat.le_of_ble_eq_true rfl) rfl).trans (by rw [List.set_set])) rfl ?_)
  refine nq ?_
  refine SW_seq ?_
  have hH2 : HeapV.ok (HeapV.mk H.s (H.objs.set n (ObjL.mk x.kind p x.shut x.shape x.ns x.names x.vs x.vals x.es x.elems x.is x.inner (if 0 ≤ x.cell then -1 else x.cell))) H.ts H.texts H.known H.V H.cs cl1 br1) F := by simpa only [HeapV.put, List.set_set] using HeapV.ok.put hH1 (Qd hx) (x' := (ObjL.mk x.kind p x.shut x.shape x.ns x.names x.vs x.vals x.es x.elems x.is x.inner (if 0 ≤ x.cell then -1 else x.cell))) ⟨(HeapV.ok.at hH1 (Qd hx)).ns, (HeapV.ok.at hH1 (Qd hx)).vs, (HeapV.ok.at hH1 (Qd hx)).es, (HeapV.ok.at hH1 (Qd hx)).is⟩ (HeapV.ok.small hH1 (ObjL.chg x) (List.mem_of_getElem? (Qd hx)))
  refine SW_sig ((Gs.ent 102 9 H.s ((H.objs.set n (ObjL.mk x.kind p x.shut x.shape x.ns x.names x.vs x.vals x.es x.elems x.is x.inner (if 0 ≤ x.cell then -1 else x.cell))).flatMap ObjL.cells)) ++ ((F.p, .cells 75 6 [Gs.val H.s ((H.objs.set n (ObjL.mk x.kind p x.shut x.shape x.ns x.names x.vs x.vals x.es x.elems x.is x.inner (if 0 ≤ x.cell then -1 else x.cell))).length), Gs.val H.ts H.texts.length, .map (some F.kb), pt F.T.p 0, pt F.cp 0, .int .i64 br1]) :: (((H.objs.set n (ObjL.mk x.kind p x.shut x.shape x.ns x.names x.vs x.vals x.es x.elems x.is x.inner (if 0 ≤ x.cell then -1 else x.cell))).flatMap ObjL.ent) ++ ((Gs.ent 9 1 H.ts (H.texts.map encS)) ++ ((F.kb, .map (kvs encS encU H.known)) :: ((TreeV.ent H.V F.T) ++ ((CellsL.ent (CellsL.mk F.cp H.cs cl1)) ++ ([])))))))) (by simp only [List.length_set, flat_same (f := ObjL.ent) (x' := (ObjL.chg x)) hx rfl, flat_same (f := ObjL.ent) (x' := (ObjL.mk x.kind p x.shut x.shape x.ns x.names x.vs x.vals x.es x.elems x.is x.inner (if 0 ≤ x.cell then -1 else x.cell))) hx rfl]) ?_
  refine Qn ?_
  refine os 3 ?_
  refine kp [47, 37, 6, 0, 1, 2] ?_
  refine L (ld ?_ (hc := Gs.cell hH2.row (fun e he => (mem_h he)) (Qh ObjL.len (Qd hx) (j := 3) (by decide) rfl)) (v := .int .i64 x.shape))
  refine os 1 ?_
  refine nt ?_
  refine cdp (fun hc3 : x.shape < 0 => ?_) (fun hc3 => ?_)
  ·refine Qi (Qm ?_)
   refine Qg (.tuple #[]) (fun _ => rfl) ?_
   refine ⟨((ObjL.mk x.kind p x.shut x.shape x.ns x.names x.vs x.vals x.es x.elems x.is x.inner (if 0 ≤ x.cell then -1 else x.cell)), H.V, cl1, br1), ?_, rfl, ?_, ⟨rfl, rfl, rfl, rfl, rfl, rfl⟩, ?_, hchcl1⟩
   · exact HeapV.own
   · exact hH2
   · unfold moveS; rw [if_pos (show x.ps.shape < 0 from by show x.shape < 0; omega)]
  refine Ql (Qj ?_)
  refine SW_seq ?_
  refine SW_draw [(F.p, 3, pt F.T.p 0), ((Gs.blk H.s), n * 9 + 3, .int .i64 x.shape), ((Gs.blk H.s), n * 9, .int .i64 x.kind)] [0, 1, 2, 3, 4, 5, 6, 7, 8, 9, 10, 11, 12, 13, 14, 15] (by kernel_rfl) (Qf (Cell.own (Qa Qe) rfl) (Qf (Gs.cell hH2.row (fun e he => (mem_h he)) (Qh ObjL.len (Qd hx) (j := 3) (by decide) rfl)) (Qf (Gs.cell hH2.row (fun e he => (mem_h he)) (Qh ObjL.len (Qd hx) (j := 0) (by decide) rfl)) rd_nil))) ?_
  refine aS 0 ?_
  refine aS 1 ?_
  refine aF 2 ?_
  refine aL 3 ?_
  refine aS 4 ?_
  refine aS 5 ?_
  refine aF 6 ?_
  refine aL 7 ?_
  refine kpA [58, 54, 49, 37, 6, 0, 1, 2] ?_
  refine aS 8 ?_
  refine tk 9 (.int .u64 (IntKind.wrap .u64 (p * 8))) ?_
  refine aS 10 ?_
  refine aS 11 ?_
  refine aF 12 ?_
  refine aL 13 ?_
  refine tk 14 (.int .u64 (IntKind.wrap .u64 (x.kind))) ?_
  refine tk 15 (.int .u64 (IntKind.wrap .u64 ((BitVec.ofInt 64 (IntKind.wrap .u64 (p * 8)) ||| BitVec.ofInt 64 (IntKind.wrap .u64 (x.kind))).toNat))) ?_
  rw [show IntKind.wrap .u64 ((BitVec.ofInt 64 (IntKind.wrap .u64 (p * 8)) ||| BitVec.ofInt 64 (IntKind.wrap .u64 (x.kind))).toNat) = rootKey p x.kind from rfl]
  refine sa1 false 16 (h := cl (shapes_Move hH2.tree x.shape (rootKey p x.kind)) ?_)
  rintro _ TV1 ⟨hTV1, hkTV1, rTV1, okTV1, rfl, hrTV1⟩
  refine ⟨fun hnd => (by cases hnd), ?_⟩
  have hH3 : HeapV.ok (HeapV.mk H.s (H.objs.set n (ObjL.mk x.kind p x.shut x.shape x.ns x.names x.vs x.vals x.es x.elems x.is x.inner (if 0 ≤ x.cell then -1 else x.cell))) H.ts H.texts H.known TV1 H.cs cl1 br1) F := HeapV.ok.withTree hH2 hTV1
  refine kpA [67, 49, 37, 6, 0, 1, 2] ?_
  refine aS 17 ?_
  refine aS 18 ?_
  refine aS 19 ?_
  refine aS 20 ?_
  refine aS 21 ?_
  refine SA_done (by kernel_rfl) (Qj ?_)
  refine SW_seq ?_
  refine sr ?_
  refine os 2 ?_
  refine kp [71, 8, 7, 49, 37, 6, 0, 1, 2] ?_
  refine nt ?_
  refine cd (fun hc4 : (!okTV1) = true => ?_) (fun hc4 => ?_)
  ·replace hc4 := bnot_t hc4
   refine sr ?_
   refine os 2 ?_
   refine L (cl (heap_loose_yes hH3 (n := n) (Qd hx) (show 0 ≤ x.shape from by omega)) ?_ (hp := HeapV.pm))
   rintro _ kg1 ⟨rfl, hkg1⟩
   refine SL_sig _ (by simp only [HeapV.ent, HeapV.put, List.set_set, List.cons_append, List.append_assoc, List.nil_append]; rfl) ?_
   have hH4 : HeapV.ok (HeapV.mk H.s (H.objs.set n (ObjL.loosed (ObjL.mk x.kind p x.shut x.shape x.ns x.names x.vs x.vals x.es x.elems x.is x.inner (if 0 ≤ x.cell then -1 else x.cell)) kg1 (keysP (TreeV.abs TV1 F.T) x.shape))) H.ts H.texts H.known TV1 H.cs cl1 br1) F := by simpa only [HeapV.put, List.set_set] using HeapV.ok.put hH3 (Qd hx) (x' := (ObjL.loosed (ObjL.mk x.kind p x.shut x.shape x.ns x.names x.vs x.vals x.es x.elems x.is x.inner (if 0 ≤ x.cell then -1 else x.cell)) kg1 (keysP (TreeV.abs TV1 F.T) x.shape))) ⟨hkg1, (HeapV.ok.at hH3 (Qd hx)).vs, (HeapV.ok.at hH3 (Qd hx)).es, (HeapV.ok.at hH3 (Qd hx)).is⟩ (HeapV.ok.small hH3 (ObjL.mk x.kind p x.shut x.shape x.ns x.names x.vs x.vals x.es x.elems x.is x.inner (if 0 ≤ x.cell then -1 else x.cell)) (List.mem_of_getElem? (Qd hx)))
   refine nt ?_
   refine Qi (Qm ?_)
   refine Qg (.tuple #[]) (fun _ => rfl) ?_
   refine ⟨((ObjL.loosed (ObjL.mk x.kind p x.shut x.shape x.ns x.names x.vs x.vals x.es x.elems x.is x.inner (if 0 ≤ x.cell then -1 else x.cell)) kg1 (keysP (TreeV.abs TV1 F.T) x.shape)), TV1, cl1, br1), ?_, rfl, ?_, ⟨rfl, rfl, rfl, rfl, rfl, rfl⟩, ?_, hchcl1⟩
   · exact HeapV.own
   · exact hH4
   · unfold moveS stepS looseS; rw [if_neg (show ¬ x.ps.shape < 0 from by show ¬ x.shape < 0; omega), show moveP (H.V.abs F.T) x.ps.shape (rootKey p x.kind) = _ from hrTV1]; simp only []; rw [if_neg (by simp [hc4]), if_pos (show (0 : Int) ≤ x.shape from by omega)]
  replace hc4 := bnot_f hc4
  refine Ql (Qj ?_)
  refine SW_perm _ (perm_ca (perm_ca (perm_cc perm_cz))) ?_
  refine SW_perm ((Gs.ent 9 1 x.ns (x.names.map encS)) ++ ((Gs.ent 45 3 x.vs (x.vals.flatMap Qk)) ++ ((Gs.ent 33 1 x.es (x.elems.map encU)) ++ ((Gs.ent 33 1 x.is (x.inner.map encU)) ++ (((List.eraseIdx (H.objs.set n (ObjL.mk x.kind p x.shut x.shape x.ns x.names x.vs x.vals x.es x.elems x.is x.inner (if 0 ≤ x.cell then -1 else x.cell))) n).flatMap ObjL.ent) ++ ((TreeV.ent TV1 F.T) ++ ((Gs.ent 102 9 H.s ((H.objs.set n (ObjL.mk x.kind p x.shut x.shape x.ns x.names x.vs x.vals x.es x.elems x.is x.inner (if 0 ≤ x.cell then -1 else x.cell))).flatMap ObjL.cells)) ++ ((F.p, .cells 75 6 [Gs.val H.s ((H.objs.set n (ObjL.mk x.kind p x.shut x.shape x.ns x.names x.vs x.vals x.es x.elems x.is x.inner (if 0 ≤ x.cell then -1 else x.cell))).length), Gs.val H.ts H.texts.length, .map (some F.kb), pt F.T.p 0, pt F.cp 0, .int .i64 br1]) :: ((Gs.ent 9 1 H.ts (H.texts.map encS)) ++ ((F.kb, .map (kvs encS encU H.known)) :: ((CellsL.ent (CellsL.mk F.cp H.cs cl1)) ++ ([])))))))))))) (obj_focus (Qd hx) _) ?_
  refine Qn ?_
  refine os 4 ?_
  have hok2 := Gs.ok.relen (ys := ((H.objs.set n (ObjL.mk x.kind p x.shut rTV1 x.ns x.names x.vs x.vals x.es x.elems x.is x.inner (if 0 ≤ x.cell then -1 else x.cell))).flatMap ObjL.cells)) hH3.row (by simp [flat_len ObjL.len])
  refine SL_perm _ (perm_ca (perm_ca (perm_ca (perm_ca (perm_ca (perm_ca perm_cz)))))) ?_
  refine L (O_storeG (ys := ((H.objs.set n (ObjL.mk x.kind p x.shut rTV1 x.ns x.names x.vs x.vals x.es x.elems x.is x.inner (if 0 ≤ x.cell then -1 else x.cell))).flatMap ObjL.cells)) H.s (n * 9 + 3) (.int .i64 rTV1) [.int .i64 rTV1] (Gs.ok.ne hH3.row (by first | omega | (simp; omega))) (fun _ => rfl) (fun _ => rfl) rfl (by kernel_rfl) rfl (by rw [flat_len ObjL.len]; simp; omega) ((row_lay (j := 3) ObjL.len (ObjL.mk x.kind p x.shut rTV1 x.ns x.names x.vs x.vals x.es x.elems x.is x.inner (if 0 ≤ x.cell then -1 else x.cell)) (Qd hx) (Nat.le_of_ble_eq_true rfl) rfl).trans (by rw [List.set_set])) rfl ?_)
  refine SL_nil ?_
  refine body_end' (.tuple #[]) (fun _ => rfl) ?_
  refine ⟨((ObjL.mk x.kind p x.shut rTV1 x.ns x.names x.vs x.vals x.es x.elems x.is x.inner (if 0 ≤ x.cell then -1 else x.cell)), TV1, cl1, br1), ?_, rfl, ?_, ⟨rfl, rfl, rfl, rfl, rfl, rfl⟩, ?_, hchcl1⟩
  · refine Own.trans (ow (S := ((F.p, .cells 75 6 [Gs.val H.s ((H.objs.set n (ObjL.mk x.kind p x.shut x.shape x.ns x.names x.vs x.vals x.es x.elems x.is x.inner (if 0 ≤ x.cell then -1 else x.cell))).length), Gs.val H.ts H.texts.length, .map (some F.kb), pt F.T.p 0, pt F.cp 0, .int .i64 br1]) :: ((Gs.ent 102 9 H.s ((H.objs.set n (ObjL.mk x.kind p x.shut rTV1 x.ns x.names x.vs x.vals x.es x.elems x.is x.inner (if 0 ≤ x.cell then -1 else x.cell))).flatMap ObjL.cells)) ++ ((Gs.ent 9 1 x.ns (x.names.map encS)) ++ ((Gs.ent 45 3 x.vs (x.vals.flatMap Qk)) ++ ((Gs.ent 33 1 x.es (x.elems.map encU)) ++ ((Gs.ent 33 1 x.is (x.inner.map encU)) ++ (((List.eraseIdx (H.objs.set n (ObjL.mk x.kind p x.shut x.shape x.ns x.names x.vs x.vals x.es x.elems x.is x.inner (if 0 ≤ x.cell then -1 else x.cell))) n).flatMap ObjL.ent) ++ ((Gs.ent 9 1 H.ts (H.texts.map encS)) ++ ((F.kb, .map (kvs encS encU H.known)) :: ((TreeV.ent TV1 F.T) ++ ((CellsL.ent (CellsL.mk F.cp H.cs cl1)) ++ ([])))))))))))))) (Own.of_perm ?_)
    have hb_ := HeapV.back (H := (HeapV.mk H.s (H.objs.set n (ObjL.mk x.kind p x.shut x.shape x.ns x.names x.vs x.vals x.es x.elems x.is x.inner (if 0 ≤ x.cell then -1 else x.cell))) H.ts H.texts H.known TV1 H.cs cl1 br1)) F (Qd hx) (ObjL.mk x.kind p x.shut rTV1 x.ns x.names x.vs x.vals x.es x.elems x.is x.inner (if 0 ≤ x.cell then -1 else x.cell))
    simp only [HeapV.head, HeapV.put, List.set_set, List.length_set] at hb_ ⊢
    exact hb_
  · simpa only [HeapV.put, List.set_set] using HeapV.ok.put hH3 (Qd hx) (x' := (ObjL.mk x.kind p x.shut rTV1 x.ns x.names x.vs x.vals x.es x.elems x.is x.inner (if 0 ≤ x.cell then -1 else x.cell))) ⟨(by first | exact (show Gs.ok 1 (x.names).length x.ns (x.names.map encS) from (HeapV.ok.at (x := (ObjL.mk x.kind p x.shut x.shape x.ns x.names x.vs x.vals x.es x.elems x.is x.inner (if 0 ≤ x.cell then -1 else x.cell))) hH3 (Qd hx)).ns) | (simp only [List.length_set]; exact (show Gs.ok 1 (x.names).length x.ns (x.names.map encS) from (HeapV.ok.at (x := (ObjL.mk x.kind p x.shut x.shape x.ns x.names x.vs x.vals x.es x.elems x.is x.inner (if 0 ≤ x.cell then -1 else x.cell))) hH3 (Qd hx)).ns))), (by first | exact (show Gs.ok 3 (x.vals).length x.vs (x.vals.flatMap Qk) from (HeapV.ok.at (x := (ObjL.mk x.kind p x.shut x.shape x.ns x.names x.vs x.vals x.es x.elems x.is x.inner (if 0 ≤ x.cell then -1 else x.cell))) hH3 (Qd hx)).vs) | (simp only [List.length_set]; exact (show Gs.ok 3 (x.vals).length x.vs (x.vals.flatMap Qk) from (HeapV.ok.at (x := (ObjL.mk x.kind p x.shut x.shape x.ns x.names x.vs x.vals x.es x.elems x.is x.inner (if 0 ≤ x.cell then -1 else x.cell))) hH3 (Qd hx)).vs))), (by first | exact (show Gs.ok 1 (x.elems).length x.es (x.elems.map encU) from (HeapV.ok.at (x := (ObjL.mk x.kind p x.shut x.shape x.ns x.names x.vs x.vals x.es x.elems x.is x.inner (if 0 ≤ x.cell then -1 else x.cell))) hH3 (Qd hx)).es) | (simp only [List.length_set]; exact (show Gs.ok 1 (x.elems).length x.es (x.elems.map encU) from (HeapV.ok.at (x := (ObjL.mk x.kind p x.shut x.shape x.ns x.names x.vs x.vals x.es x.elems x.is x.inner (if 0 ≤ x.cell then -1 else x.cell))) hH3 (Qd hx)).es))), (by first | exact (show Gs.ok 1 (x.inner).length x.is (x.inner.map encU) from (HeapV.ok.at (x := (ObjL.mk x.kind p x.shut x.shape x.ns x.names x.vs x.vals x.es x.elems x.is x.inner (if 0 ≤ x.cell then -1 else x.cell))) hH3 (Qd hx)).is) | (simp only [List.length_set]; exact (show Gs.ok 1 (x.inner).length x.is (x.inner.map encU) from (HeapV.ok.at (x := (ObjL.mk x.kind p x.shut x.shape x.ns x.names x.vs x.vals x.es x.elems x.is x.inner (if 0 ≤ x.cell then -1 else x.cell))) hH3 (Qd hx)).is)))⟩ (HeapV.ok.small hH3 (ObjL.mk x.kind p x.shut x.shape x.ns x.names x.vs x.vals x.es x.elems x.is x.inner (if 0 ≤ x.cell then -1 else x.cell)) (List.mem_of_getElem? (Qd hx)))
  · unfold moveS stepS; rw [if_neg (show ¬ x.ps.shape < 0 from by show ¬ x.shape < 0; omega), show moveP (H.V.abs F.T) x.ps.shape (rootKey p x.kind) = _ from hrTV1]; simp only []; rw [if_pos (by simpa using hc4)]
 replace hg1 : (p != 18445336698825998337) = false := hg1
 simp only [beq_iff_eq, bne_iff_ne, ne_eq, beq_eq_false_iff_ne, bne_eq_false_iff_eq] at hg1
 refine os 10 ?_
 refine kp [27, 24, 6, 0, 1, 2] ?_
 refine L (ld ?_ (hc := Gs.cell hH.row (fun e he => (Qc (mem_h he))) (Qh ObjL.len hx (j := 1) (by decide) rfl)))
 refine os 4 ?_
 refine kp [32, 6, 0, 1, 2] ?_
 refine pn 32 (show (x.proto == p) = false from (by have q_ := hmove; simp only [not_or] at q_; simp [q_])) ?_
 refine os 3 ?_
 refine L (cl (heap_above hH (p := p) h0 hK hKl) ?_ (hp := HeapV.pm))
 rintro _ _ rfl
 refine SL_sig _ HeapV.eq ?_
 refine os 1 ?_
 refine kp [37, 6, 0, 1, 2] ?_
 refine nt ?_
 refine SW_false (fun _ => (congrArg Value.bool (show (hitP (HeapV.pub H F) p w) = false from (by have q_ := hmove; simp only [not_or] at q_; simp [q_])))) ?_
 refine Ql (Qj ?_)
 refine sr ?_
 refine os 2 ?_
 refine L (cl (heap_changed hH (n := n) hx hB hk) ?_ (hp := HeapV.pm))
 rintro _ ⟨cl1, br1⟩ ⟨rfl, hccl1, hchcl1⟩
 refine SL_sig _ HeapV.eq ?_
 have hH1 : HeapV.ok (HeapV.mk H.s (H.objs.set n (ObjL.chg x)) H.ts H.texts H.known H.V H.cs cl1 br1) F := hH.chg hx hccl1 br1
 refine nsr ?_
 refine os 4 ?_
 have hok3 := Gs.ok.relen (ys := ((H.objs.set n (ObjL.mk x.kind p x.shut x.shape x.ns x.names x.vs x.vals x.es x.elems x.is x.inner (if 0 ≤ x.cell then -1 else x.cell))).flatMap ObjL.cells)) hH1.row (by simp [flat_len ObjL.len])
 refine SL_perm _ (perm_cc perm_cz) ?_
 refine L (O_storeG (ys := ((H.objs.set n (ObjL.mk x.kind p x.shut x.shape x.ns x.names x.vs x.vals x.es x.elems x.is x.inner (if 0 ≤ x.cell then -1 else x.cell))).flatMap ObjL.cells)) H.s (n * 9 + 1) (.int .u64 p) [.int .u64 p] (Gs.ok.ne hH1.row (by first | omega | (simp; omega))) (fun _ => rfl) (fun _ => rfl) rfl (by kernel_rfl) rfl (by rw [flat_len ObjL.len]; simp; omega) ((row_lay (j := 1) ObjL.len (ObjL.mk x.kind p x.shut x.shape x.ns x.names x.vs x.vals x.es x.elems x.is x.inner (if 0 ≤ x.cell then -1 else x.cell)) (Qd hx) (Nat.le_of_ble_eq_true rfl) rfl).trans (by rw [List.set_set])) rfl ?_)
 refine nq ?_
 refine SW_seq ?_
 have hH2 : HeapV.ok (HeapV.mk H.s (H.objs.set n (ObjL.mk x.kind p x.shut x.shape x.ns x.names x.vs x.vals x.es x.elems x.is x.inner (if 0 ≤ x.cell then -1 else x.cell))) H.ts H.texts H.known H.V H.cs cl1 br1) F := by simpa only [HeapV.put, List.set_set] using HeapV.ok.put hH1 (Qd hx) (x' := (ObjL.mk x.kind p x.shut x.shape x.ns x.names x.vs x.vals x.es x.elems x.is x.inner (if 0 ≤ x.cell then -1 else x.cell))) ⟨(HeapV.ok.at hH1 (Qd hx)).ns, (HeapV.ok.at hH1 (Qd hx)).vs, (HeapV.ok.at hH1 (Qd hx)).es, (HeapV.ok.at hH1 (Qd hx)).is⟩ (HeapV.ok.small hH1 (ObjL.chg x) (List.mem_of_getElem? (Qd hx)))
 refine SW_sig ((Gs.ent 102 9 H.s ((H.objs.set n (ObjL.mk x.kind p x.shut x.shape x.ns x.names x.vs x.vals x.es x.elems x.is x.inner (if 0 ≤ x.cell then -1 else x.cell))).flatMap ObjL.cells)) ++ ((F.p, .cells 75 6 [Gs.val H.s ((H.objs.set n (ObjL.mk x.kind p x.shut x.shape x.ns x.names x.vs x.vals x.es x.elems x.is x.inner (if 0 ≤ x.cell then -1 else x.cell))).length), Gs.val H.ts H.texts.length, .map (some F.kb), pt F.T.p 0, pt F.cp 0, .int .i64 br1]) :: (((H.objs.set n (ObjL.mk x.kind p x.shut x.shape x.ns x.names x.vs x.vals x.es x.elems x.is x.inner (if 0 ≤ x.cell then -1 else x.cell))).flatMap ObjL.ent) ++ ((Gs.ent 9 1 H.ts (H.texts.map encS)) ++ ((F.kb, .map (kvs encS encU H.known)) :: ((TreeV.ent H.V F.T) ++ ((CellsL.ent (CellsL.mk F.cp H.cs cl1)) ++ ([])))))))) (by simp only [List.length_set, flat_same (f := ObjL.ent) (x' := (ObjL.chg x)) hx rfl, flat_same (f := ObjL.ent) (x' := (ObjL.mk x.kind p x.shut x.shape x.ns x.names x.vs x.vals x.es x.elems x.is x.inner (if 0 ≤ x.cell then -1 else x.cell))) hx rfl]) ?_
 refine Qn ?_
 refine os 3 ?_
 refine kp [47, 37, 6, 0, 1, 2] ?_
 refine L (ld ?_ (hc := Gs.cell hH2.row (fun e he => (mem_h he)) (Qh ObjL.len (Qd hx) (j := 3) (by decide) rfl)) (v := .int .i64 x.shape))
 refine os 1 ?_
 refine nt ?_
 refine cdp (fun hc6 : x.shape < 0 => ?_) (fun hc6 => ?_)
 ·refine Qi (Qm ?_)
  refine Qg (.tuple #[]) (fun _ => rfl) ?_
  refine ⟨((ObjL.mk x.kind p x.shut x.shape x.ns x.names x.vs x.vals x.es x.elems x.is x.inner (if 0 ≤ x.cell then -1 else x.cell)), H.V, cl1, br1), ?_, rfl, ?_, ⟨rfl, rfl, rfl, rfl, rfl, rfl⟩, ?_, hchcl1⟩
  · exact HeapV.own
  · exact hH2
  · unfold moveS; rw [if_pos (show x.ps.shape < 0 from by show x.shape < 0; omega)]
 refine Ql (Qj ?_)
 refine SW_seq ?_
 refine SW_draw [(F.p, 3, pt F.T.p 0), ((Gs.blk H.s), n * 9 + 3, .int .i64 x.shape), ((Gs.blk H.s), n * 9, .int .i64 x.kind)] [0, 1, 2, 3, 4, 5, 6, 7, 8, 9, 10, 11, 12, 13, 14, 15] (by kernel_rfl) (Qf (Cell.own (Qa Qe) rfl) (Qf (Gs.cell hH2.row (fun e he => (mem_h he)) (Qh ObjL.len (Qd hx) (j := 3) (by decide) rfl)) (Qf (Gs.cell hH2.row (fun e he => (mem_h he)) (Qh ObjL.len (Qd hx) (j := 0) (by decide) rfl)) rd_nil))) ?_
 refine aS 0 ?_
 refine aS 1 ?_
 refine aF 2 ?_
 refine aL 3 ?_
 refine aS 4 ?_
 refine aS 5 ?_
 refine aF 6 ?_
 refine aL 7 ?_
 refine kpA [58, 54, 49, 37, 6, 0, 1, 2] ?_
 refine aS 8 ?_
 refine tk 9 (.int .u64 (IntKind.wrap .u64 (p * 8))) ?_
 refine aS 10 ?_
 refine aS 11 ?_
 refine aF 12 ?_
 refine aL 13 ?_
 refine tk 14 (.int .u64 (IntKind.wrap .u64 (x.kind))) ?_
 refine tk 15 (.int .u64 (IntKind.wrap .u64 ((BitVec.ofInt 64 (IntKind.wrap .u64 (p * 8)) ||| BitVec.ofInt 64 (IntKind.wrap .u64 (x.kind))).toNat))) ?_
 rw [show IntKind.wrap .u64 ((BitVec.ofInt 64 (IntKind.wrap .u64 (p * 8)) ||| BitVec.ofInt 64 (IntKind.wrap .u64 (x.kind))).toNat) = rootKey p x.kind from rfl]
 refine sa1 false 16 (h := cl (shapes_Move hH2.tree x.shape (rootKey p x.kind)) ?_)
 rintro _ TV1 ⟨hTV1, hkTV1, rTV1, okTV1, rfl, hrTV1⟩
 refine ⟨fun hnd => (by cases hnd), ?_⟩
 have hH3 : HeapV.ok (HeapV.mk H.s (H.objs.set n (ObjL.mk x.kind p x.shut x.shape x.ns x.names x.vs x.vals x.es x.elems x.is x.inner (if 0 ≤ x.cell then -1 else x.cell))) H.ts H.texts H.known TV1 H.cs cl1 br1) F := HeapV.ok.withTree hH2 hTV1
 refine kpA [67, 49, 37, 6, 0, 1, 2] ?_
 refine aS 17 ?_
 refine aS 18 ?_
 refine aS 19 ?_
 refine aS 20 ?_
 refine aS 21 ?_
 refine SA_done (by kernel_rfl) (Qj ?_)
 refine SW_seq ?_
 refine sr ?_
 refine os 2 ?_
 refine kp [71, 8, 7, 49, 37, 6, 0, 1, 2] ?_
 refine nt ?_
 refine cd (fun hc7 : (!okTV1) = true => ?_) (fun hc7 => ?_)
 ·replace hc7 := bnot_t hc7
  refine sr ?_
  refine os 2 ?_
  refine L (cl (heap_loose_yes hH3 (n := n) (Qd hx) (show 0 ≤ x.shape from by omega)) ?_ (hp := HeapV.pm))
  rintro _ kg1 ⟨rfl, hkg1⟩
  refine SL_sig _ (by simp only [HeapV.ent, HeapV.put, List.set_set, List.cons_append, List.append_assoc, List.nil_append]; rfl) ?_
  have hH4 : HeapV.ok (HeapV.mk H.s (H.objs.set n (ObjL.loosed (ObjL.mk x.kind p x.shut x.shape x.ns x.names x.vs x.vals x.es x.elems x.is x.inner (if 0 ≤ x.cell then -1 else x.cell)) kg1 (keysP (TreeV.abs TV1 F.T) x.shape))) H.ts H.texts H.known TV1 H.cs cl1 br1) F := by simpa only [HeapV.put, List.set_set] using HeapV.ok.put hH3 (Qd hx) (x' := (ObjL.loosed (ObjL.mk x.kind p x.shut x.shape x.ns x.names x.vs x.vals x.es x.elems x.is x.inner (if 0 ≤ x.cell then -1 else x.cell)) kg1 (keysP (TreeV.abs TV1 F.T) x.shape))) ⟨hkg1, (HeapV.ok.at hH3 (Qd hx)).vs, (HeapV.ok.at hH3 (Qd hx)).es, (HeapV.ok.at hH3 (Qd hx)).is⟩ (HeapV.ok.small hH3 (ObjL.mk x.kind p x.shut x.shape x.ns x.names x.vs x.vals x.es x.elems x.is x.inner (if 0 ≤ x.cell then -1 else x.cell)) (List.mem_of_getElem? (Qd hx)))
  refine nt ?_
  refine Qi (Qm ?_)
  refine Qg (.tuple #[]) (fun _ => rfl) ?_
  refine ⟨((ObjL.loosed (ObjL.mk x.kind p x.shut x.shape x.ns x.names x.vs x.vals x.es x.elems x.is x.inner (if 0 ≤ x.cell then -1 else x.cell)) kg1 (keysP (TreeV.abs TV1 F.T) x.shape)), TV1, cl1, br1), ?_, rfl, ?_, ⟨rfl, rfl, rfl, rfl, rfl, rfl⟩, ?_, hchcl1⟩
  · exact HeapV.own
  · exact hH4
  · unfold moveS stepS looseS; rw [if_neg (show ¬ x.ps.shape < 0 from by show ¬ x.shape < 0; omega), show moveP (H.V.abs F.T) x.ps.shape (rootKey p x.kind) = _ from hrTV1]; simp only []; rw [if_neg (by simp [hc7]), if_pos (show (0 : Int) ≤ x.shape from by omega)]
 replace hc7 := bnot_f hc7
 refine Ql (Qj ?_)
 refine SW_perm _ (perm_ca (perm_ca (perm_cc perm_cz))) ?_
 refine SW_perm ((Gs.ent 9 1 x.ns (x.names.map encS)) ++ ((Gs.ent 45 3 x.vs (x.vals.flatMap Qk)) ++ ((Gs.ent 33 1 x.es (x.elems.map encU)) ++ ((Gs.ent 33 1 x.is (x.inner.map encU)) ++ (((List.eraseIdx (H.objs.set n (ObjL.mk x.kind p x.shut x.shape x.ns x.names x.vs x.vals x.es x.elems x.is x.inner (if 0 ≤ x.cell then -1 else x.cell))) n).flatMap ObjL.ent) ++ ((TreeV.ent TV1 F.T) ++ ((Gs.ent 102 9 H.s ((H.objs.set n (ObjL.mk x.kind p x.shut x.shape x.ns x.names x.vs x.vals x.es x.elems x.is x.inner (if 0 ≤ x.cell then -1 else x.cell))).flatMap ObjL.cells)) ++ ((F.p, .cells 75 6 [Gs.val H.s ((H.objs.set n (ObjL.mk x.kind p x.shut x.shape x.ns x.names x.vs x.vals x.es x.elems x.is x.inner (if 0 ≤ x.cell then -1 else x.cell))).length), Gs.val H.ts H.texts.length, .map (some F.kb), pt F.T.p 0, pt F.cp 0, .int .i64 br1]) :: ((Gs.ent 9 1 H.ts (H.texts.map encS)) ++ ((F.kb, .map (kvs encS encU H.known)) :: ((CellsL.ent (CellsL.mk F.cp H.cs cl1)) ++ ([])))))))))))) (obj_focus (Qd hx) _) ?_
 refine Qn ?_
 refine os 4 ?_
 have hok4 := Gs.ok.relen (ys := ((H.objs.set n (ObjL.mk x.kind p x.shut rTV1 x.ns x.names x.vs x.vals x.es x.elems x.is x.inner (if 0 ≤ x.cell then -1 else x.cell))).flatMap ObjL.cells)) hH3.row (by simp [flat_len ObjL.len])
 refine SL_perm _ (perm_ca (perm_ca (perm_ca (perm_ca (perm_ca (perm_ca perm_cz)))))) ?_
 refine L (O_storeG (ys := ((H.objs.set n (ObjL.mk x.kind p x.shut rTV1 x.ns x.names x.vs x.vals x.es x.elems x.is x.inner (if 0 ≤ x.cell then -1 else x.cell))).flatMap ObjL.cells)) H.s (n * 9 + 3) (.int .i64 rTV1) [.int .i64 rTV1] (Gs.ok.ne hH3.row (by first | omega | (simp; omega))) (fun _ => rfl) (fun _ => rfl) rfl (by kernel_rfl) rfl (by rw [flat_len ObjL.len]; simp; omega) ((row_lay (j := 3) ObjL.len (ObjL.mk x.kind p x.shut rTV1 x.ns x.names x.vs x.vals x.es x.elems x.is x.inner (if 0 ≤ x.cell then -1 else x.cell)) (Qd hx) (Nat.le_of_ble_eq_true rfl) rfl).trans (by rw [List.set_set])) rfl ?_)
 refine SL_nil ?_
 refine body_end' (.tuple #[]) (fun _ => rfl) ?_
 refine ⟨((ObjL.mk x.kind p x.shut rTV1 x.ns x.names x.vs x.vals x.es x.elems x.is x.inner (if 0 ≤ x.cell then -1 else x.cell)), TV1, cl1, br1), ?_, rfl, ?_, ⟨rfl, rfl, rfl, rfl, rfl, rfl⟩, ?_, hchcl1⟩
 · refine Own.trans (ow (S := ((F.p, .cells 75 6 [Gs.val H.s ((H.objs.set n (ObjL.mk x.kind p x.shut x.shape x.ns x.names x.vs x.vals x.es x.elems x.is x.inner (if 0 ≤ x.cell then -1 else x.cell))).length), Gs.val H.ts H.texts.length, .map (some F.kb), pt F.T.p 0, pt F.cp 0, .int .i64 br1]) :: ((Gs.ent 102 9 H.s ((H.objs.set n (ObjL.mk x.kind p x.shut rTV1 x.ns x.names x.vs x.vals x.es x.elems x.is x.inner (if 0 ≤ x.cell then -1 else x.cell))).flatMap ObjL.cells)) ++ ((Gs.ent 9 1 x.ns (x.names.map encS)) ++ ((Gs.ent 45 3 x.vs (x.vals.flatMap Qk)) ++ ((Gs.ent 33 1 x.es (x.elems.map encU)) ++ ((Gs.ent 33 1 x.is (x.inner.map encU)) ++ (((List.eraseIdx (H.objs.set n (ObjL.mk x.kind p x.shut x.shape x.ns x.names x.vs x.vals x.es x.elems x.is x.inner (if 0 ≤ x.cell then -1 else x.cell))) n).flatMap ObjL.ent) ++ ((Gs.ent 9 1 H.ts (H.texts.map encS)) ++ ((F.kb, .map (kvs encS encU H.known)) :: ((TreeV.ent TV1 F.T) ++ ((CellsL.ent (CellsL.mk F.cp H.cs cl1)) ++ ([])))))))))))))) (Own.of_perm ?_)
   have hb_ := HeapV.back (H := (HeapV.mk H.s (H.objs.set n (ObjL.mk x.kind p x.shut x.shape x.ns x.names x.vs x.vals x.es x.elems x.is x.inner (if 0 ≤ x.cell then -1 else x.cell))) H.ts H.texts H.known TV1 H.cs cl1 br1)) F (Qd hx) (ObjL.mk x.kind p x.shut rTV1 x.ns x.names x.vs x.vals x.es x.elems x.is x.inner (if 0 ≤ x.cell then -1 else x.cell))
   simp only [HeapV.head, HeapV.put, List.set_set, List.length_set] at hb_ ⊢
   exact hb_
 · simpa only [HeapV.put, List.set_set] using HeapV.ok.put hH3 (Qd hx) (x' := (ObjL.mk x.kind p x.shut rTV1 x.ns x.names x.vs x.vals x.es x.elems x.is x.inner (if 0 ≤ x.cell then -1 else x.cell))) ⟨(by first | exact (show Gs.ok 1 (x.names).length x.ns (x.names.map encS) from (HeapV.ok.at (x := (ObjL.mk x.kind p x.shut x.shape x.ns x.names x.vs x.vals x.es x.elems x.is x.inner (if 0 ≤ x.cell then -1 else x.cell))) hH3 (Qd hx)).ns) | (simp only [List.length_set]; exact (show Gs.ok 1 (x.names).length x.ns (x.names.map encS) from (HeapV.ok.at (x := (ObjL.mk x.kind p x.shut x.shape x.ns x.names x.vs x.vals x.es x.elems x.is x.inner (if 0 ≤ x.cell then -1 else x.cell))) hH3 (Qd hx)).ns))), (by first | exact (show Gs.ok 3 (x.vals).length x.vs (x.vals.flatMap Qk) from (HeapV.ok.at (x := (ObjL.mk x.kind p x.shut x.shape x.ns x.names x.vs x.vals x.es x.elems x.is x.inner (if 0 ≤ x.cell then -1 else x.cell))) hH3 (Qd hx)).vs) | (simp only [List.length_set]; exact (show Gs.ok 3 (x.vals).length x.vs (x.vals.flatMap Qk) from (HeapV.ok.at (x := (ObjL.mk x.kind p x.shut x.shape x.ns x.names x.vs x.vals x.es x.elems x.is x.inner (if 0 ≤ x.cell then -1 else x.cell))) hH3 (Qd hx)).vs))), (by first | exact (show Gs.ok 1 (x.elems).length x.es (x.elems.map encU) from (HeapV.ok.at (x := (ObjL.mk x.kind p x.shut x.shape x.ns x.names x.vs x.vals x.es x.elems x.is x.inner (if 0 ≤ x.cell then -1 else x.cell))) hH3 (Qd hx)).es) | (simp only [List.length_set]; exact (show Gs.ok 1 (x.elems).length x.es (x.elems.map encU) from (HeapV.ok.at (x := (ObjL.mk x.kind p x.shut x.shape x.ns x.names x.vs x.vals x.es x.elems x.is x.inner (if 0 ≤ x.cell then -1 else x.cell))) hH3 (Qd hx)).es))), (by first | exact (show Gs.ok 1 (x.inner).length x.is (x.inner.map encU) from (HeapV.ok.at (x := (ObjL.mk x.kind p x.shut x.shape x.ns x.names x.vs x.vals x.es x.elems x.is x.inner (if 0 ≤ x.cell then -1 else x.cell))) hH3 (Qd hx)).is) | (simp only [List.length_set]; exact (show Gs.ok 1 (x.inner).length x.is (x.inner.map encU) from (HeapV.ok.at (x := (ObjL.mk x.kind p x.shut x.shape x.ns x.names x.vs x.vals x.es x.elems x.is x.inner (if 0 ≤ x.cell then -1 else x.cell))) hH3 (Qd hx)).is)))⟩ (HeapV.ok.small hH3 (ObjL.mk x.kind p x.shut x.shape x.ns x.names x.vs x.vals x.es x.elems x.is x.inner (if 0 ≤ x.cell then -1 else x.cell)) (List.mem_of_getElem? (Qd hx)))
 · unfold moveS stepS; rw [if_neg (show ¬ x.ps.shape < 0 from by show ¬ x.shape < 0; omega), show moveP (H.V.abs F.T) x.ps.shape (rootKey p x.kind) = _ from hrTV1]; simp only []; rw [if_pos (by simpa using hc7)]

end Go.Proofs.YthflblophelioaaGreatDoor
namespace Go.Proofs.YthflblophelioaaGreatDoor
open Go.Sl

theorem heap_Close_none {W0 : World} {F : HeapF} {H : HeapV} (hH : H.ok F) {w : Int} (h0 : objAt w H.objs.length = none) : SC Tryz.prog W0 16 #[.pointer (some ⟨F.p, 0, none⟩), .int .u64 w] (HeapV.ent H F) (Ret (fun _ : Unit => H.ent F) (fun v _ => v = .tuple #[])) := by
 refine SC_body (fn := Tryz.f16) (n := 13) Tryz.func16 rfl (by kernel_rfl) (ρ := [(0, pt F.p 0), (1, .int .u64 w)]) rfl ?_
 refine SW_sig _ HeapV.eq0 ?_
 refine sr ?_
 refine os 2 ?_
 refine L (cl (heap_at hH w) ?_ (hp := HeapV.pm))
 rintro v1 _ hv1
 obtain rfl : v1 = .pointer none := hv1.trans (by rw [h0])
 refine SL_sig _ HeapV.eq ?_
 refine os 1 ?_
 refine kp [4, 0, 1] ?_
 refine nsr ?_
 refine os 1 ?_
 refine oV (.bool false) ?_
 refine nt ?_
 refine cf ?_
 refine Ql ?_
 refine body_end' (.tuple #[]) (fun _ => rfl) ?_
 exact ⟨(), HeapV.own, rfl⟩

theorem heap_Close_some {W0 : World} {F : HeapF} {H : HeapV} (hH : H.ok F) {w : Int} {n : Nat} {x : ObjL} (h0 : objAt w H.objs.length = some n) (hx : H.objs[n]? = some x) : SC Tryz.prog W0 16 #[.pointer (some ⟨F.p, 0, none⟩), .int .u64 w] (HeapV.ent H F) (Ret (fun _ : Unit => (H.put n (ObjL.mk x.kind x.proto true x.shape x.ns x.names x.vs x.vals x.es x.elems x.is x.inner x.cell)).ent F) (fun v _ => v = .tuple #[])) := by
 have hnl := (List.getElem?_eq_some_iff.1 hx).1
 refine SC_body (fn := Tryz.f16) (n := 13) Tryz.func16 rfl (by kernel_rfl) (ρ := [(0, pt F.p 0), (1, .int .u64 w)]) rfl ?_
 refine SW_sig _ HeapV.eq0 ?_
 refine sr ?_
 refine os 2 ?_
 refine L (cl (heap_at hH w) ?_ (hp := HeapV.pm))
 rintro v1 _ hv1
 obtain rfl : v1 = pt (Gs.blk H.s) (n * 9) := hv1.trans (by rw [h0])
 refine SL_sig _ HeapV.eq ?_
 refine os 1 ?_
 refine kp [4, 0, 1] ?_
 refine nsr ?_
 refine os 1 ?_
 refine oV (.bool true) ?_
 refine nt ?_
 refine ct ?_
 refine Qn ?_
 refine os 3 ?_
 have hok1 := Gs.ok.relen (ys := ((H.objs.set n (ObjL.mk x.kind x.proto true x.shape x.ns x.names x.vs x.vals x.es x.elems x.is x.inner x.cell)).flatMap ObjL.cells)) hH.row (by simp [flat_len ObjL.len])
 refine SL_perm _ (perm_cc perm_cz) ?_
 refine L (O_storeG (ys := ((H.objs.set n (ObjL.mk x.kind x.proto true x.shape x.ns x.names x.vs x.vals x.es x.elems x.is x.inner x.cell)).flatMap ObjL.cells)) H.s (n * 9 + 2) (.bool true) [.bool true] (Gs.ok.ne hH.row (by first | omega | (simp; omega))) (fun _ => rfl) (fun _ => rfl) rfl (by kernel_rfl) rfl (by rw [flat_len ObjL.len]; simp; omega) (row_lay (j := 2) ObjL.len (ObjL.mk x.kind x.proto true x.shape x.ns x.names x.vs x.vals x.es x.elems x.is x.inner x.cell) hx (Nat.le_of_ble_eq_true rfl) rfl) rfl ?_)
 refine SL_nil ?_
 refine body_end' (.tuple #[]) (fun _ => rfl) ?_
 refine ⟨(), Own.trans (ow (S := ((F.p, .cells 75 6 [Gs.val H.s H.objs.length, Gs.val H.ts H.texts.length, .map (some F.kb), pt F.T.p 0, pt F.cp 0, .int .i64 H.br]) :: ((Gs.ent 102 9 H.s ((H.objs.set n (ObjL.mk x.kind x.proto true x.shape x.ns x.names x.vs x.vals x.es x.elems x.is x.inner x.cell)).flatMap ObjL.cells)) ++ ((H.objs.flatMap ObjL.ent) ++ ((Gs.ent 9 1 H.ts (H.texts.map encS)) ++ ((F.kb, .map (kvs encS encU H.known)) :: ((TreeV.ent H.V F.T) ++ ((CellsL.ent (CellsL.mk F.cp H.cs H.cl)) ++ ([])))))))))) ?_, rfl⟩
 exact Own.of_perm (List.Perm.of_eq (by simp only [HeapV.ent, HeapV.head, HeapV.row, List.length_set, flat_same (f := ObjL.ent) (x' := (ObjL.mk x.kind x.proto true x.shape x.ns x.names x.vs x.vals x.es x.elems x.is x.inner x.cell)) hx rfl]))

end Go.Proofs.YthflblophelioaaGreatDoor
namespace Go.Proofs.YthflblophelioaaGreatDoor
open Go.Sl

theorem heap_Drop_none {W0 : World} {F : HeapF} {H : HeapV} (hH : H.ok F) {w : Int} (h0 : objAt w H.objs.length = none) (key : ByteArray) : SC Tryz.prog W0 75 #[.pointer (some ⟨F.p, 0, none⟩), .int .u64 w, .string key] (HeapV.ent H F) (Ret (fun _ : Unit => H.ent F) (fun v _ => v = .bool false)) := by
 refine SC_body (fn := Tryz.f75) (n := 48) Tryz.func75 rfl (by kernel_rfl) (ρ := [(0, pt F.p 0), (1, .int .u64 w), (2, .string key)]) rfl ?_
 refine SW_sig _ HeapV.eq0 ?_
 refine sr ?_
 refine os 1 ?_
 refine nsr ?_
 refine os 2 ?_
 refine L (cl (heap_at hH w) ?_ (hp := HeapV.pm))
 rintro v1 _ hv1
 obtain rfl : v1 = .pointer none := hv1.trans (by rw [h0])
 refine SL_sig _ HeapV.eq ?_
 refine os 1 ?_
 refine kp [7, 6, 0, 1, 2] ?_
 refine nq ?_
 refine sr ?_
 refine os 1 ?_
 refine oV (.bool true) ?_
 refine nt ?_
 refine ct ?_
 refine sr ?_
 refine os 1 ?_
 refine nt ?_
 refine Qi (Qm ?_)
 refine Qg (.bool false) (fun _ => rfl) ?_
 exact ⟨(), HeapV.own, rfl⟩

theorem heap_SetElem_none {W0 : World} {F : HeapF} {H : HeapV} (hH : H.ok F) {w : Int} (h0 : objAt w H.objs.length = none) (m wd : Int) : SC Tryz.prog W0 67 #[.pointer (some ⟨F.p, 0, none⟩), .int .u64 w, .int .i64 m, .int .u64 wd] (HeapV.ent H F) (Ret (fun _ : Unit => H.ent F) (fun v _ => v = .bool false)) := by
 refine SC_body (fn := Tryz.f67) (n := 44) Tryz.func67 rfl (by kernel_rfl) (ρ := [(0, pt F.p 0), (1, .int .u64 w), (2, .int .i64 m), (3, .int .u64 wd)]) rfl ?_
 refine SW_sig _ HeapV.eq0 ?_
 refine sr ?_
 refine os 1 ?_
 refine nq ?_
 refine sr ?_
 refine os 3 ?_
 refine tbp 12 (fun hg1 => ?_) (fun hg1 => ?_)
 ·replace hg1 : m < 0 := hg1
  refine os 18 ?_
  refine kp [30, 8, 0, 1, 2, 3] ?_
  refine nt ?_
  refine ct ?_
  refine sr ?_
  refine os 1 ?_
  refine nt ?_
  refine Qi (Qm ?_)
  refine Qg (.bool false) (fun _ => rfl) ?_
  exact ⟨(), HeapV.own, rfl⟩
 replace hg1 : ¬ (m < 0) := hg1
 refine os 4 ?_
 refine kp [16, 8, 0, 1, 2, 3] ?_
 refine tbp 16 (fun hg2 => ?_) (fun hg2 => ?_)
 ·replace hg2 : m ≥ 4096 := hg2
  refine os 14 ?_
  refine kp [30, 8, 0, 1, 2, 3] ?_
  refine nt ?_
  refine ct ?_
  refine sr ?_
  refine os 1 ?_
  refine nt ?_
  refine Qi (Qm ?_)
  refine Qg (.bool false) (fun _ => rfl) ?_
  exact ⟨(), HeapV.own, rfl⟩
 replace hg2 : ¬ (m ≥ 4096) := hg2
 refine os 3 ?_
 refine L (cl (heap_Len_none hH h0) ?_ (hp := HeapV.pm))
 rintro _ _ rfl
 refine SL_sig _ HeapV.eq ?_
 refine os 2 ?_
 refine pn 22 (show (decide (m ≥ 0)) = true from (by simp; omega)) ?_
 refine os 4 ?_
 refine kp [26, 24, 23, 22, 16, 8, 0, 1, 2, 3] ?_
 refine L (cl (heap_SetLen_none hH h0 (m + 1)) ?_ (hp := HeapV.pm))
 rintro _ _ rfl
 refine SL_sig _ HeapV.eq ?_
 refine oV (.bool true) ?_
 refine os 2 ?_
 refine kp [30, 8, 0, 1, 2, 3] ?_
 refine nt ?_
 refine ct ?_
 refine sr ?_
 refine os 1 ?_
 refine nt ?_
 refine Qi (Qm ?_)
 refine Qg (.bool false) (fun _ => rfl) ?_
 exact ⟨(), HeapV.own, rfl⟩

end Go.Proofs.YthflblophelioaaGreatDoor
namespace Go.Proofs.YthflblophelioaaGreatDoor
open Go.Sl

theorem heap_SetElem_bad {W0 : World} {F : HeapF} {H : HeapV} (hH : H.ok F) {w wd : Int} {m : Int} (hbad : ¬ (0 ≤ m ∧ m < 4096)) : SC Tryz.prog W0 67 #[.pointer (some ⟨F.p, 0, none⟩), .int .u64 w, .int .i64 m, .int .u64 wd] (HeapV.ent H F) (Ret (fun _ : Unit => H.ent F) (fun v _ => v = .bool false)) := by
 refine SC_body (fn := Tryz.f67) (n := 44) Tryz.func67 rfl (by kernel_rfl) (ρ := [(0, pt F.p 0), (1, .int .u64 w), (2, .int .i64 m), (3, .int .u64 wd)]) rfl ?_
 refine SW_sig _ HeapV.eq0 ?_
 refine sr ?_
 refine os 1 ?_
 refine nq ?_
 refine sr ?_
 refine os 3 ?_
 refine tbp 12 (fun hg1 => ?_) (fun hg1 => ?_)
 ·replace hg1 : m < 0 := hg1
  refine os 18 ?_
  refine kp [30, 8, 0, 1, 2, 3] ?_
  refine nt ?_
  refine ct ?_
  refine sr ?_
  refine os 1 ?_
  refine nt ?_
  refine Qi (Qm ?_)
  refine Qg (.bool false) (fun _ => rfl) ?_
  exact ⟨(), HeapV.own, rfl⟩
 replace hg1 : ¬ (m < 0) := hg1
 refine os 4 ?_
 refine kp [16, 8, 0, 1, 2, 3] ?_
 refine tbp 16 (fun hg2 => ?_) (fun hg2 => ?_)
 ·replace hg2 : m ≥ 4096 := hg2
  refine os 14 ?_
  refine kp [30, 8, 0, 1, 2, 3] ?_
  refine nt ?_
  refine ct ?_
  refine sr ?_
  refine os 1 ?_
  refine nt ?_
  refine Qi (Qm ?_)
  refine Qg (.bool false) (fun _ => rfl) ?_
  exact ⟨(), HeapV.own, rfl⟩
 replace hg2 : ¬ (m ≥ 4096) := hg2
 exact absurd (by omega) hbad

theorem heap_SetElem_fast {W0 : World} {F : HeapF} {H : HeapV} (hH : H.ok F) {w wd : Int} {n : Nat} {x : ObjL} (h0 : objAt w H.objs.length = some n) (hx : H.objs[n]? = some x) {k : Nat} (hB : H.bud k) (hk : k ≤ 8000000) {m : Nat} (hm4 : m < 4096) (hmx : m < x.elems.length) : SC Tryz.prog W0 67 #[.pointer (some ⟨F.p, 0, none⟩), .int .u64 w, .int .i64 (m : Int), .int .u64 wd] (HeapV.ent H F) (Ret (fun r : ObjL × List CellL × Int => (H.upd n r.1 H.V r.2.1 r.2.2).ent F) (fun v r => v = .bool true ∧ (H.upd n r.1 H.V r.2.1 r.2.2).ok F ∧ SameE x r.1 ((x.elems).set m wd) ∧ Chg x.cell H.cl r.2.1)) := by
 have hnl := (List.getElem?_eq_some_iff.1 hx).1
 refine SC_body (fn := Tryz.f67) (n := 44) Tryz.func67 rfl (by kernel_rfl) (ρ := [(0, pt F.p 0), (1, .int .u64 w), (2, .int .i64 (m : Int)), (3, .int .u64 wd)]) rfl ?_
 refine SW_sig _ HeapV.eq0 ?_
 refine sr ?_
 refine os 1 ?_
 refine nq ?_
 refine sr ?_
 refine os 3 ?_
 refine pn 12 (show (decide ((m : Int) < 0)) = false from (by simp <;> omega)) ?_
 refine os 4 ?_
 refine kp [16, 8, 0, 1, 2, 3] ?_
 refine pn 16 (show (decide ((m : Int) ≥ 4096)) = false from (by simp <;> omega)) ?_
 refine os 3 ?_
 refine L (cl (heap_Len_some hH h0 hx) ?_ (hp := HeapV.pm))
 rintro _ _ rfl
 refine SL_sig _ HeapV.eq ?_
 refine os 2 ?_
 refine pn 22 (show (decide ((m : Int) ≥ (x.elems.length : Int))) = false from (by simp <;> omega)) ?_
 refine os 8 ?_
 refine kp [30, 8, 0, 1, 2, 3] ?_
 refine nt ?_
 refine cf ?_
 refine Ql (Qj ?_)
 refine sr ?_
 refine os 2 ?_
 refine L (cl (heap_at hH w) ?_ (hp := HeapV.pm))
 rintro v2 _ hv2
 obtain rfl : v2 = pt (Gs.blk H.s) (n * 9) := hv2.trans (by rw [h0])
 refine SL_sig _ HeapV.eq ?_
 refine os 1 ?_
 refine kp [9, 30, 8, 0, 1, 2, 3] ?_
 refine nsr ?_
 refine os 2 ?_
 refine L (cl (heap_changed hH (n := n) hx hB hk) ?_ (hp := HeapV.pm))
 rintro _ ⟨cl1, br1⟩ ⟨rfl, hccl1, hchcl1⟩
 refine SL_sig _ HeapV.eq ?_
 have hH1 : HeapV.ok (HeapV.mk H.s (H.objs.set n (ObjL.chg x)) H.ts H.texts H.known H.V H.cs cl1 br1) F := hH.chg hx hccl1 br1
 refine nq ?_
 refine SW_perm _ (perm_cc (perm_ca perm_cz)) ?_
 refine SW_perm ((Gs.ent 9 1 x.ns (x.names.map encS)) ++ ((Gs.ent 45 3 x.vs (x.vals.flatMap Qk)) ++ ((Gs.ent 33 1 x.es (x.elems.map encU)) ++ ((Gs.ent 33 1 x.is (x.inner.map encU)) ++ (((List.eraseIdx (H.objs.set n (ObjL.chg x)) n).flatMap ObjL.ent) ++ ((F.p, .cells 75 6 [Gs.val H.s ((H.objs.set n (ObjL.chg x)).length), Gs.val H.ts H.texts.length, .map (some F.kb), pt F.T.p 0, pt F.cp 0, .int .i64 br1]) :: ((Gs.ent 102 9 H.s ((H.objs.set n (ObjL.chg x)).flatMap ObjL.cells)) ++ ((Gs.ent 9 1 H.ts (H.texts.map encS)) ++ ((F.kb, .map (kvs encS encU H.known)) :: ((TreeV.ent H.V F.T) ++ ((CellsL.ent (CellsL.mk F.cp H.cs cl1)) ++ ([])))))))))))) (obj_focus (Qd hx) _) ?_
 refine Qn ?_
 refine os 3 ?_
 refine L (ld ?_ (hc := Gs.cell hH1.row (fun e he => (Qa (Qa (Qa (Qa (Qa (Qc (mem_h he)))))))) (Qh ObjL.len (Qd hx) (j := 6) (by decide) rfl)) (v := Gs.val x.es x.elems.length))
 refine os 2 ?_
 refine kp [42, 41, 40, 9, 30, 8, 0, 1, 2, 3] ?_
 refine L (ixg (m : Int) (m) (show Gs.ok 1 (x.elems).length x.es (x.elems.map encU) from (HeapV.ok.at (x := (ObjL.chg x)) hH1 (Qd hx)).es) Tryz.underlying100 ?_)
 obtain ⟨e1, he1⟩ : ∃ y_, x.elems[m]? = some y_ := ⟨_, List.getElem?_eq_getElem (by omega)⟩
 have hok1 := Gs.ok.relen (ys := ((x.elems.set m wd).map encU)) (show Gs.ok 1 (x.elems).length x.es (x.elems.map encU) from (HeapV.ok.at (x := (ObjL.chg x)) hH1 (Qd hx)).es) (by simp)
 refine SL_perm _ (perm_ca (perm_ca perm_cz)) ?_
 refine L (O_storeG (ys := ((x.elems.set m wd).map encU)) x.es (m) (.int .u64 wd) [.int .u64 wd] (Gs.ok.ne (show Gs.ok 1 (x.elems).length x.es (x.elems.map encU) from (HeapV.ok.at (x := (ObjL.chg x)) hH1 (Qd hx)).es) (by first | omega | (simp; omega))) (fun _ => rfl) (fun _ => rfl) rfl (by kernel_rfl) rfl (by simp; omega) (row_lay_map wd (by omega)) rfl ?_)
 refine nsr ?_
 refine os 1 ?_
 refine kp [8, 9, 30, 0, 1, 2, 3] ?_
 refine nt ?_
 have er : (H.objs.set n (ObjL.mk x.kind x.proto x.shut x.shape x.ns x.names x.vs x.vals x.es (x.elems.set m wd) x.is x.inner (if 0 ≤ x.cell then -1 else x.cell))).flatMap ObjL.cells = (H.objs.set n (ObjL.chg x)).flatMap ObjL.cells := set_cells (by simp [ObjL.cells])
 refine SW_sig ((Gs.ent 33 1 x.es ((x.elems.set m wd).map encU)) ++ ((Gs.ent 9 1 x.ns (x.names.map encS)) ++ ((Gs.ent 45 3 x.vs (x.vals.flatMap Qk)) ++ ((Gs.ent 33 1 x.is (x.inner.map encU)) ++ (((List.eraseIdx (H.objs.set n (ObjL.chg x)) n).flatMap ObjL.ent) ++ ((F.p, .cells 75 6 [Gs.val H.s ((H.objs.set n (ObjL.chg x)).length), Gs.val H.ts H.texts.length, .map (some F.kb), pt F.T.p 0, pt F.cp 0, .int .i64 br1]) :: ((Gs.ent 102 9 H.s ((H.objs.set n (ObjL.mk x.kind x.proto x.shut x.shape x.ns x.names x.vs x.vals x.es (x.elems.set m wd) x.is x.inner (if 0 ≤ x.cell then -1 else x.cell))).flatMap ObjL.cells)) ++ ((Gs.ent 9 1 H.ts (H.texts.map encS)) ++ ((F.kb, .map (kvs encS encU H.known)) :: ((TreeV.ent H.V F.T) ++ ((CellsL.ent (CellsL.mk F.cp H.cs cl1)) ++ ([])))))))))))) (by rw [er]) ?_
 refine Qi ?_
 refine Qg (.bool true) (fun _ => rfl) ?_
 refine ⟨((ObjL.mk x.kind x.proto x.shut x.shape x.ns x.names x.vs x.vals x.es (x.elems.set m wd) x.is x.inner (if 0 ≤ x.cell then -1 else x.cell)), cl1, br1), ?_, rfl, ?_, ⟨rfl, rfl, rfl, rfl, rfl, rfl, rfl, rfl, ?_, rfl, rfl, ?_⟩, hchcl1⟩
 · refine Own.trans (ow (S := ((F.p, .cells 75 6 [Gs.val H.s ((H.objs.set n (ObjL.chg x)).length), Gs.val H.ts H.texts.length, .map (some F.kb), pt F.T.p 0, pt F.cp 0, .int .i64 br1]) :: ((Gs.ent 102 9 H.s ((H.objs.set n (ObjL.mk x.kind x.proto x.shut x.shape x.ns x.names x.vs x.vals x.es (x.elems.set m wd) x.is x.inner (if 0 ≤ x.cell then -1 else x.cell))).flatMap ObjL.cells)) ++ ((Gs.ent 9 1 x.ns (x.names.map encS)) ++ ((Gs.ent 45 3 x.vs (x.vals.flatMap Qk)) ++ ((Gs.ent 33 1 x.es ((x.elems.set m wd).map encU)) ++ ((Gs.ent 33 1 x.is (x.inner.map encU)) ++ (((List.eraseIdx (H.objs.set n (ObjL.chg x)) n).flatMap ObjL.ent) ++ ((Gs.ent 9 1 H.ts (H.texts.map encS)) ++ ((F.kb, .map (kvs encS encU H.known)) :: ((TreeV.ent H.V F.T) ++ ((CellsL.ent (CellsL.mk F.cp H.cs cl1)) ++ ([])))))))))))))) (Own.of_perm ?_)
   have hb_ := HeapV.back (H := (HeapV.mk H.s (H.objs.set n (ObjL.chg x)) H.ts H.texts H.known H.V H.cs cl1 br1)) F (Qd hx) (ObjL.mk x.kind x.proto x.shut x.shape x.ns x.names x.vs x.vals x.es (x.elems.set m wd) x.is x.inner (if 0 ≤ x.cell then -1 else x.cell))
   simp only [HeapV.head, HeapV.put, List.set_set, List.length_set] at hb_ ⊢
   exact hb_
 · simpa only [HeapV.put, List.set_set, List.length_set] using HeapV.ok.put hH1 (Qd hx) (x' := (ObjL.mk x.kind x.proto x.shut x.shape x.ns x.names x.vs x.vals x.es (x.elems.set m wd) x.is x.inner (if 0 ≤ x.cell then -1 else x.cell))) ⟨(by first | exact (show Gs.ok 1 (x.names).length x.ns (x.names.map encS) from (HeapV.ok.at (x := (ObjL.chg x)) hH1 (Qd hx)).ns) | (simp only [List.length_set]; exact (show Gs.ok 1 (x.names).length x.ns (x.names.map encS) from (HeapV.ok.at (x := (ObjL.chg x)) hH1 (Qd hx)).ns))), (by first | exact (show Gs.ok 3 (x.vals).length x.vs (x.vals.flatMap Qk) from (HeapV.ok.at (x := (ObjL.chg x)) hH1 (Qd hx)).vs) | (simp only [List.length_set]; exact (show Gs.ok 3 (x.vals).length x.vs (x.vals.flatMap Qk) from (HeapV.ok.at (x := (ObjL.chg x)) hH1 (Qd hx)).vs))), (by first | exact hok1 | (simp only [List.length_set]; exact hok1)), (by first | exact (show Gs.ok 1 (x.inner).length x.is (x.inner.map encU) from (HeapV.ok.at (x := (ObjL.chg x)) hH1 (Qd hx)).is) | (simp only [List.length_set]; exact (show Gs.ok 1 (x.inner).length x.is (x.inner.map encU) from (HeapV.ok.at (x := (ObjL.chg x)) hH1 (Qd hx)).is)))⟩ (by simp only [List.length_set]; first | omega | exact hH.small x (List.mem_of_getElem? hx))
 · rfl
 · rfl

theorem heap_SetElem_slow {W0 : World} {F : HeapF} {H : HeapV} (hH : H.ok F) {w wd : Int} {n : Nat} {x : ObjL} (h0 : objAt w H.objs.length = some n) (hx : H.objs[n]? = some x) {k : Nat} (hB : H.bud k) (hk : k ≤ 8000000) {m : Nat} (hm4 : m < 4096) (hmx : x.elems.length ≤ m) : SC Tryz.prog W0 67 #[.pointer (some ⟨F.p, 0, none⟩), .int .u64 w, .int .i64 (m : Int), .int .u64 wd] (HeapV.ent H F) (Ret (fun r : ObjL × List CellL × Int => (H.upd n r.1 H.V r.2.1 r.2.2).ent F) (fun v r => v = .bool true ∧ (H.upd n r.1 H.V r.2.1 r.2.2).ok F ∧ SameE x r.1 ((setLenL x.elems (max x.elems.length (m + 1))).set m wd) ∧ Chg x.cell H.cl r.2.1)) := by
 have hnl := (List.getElem?_eq_some_iff.1 hx).1
 refine SC_body (fn := Tryz.f67) (n := 44) Tryz.func67 rfl (by kernel_rfl) (ρ := [(0, pt F.p 0), (1, .int .u64 w), (2, .int .i64 (m : Int)), (3, .int .u64 wd)]) rfl ?_
 refine SW_sig _ HeapV.eq0 ?_
 refine sr ?_
 refine os 1 ?_
 refine nq ?_
 refine sr ?_
 refine os 3 ?_
 refine pn 12 (show (decide ((m : Int) < 0)) = false from (by simp <;> omega)) ?_
 refine os 4 ?_
 refine kp [16, 8, 0, 1, 2, 3] ?_
 refine pn 16 (show (decide ((m : Int) ≥ 4096)) = false from (by simp <;> omega)) ?_
 refine os 3 ?_
 refine L (cl (heap_Len_some hH h0 hx) ?_ (hp := HeapV.pm))
 rintro _ _ rfl
 refine SL_sig _ HeapV.eq ?_
 refine os 2 ?_
 refine pn 22 (show (decide ((m : Int) ≥ (x.elems.length : Int))) = true from (by simp <;> omega)) ?_
 refine os 4 ?_
 refine kp [26, 24, 23, 22, 16, 8, 0, 1, 2, 3] ?_
 refine L (cl (heap_SetLen_long hH h0 hx hB hk (m := m + 1) (by omega) (by omega)) ?_ (hp := HeapV.pm))
 rintro _ ⟨eg1, cl1, br1⟩ ⟨rfl, hH1, hchcl1⟩
 refine SL_sig _ HeapV.eq ?_
 simp only [] at hH1 hchcl1
 have hB2 : HeapV.bud (HeapV.mk H.s (H.objs.set n ((ObjL.chg x).withElems eg1 (setLenL x.elems (m + 1)))) H.ts H.texts H.known H.V H.cs cl1 br1) k := by obtain ⟨b1, b2, b3⟩ := Chg.bud hchcl1 hB; exact ⟨fun y hy => by rcases List.mem_or_eq_of_mem_set hy with q | q; exact hB.vals y q; (subst q; exact hB.vals x (List.mem_of_getElem? hx)), b1, b2, b3⟩
 have h02 : objAt w (H.objs.set n ((ObjL.chg x).withElems eg1 (setLenL x.elems (m + 1)))).length = some n := by rw [List.length_set]; exact h0
 have hll := setLenL_len x.elems (m + 1)
 refine oV (.bool false) ?_
 refine os 2 ?_
 refine kp [30, 8, 0, 1, 2, 3] ?_
 refine nt ?_
 refine cf ?_
 refine Ql (Qj ?_)
 refine sr ?_
 refine os 2 ?_
 refine L (cl (heap_at hH1 w) ?_ (hp := HeapV.pm))
 rintro v3 _ hv3
 obtain rfl : v3 = pt (Gs.blk H.s) (n * 9) := hv3.trans (by rw [h02])
 refine SL_sig _ HeapV.eq ?_
 refine os 1 ?_
 refine kp [9, 30, 8, 0, 1, 2, 3] ?_
 refine nsr ?_
 refine os 2 ?_
 refine L (cl (heap_changed hH1 (n := n) (Qd hx) hB2 hk) ?_ (hp := HeapV.pm))
 rintro _ ⟨cl2, br2⟩ ⟨rfl, hccl2, hchcl2⟩
 refine SL_sig _ HeapV.eq ?_
 have hH2 : HeapV.ok (HeapV.mk H.s ((H.objs.set n ((ObjL.chg x).withElems eg1 (setLenL x.elems (m + 1)))).set n (ObjL.chg ((ObjL.chg x).withElems eg1 (setLenL x.elems (m + 1))))) H.ts H.texts H.known H.V H.cs cl2 br2) F := hH1.chg (Qd hx) hccl2 br2
 refine nq ?_
 refine SW_perm _ (perm_cc (perm_ca perm_cz)) ?_
 refine SW_perm ((Gs.ent 9 1 x.ns (x.names.map encS)) ++ ((Gs.ent 45 3 x.vs (x.vals.flatMap Qk)) ++ ((Gs.ent 33 1 eg1 ((setLenL x.elems (m + 1)).map encU)) ++ ((Gs.ent 33 1 x.is (x.inner.map encU)) ++ (((List.eraseIdx ((H.objs.set n ((ObjL.chg x).withElems eg1 (setLenL x.elems (m + 1)))).set n (ObjL.chg ((ObjL.chg x).withElems eg1 (setLenL x.elems (m + 1))))) n).flatMap ObjL.ent) ++ ((F.p, .cells 75 6 [Gs.val H.s (((H.objs.set n ((ObjL.chg x).withElems eg1 (setLenL x.elems (m + 1)))).set n (ObjL.chg ((ObjL.chg x).withElems eg1 (setLenL x.elems (m + 1))))).length), Gs.val H.ts H.texts.length, .map (some F.kb), pt F.T.p 0, pt F.cp 0, .int .i64 br2]) :: ((Gs.ent 102 9 H.s (((H.objs.set n ((ObjL.chg x).withElems eg1 (setLenL x.elems (m + 1)))).set n (ObjL.chg ((ObjL.chg x).withElems eg1 (setLenL x.elems (m + 1))))).flatMap ObjL.cells)) ++ ((Gs.ent 9 1 H.ts (H.texts.map encS)) ++ ((F.kb, .map (kvs encS encU H.known)) :: ((TreeV.ent H.V F.T) ++ ((CellsL.ent (CellsL.mk F.cp H.cs cl2)) ++ ([])))))))))))) (obj_focus (Qd (Qd hx)) _) ?_
 refine Qn ?_
 refine os 3 ?_
 refine L (ld ?_ (hc := Gs.cell hH2.row (fun e he => (Qa (Qa (Qa (Qa (Qa (Qc (mem_h he)))))))) (Qh ObjL.len (Qd (Qd hx)) (j := 6) (by decide) rfl)) (v := Gs.val eg1 ((setLenL x.elems (m + 1)).length)))
 refine os 2 ?_
 refine kp [42, 41, 40, 9, 30, 8, 0, 1, 2, 3] ?_
 refine L (ixg (m : Int) (m) (show Gs.ok 1 ((setLenL x.elems (m + 1))).length eg1 ((setLenL x.elems (m + 1)).map encU) from (HeapV.ok.at (x := (ObjL.chg ((ObjL.chg x).withElems eg1 (setLenL x.elems (m + 1))))) hH2 (Qd (Qd hx))).es) Tryz.underlying100 ?_)
 obtain ⟨e1, he1⟩ : ∃ y_, (setLenL x.elems (m + 1))[m]? = some y_ := ⟨_, List.getElem?_eq_getElem (by omega)⟩
 have hok1 := Gs.ok.relen (ys := (((setLenL x.elems (m + 1)).set m wd).map encU)) (show Gs.ok 1 ((setLenL x.elems (m + 1))).length eg1 ((setLenL x.elems (m + 1)).map encU) from (HeapV.ok.at (x := (ObjL.chg ((ObjL.chg x).withElems eg1 (setLenL x.elems (m + 1))))) hH2 (Qd (Qd hx))).es) (by simp)
 refine SL_perm _ (perm_ca (perm_ca perm_cz)) ?_
 refine L (O_storeG (ys := (((setLenL x.elems (m + 1)).set m wd).map encU)) eg1 (m) (.int .u64 wd) [.int .u64 wd] (Gs.ok.ne (show Gs.ok 1 ((setLenL x.elems (m + 1))).length eg1 ((setLenL x.elems (m + 1)).map encU) from (HeapV.ok.at (x := (ObjL.chg ((ObjL.chg x).withElems eg1 (setLenL x.elems (m + 1))))) hH2 (Qd (Qd hx))).es) (by first | omega | (simp; omega))) (fun _ => rfl) (fun _ => rfl) rfl (by kernel_rfl) rfl (by simp; omega) (row_lay_map wd (by omega)) rfl ?_)
 refine nsr ?_
 refine os 1 ?_
 refine kp [8, 9, 30, 0, 1, 2, 3] ?_
 refine nt ?_
 have er : ((H.objs.set n ((ObjL.chg x).withElems eg1 (setLenL x.elems (m + 1)))).set n (ObjL.mk x.kind x.proto x.shut x.shape x.ns x.names x.vs x.vals eg1 ((setLenL x.elems (m + 1)).set m wd) x.is x.inner (if 0 ≤ ((ObjL.chg x).withElems eg1 (setLenL x.elems (m + 1))).cell then -1 else ((ObjL.chg x).withElems eg1 (setLenL x.elems (m + 1))).cell))).flatMap ObjL.cells = ((H.objs.set n ((ObjL.chg x).withElems eg1 (setLenL x.elems (m + 1)))).set n (ObjL.chg ((ObjL.chg x).withElems eg1 (setLenL x.elems (m + 1))))).flatMap ObjL.cells := set_cells (by simp [ObjL.cells])
 refine SW_sig ((Gs.ent 33 1 eg1 (((setLenL x.elems (m + 1)).set m wd).map encU)) ++ ((Gs.ent 9 1 x.ns (x.names.map encS)) ++ ((Gs.ent 45 3 x.vs (x.vals.flatMap Qk)) ++ ((Gs.ent 33 1 x.is (x.inner.map encU)) ++ (((List.eraseIdx ((H.objs.set n ((ObjL.chg x).withElems eg1 (setLenL x.elems (m + 1)))).set n (ObjL.chg ((ObjL.chg x).withElems eg1 (setLenL x.elems (m + 1))))) n).flatMap ObjL.ent) ++ ((F.p, .cells 75 6 [Gs.val H.s (((H.objs.set n ((ObjL.chg x).withElems eg1 (setLenL x.elems (m + 1)))).set n (ObjL.chg ((ObjL.chg x).withElems eg1 (setLenL x.elems (m + 1))))).length), Gs.val H.ts H.texts.length, .map (some F.kb), pt F.T.p 0, pt F.cp 0, .int .i64 br2]) :: ((Gs.ent 102 9 H.s (((H.objs.set n ((ObjL.chg x).withElems eg1 (setLenL x.elems (m + 1)))).set n (ObjL.mk x.kind x.proto x.shut x.shape x.ns x.names x.vs x.vals eg1 ((setLenL x.elems (m + 1)).set m wd) x.is x.inner (if 0 ≤ ((ObjL.chg x).withElems eg1 (setLenL x.elems (m + 1))).cell then -1 else ((ObjL.chg x).withElems eg1 (setLenL x.elems (m + 1))).cell))).flatMap ObjL.cells)) ++ ((Gs.ent 9 1 H.ts (H.texts.map encS)) ++ ((F.kb, .map (kvs encS encU H.known)) :: ((TreeV.ent H.V F.T) ++ ((CellsL.ent (CellsL.mk F.cp H.cs cl2)) ++ ([])))))))))))) (by rw [er]) ?_
 refine Qi ?_
 refine Qg (.bool true) (fun _ => rfl) ?_
 refine ⟨((ObjL.mk x.kind x.proto x.shut x.shape x.ns x.names x.vs x.vals eg1 ((setLenL x.elems (m + 1)).set m wd) x.is x.inner (if 0 ≤ ((ObjL.chg x).withElems eg1 (setLenL x.elems (m + 1))).cell then -1 else ((ObjL.chg x).withElems eg1 (setLenL x.elems (m + 1))).cell)), cl2, br2), ?_, rfl, ?_, ⟨rfl, rfl, rfl, rfl, rfl, rfl, rfl, rfl, ?_, rfl, rfl, ?_⟩, (by have q_ := hchcl2; unfold Chg at q_; rw [if_neg (show ¬ (0 : Int) ≤ (ObjL.cell _) from by show ¬ (0 : Int) ≤ (if 0 ≤ x.cell then -1 else x.cell); split <;> omega)] at q_; simp only [] at q_ ⊢; rw [q_]; exact hchcl1)⟩
 · refine Own.trans (ow (S := ((F.p, .cells 75 6 [Gs.val H.s (((H.objs.set n ((ObjL.chg x).withElems eg1 (setLenL x.elems (m + 1)))).set n (ObjL.chg ((ObjL.chg x).withElems eg1 (setLenL x.elems (m + 1))))).length), Gs.val H.ts H.texts.length, .map (some F.kb), pt F.T.p 0, pt F.cp 0, .int .i64 br2]) :: ((Gs.ent 102 9 H.s (((H.objs.set n ((ObjL.chg x).withElems eg1 (setLenL x.elems (m + 1)))).set n (ObjL.mk x.kind x.proto x.shut x.shape x.ns x.names x.vs x.vals eg1 ((setLenL x.elems (m + 1)).set m wd) x.is x.inner (if 0 ≤ ((ObjL.chg x).withElems eg1 (setLenL x.elems (m + 1))).cell then -1 else ((ObjL.chg x).withElems eg1 (setLenL x.elems (m + 1))).cell))).flatMap ObjL.cells)) ++ ((Gs.ent 9 1 x.ns (x.names.map encS)) ++ ((Gs.ent 45 3 x.vs (x.vals.flatMap Qk)) ++ ((Gs.ent 33 1 eg1 (((setLenL x.elems (m + 1)).set m wd).map encU)) ++ ((Gs.ent 33 1 x.is (x.inner.map encU)) ++ (((List.eraseIdx ((H.objs.set n ((ObjL.chg x).withElems eg1 (setLenL x.elems (m + 1)))).set n (ObjL.chg ((ObjL.chg x).withElems eg1 (setLenL x.elems (m + 1))))) n).flatMap ObjL.ent) ++ ((Gs.ent 9 1 H.ts (H.texts.map encS)) ++ ((F.kb, .map (kvs encS encU H.known)) :: ((TreeV.ent H.V F.T) ++ ((CellsL.ent (CellsL.mk F.cp H.cs cl2)) ++ ([])))))))))))))) (Own.of_perm ?_)
   have hb_ := HeapV.back (H := (HeapV.mk H.s ((H.objs.set n ((ObjL.chg x).withElems eg1 (setLenL x.elems (m + 1)))).set n (ObjL.chg ((ObjL.chg x).withElems eg1 (setLenL x.elems (m + 1))))) H.ts H.texts H.known H.V H.cs cl2 br2)) F (Qd (Qd hx)) (ObjL.mk x.kind x.proto x.shut x.shape x.ns x.names x.vs x.vals eg1 ((setLenL x.elems (m + 1)).set m wd) x.is x.inner (if 0 ≤ ((ObjL.chg x).withElems eg1 (setLenL x.elems (m + 1))).cell then -1 else ((ObjL.chg x).withElems eg1 (setLenL x.elems (m + 1))).cell))
   simp only [HeapV.head, HeapV.put, List.set_set, List.length_set] at hb_ ⊢
   exact hb_
 · simpa only [HeapV.put, List.set_set, List.length_set] using HeapV.ok.put hH2 (Qd (Qd hx)) (x' := (ObjL.mk x.kind x.proto x.shut x.shape x.ns x.names x.vs x.vals eg1 ((setLenL x.elems (m + 1)).set m wd) x.is x.inner (if 0 ≤ ((ObjL.chg x).withElems eg1 (setLenL x.elems (m + 1))).cell then -1 else ((ObjL.chg x).withElems eg1 (setLenL x.elems (m + 1))).cell))) ⟨(by first | exact (show Gs.ok 1 (x.names).length x.ns (x.names.map encS) from (HeapV.ok.at (x := (ObjL.chg ((ObjL.chg x).withElems eg1 (setLenL x.elems (m + 1))))) hH2 (Qd (Qd hx))).ns) | (simp only [List.length_set]; exact (show Gs.ok 1 (x.names).length x.ns (x.names.map encS) from (HeapV.ok.at (x := (ObjL.chg ((ObjL.chg x).withElems eg1 (setLenL x.elems (m + 1))))) hH2 (Qd (Qd hx))).ns))), (by first | exact (show Gs.ok 3 (x.vals).length x.vs (x.vals.flatMap Qk) from (HeapV.ok.at (x := (ObjL.chg ((ObjL.chg x).withElems eg1 (setLenL x.elems (m + 1))))) hH2 (Qd (Qd hx))).vs) | (simp only [List.length_set]; exact (show Gs.ok 3 (x.vals).length x.vs (x.vals.flatMap Qk) from (HeapV.ok.at (x := (ObjL.chg ((ObjL.chg x).withElems eg1 (setLenL x.elems (m + 1))))) hH2 (Qd (Qd hx))).vs))), (by first | exact hok1 | (simp only [List.length_set]; exact hok1)), (by first | exact (show Gs.ok 1 (x.inner).length x.is (x.inner.map encU) from (HeapV.ok.at (x := (ObjL.chg ((ObjL.chg x).withElems eg1 (setLenL x.elems (m + 1))))) hH2 (Qd (Qd hx))).is) | (simp only [List.length_set]; exact (show Gs.ok 1 (x.inner).length x.is (x.inner.map encU) from (HeapV.ok.at (x := (ObjL.chg ((ObjL.chg x).withElems eg1 (setLenL x.elems (m + 1))))) hH2 (Qd (Qd hx))).is)))⟩ (by simp only [List.length_set, setLenL_len]; first | omega | exact hH.small x (List.mem_of_getElem? hx))
 · rw [show max x.elems.length (m + 1) = m + 1 by omega]
 · show (if 0 ≤ (if 0 ≤ x.cell then -1 else x.cell) then -1 else (if 0 ≤ x.cell then -1 else x.cell)) = _; by_cases q_ : (0 : Int) ≤ x.cell <;> simp [q_]

end Go.Proofs.YthflblophelioaaGreatDoor
namespace Go.Proofs.YthflblophelioaaGreatDoor
open Go.Sl
variable {k : Nat} {H : HeapV} {F : HeapF} {n : Nat} {x : ObjL} {W0 : World}
def setElemL (l : List Int) (m : Int) (w : Int) : List Int := if 0 ≤ m ∧ m < 4096 then (setLenL l (max l.length (m.toNat + 1))).set m.toNat w else l
def setLenQ (l : List Int) (m : Int) : List Int := if 0 ≤ m ∧ m ≤ 4096 then setLenL l m.toNat else l
theorem SameE.inv {t : TreeP} {x x' : ObjL} {l : List Int} (h : SameE x x' l) (ho : OInv t x) : OInv t x' ∧ pubO t x' = ⟨x.kind, x.proto, x.shut, keysOf t x, x.vals, l, x.inner⟩ := by
 obtain ⟨kind, proto, shut, shape, ns, names, vs, vals, es, elems, is, inner, cell⟩ := x'
 obtain ⟨rfl, rfl, rfl, rfl, rfl, rfl, rfl, rfl, rfl, rfl, rfl, rfl⟩ := h
 exact ⟨⟨ho.fast, ho.len, ho.nodup, ho.stale⟩, rfl⟩
theorem setElemL_len (l : List Int) (m w : Int) (hl : l.length ≤ 4096) : (setElemL l m w).length = if 0 ≤ m ∧ m < 4096 then max l.length (m.toNat + 1) else l.length := by
 unfold setElemL
 split
 · rw [List.length_set, setLenL_len]
 · rfl
structure ElI (l : List Int) (w : Int) (i : Nat) (E : List Int) : Prop where
  len : E.length ≤ 4096
  laid : ∀ j m, j < i → l[j]? = some m → 0 ≤ m → m < 4096 → E[m.toNat]? = some w
theorem ElI.start (l : List Int) (w : Int) : ElI l w 0 [] := ⟨Nat.zero_le _, fun j m h => by omega⟩
theorem ElI.step {l : List Int} {w m : Int} {i : Nat} {E : List Int} (h : ElI l w i E) (hm : l[i]? = some m) : ElI l w (i + 1) (setElemL E m w) := by
 have hl := h.len
 refine ⟨by rw [setElemL_len E m w hl]; split <;> omega, fun j q hj hq h0 h1 => ?_⟩
 have hold : ∀ q : Int, E[q.toNat]? = some w → (setElemL E m w)[q.toNat]? = some w := fun q hq => by
   unfold setElemL
   split
   · by_cases e : m.toNat = q.toNat
     · rw [e, List.getElem?_set_self]
       have := (List.getElem?_eq_some_iff.1 hq).1
       rw [setLenL_len]; omega
     · rw [List.getElem?_set_ne e]
       have h2 := (List.getElem?_eq_some_iff.1 hq).1
       unfold setLenL
       rw [List.take_of_length_le (by omega), List.getElem?_append_left h2]; exact hq
   · exact hq
 by_cases e : j = i
 · subst e
   rw [hm] at hq; cases hq
   unfold setElemL
   rw [if_pos ⟨h0, h1⟩, List.getElem?_set_self]
   rw [setLenL_len]; omega
 · exact hold q (h.laid j q (by omega) hq h0 h1)
end Go.Proofs.YthflblophelioaaGreatDoor
namespace Go.Proofs.YthflblophelioaaGreatDoor
open Go.Sl
variable {k : Nat} {H : HeapV} {F : HeapF} {n : Nat} {x : ObjL} {W0 : World}
def modP (l : List ObjS) (w : Int) (f : ObjS → ObjS) : List ObjS := match objAt w l.length with
 | none => l
 | some n => match l[n]? with
   | none => l
   | some o => l.set n (f o)
theorem modP_none {l : List ObjS} {w : Int} {f : ObjS → ObjS} (h : objAt w l.length = none) : modP l w f = l := by unfold modP; rw [h]
theorem modP_some {l : List ObjS} {w : Int} {f : ObjS → ObjS} {n : Nat} {o : ObjS} (h : objAt w l.length = some n) (ho : l[n]? = some o) : modP l w f = l.set n (f o) := by
 unfold modP; rw [h]; simp only []; rw [ho]
theorem modP_len (l : List ObjS) (w : Int) (f : ObjS → ObjS) : (modP l w f).length = l.length := by
 unfold modP
 split
 · rfl
 · split
   · rfl
   · exact List.length_set
theorem obj_of {l : List ObjS} {w : Int} {n : Nat} (h : objAt w l.length = some n) : ∃ o, l[n]? = some o := ⟨_, List.getElem?_eq_getElem (objAt_tag h).2⟩
abbrev putO (key : ByteArray) (d : DescP) (o : ObjS) : ObjS := ⟨o.kind, o.proto, o.shut, putNm o.names key, putDs o.names o.descs key (normD d), o.elems, o.inner⟩
abbrev dropO (key : ByteArray) (o : ObjS) : ObjS := ⟨o.kind, o.proto, o.shut, dropNm o.names key, dropDs o.names o.descs key, o.elems, o.inner⟩
abbrev setO (m wd : Int) (o : ObjS) : ObjS := ⟨o.kind, o.proto, o.shut, o.names, o.descs, setElemL o.elems m wd, o.inner⟩
abbrev lenO (m : Int) (o : ObjS) : ObjS := ⟨o.kind, o.proto, o.shut, o.names, o.descs, setLenQ o.elems m, o.inner⟩
abbrev shutO (o : ObjS) : ObjS := ⟨o.kind, o.proto, true, o.names, o.descs, o.elems, o.inner⟩
abbrev innerO (l : List Int) (o : ObjS) : ObjS := ⟨o.kind, o.proto, o.shut, o.names, o.descs, o.elems, l⟩
def writeD (l : List DescP) (m wd : Int) : List DescP := if 0 ≤ m then (match l[m.toNat]? with | some d => l.set m.toNat (wd, d.2.1, d.2.2) | none => l) else l
abbrev writeO (m wd : Int) (o : ObjS) : ObjS := ⟨o.kind, o.proto, o.shut, o.names, writeD o.descs m wd, o.elems, o.inner⟩
def hasQ (l : List ObjS) (w : Int) (key : ByteArray) : Bool := match objAt w l.length with | none => false | some n => match l[n]? with | none => false | some o => decide (0 ≤ ixS o.names key)
theorem hasQ_some {l : List ObjS} {w : Int} {key : ByteArray} {n : Nat} {o : ObjS} (h : objAt w l.length = some n) (ho : l[n]? = some o) : hasQ l w key = decide (0 ≤ ixS o.names key) := by unfold hasQ; rw [h]; simp only []; rw [ho]
theorem hasQ_none {l : List ObjS} {w : Int} {key : ByteArray} (h : objAt w l.length = none) : hasQ l w key = false := by unfold hasQ; rw [h]
def Touch (g g' : GdP) (n : Nat) : Prop := ∃ c, g.1[n]? = some c ∧ g'.1 = g.1.set n (if 0 ≤ c then -1 else c) ∧ (if 0 ≤ c then Broke g.2 g'.2 c else g'.2 = g.2)
def GdC (g g' : GdP) (on : Option Nat) (must : Prop) : Prop := (¬ must ∧ g' = g) ∨ ∃ n, on = some n ∧ Touch g g' n
theorem touch_upd (hx : H.objs[n]? = some x) {x' : ObjL} {V : TreeV} {cl : List CellL} {br : Int} (hc : x'.cell = if 0 ≤ x.cell then -1 else x.cell) (hg : Chg x.cell H.cl cl) : Touch H.gd (H.upd n x' V cl br).gd n := by
 refine ⟨x.cell, HeapV.gd_at hx, ?_, ?_⟩
 · show (H.objs.set n x').map ObjL.cell = (H.objs.map ObjL.cell).set n _
   rw [List.map_set, hc]
 · unfold Chg at hg
   by_cases h : 0 ≤ x.cell
   · rw [if_pos h] at hg ⊢; exact hg
   · rw [if_neg h] at hg ⊢; show cl.map CellL.abs = _; rw [hg]; rfl
structure Stp (k : Nat) (H H' : HeapV) (F : HeapF) (l : List ObjS) (t : List ByteArray) (w : Int) (must : Prop) : Prop where
  inv : HInv k H' F
  pub : H'.pub F = l
  texts : H'.texts = t
  gd : GdC H.gd H'.gd (objAt w (H.pub F).length) must
theorem Stp.same (h : HInv k H F) {l : List ObjS} (hl : H.pub F = l) (w : Int) {must : Prop} (hm : ¬ must) : Stp k H H F l H.texts w must := ⟨h, hl, rfl, .inl ⟨hm, rfl⟩⟩
theorem hq_Put (hk : k ≤ 8000000) (h : HInv k H F) (w : Int) (key : ByteArray) (d : DescP) :
   SC Tryz.prog W0 68 #[.pointer (some ⟨F.p, 0, none⟩), .int .u64 w, .string key, descV d] (H.ent F)
   (Ret (fun H' : HeapV => H'.ent F) (fun v H' => v = .tuple #[] ∧ Stp (k + 1) H H' F (modP (H.pub F) w (putO key d)) H.texts w (objAt w (H.pub F).length ≠ none))) := by
 cases h0 : objAt w (H.pub F).length with
 | none =>
   rw [modP_none h0]
   refine SC.ret (heap_Put_none h.ok (by rw [← HeapV.pub_len H F]; exact h0) key d) fun v _ hv => ⟨H, rfl, hv, Stp.same (h.mono (by omega)) rfl w (by simp)⟩
 | some n =>
   obtain ⟨o, ho⟩ := obj_of h0
   rw [modP_some h0 ho]
   have h1 := h0
   rw [HeapV.pub_len] at h0
   obtain ⟨x, hx, rfl⟩ := pub_obj ho
   have ho' := h.obj hx
   refine SC.ret (heap_Put_some h.ok h0 hx ho' h.bud hk key d) fun v r ⟨g1, h2, h3, h4, h5⟩ => ⟨_, rfl, g1, ?_⟩
   have p := putS_put h.tree ho'.ps key (normD d)
   rw [show putS (H.V.abs F.T) x.ps key (normD d) = _ from h4] at p
   simp only [] at p
   have hi : OInv (r.2.1.abs F.T) r.1 := PInv.obj (by rw [h3.proto, h3.kind]; exact p.obj)
   have hvl : r.1.vals = putDs (keysOf (H.V.abs F.T) x) x.vals key (normD d) := p.vals
   have hkl : keysOf (r.2.1.abs F.T) r.1 = putNm (keysOf (H.V.abs F.T) x) key := p.keys
   obtain ⟨a, b⟩ := h.upd hx (Nat.le_succ k) h2 p.inv p.ext hi (by rw [hvl]; have := putDs_len (keysOf (H.V.abs F.T) x) x.vals key (normD d); have := h.bud.vals x (List.mem_of_getElem? hx); omega) (by rw [h3.inner]; exact h.in' hx) h5
   exact ⟨a, by rw [b, h3.pub, hkl, hvl]; rfl, rfl, .inr ⟨n, h1, touch_upd hx h3.cell h5⟩⟩
theorem hq_Drop (hk : k ≤ 8000000) (h : HInv k H F) (w : Int) (key : ByteArray) :
   SC Tryz.prog W0 75 #[.pointer (some ⟨F.p, 0, none⟩), .int .u64 w, .string key] (H.ent F)
   (Ret (fun H' : HeapV => H'.ent F) (fun v H' => v = .bool (hasQ (H.pub F) w key) ∧ Stp k H H' F (modP (H.pub F) w (dropO key)) H.texts w (hasQ (H.pub F) w key = true))) := by
 cases h0 : objAt w (H.pub F).length with
 | none =>
   rw [modP_none h0, hasQ_none h0]
   refine SC.ret (heap_Drop_none h.ok (by rw [← HeapV.pub_len H F]; exact h0) key) fun v _ hv => ⟨H, rfl, hv, Stp.same h rfl w (by simp)⟩
 | some n =>
   obtain ⟨o, ho⟩ := obj_of h0
   rw [modP_some h0 ho, hasQ_some h0 ho]
   have h1 := h0
   rw [HeapV.pub_len] at h0
   obtain ⟨x, hx, rfl⟩ := pub_obj ho
   have ho' := h.obj hx
   have e := placePS ho'.ps key
   by_cases hn : ixS (keysOf (H.V.abs F.T) x) key < 0
   · have hno : placeO (H.V.abs F.T) x.shape x.names key < 0 := by
       rw [show placeO (H.V.abs F.T) x.shape x.names key = _ from e]
       show (if ixS (keysOf (H.V.abs F.T) x) key < 0 then (-1 : Int) else _) < 0
       rw [if_pos hn]; decide
     have hd : decide (0 ≤ ixS (pubO (H.V.abs F.T) x).names key) = false := decide_eq_false (by show ¬ 0 ≤ ixS (keysOf (H.V.abs F.T) x) key; omega)
     rw [hd]
     refine SC.ret (heap_Drop_no h.ok h0 hx hno) fun v _ hv => ⟨H, rfl, hv, Stp.same h ?_ w (by simp)⟩
     have d1 : dropNm (pubO (H.V.abs F.T) x).names key = (pubO (H.V.abs F.T) x).names := if_pos hn
     have d2 : dropDs (pubO (H.V.abs F.T) x).names (pubO (H.V.abs F.T) x).descs key = (pubO (H.V.abs F.T) x).descs := if_pos hn
     rw [show dropO key (pubO (H.V.abs F.T) x) = pubO (H.V.abs F.T) x from by unfold dropO; rw [d1, d2]]
     exact (set_same ho).symm
   · obtain ⟨q, hq⟩ := Int.eq_ofNat_of_zero_le (ixS_nn hn)
     have hqv : q < x.vals.length := by
       have q1 := (List.getElem?_eq_some_iff.1 (ixS_some (ixS_nn hn))).1
       rw [hq, ← ho'.len] at *
       exact q1
     have hp : placeO (H.V.abs F.T) x.shape x.names key = (q : Int) := by
       rw [show placeO (H.V.abs F.T) x.shape x.names key = _ from e]
       show (if ixS (keysOf (H.V.abs F.T) x) key < 0 then (-1 : Int) else ixS (keysOf (H.V.abs F.T) x) key) = q
       rw [if_neg hn]; exact hq
     have hd : decide (0 ≤ ixS (pubO (H.V.abs F.T) x).names key) = true := decide_eq_true (ixS_nn hn)
     rw [hd]
     refine SC.ret (heap_Drop_yes h.ok h0 hx ho' h.bud hk hp) fun v r ⟨g1, h2, h3, h4, h5⟩ => ⟨_, rfl, g1, ?_⟩
     obtain ⟨i1, i2, i3⟩ := drop_inv ho' h3 hqv h4
     have e3 : r.1.vals = x.vals.eraseIdx q := congrArg PS.vals h4
     obtain ⟨a, b⟩ := h.upd hx (Nat.le_refl k) h2 h.tree (Ext.refl _) i1 (by rw [e3]; exact Nat.le_trans (List.length_eraseIdx_le _ _) (h.bud.vals x (List.mem_of_getElem? hx))) (by rw [h3.inner]; exact h.in' hx) h5
     have d1 : dropNm (pubO (H.V.abs F.T) x).names key = (keysOf (H.V.abs F.T) x).eraseIdx q := (if_neg hn).trans (by show _ = _; rw [show ixS (pubO (H.V.abs F.T) x).names key = (q : Int) from hq]; rfl)
     have d2 : dropDs (pubO (H.V.abs F.T) x).names (pubO (H.V.abs F.T) x).descs key = x.vals.eraseIdx q := (if_neg hn).trans (by show _ = _; rw [show ixS (pubO (H.V.abs F.T) x).names key = (q : Int) from hq]; rfl)
     exact ⟨a, by rw [b, h3.pub, i2, e3, show dropO key (pubO (H.V.abs F.T) x) = _ from by unfold dropO; rw [d1, d2]]; rfl, rfl, .inr ⟨n, h1, touch_upd hx h3.cell h5⟩⟩
end Go.Proofs.YthflblophelioaaGreatDoor
namespace Go.Proofs.YthflblophelioaaGreatDoor
open Go.Sl
variable {k : Nat} {H : HeapV} {F : HeapF} {n : Nat} {x : ObjL} {W0 : World}
def setQ (l : List ObjS) (w m : Int) : Bool := decide (0 ≤ m ∧ m < 4096) && (objAt w l.length).isSome
def lenQ (l : List ObjS) (w m : Int) : Bool := decide (0 ≤ m ∧ m ≤ 4096) && (objAt w l.length).isSome
theorem hq_SetElem (hk : k ≤ 8000000) (h : HInv k H F) (w m wd : Int) :
   SC Tryz.prog W0 67 #[.pointer (some ⟨F.p, 0, none⟩), .int .u64 w, .int .i64 m, .int .u64 wd] (H.ent F)
   (Ret (fun H' : HeapV => H'.ent F) (fun v H' => v = .bool (setQ (H.pub F) w m) ∧ Stp k H H' F (modP (H.pub F) w (setO m wd)) H.texts w False)) := by
 cases h0 : objAt w (H.pub F).length with
 | none =>
   rw [modP_none h0, show setQ (H.pub F) w m = false from by unfold setQ; rw [h0]; simp]
   exact SC.ret (heap_SetElem_none h.ok (by rw [← HeapV.pub_len H F]; exact h0) m wd) fun v _ hv => ⟨H, rfl, hv, Stp.same h rfl w (by simp)⟩
 | some n =>
   obtain ⟨o, ho⟩ := obj_of h0
   rw [modP_some h0 ho, show setQ (H.pub F) w m = decide (0 ≤ m ∧ m < 4096) from by unfold setQ; rw [h0]; simp]
   have h1 := h0
   rw [HeapV.pub_len] at h0
   obtain ⟨x, hx, rfl⟩ := pub_obj ho
   have ho' := h.obj hx
   by_cases hm : 0 ≤ m ∧ m < 4096
   · obtain ⟨q, rfl⟩ := Int.eq_ofNat_of_zero_le hm.1
     have e1 : setElemL (pubO (H.V.abs F.T) x).elems (q : Int) wd = (setLenL x.elems (max x.elems.length (q + 1))).set q wd := by unfold setElemL; rw [if_pos hm]; rfl
     rw [decide_eq_true hm]
     have hr : SC Tryz.prog W0 67 #[.pointer (some ⟨F.p, 0, none⟩), .int .u64 w, .int .i64 (q : Int), .int .u64 wd] (H.ent F) (Ret (fun r : ObjL × List CellL × Int => (H.upd n r.1 H.V r.2.1 r.2.2).ent F) (fun v r => v = .bool true ∧ (H.upd n r.1 H.V r.2.1 r.2.2).ok F ∧ SameE x r.1 ((setLenL x.elems (max x.elems.length (q + 1))).set q wd) ∧ Chg x.cell H.cl r.2.1)) := by
       by_cases hl : q < x.elems.length
       · have e2 : setLenL x.elems (max x.elems.length (q + 1)) = x.elems := by rw [show max x.elems.length (q + 1) = x.elems.length by omega]; exact setLenL_self _
         rw [e2]
         exact heap_SetElem_fast h.ok h0 hx h.bud hk (by omega) hl
       · exact heap_SetElem_slow h.ok h0 hx h.bud hk (by omega) (by omega)
     refine SC.ret hr fun v r ⟨g1, h2, h3, h4⟩ => ⟨_, rfl, g1, ?_⟩
     obtain ⟨i1, i2⟩ := h3.inv ho'
     obtain ⟨a, b⟩ := h.upd hx (Nat.le_refl k) h2 h.tree (Ext.refl _) i1 (by rw [h3.vals]; exact h.bud.vals x (List.mem_of_getElem? hx)) (by rw [h3.inner]; exact h.in' hx) h4
     exact ⟨a, by rw [b, i2, show setO (q : Int) wd (pubO (H.V.abs F.T) x) = _ from by unfold setO; rw [e1]]; rfl, rfl, .inr ⟨n, h1, touch_upd hx h3.cell h4⟩⟩
   · have e1 : setElemL (pubO (H.V.abs F.T) x).elems m wd = (pubO (H.V.abs F.T) x).elems := by unfold setElemL; rw [if_neg hm]
     rw [decide_eq_false hm]
     exact SC.ret (heap_SetElem_bad h.ok hm) fun v _ hv => ⟨H, rfl, hv, Stp.same h (by rw [show setO m wd (pubO (H.V.abs F.T) x) = pubO (H.V.abs F.T) x from by unfold setO; rw [e1]]; exact (set_same ho).symm) w (by simp)⟩
theorem hq_SetLen (hk : k ≤ 8000000) (h : HInv k H F) (w m : Int) :
   SC Tryz.prog W0 96 #[.pointer (some ⟨F.p, 0, none⟩), .int .u64 w, .int .i64 m] (H.ent F)
   (Ret (fun H' : HeapV => H'.ent F) (fun v H' => v = .bool (lenQ (H.pub F) w m) ∧ Stp k H H' F (modP (H.pub F) w (lenO m)) H.texts w False)) := by
 cases h0 : objAt w (H.pub F).length with
 | none =>
   rw [modP_none h0, show lenQ (H.pub F) w m = false from by unfold lenQ; rw [h0]; simp]
   exact SC.ret (heap_SetLen_none h.ok (by rw [← HeapV.pub_len H F]; exact h0) m) fun v _ hv => ⟨H, rfl, hv, Stp.same h rfl w (by simp)⟩
 | some n =>
   obtain ⟨o, ho⟩ := obj_of h0
   rw [modP_some h0 ho, show lenQ (H.pub F) w m = decide (0 ≤ m ∧ m ≤ 4096) from by unfold lenQ; rw [h0]; simp]
   have h1 := h0
   rw [HeapV.pub_len] at h0
   obtain ⟨x, hx, rfl⟩ := pub_obj ho
   have ho' := h.obj hx
   by_cases hm : 0 ≤ m ∧ m ≤ 4096
   · obtain ⟨q, rfl⟩ := Int.eq_ofNat_of_zero_le hm.1
     have e1 : setLenQ (pubO (H.V.abs F.T) x).elems (q : Int) = setLenL x.elems q := by unfold setLenQ; rw [if_pos hm]; rfl
     rw [decide_eq_true hm]
     have hr : SC Tryz.prog W0 96 #[.pointer (some ⟨F.p, 0, none⟩), .int .u64 w, .int .i64 (q : Int)] (H.ent F) (Ret (fun r : Gs × List CellL × Int => (H.upd n ((ObjL.chg x).withElems r.1 (setLenL x.elems q)) H.V r.2.1 r.2.2).ent F) (fun v r => v = .bool true ∧ (H.upd n ((ObjL.chg x).withElems r.1 (setLenL x.elems q)) H.V r.2.1 r.2.2).ok F ∧ Chg x.cell H.cl r.2.1)) := by
       by_cases hl : q ≤ x.elems.length
       · exact heap_SetLen_short h.ok h0 hx h.bud hk (by omega) hl
       · exact heap_SetLen_long h.ok h0 hx h.bud hk (by omega) (by omega)
     refine SC.ret hr fun v r ⟨g1, h2, h3⟩ => ⟨_, rfl, g1, ?_⟩
     obtain ⟨a, b⟩ := h.upd hx (x' := (ObjL.chg x).withElems r.1 (setLenL x.elems q)) (Nat.le_refl k) h2 h.tree (Ext.refl _) ⟨ho'.fast, ho'.len, ho'.nodup, ho'.stale⟩ (show x.vals.length ≤ k from h.bud.vals x (List.mem_of_getElem? hx)) (show x.inner.length ≤ 1048576 from h.in' hx) h3
     exact ⟨a, by rw [b, show lenO (q : Int) (pubO (H.V.abs F.T) x) = _ from by unfold lenO; rw [e1]]; rfl, rfl, .inr ⟨n, h1, touch_upd hx rfl h3⟩⟩
   · have e1 : setLenQ (pubO (H.V.abs F.T) x).elems m = (pubO (H.V.abs F.T) x).elems := by unfold setLenQ; rw [if_neg hm]
     rw [decide_eq_false hm]
     exact SC.ret (heap_SetLen_bad h.ok h0 hx hm) fun v _ hv => ⟨H, rfl, hv, Stp.same h (by rw [show lenO m (pubO (H.V.abs F.T) x) = pubO (H.V.abs F.T) x from by unfold lenO; rw [e1]]; exact (set_same ho).symm) w (by simp)⟩
theorem moveS_inv {t : TreeP} (h : TInv t) {rk : Int} {p : PS} (hp : PInv t rk p) (rk' : Int) : TInv (moveS t p rk').1 ∧ Ext t (moveS t p rk').1 ∧ PInv (moveS t p rk').1 rk' (moveS t p rk').2 ∧ keysPS (moveS t p rk').1 (moveS t p rk').2 = keysPS t p ∧ (moveS t p rk').2.vals = p.vals := by
 unfold moveS
 by_cases h0 : p.shape < 0
 · rw [if_pos h0]
   exact ⟨h, Ext.refl t, ⟨fun q => absurd q (by show ¬ 0 ≤ p.shape; omega), hp.len, hp.nodup, hp.stale⟩, rfl, rfl⟩
 · rw [if_neg h0]
   obtain ⟨s, s1, s2, s3, s4⟩ := hp.shape_l (by omega)
   obtain ⟨g1, g2, g3⟩ := moveP_got h s1 rk'
   have hlen := hp.len
   have hnd := hp.nodup
   rw [s4] at hlen hnd
   simp only []
   unfold stepS
   by_cases hok : (moveP t p.shape rk').2.2 = true
   · rw [if_pos hok]
     obtain ⟨s', q1, q2, q3⟩ := g3 hok
     have h00 := (shapeAt_iff.1 q1).1
     have hk : keysPS (moveP t p.shape rk').1 ⟨(moveP t p.shape rk').2.1, p.names, p.vals⟩ = s.l.map (·.1) := by rw [keysPS_fast h00 q1, q3]
     exact ⟨g1, g2, ⟨fun _ => ⟨s', q1, q2, by rw [q3]; exact s3⟩, by rw [hk]; exact hlen, by rw [hk]; exact hnd, fun _ => hp.stale (by omega)⟩, by rw [hk, s4], rfl⟩
   · rw [if_neg hok]
     obtain ⟨e1, e2⟩ := hp.ext g2
     obtain ⟨l1, l2, l3, l4⟩ := e1.loose
     exact ⟨g1, g2, ⟨fun q => absurd q (by omega), l1.len, l1.nodup, fun q => absurd q (by omega)⟩, by rw [l2, e2], l3⟩
theorem hq_SetProto (hk : k ≤ 8000000) (h : HInv k H F) (w p : Int) (hE : Ends (H.pub F) p) :
   SC Tryz.prog W0 77 #[.pointer (some ⟨F.p, 0, none⟩), .int .u64 w, .int .u64 p] (H.ent F)
   (Ret (fun H' : HeapV => H'.ent F) (fun v H' => v = .tuple #[] ∧ Stp k H H' F (reproP (H.pub F) w p) H.texts w (protoW (reproP (H.pub F) w p) w ≠ protoW (H.pub F) w))) := by
 cases h0 : objAt w (H.pub F).length with
 | none =>
   rw [reproP_none h0]
   exact SC.ret (heap_SetProto_none h.ok (by rw [← HeapV.pub_len H F]; exact h0) p) fun v _ hv => ⟨H, rfl, hv, Stp.same h rfl w (by simp)⟩
 | some n =>
   obtain ⟨o, ho⟩ := obj_of h0
   have h1 := h0
   rw [HeapV.pub_len] at h0
   obtain ⟨x, hx, rfl⟩ := pub_obj ho
   have ho' := h.obj hx
   have hK := hE.bound
   rw [HeapV.pub_len] at hK
   by_cases hs : (p ≠ 18445336698825998337 ∧ objAt p H.objs.length = none) ∨ x.proto = p ∨ hitP (H.pub F) p w = true
   · have e : reproP (H.pub F) w p = H.pub F := by
       by_cases hq : (p ≠ 18445336698825998337 ∧ objAt p (H.pub F).length = none) ∨ hitP (H.pub F) p w = true
       · exact reproP_no hq
       · have hp : x.proto = p := by
           rcases hs with q | q | q
           · exact absurd (.inl (by rw [HeapV.pub_len]; exact q)) hq
           · exact q
           · exact absurd (.inr q) hq
         have h2 : hitP (H.pub F) p w = false := by cases q : hitP (H.pub F) p w with
           | false => rfl
           | true => exact absurd (.inr q) hq
         rw [reproP_yes h1 ho (fun q => hq (.inl q)) h2, show (pubO (H.V.abs F.T) x).under p = pubO (H.V.abs F.T) x from by unfold ObjS.under pubO; rw [hp]]
         exact set_same ho
     rw [e]
     exact SC.ret (heap_SetProto_same h.ok h0 hx hK (Nat.le_refl _) hs) fun v _ hv => ⟨H, rfl, hv, Stp.same h rfl w (by simp)⟩
   · have hq : ¬ (p ≠ 18445336698825998337 ∧ objAt p (H.pub F).length = none) := fun q => hs (.inl (by rw [← HeapV.pub_len H F]; exact q))
     have h2 : hitP (H.pub F) p w = false := by cases q : hitP (H.pub F) p w with
       | false => rfl
       | true => exact absurd (.inr (.inr q)) hs
     rw [reproP_yes h1 ho hq h2]
     refine SC.ret (heap_SetProto_move h.ok h0 hx hK (Nat.le_refl _) h.bud hk hs) fun v r ⟨g1, g2, g3, g4, g5⟩ => ⟨_, rfl, g1, ?_⟩
     obtain ⟨i1, i2, i3, i4, i5⟩ := moveS_inv h.tree ho'.ps (rootKey p x.kind)
     rw [g4] at i1 i2 i3 i4 i5
     simp only [] at i1 i2 i3 i4 i5
     have hi : OInv (r.2.1.abs F.T) r.1 := PInv.obj (by rw [g3.proto, g3.kind]; exact i3)
     obtain ⟨a, b⟩ := h.upd hx (Nat.le_refl k) g2 i1 i2 hi (by rw [show r.1.vals = x.vals from i5]; exact h.bud.vals x (List.mem_of_getElem? hx)) (by rw [g3.inner]; exact h.in' hx) g5
     refine ⟨a, ?_, rfl, .inr ⟨n, h1, touch_upd hx g3.cell g5⟩⟩
     rw [b]
     congr 1
     unfold pubO
     rw [g3.kind, g3.proto, g3.shut, g3.elems, g3.inner, show r.1.vals = x.vals from i5, show keysOf (r.2.1.abs F.T) r.1 = keysOf (H.V.abs F.T) x from i4]
theorem hq_Close (h : HInv k H F) (w : Int) : SC Tryz.prog W0 16 #[.pointer (some ⟨F.p, 0, none⟩), .int .u64 w] (H.ent F)
   (Ret (fun H' : HeapV => H'.ent F) (fun v H' => v = .tuple #[] ∧ Stp k H H' F (modP (H.pub F) w shutO) H.texts w False ∧ H'.gd = H.gd)) := by
 cases h0 : objAt w (H.pub F).length with
 | none =>
   rw [modP_none h0]
   exact SC.ret (heap_Close_none h.ok (by rw [← HeapV.pub_len H F]; exact h0)) fun v _ hv => ⟨H, rfl, hv, Stp.same h rfl w (by simp), rfl⟩
 | some n =>
   obtain ⟨o, ho⟩ := obj_of h0
   rw [modP_some h0 ho]
   rw [HeapV.pub_len] at h0
   obtain ⟨x, hx, rfl⟩ := pub_obj ho
   have ho' := h.obj hx
   refine SC.ret (heap_Close_some h.ok h0 hx) fun v _ hv => ⟨_, rfl, hv, ?_⟩
   obtain ⟨a, b⟩ := h.put hx (x' := ObjL.mk x.kind x.proto true x.shape x.ns x.names x.vs x.vals x.es x.elems x.is x.inner x.cell) ⟨(h.ok.at hx).ns, (h.ok.at hx).vs, (h.ok.at hx).es, (h.ok.at hx).is⟩ (h.ok.small x (List.mem_of_getElem? hx)) ⟨ho'.fast, ho'.len, ho'.nodup, ho'.stale⟩ (show x.vals.length ≤ k from h.bud.vals x (List.mem_of_getElem? hx)) (show x.inner.length ≤ 1048576 from h.in' hx)
   have hg : (H.put n (ObjL.mk x.kind x.proto true x.shape x.ns x.names x.vs x.vals x.es x.elems x.is x.inner x.cell)).gd = H.gd := by
     show ((H.objs.set n _).map ObjL.cell, _) = _
     rw [List.map_set, set_same (by simp [hx])]; rfl
   exact ⟨⟨a, by rw [b]; rfl, rfl, .inl ⟨id, hg⟩⟩, hg⟩
instance (l : List ObjS) (kind proto : Int) : Decidable (mayP l kind proto) := by unfold mayP; exact inferInstance
abbrev newS (kind proto : Int) : ObjS := ⟨kind, proto, false, [], [], [], []⟩
def makeL (l : List ObjS) (kind proto : Int) : List ObjS := if mayP l kind proto then l ++ [newS kind proto] else l
def makeV (l : List ObjS) (kind proto : Int) : Int × Bool := if mayP l kind proto then (objW l.length, true) else (18445336698825998336, false)
theorem hq_Make (h : HInv k H F) (kind proto : Int) : SC Tryz.prog W0 31 #[.pointer (some ⟨F.p, 0, none⟩), .int .i64 kind, .int .u64 proto] (H.ent F)
   (Ret (fun H' : HeapV => H'.ent F) (fun v H' => v = .tuple #[.int .u64 (makeV (H.pub F) kind proto).1, .bool (makeV (H.pub F) kind proto).2] ∧ HInv k H' F ∧ H'.pub F = makeL (H.pub F) kind proto ∧ H'.texts = H.texts ∧
     H'.gd = (if mayP (H.pub F) kind proto then (H.gd.1 ++ [-1], H.gd.2) else H.gd))) := by
 unfold makeV makeL
 by_cases hm : mayP (H.pub F) kind proto
 · rw [if_pos hm, if_pos hm, if_pos hm]
   refine SC.ret (hi_Make h (mayP_iff.1 hm)) fun v r ⟨h1, h2, h3, m, ok, h4, h5⟩ => ⟨_, rfl, by rw [HeapV.pub_len]; exact h1, h2, h3, rfl, ?_⟩
   show ((H.objs ++ [_]).map ObjL.cell, _) = _
   rw [List.map_append]; rfl
 · rw [if_neg hm, if_neg hm, if_neg hm]
   exact SC.ret (heap_Make_no h.ok (fun q => hm (mayP_iff.2 q))) fun v _ hv => ⟨H, rfl, hv, h, rfl, rfl, rfl⟩
end Go.Proofs.YthflblophelioaaGreatDoor
