/-
  What the document's own functions do to the memory they own, step by step: each theorem is one function's contract. Conditions: those that each theorem names.
-/
import Derived.Test.YthflblophelioaaGreatDoorPs5
import Derived.Test.YthflblophelioaaGreatDoorPs3
set_option linter.unusedVariables false
set_option linter.unusedSimpArgs false
set_option maxRecDepth 100000
set_option maxHeartbeats 4000000
namespace Go.Proofs.YthflblophelioaaGreatDoor
open Go.Sl

theorem rf_Make_no {W0 : World} {R : RSt} (hR : R.ok) {kind proto : Int} (hwproto : wordOk proto) (hmay : ¬ mayP R.pub kind proto) : SC Tryz.prog W0 33 #[R.val, .int .i64 kind, .int .u64 proto] R.ent (Ret (fun _ : Unit => R.ent) (fun v _ => v = .tuple #[R.val, .int .u64 18445336698825998336, .bool false])) := by
 refine SC_body (fn := Tryz.f33) (n := 47) Tryz.func33 rfl (by kernel_rfl) (ρ := [(0, .agg #[Gs.val R.s R.objs.length, Gs.val R.ts R.texts.length]), (1, .int .i64 kind), (2, .int .u64 proto)]) rfl ?_
 refine SW_sig _ RSt.eq0 ?_
 have hcap : R.objs.length ≤ maxLen := Nat.le_trans (Gs.ok.cap_le hR.row) (Gs.ok.cap_max hR.row)
 unfold maxLen at hcap
 refine sr ?_
 refine L (nw 28 2 [Gs.val R.s R.objs.length, Gs.val R.ts R.texts.length] ?_)
 intro b1
 refine L (nw 28 2 [.slice none 0 0, .slice none 0 0] ?_)
 intro b2
 refine os 2 ?_
 refine nq ?_
 refine sr ?_
 refine os 3 ?_
 refine tbp 11 (fun hg3 => ?_) (fun hg3 => ?_)
 ·replace hg3 : kind < 0 := hg3
  refine os 19 ?_
  refine kp [30, 8, 7, 6, 3, 0, 1, 2] ?_
  refine nt ?_
  refine ct ?_
  refine sr ?_
  refine L (lds 2 ?_)
  refine L (st [Gs.val R.s R.objs.length, Gs.val R.ts R.texts.length] ?_)
  refine os 2 ?_
  refine nt ?_
  refine Qi (Qm ?_)
  refine body_endC [.agg #[Gs.val R.s R.objs.length, Gs.val R.ts R.texts.length], .int .u64 18445336698825998336, .bool false] (fun _ => (.cons ⟨b2, 0, rfl, .inl ⟨[Gs.val R.s R.objs.length, Gs.val R.ts R.texts.length], by kernel_rfl, (Qb (Cell.own Qe rfl) (Qb (Cell.own Qe rfl) Qo)), rfl⟩⟩ (.cons rfl (.cons rfl .nil)))) ?_
  exact ⟨(), RSt.own, rfl⟩
 replace hg3 : ¬ (kind < 0) := hg3
 refine os 4 ?_
 refine kp [15, 8, 7, 6, 3, 0, 1, 2] ?_
 refine tbp 15 (fun hg4 => ?_) (fun hg4 => ?_)
 ·replace hg4 : kind > 6 := hg4
  refine os 15 ?_
  refine kp [30, 8, 7, 6, 3, 0, 1, 2] ?_
  refine nt ?_
  refine ct ?_
  refine sr ?_
  refine L (lds 2 ?_)
  refine L (st [Gs.val R.s R.objs.length, Gs.val R.ts R.texts.length] ?_)
  refine os 2 ?_
  refine nt ?_
  refine Qi (Qm ?_)
  refine body_endC [.agg #[Gs.val R.s R.objs.length, Gs.val R.ts R.texts.length], .int .u64 18445336698825998336, .bool false] (fun _ => (.cons ⟨b2, 0, rfl, .inl ⟨[Gs.val R.s R.objs.length, Gs.val R.ts R.texts.length], by kernel_rfl, (Qb (Cell.own Qe rfl) (Qb (Cell.own Qe rfl) Qo)), rfl⟩⟩ (.cons rfl (.cons rfl .nil)))) ?_
  exact ⟨(), RSt.own, rfl⟩
 replace hg4 : ¬ (kind > 6) := hg4
 refine os 3 ?_
 refine tb 18 (fun hg5 => ?_) (fun hg5 => ?_)
 ·replace hg5 : (proto != 18445336698825998337) = true := hg5
  refine L (lds 2 ?_)
  refine os 1 ?_
  rcases hm1 : objAt proto R.objs.length with _ | m1
  ·refine L (cl (rf_At (R := RSt.mk R.s R.objs R.ts R.texts) hwproto (w := proto)) ?_)
   rintro v1 _ hv1
   obtain rfl : v1 = .int .i64 (-1) := hv1.trans (by simp only []; unfold atI; rw [hm1])
   refine un ?_
   refine oV (.bool true) ?_
   refine os 8 ?_
   refine kp [30, 8, 7, 6, 3, 0, 1, 2] ?_
   refine nt ?_
   refine ct ?_
   refine sr ?_
   refine L (lds 2 ?_)
   refine L (st [Gs.val R.s R.objs.length, Gs.val R.ts R.texts.length] ?_)
   refine os 2 ?_
   refine nt ?_
   refine Qi (Qm ?_)
   refine body_endC [.agg #[Gs.val R.s R.objs.length, Gs.val R.ts R.texts.length], .int .u64 18445336698825998336, .bool false] (fun _ => (.cons ⟨b2, 0, rfl, .inl ⟨[Gs.val R.s R.objs.length, Gs.val R.ts R.texts.length], by kernel_rfl, (Qb (Cell.own Qe rfl) (Qb (Cell.own Qe rfl) Qo)), rfl⟩⟩ (.cons rfl (.cons rfl .nil)))) ?_
   exact ⟨(), RSt.own, rfl⟩
  refine L (cl (rf_At (R := RSt.mk R.s R.objs R.ts R.texts) hwproto (w := proto)) ?_)
  rintro v2 _ hv2
  obtain rfl : v2 = .int .i64 (m1 : Int) := hv2.trans (by simp only []; unfold atI; rw [hm1])
  refine un ?_
  refine os 4 ?_
  refine kp [25, 8, 7, 6, 3, 0, 1, 2] ?_
  refine tbp 25 (fun hg6 => ?_) (fun hg6 => ?_)
  ·replace hg6 : (m1 : Int) < 0 := hg6
   refine os 5 ?_
   refine kp [30, 8, 7, 6, 3, 0, 1, 2] ?_
   refine nt ?_
   refine ct ?_
   refine sr ?_
   refine L (lds 2 ?_)
   refine L (st [Gs.val R.s R.objs.length, Gs.val R.ts R.texts.length] ?_)
   refine os 2 ?_
   refine nt ?_
   refine Qi (Qm ?_)
   refine body_endC [.agg #[Gs.val R.s R.objs.length, Gs.val R.ts R.texts.length], .int .u64 18445336698825998336, .bool false] (fun _ => (.cons ⟨b2, 0, rfl, .inl ⟨[Gs.val R.s R.objs.length, Gs.val R.ts R.texts.length], by kernel_rfl, (Qb (Cell.own Qe rfl) (Qb (Cell.own Qe rfl) Qo)), rfl⟩⟩ (.cons rfl (.cons rfl .nil)))) ?_
   exact ⟨(), RSt.own, rfl⟩
  replace hg6 : ¬ ((m1 : Int) < 0) := hg6
  refine os 1 ?_
  refine L (ld ?_)
  refine os 3 ?_
  refine kp [30, 8, 7, 6, 3, 0, 1, 2] ?_
  refine nt ?_
  refine cdp (fun hc7 : (R.objs.length : Int) ≥ 65536 => ?_) (fun hc7 => ?_)
  ·refine sr ?_
   refine L (lds 2 ?_)
   refine L (st [Gs.val R.s R.objs.length, Gs.val R.ts R.texts.length] ?_)
   refine os 2 ?_
   refine nt ?_
   refine Qi (Qm ?_)
   refine body_endC [.agg #[Gs.val R.s R.objs.length, Gs.val R.ts R.texts.length], .int .u64 18445336698825998336, .bool false] (fun _ => (.cons ⟨b2, 0, rfl, .inl ⟨[Gs.val R.s R.objs.length, Gs.val R.ts R.texts.length], by kernel_rfl, (Qb (Cell.own Qe rfl) (Qb (Cell.own Qe rfl) Qo)), rfl⟩⟩ (.cons rfl (.cons rfl .nil)))) ?_
   exact ⟨(), RSt.own, rfl⟩
  refine Ql (Qj ?_)
  refine sr ?_
  refine os 1 ?_
  refine L (ld ?_)
  refine os 2 ?_
  refine oV (.agg #[.int .i64 kind, .int .u64 proto, .bool false, .slice none 0 0, .slice none 0 0, .slice none 0 0, .slice none 0 0]) ?_
  refine L (nws 104 7 1 [.int .i64 kind, .int .u64 proto, .bool false, .slice none 0 0, .slice none 0 0, .slice none 0 0, .slice none 0 0] ?_)
  intro b8
  refine SL_perm _ (perm_cc (perm_cc (perm_cc perm_cz))) ?_
  refine L (O_append (size := 7) (bytes := 120) (z := .agg #[.int .i64 0, .int .u64 0, .bool false, .slice none 0 0, .slice none 0 0, .slice none 0 0, .slice none 0 0]) R.s R.objs.length 1 (some ⟨b8, 0, none⟩) 1 (R.objs.flatMap RObj.cells) ([.int .i64 kind, .int .u64 proto, .bool false, .slice none 0 0, .slice none 0 0, .slice none 0 0, .slice none 0 0]) ((R.objs ++ [(RObj.mk kind proto false Gs.nil ([]) Gs.nil ([]) Gs.nil ([]) Gs.nil ([]))]).flatMap RObj.cells) (flat_snoc _ (RObj.mk kind proto false Gs.nil ([]) Gs.nil ([]) Gs.nil ([]) Gs.nil ([])) rfl) (fun _ => rfl) (fun _ => rfl) Tryz.underlying25 (by kernel_rfl) rfl (by decide) hR.row rfl (.inr ⟨b8, 0, rfl, Cells.own (Qa Qe) rfl⟩) rfl (by omega) (by decide) rfl ?_)
  intro s9 hks9 hfs9
  rw [show R.objs.length + 1 = (R.objs ++ [(RObj.mk kind proto false Gs.nil ([]) Gs.nil ([]) Gs.nil ([]) Gs.nil ([]))]).length from by simp]
  rw [show R.objs.length + 1 = (R.objs ++ [(RObj.mk kind proto false Gs.nil ([]) Gs.nil ([]) Gs.nil ([]) Gs.nil ([]))]).length from by simp] at hks9
  have hls9 : (R.objs ++ [(RObj.mk kind proto false Gs.nil ([]) Gs.nil ([]) Gs.nil ([]) Gs.nil ([]))]).length = R.objs.length + 1 := by simp
  refine os 1 ?_
  refine kp [39, 38, 30, 8, 7, 6, 3, 0, 1, 2] ?_
  refine L (st [Gs.val s9 ((R.objs ++ [(RObj.mk kind proto false Gs.nil ([]) Gs.nil ([]) Gs.nil ([]) Gs.nil ([]))]).length), Gs.val R.ts R.texts.length] ?_)
  refine nq ?_
  refine SW_draw [(b1, 0, Gs.val s9 ((R.objs ++ [(RObj.mk kind proto false Gs.nil ([]) Gs.nil ([]) Gs.nil ([]) Gs.nil ([]))]).length)), (b1, 1, Gs.val R.ts R.texts.length), (b1, 0, Gs.val s9 ((R.objs ++ [(RObj.mk kind proto false Gs.nil ([]) Gs.nil ([]) Gs.nil ([]) Gs.nil ([]))]).length))] [0, 1, 2, 3, 4, 5, 6, 7] (by kernel_rfl) (Qf (Cell.own Qe rfl) (Qf (Cell.own Qe rfl) (Qf (Cell.own Qe rfl) rd_nil))) ?_
  refine tr 0 (.agg #[Gs.val s9 ((R.objs ++ [(RObj.mk kind proto false Gs.nil ([]) Gs.nil ([]) Gs.nil ([]) Gs.nil ([]))]).length), Gs.val R.ts R.texts.length]) ?_ (hy := fun δ w_ hr => Rd_loads b1 0 [Gs.val s9 ((R.objs ++ [(RObj.mk kind proto false Gs.nil ([]) Gs.nil ([]) Gs.nil ([]) Gs.nil ([]))]).length), Gs.val R.ts R.texts.length] rfl (by kernel_rfl) (rdm_cons List.mem_cons_self (rdm_cons (List.mem_cons_of_mem _ List.mem_cons_self) rdm_nil)) hr)
  refine aF 1 ?_
  refine aL 2 ?_
  refine aS 3 ?_
  refine tk 4 (.int .i64 (IntKind.wrap .i64 (((((R.objs ++ [(RObj.mk kind proto false Gs.nil ([]) Gs.nil ([]) Gs.nil ([]) Gs.nil ([]))]).length : Nat)) : Int) - 1))) ?_
  rw [show IntKind.wrap .i64 (((((R.objs ++ [(RObj.mk kind proto false Gs.nil ([]) Gs.nil ([]) Gs.nil ([]) Gs.nil ([]))]).length : Nat)) : Int) - 1) = ((((R.objs ++ [(RObj.mk kind proto false Gs.nil ([]) Gs.nil ([]) Gs.nil ([]) Gs.nil ([]))]).length : Nat)) : Int) - 1 from IntWalk.i64_in _ (by omega)]
  refine tk 5 (.int .u64 (IntKind.wrap .u64 (((((R.objs ++ [(RObj.mk kind proto false Gs.nil ([]) Gs.nil ([]) Gs.nil ([]) Gs.nil ([]))]).length : Nat)) : Int) - 1))) ?_
  rw [show IntKind.wrap .u64 (((((R.objs ++ [(RObj.mk kind proto false Gs.nil ([]) Gs.nil ([]) Gs.nil ([]) Gs.nil ([]))]).length : Nat)) : Int) - 1) = ((((R.objs ++ [(RObj.mk kind proto false Gs.nil ([]) Gs.nil ([]) Gs.nil ([]) Gs.nil ([]))]).length : Nat)) : Int) - 1 from IntWalk.u64_in _ (by omega)]
  refine tk 6 (.int .u64 (IntKind.wrap .u64 (18445055223849287680 + (((((R.objs ++ [(RObj.mk kind proto false Gs.nil ([]) Gs.nil ([]) Gs.nil ([]) Gs.nil ([]))]).length : Nat)) : Int) - 1)))) ?_
  rw [show IntKind.wrap .u64 (18445055223849287680 + (((((R.objs ++ [(RObj.mk kind proto false Gs.nil ([]) Gs.nil ([]) Gs.nil ([]) Gs.nil ([]))]).length : Nat)) : Int) - 1)) = 18445055223849287680 + (((((R.objs ++ [(RObj.mk kind proto false Gs.nil ([]) Gs.nil ([]) Gs.nil ([]) Gs.nil ([]))]).length : Nat)) : Int) - 1) from IntWalk.u64_in _ (by omega)]
  refine sa1 true 7 (h := st [Gs.val s9 ((R.objs ++ [(RObj.mk kind proto false Gs.nil ([]) Gs.nil ([]) Gs.nil ([]) Gs.nil ([]))]).length), Gs.val R.ts R.texts.length] ?_)
  refine ⟨fun hnd => (Qf (Cell.own (Qc Qe) rfl) (Qf (Cell.own (Qc Qe) rfl) (Qf (Cell.own (Qc Qe) rfl) rd_nil))), ?_⟩
  refine kpA [46, 30, 8, 7, 6, 3, 0, 1, 2] ?_
  refine aS 8 ?_
  refine aS 9 ?_
  refine SA_done (by kernel_rfl) (Qj ?_)
  refine Qi ?_
  refine body_endC [.agg #[Gs.val s9 ((R.objs ++ [(RObj.mk kind proto false Gs.nil ([]) Gs.nil ([]) Gs.nil ([]) Gs.nil ([]))]).length), Gs.val R.ts R.texts.length], .int .u64 (18445055223849287680 + (((((R.objs ++ [(RObj.mk kind proto false Gs.nil ([]) Gs.nil ([]) Gs.nil ([]) Gs.nil ([]))]).length : Nat)) : Int) - 1)), .bool true] (fun _ => (.cons ⟨b2, 0, rfl, .inl ⟨[Gs.val s9 ((R.objs ++ [(RObj.mk kind proto false Gs.nil ([]) Gs.nil ([]) Gs.nil ([]) Gs.nil ([]))]).length), Gs.val R.ts R.texts.length], by kernel_rfl, (Qb (Cell.own Qe rfl) (Qb (Cell.own Qe rfl) Qo)), rfl⟩⟩ (.cons rfl (.cons rfl .nil)))) ?_
  exact absurd (show mayP R.pub kind proto from by unfold mayP; rw [RSt.pub_len]; exact ⟨by omega, by first | (left; simp_all; done) | (right; simp_all; done), by omega⟩) hmay
 replace hg5 : (proto != 18445336698825998337) = false := hg5
 refine os 8 ?_
 refine kp [26, 25, 8, 7, 6, 3, 0, 1, 2] ?_
 refine L (ld ?_)
 refine os 3 ?_
 refine kp [30, 8, 7, 6, 3, 0, 1, 2] ?_
 refine nt ?_
 refine cdp (fun hc10 : (R.objs.length : Int) ≥ 65536 => ?_) (fun hc10 => ?_)
 ·refine sr ?_
  refine L (lds 2 ?_)
  refine L (st [Gs.val R.s R.objs.length, Gs.val R.ts R.texts.length] ?_)
  refine os 2 ?_
  refine nt ?_
  refine Qi (Qm ?_)
  refine body_endC [.agg #[Gs.val R.s R.objs.length, Gs.val R.ts R.texts.length], .int .u64 18445336698825998336, .bool false] (fun _ => (.cons ⟨b2, 0, rfl, .inl ⟨[Gs.val R.s R.objs.length, Gs.val R.ts R.texts.length], by kernel_rfl, (Qb (Cell.own Qe rfl) (Qb (Cell.own Qe rfl) Qo)), rfl⟩⟩ (.cons rfl (.cons rfl .nil)))) ?_
  exact ⟨(), RSt.own, rfl⟩
 refine Ql (Qj ?_)
 refine sr ?_
 refine os 1 ?_
 refine L (ld ?_)
 refine os 2 ?_
 refine oV (.agg #[.int .i64 kind, .int .u64 proto, .bool false, .slice none 0 0, .slice none 0 0, .slice none 0 0, .slice none 0 0]) ?_
 refine L (nws 104 7 1 [.int .i64 kind, .int .u64 proto, .bool false, .slice none 0 0, .slice none 0 0, .slice none 0 0, .slice none 0 0] ?_)
 intro b11
 refine SL_perm _ (perm_cc (perm_cc (perm_cc perm_cz))) ?_
 refine L (O_append (size := 7) (bytes := 120) (z := .agg #[.int .i64 0, .int .u64 0, .bool false, .slice none 0 0, .slice none 0 0, .slice none 0 0, .slice none 0 0]) R.s R.objs.length 1 (some ⟨b11, 0, none⟩) 1 (R.objs.flatMap RObj.cells) ([.int .i64 kind, .int .u64 proto, .bool false, .slice none 0 0, .slice none 0 0, .slice none 0 0, .slice none 0 0]) ((R.objs ++ [(RObj.mk kind proto false Gs.nil ([]) Gs.nil ([]) Gs.nil ([]) Gs.nil ([]))]).flatMap RObj.cells) (flat_snoc _ (RObj.mk kind proto false Gs.nil ([]) Gs.nil ([]) Gs.nil ([]) Gs.nil ([])) rfl) (fun _ => rfl) (fun _ => rfl) Tryz.underlying25 (by kernel_rfl) rfl (by decide) hR.row rfl (.inr ⟨b11, 0, rfl, Cells.own (Qa Qe) rfl⟩) rfl (by omega) (by decide) rfl ?_)
 intro s12 hks12 hfs12
 rw [show R.objs.length + 1 = (R.objs ++ [(RObj.mk kind proto false Gs.nil ([]) Gs.nil ([]) Gs.nil ([]) Gs.nil ([]))]).length from by simp]
 rw [show R.objs.length + 1 = (R.objs ++ [(RObj.mk kind proto false Gs.nil ([]) Gs.nil ([]) Gs.nil ([]) Gs.nil ([]))]).length from by simp] at hks12
 have hls12 : (R.objs ++ [(RObj.mk kind proto false Gs.nil ([]) Gs.nil ([]) Gs.nil ([]) Gs.nil ([]))]).length = R.objs.length + 1 := by simp
 refine os 1 ?_
 refine kp [39, 38, 30, 8, 7, 6, 3, 0, 1, 2] ?_
 refine L (st [Gs.val s12 ((R.objs ++ [(RObj.mk kind proto false Gs.nil ([]) Gs.nil ([]) Gs.nil ([]) Gs.nil ([]))]).length), Gs.val R.ts R.texts.length] ?_)
 refine nq ?_
 refine SW_draw [(b1, 0, Gs.val s12 ((R.objs ++ [(RObj.mk kind proto false Gs.nil ([]) Gs.nil ([]) Gs.nil ([]) Gs.nil ([]))]).length)), (b1, 1, Gs.val R.ts R.texts.length), (b1, 0, Gs.val s12 ((R.objs ++ [(RObj.mk kind proto false Gs.nil ([]) Gs.nil ([]) Gs.nil ([]) Gs.nil ([]))]).length))] [0, 1, 2, 3, 4, 5, 6, 7] (by kernel_rfl) (Qf (Cell.own Qe rfl) (Qf (Cell.own Qe rfl) (Qf (Cell.own Qe rfl) rd_nil))) ?_
 refine tr 0 (.agg #[Gs.val s12 ((R.objs ++ [(RObj.mk kind proto false Gs.nil ([]) Gs.nil ([]) Gs.nil ([]) Gs.nil ([]))]).length), Gs.val R.ts R.texts.length]) ?_ (hy := fun δ w_ hr => Rd_loads b1 0 [Gs.val s12 ((R.objs ++ [(RObj.mk kind proto false Gs.nil ([]) Gs.nil ([]) Gs.nil ([]) Gs.nil ([]))]).length), Gs.val R.ts R.texts.length] rfl (by kernel_rfl) (rdm_cons List.mem_cons_self (rdm_cons (List.mem_cons_of_mem _ List.mem_cons_self) rdm_nil)) hr)
 refine aF 1 ?_
 refine aL 2 ?_
 refine aS 3 ?_
 refine tk 4 (.int .i64 (IntKind.wrap .i64 (((((R.objs ++ [(RObj.mk kind proto false Gs.nil ([]) Gs.nil ([]) Gs.nil ([]) Gs.nil ([]))]).length : Nat)) : Int) - 1))) ?_
 rw [show IntKind.wrap .i64 (((((R.objs ++ [(RObj.mk kind proto false Gs.nil ([]) Gs.nil ([]) Gs.nil ([]) Gs.nil ([]))]).length : Nat)) : Int) - 1) = ((((R.objs ++ [(RObj.mk kind proto false Gs.nil ([]) Gs.nil ([]) Gs.nil ([]) Gs.nil ([]))]).length : Nat)) : Int) - 1 from IntWalk.i64_in _ (by omega)]
 refine tk 5 (.int .u64 (IntKind.wrap .u64 (((((R.objs ++ [(RObj.mk kind proto false Gs.nil ([]) Gs.nil ([]) Gs.nil ([]) Gs.nil ([]))]).length : Nat)) : Int) - 1))) ?_
 rw [show IntKind.wrap .u64 (((((R.objs ++ [(RObj.mk kind proto false Gs.nil ([]) Gs.nil ([]) Gs.nil ([]) Gs.nil ([]))]).length : Nat)) : Int) - 1) = ((((R.objs ++ [(RObj.mk kind proto false Gs.nil ([]) Gs.nil ([]) Gs.nil ([]) Gs.nil ([]))]).length : Nat)) : Int) - 1 from IntWalk.u64_in _ (by omega)]
 refine tk 6 (.int .u64 (IntKind.wrap .u64 (18445055223849287680 + (((((R.objs ++ [(RObj.mk kind proto false Gs.nil ([]) Gs.nil ([]) Gs.nil ([]) Gs.nil ([]))]).length : Nat)) : Int) - 1)))) ?_
 rw [show IntKind.wrap .u64 (18445055223849287680 + (((((R.objs ++ [(RObj.mk kind proto false Gs.nil ([]) Gs.nil ([]) Gs.nil ([]) Gs.nil ([]))]).length : Nat)) : Int) - 1)) = 18445055223849287680 + (((((R.objs ++ [(RObj.mk kind proto false Gs.nil ([]) Gs.nil ([]) Gs.nil ([]) Gs.nil ([]))]).length : Nat)) : Int) - 1) from IntWalk.u64_in _ (by omega)]
 refine sa1 true 7 (h := st [Gs.val s12 ((R.objs ++ [(RObj.mk kind proto false Gs.nil ([]) Gs.nil ([]) Gs.nil ([]) Gs.nil ([]))]).length), Gs.val R.ts R.texts.length] ?_)
 refine ⟨fun hnd => (Qf (Cell.own (Qc Qe) rfl) (Qf (Cell.own (Qc Qe) rfl) (Qf (Cell.own (Qc Qe) rfl) rd_nil))), ?_⟩
 refine kpA [46, 30, 8, 7, 6, 3, 0, 1, 2] ?_
 refine aS 8 ?_
 refine aS 9 ?_
 refine SA_done (by kernel_rfl) (Qj ?_)
 refine Qi ?_
 refine body_endC [.agg #[Gs.val s12 ((R.objs ++ [(RObj.mk kind proto false Gs.nil ([]) Gs.nil ([]) Gs.nil ([]) Gs.nil ([]))]).length), Gs.val R.ts R.texts.length], .int .u64 (18445055223849287680 + (((((R.objs ++ [(RObj.mk kind proto false Gs.nil ([]) Gs.nil ([]) Gs.nil ([]) Gs.nil ([]))]).length : Nat)) : Int) - 1)), .bool true] (fun _ => (.cons ⟨b2, 0, rfl, .inl ⟨[Gs.val s12 ((R.objs ++ [(RObj.mk kind proto false Gs.nil ([]) Gs.nil ([]) Gs.nil ([]) Gs.nil ([]))]).length), Gs.val R.ts R.texts.length], by kernel_rfl, (Qb (Cell.own Qe rfl) (Qb (Cell.own Qe rfl) Qo)), rfl⟩⟩ (.cons rfl (.cons rfl .nil)))) ?_
 exact absurd (show mayP R.pub kind proto from by unfold mayP; rw [RSt.pub_len]; exact ⟨by omega, by first | (left; simp_all; done) | (right; simp_all; done), by omega⟩) hmay

theorem rf_Make_yes {W0 : World} {R : RSt} (hR : R.ok) {kind proto : Int} (hwproto : wordOk proto) (hmay : mayP R.pub kind proto) : SC Tryz.prog W0 33 #[R.val, .int .i64 kind, .int .u64 proto] R.ent (Ret (fun g : Gs => (RSt.mk g (R.objs ++ [newR kind proto]) R.ts R.texts).ent) (fun v g => v = .tuple #[(RSt.mk g (R.objs ++ [newR kind proto]) R.ts R.texts).val, .int .u64 (objW R.objs.length), .bool true] ∧ (RSt.mk g (R.objs ++ [newR kind proto]) R.ts R.texts).ok)) := by
 refine SC_body (fn := Tryz.f33) (n := 47) Tryz.func33 rfl (by kernel_rfl) (ρ := [(0, .agg #[Gs.val R.s R.objs.length, Gs.val R.ts R.texts.length]), (1, .int .i64 kind), (2, .int .u64 proto)]) rfl ?_
 refine SW_sig _ RSt.eq0 ?_
 have hcap : R.objs.length ≤ maxLen := Nat.le_trans (Gs.ok.cap_le hR.row) (Gs.ok.cap_max hR.row)
 unfold maxLen at hcap
 refine sr ?_
 refine L (nw 28 2 [Gs.val R.s R.objs.length, Gs.val R.ts R.texts.length] ?_)
 intro b1
 refine L (nw 28 2 [.slice none 0 0, .slice none 0 0] ?_)
 intro b2
 refine os 2 ?_
 refine nq ?_
 refine sr ?_
 refine os 3 ?_
 refine tbp 11 (fun hg3 => ?_) (fun hg3 => ?_)
 ·replace hg3 : kind < 0 := hg3
  refine os 19 ?_
  refine kp [30, 8, 7, 6, 3, 0, 1, 2] ?_
  refine nt ?_
  refine ct ?_
  refine sr ?_
  refine L (lds 2 ?_)
  refine L (st [Gs.val R.s R.objs.length, Gs.val R.ts R.texts.length] ?_)
  refine os 2 ?_
  refine nt ?_
  refine Qi (Qm ?_)
  refine body_endC [.agg #[Gs.val R.s R.objs.length, Gs.val R.ts R.texts.length], .int .u64 18445336698825998336, .bool false] (fun _ => (.cons ⟨b2, 0, rfl, .inl ⟨[Gs.val R.s R.objs.length, Gs.val R.ts R.texts.length], by kernel_rfl, (Qb (Cell.own Qe rfl) (Qb (Cell.own Qe rfl) Qo)), rfl⟩⟩ (.cons rfl (.cons rfl .nil)))) ?_
  exact absurd hmay (by unfold mayP; rw [RSt.pub_len]; intro q; obtain ⟨⟨q1, q2⟩, q3, q4⟩ := q; first | omega | (simp_all; done) | (simp_all; omega))
 replace hg3 : ¬ (kind < 0) := hg3
 refine os 4 ?_
 refine kp [15, 8, 7, 6, 3, 0, 1, 2] ?_
 refine tbp 15 (fun hg4 => ?_) (fun hg4 => ?_)
 ·replace hg4 : kind > 6 := hg4
  refine os 15 ?_
  refine kp [30, 8, 7, 6, 3, 0, 1, 2] ?_
  refine nt ?_
  refine ct ?_
  refine sr ?_
  refine L (lds 2 ?_)
  refine L (st [Gs.val R.s R.objs.length, Gs.val R.ts R.texts.length] ?_)
  refine os 2 ?_
  refine nt ?_
  refine Qi (Qm ?_)
  refine body_endC [.agg #[Gs.val R.s R.objs.length, Gs.val R.ts R.texts.length], .int .u64 18445336698825998336, .bool false] (fun _ => (.cons ⟨b2, 0, rfl, .inl ⟨[Gs.val R.s R.objs.length, Gs.val R.ts R.texts.length], by kernel_rfl, (Qb (Cell.own Qe rfl) (Qb (Cell.own Qe rfl) Qo)), rfl⟩⟩ (.cons rfl (.cons rfl .nil)))) ?_
  exact absurd hmay (by unfold mayP; rw [RSt.pub_len]; intro q; obtain ⟨⟨q1, q2⟩, q3, q4⟩ := q; first | omega | (simp_all; done) | (simp_all; omega))
 replace hg4 : ¬ (kind > 6) := hg4
 refine os 3 ?_
 refine tb 18 (fun hg5 => ?_) (fun hg5 => ?_)
 ·replace hg5 : (proto != 18445336698825998337) = true := hg5
  refine L (lds 2 ?_)
  refine os 1 ?_
  rcases hm1 : objAt proto R.objs.length with _ | m1
  ·refine L (cl (rf_At (R := RSt.mk R.s R.objs R.ts R.texts) hwproto (w := proto)) ?_)
   rintro v1 _ hv1
   obtain rfl : v1 = .int .i64 (-1) := hv1.trans (by simp only []; unfold atI; rw [hm1])
   refine un ?_
   refine oV (.bool true) ?_
   refine os 8 ?_
   refine kp [30, 8, 7, 6, 3, 0, 1, 2] ?_
   refine nt ?_
   refine ct ?_
   refine sr ?_
   refine L (lds 2 ?_)
   refine L (st [Gs.val R.s R.objs.length, Gs.val R.ts R.texts.length] ?_)
   refine os 2 ?_
   refine nt ?_
   refine Qi (Qm ?_)
   refine body_endC [.agg #[Gs.val R.s R.objs.length, Gs.val R.ts R.texts.length], .int .u64 18445336698825998336, .bool false] (fun _ => (.cons ⟨b2, 0, rfl, .inl ⟨[Gs.val R.s R.objs.length, Gs.val R.ts R.texts.length], by kernel_rfl, (Qb (Cell.own Qe rfl) (Qb (Cell.own Qe rfl) Qo)), rfl⟩⟩ (.cons rfl (.cons rfl .nil)))) ?_
   exact absurd hmay (by unfold mayP; rw [RSt.pub_len]; intro q; obtain ⟨⟨q1, q2⟩, q3, q4⟩ := q; first | omega | (simp_all; done) | (simp_all; omega))
  refine L (cl (rf_At (R := RSt.mk R.s R.objs R.ts R.texts) hwproto (w := proto)) ?_)
  rintro v2 _ hv2
  obtain rfl : v2 = .int .i64 (m1 : Int) := hv2.trans (by simp only []; unfold atI; rw [hm1])
  refine un ?_
  refine os 4 ?_
  refine kp [25, 8, 7, 6, 3, 0, 1, 2] ?_
  refine tbp 25 (fun hg6 => ?_) (fun hg6 => ?_)
  ·replace hg6 : (m1 : Int) < 0 := hg6
   refine os 5 ?_
   refine kp [30, 8, 7, 6, 3, 0, 1, 2] ?_
   refine nt ?_
   refine ct ?_
   refine sr ?_
   refine L (lds 2 ?_)
   refine L (st [Gs.val R.s R.objs.length, Gs.val R.ts R.texts.length] ?_)
   refine os 2 ?_
   refine nt ?_
   refine Qi (Qm ?_)
   refine body_endC [.agg #[Gs.val R.s R.objs.length, Gs.val R.ts R.texts.length], .int .u64 18445336698825998336, .bool false] (fun _ => (.cons ⟨b2, 0, rfl, .inl ⟨[Gs.val R.s R.objs.length, Gs.val R.ts R.texts.length], by kernel_rfl, (Qb (Cell.own Qe rfl) (Qb (Cell.own Qe rfl) Qo)), rfl⟩⟩ (.cons rfl (.cons rfl .nil)))) ?_
   exact absurd hmay (by unfold mayP; rw [RSt.pub_len]; intro q; obtain ⟨⟨q1, q2⟩, q3, q4⟩ := q; first | omega | (simp_all; done) | (simp_all; omega))
  replace hg6 : ¬ ((m1 : Int) < 0) := hg6
  refine os 1 ?_
  refine L (ld ?_)
  refine os 3 ?_
  refine kp [30, 8, 7, 6, 3, 0, 1, 2] ?_
  refine nt ?_
  refine cdp (fun hc7 : (R.objs.length : Int) ≥ 65536 => ?_) (fun hc7 => ?_)
  ·refine sr ?_
   refine L (lds 2 ?_)
   refine L (st [Gs.val R.s R.objs.length, Gs.val R.ts R.texts.length] ?_)
   refine os 2 ?_
   refine nt ?_
   refine Qi (Qm ?_)
   refine body_endC [.agg #[Gs.val R.s R.objs.length, Gs.val R.ts R.texts.length], .int .u64 18445336698825998336, .bool false] (fun _ => (.cons ⟨b2, 0, rfl, .inl ⟨[Gs.val R.s R.objs.length, Gs.val R.ts R.texts.length], by kernel_rfl, (Qb (Cell.own Qe rfl) (Qb (Cell.own Qe rfl) Qo)), rfl⟩⟩ (.cons rfl (.cons rfl .nil)))) ?_
   exact absurd hmay (by unfold mayP; rw [RSt.pub_len]; intro q; obtain ⟨⟨q1, q2⟩, q3, q4⟩ := q; first | omega | (simp_all; done) | (simp_all; omega))
  refine Ql (Qj ?_)
  refine sr ?_
  refine os 1 ?_
  refine L (ld ?_)
  refine os 2 ?_
  refine oV (.agg #[.int .i64 kind, .int .u64 proto, .bool false, .slice none 0 0, .slice none 0 0, .slice none 0 0, .slice none 0 0]) ?_
  refine L (nws 104 7 1 [.int .i64 kind, .int .u64 proto, .bool false, .slice none 0 0, .slice none 0 0, .slice none 0 0, .slice none 0 0] ?_)
  intro b8
  refine SL_perm _ (perm_cc (perm_cc (perm_cc perm_cz))) ?_
  refine L (O_append (size := 7) (bytes := 120) (z := .agg #[.int .i64 0, .int .u64 0, .bool false, .slice none 0 0, .slice none 0 0, .slice none 0 0, .slice none 0 0]) R.s R.objs.length 1 (some ⟨b8, 0, none⟩) 1 (R.objs.flatMap RObj.cells) ([.int .i64 kind, .int .u64 proto, .bool false, .slice none 0 0, .slice none 0 0, .slice none 0 0, .slice none 0 0]) ((R.objs ++ [(RObj.mk kind proto false Gs.nil ([]) Gs.nil ([]) Gs.nil ([]) Gs.nil ([]))]).flatMap RObj.cells) (flat_snoc _ (RObj.mk kind proto false Gs.nil ([]) Gs.nil ([]) Gs.nil ([]) Gs.nil ([])) rfl) (fun _ => rfl) (fun _ => rfl) Tryz.underlying25 (by kernel_rfl) rfl (by decide) hR.row rfl (.inr ⟨b8, 0, rfl, Cells.own (Qa Qe) rfl⟩) rfl (by omega) (by decide) rfl ?_)
  intro s9 hks9 hfs9
  rw [show R.objs.length + 1 = (R.objs ++ [(RObj.mk kind proto false Gs.nil ([]) Gs.nil ([]) Gs.nil ([]) Gs.nil ([]))]).length from by simp]
  rw [show R.objs.length + 1 = (R.objs ++ [(RObj.mk kind proto false Gs.nil ([]) Gs.nil ([]) Gs.nil ([]) Gs.nil ([]))]).length from by simp] at hks9
  have hls9 : (R.objs ++ [(RObj.mk kind proto false Gs.nil ([]) Gs.nil ([]) Gs.nil ([]) Gs.nil ([]))]).length = R.objs.length + 1 := by simp
  refine os 1 ?_
  refine kp [39, 38, 30, 8, 7, 6, 3, 0, 1, 2] ?_
  refine L (st [Gs.val s9 ((R.objs ++ [(RObj.mk kind proto false Gs.nil ([]) Gs.nil ([]) Gs.nil ([]) Gs.nil ([]))]).length), Gs.val R.ts R.texts.length] ?_)
  refine nq ?_
  refine SW_draw [(b1, 0, Gs.val s9 ((R.objs ++ [(RObj.mk kind proto false Gs.nil ([]) Gs.nil ([]) Gs.nil ([]) Gs.nil ([]))]).length)), (b1, 1, Gs.val R.ts R.texts.length), (b1, 0, Gs.val s9 ((R.objs ++ [(RObj.mk kind proto false Gs.nil ([]) Gs.nil ([]) Gs.nil ([]) Gs.nil ([]))]).length))] [0, 1, 2, 3, 4, 5, 6, 7] (by kernel_rfl) (Qf (Cell.own Qe rfl) (Qf (Cell.own Qe rfl) (Qf (Cell.own Qe rfl) rd_nil))) ?_
  refine tr 0 (.agg #[Gs.val s9 ((R.objs ++ [(RObj.mk kind proto false Gs.nil ([]) Gs.nil ([]) Gs.nil ([]) Gs.nil ([]))]).length), Gs.val R.ts R.texts.length]) ?_ (hy := fun δ w_ hr => Rd_loads b1 0 [Gs.val s9 ((R.objs ++ [(RObj.mk kind proto false Gs.nil ([]) Gs.nil ([]) Gs.nil ([]) Gs.nil ([]))]).length), Gs.val R.ts R.texts.length] rfl (by kernel_rfl) (rdm_cons List.mem_cons_self (rdm_cons (List.mem_cons_of_mem _ List.mem_cons_self) rdm_nil)) hr)
  refine aF 1 ?_
  refine aL 2 ?_
  refine aS 3 ?_
  refine tk 4 (.int .i64 (IntKind.wrap .i64 (((((R.objs ++ [(RObj.mk kind proto false Gs.nil ([]) Gs.nil ([]) Gs.nil ([]) Gs.nil ([]))]).length : Nat)) : Int) - 1))) ?_
  rw [show IntKind.wrap .i64 (((((R.objs ++ [(RObj.mk kind proto false Gs.nil ([]) Gs.nil ([]) Gs.nil ([]) Gs.nil ([]))]).length : Nat)) : Int) - 1) = ((((R.objs ++ [(RObj.mk kind proto false Gs.nil ([]) Gs.nil ([]) Gs.nil ([]) Gs.nil ([]))]).length : Nat)) : Int) - 1 from IntWalk.i64_in _ (by omega)]
  refine tk 5 (.int .u64 (IntKind.wrap .u64 (((((R.objs ++ [(RObj.mk kind proto false Gs.nil ([]) Gs.nil ([]) Gs.nil ([]) Gs.nil ([]))]).length : Nat)) : Int) - 1))) ?_
  rw [show IntKind.wrap .u64 (((((R.objs ++ [(RObj.mk kind proto false Gs.nil ([]) Gs.nil ([]) Gs.nil ([]) Gs.nil ([]))]).length : Nat)) : Int) - 1) = ((((R.objs ++ [(RObj.mk kind proto false Gs.nil ([]) Gs.nil ([]) Gs.nil ([]) Gs.nil ([]))]).length : Nat)) : Int) - 1 from IntWalk.u64_in _ (by omega)]
  refine tk 6 (.int .u64 (IntKind.wrap .u64 (18445055223849287680 + (((((R.objs ++ [(RObj.mk kind proto false Gs.nil ([]) Gs.nil ([]) Gs.nil ([]) Gs.nil ([]))]).length : Nat)) : Int) - 1)))) ?_
  rw [show IntKind.wrap .u64 (18445055223849287680 + (((((R.objs ++ [(RObj.mk kind proto false Gs.nil ([]) Gs.nil ([]) Gs.nil ([]) Gs.nil ([]))]).length : Nat)) : Int) - 1)) = 18445055223849287680 + (((((R.objs ++ [(RObj.mk kind proto false Gs.nil ([]) Gs.nil ([]) Gs.nil ([]) Gs.nil ([]))]).length : Nat)) : Int) - 1) from IntWalk.u64_in _ (by omega)]
  refine sa1 true 7 (h := st [Gs.val s9 ((R.objs ++ [(RObj.mk kind proto false Gs.nil ([]) Gs.nil ([]) Gs.nil ([]) Gs.nil ([]))]).length), Gs.val R.ts R.texts.length] ?_)
  refine ⟨fun hnd => (Qf (Cell.own (Qc Qe) rfl) (Qf (Cell.own (Qc Qe) rfl) (Qf (Cell.own (Qc Qe) rfl) rd_nil))), ?_⟩
  refine kpA [46, 30, 8, 7, 6, 3, 0, 1, 2] ?_
  refine aS 8 ?_
  refine aS 9 ?_
  refine SA_done (by kernel_rfl) (Qj ?_)
  refine Qi ?_
  refine body_endC [.agg #[Gs.val s9 ((R.objs ++ [(RObj.mk kind proto false Gs.nil ([]) Gs.nil ([]) Gs.nil ([]) Gs.nil ([]))]).length), Gs.val R.ts R.texts.length], .int .u64 (18445055223849287680 + (((((R.objs ++ [(RObj.mk kind proto false Gs.nil ([]) Gs.nil ([]) Gs.nil ([]) Gs.nil ([]))]).length : Nat)) : Int) - 1)), .bool true] (fun _ => (.cons ⟨b2, 0, rfl, .inl ⟨[Gs.val s9 ((R.objs ++ [(RObj.mk kind proto false Gs.nil ([]) Gs.nil ([]) Gs.nil ([]) Gs.nil ([]))]).length), Gs.val R.ts R.texts.length], by kernel_rfl, (Qb (Cell.own Qe rfl) (Qb (Cell.own Qe rfl) Qo)), rfl⟩⟩ (.cons rfl (.cons rfl .nil)))) ?_
  refine ⟨s9, ?_, congrArg (fun i => Value.tuple #[_, .int .u64 i, .bool true]) (by unfold objW; simp only [List.length_append, List.length_singleton]; omega), ⟨hks9, fun y hy => ?_, hR.ts⟩⟩
  · refine Own.trans (ow (S := ((Gs.ent 104 7 s9 ((R.objs ++ [(RObj.mk kind proto false Gs.nil ([]) Gs.nil ([]) Gs.nil ([]) Gs.nil ([]))]).flatMap RObj.cells)) ++ ((R.objs.flatMap RObj.ent) ++ ((Gs.ent 9 1 R.ts (R.texts.map encS)) ++ ([])))))) (Own.of_perm (List.Perm.of_eq (by simp [RSt.ent, newR_ent])))
  · rcases List.mem_append.1 hy with q | q
    · exact hR.each y q
    · rw [List.mem_singleton.1 q]; exact newR_ok _ _
 replace hg5 : (proto != 18445336698825998337) = false := hg5
 refine os 8 ?_
 refine kp [26, 25, 8, 7, 6, 3, 0, 1, 2] ?_
 refine L (ld ?_)
 refine os 3 ?_
 refine kp [30, 8, 7, 6, 3, 0, 1, 2] ?_
 refine nt ?_
 refine cdp (fun hc10 : (R.objs.length : Int) ≥ 65536 => ?_) (fun hc10 => ?_)
 ·refine sr ?_
  refine L (lds 2 ?_)
  refine L (st [Gs.val R.s R.objs.length, Gs.val R.ts R.texts.length] ?_)
  refine os 2 ?_
  refine nt ?_
  refine Qi (Qm ?_)
  refine body_endC [.agg #[Gs.val R.s R.objs.length, Gs.val R.ts R.texts.length], .int .u64 18445336698825998336, .bool false] (fun _ => (.cons ⟨b2, 0, rfl, .inl ⟨[Gs.val R.s R.objs.length, Gs.val R.ts R.texts.length], by kernel_rfl, (Qb (Cell.own Qe rfl) (Qb (Cell.own Qe rfl) Qo)), rfl⟩⟩ (.cons rfl (.cons rfl .nil)))) ?_
  exact absurd hmay (by unfold mayP; rw [RSt.pub_len]; intro q; obtain ⟨⟨q1, q2⟩, q3, q4⟩ := q; first | omega | (simp_all; done) | (simp_all; omega))
 refine Ql (Qj ?_)
 refine sr ?_
 refine os 1 ?_
 refine L (ld ?_)
 refine os 2 ?_
 refine oV (.agg #[.int .i64 kind, .int .u64 proto, .bool false, .slice none 0 0, .slice none 0 0, .slice none 0 0, .slice none 0 0]) ?_
 refine L (nws 104 7 1 [.int .i64 kind, .int .u64 proto, .bool false, .slice none 0 0, .slice none 0 0, .slice none 0 0, .slice none 0 0] ?_)
 intro b11
 refine SL_perm _ (perm_cc (perm_cc (perm_cc perm_cz))) ?_
 refine L (O_append (size := 7) (bytes := 120) (z := .agg #[.int .i64 0, .int .u64 0, .bool false, .slice none 0 0, .slice none 0 0, .slice none 0 0, .slice none 0 0]) R.s R.objs.length 1 (some ⟨b11, 0, none⟩) 1 (R.objs.flatMap RObj.cells) ([.int .i64 kind, .int .u64 proto, .bool false, .slice none 0 0, .slice none 0 0, .slice none 0 0, .slice none 0 0]) ((R.objs ++ [(RObj.mk kind proto false Gs.nil ([]) Gs.nil ([]) Gs.nil ([]) Gs.nil ([]))]).flatMap RObj.cells) (flat_snoc _ (RObj.mk kind proto false Gs.nil ([]) Gs.nil ([]) Gs.nil ([]) Gs.nil ([])) rfl) (fun _ => rfl) (fun _ => rfl) Tryz.underlying25 (by kernel_rfl) rfl (by decide) hR.row rfl (.inr ⟨b11, 0, rfl, Cells.own (Qa Qe) rfl⟩) rfl (by omega) (by decide) rfl ?_)
 intro s12 hks12 hfs12
 rw [show R.objs.length + 1 = (R.objs ++ [(RObj.mk kind proto false Gs.nil ([]) Gs.nil ([]) Gs.nil ([]) Gs.nil ([]))]).length from by simp]
 rw [show R.objs.length + 1 = (R.objs ++ [(RObj.mk kind proto false Gs.nil ([]) Gs.nil ([]) Gs.nil ([]) Gs.nil ([]))]).length from by simp] at hks12
 have hls12 : (R.objs ++ [(RObj.mk kind proto false Gs.nil ([]) Gs.nil ([]) Gs.nil ([]) Gs.nil ([]))]).length = R.objs.length + 1 := by simp
 refine os 1 ?_
 refine kp [39, 38, 30, 8, 7, 6, 3, 0, 1, 2] ?_
 refine L (st [Gs.val s12 ((R.objs ++ [(RObj.mk kind proto false Gs.nil ([]) Gs.nil ([]) Gs.nil ([]) Gs.nil ([]))]).length), Gs.val R.ts R.texts.length] ?_)
 refine nq ?_
 refine SW_draw [(b1, 0, Gs.val s12 ((R.objs ++ [(RObj.mk kind proto false Gs.nil ([]) Gs.nil ([]) Gs.nil ([]) Gs.nil ([]))]).length)), (b1, 1, Gs.val R.ts R.texts.length), (b1, 0, Gs.val s12 ((R.objs ++ [(RObj.mk kind proto false Gs.nil ([]) Gs.nil ([]) Gs.nil ([]) Gs.nil ([]))]).length))] [0, 1, 2, 3, 4, 5, 6, 7] (by kernel_rfl) (Qf (Cell.own Qe rfl) (Qf (Cell.own Qe rfl) (Qf (Cell.own Qe rfl) rd_nil))) ?_
 refine tr 0 (.agg #[Gs.val s12 ((R.objs ++ [(RObj.mk kind proto false Gs.nil ([]) Gs.nil ([]) Gs.nil ([]) Gs.nil ([]))]).length), Gs.val R.ts R.texts.length]) ?_ (hy := fun δ w_ hr => Rd_loads b1 0 [Gs.val s12 ((R.objs ++ [(RObj.mk kind proto false Gs.nil ([]) Gs.nil ([]) Gs.nil ([]) Gs.nil ([]))]).length), Gs.val R.ts R.texts.length] rfl (by kernel_rfl) (rdm_cons List.mem_cons_self (rdm_cons (List.mem_cons_of_mem _ List.mem_cons_self) rdm_nil)) hr)
 refine aF 1 ?_
 refine aL 2 ?_
 refine aS 3 ?_
 refine tk 4 (.int .i64 (IntKind.wrap .i64 (((((R.objs ++ [(RObj.mk kind proto false Gs.nil ([]) Gs.nil ([]) Gs.nil ([]) Gs.nil ([]))]).length : Nat)) : Int) - 1))) ?_
 rw [show IntKind.wrap .i64 (((((R.objs ++ [(RObj.mk kind proto false Gs.nil ([]) Gs.nil ([]) Gs.nil ([]) Gs.nil ([]))]).length : Nat)) : Int) - 1) = ((((R.objs ++ [(RObj.mk kind proto false Gs.nil ([]) Gs.nil ([]) Gs.nil ([]) Gs.nil ([]))]).length : Nat)) : Int) - 1 from IntWalk.i64_in _ (by omega)]
 refine tk 5 (.int .u64 (IntKind.wrap .u64 (((((R.objs ++ [(RObj.mk kind proto false Gs.nil ([]) Gs.nil ([]) Gs.nil ([]) Gs.nil ([]))]).length : Nat)) : Int) - 1))) ?_
 rw [show IntKind.wrap .u64 (((((R.objs ++ [(RObj.mk kind proto false Gs.nil ([]) Gs.nil ([]) Gs.nil ([]) Gs.nil ([]))]).length : Nat)) : Int) - 1) = ((((R.objs ++ [(RObj.mk kind proto false Gs.nil ([]) Gs.nil ([]) Gs.nil ([]) Gs.nil ([]))]).length : Nat)) : Int) - 1 from IntWalk.u64_in _ (by omega)]
 refine tk 6 (.int .u64 (IntKind.wrap .u64 (18445055223849287680 + (((((R.objs ++ [(RObj.mk kind proto false Gs.nil ([]) Gs.nil ([]) Gs.nil ([]) Gs.nil ([]))]).length : Nat)) : Int) - 1)))) ?_
 rw [show IntKind.wrap .u64 (18445055223849287680 + (((((R.objs ++ [(RObj.mk kind proto false Gs.nil ([]) Gs.nil ([]) Gs.nil ([]) Gs.nil ([]))]).length : Nat)) : Int) - 1)) = 18445055223849287680 + (((((R.objs ++ [(RObj.mk kind proto false Gs.nil ([]) Gs.nil ([]) Gs.nil ([]) Gs.nil ([]))]).length : Nat)) : Int) - 1) from IntWalk.u64_in _ (by omega)]
 refine sa1 true 7 (h := st [Gs.val s12 ((R.objs ++ [(RObj.mk kind proto false Gs.nil ([]) Gs.nil ([]) Gs.nil ([]) Gs.nil ([]))]).length), Gs.val R.ts R.texts.length] ?_)
 refine ⟨fun hnd => (Qf (Cell.own (Qc Qe) rfl) (Qf (Cell.own (Qc Qe) rfl) (Qf (Cell.own (Qc Qe) rfl) rd_nil))), ?_⟩
 refine kpA [46, 30, 8, 7, 6, 3, 0, 1, 2] ?_
 refine aS 8 ?_
 refine aS 9 ?_
 refine SA_done (by kernel_rfl) (Qj ?_)
 refine Qi ?_
 refine body_endC [.agg #[Gs.val s12 ((R.objs ++ [(RObj.mk kind proto false Gs.nil ([]) Gs.nil ([]) Gs.nil ([]) Gs.nil ([]))]).length), Gs.val R.ts R.texts.length], .int .u64 (18445055223849287680 + (((((R.objs ++ [(RObj.mk kind proto false Gs.nil ([]) Gs.nil ([]) Gs.nil ([]) Gs.nil ([]))]).length : Nat)) : Int) - 1)), .bool true] (fun _ => (.cons ⟨b2, 0, rfl, .inl ⟨[Gs.val s12 ((R.objs ++ [(RObj.mk kind proto false Gs.nil ([]) Gs.nil ([]) Gs.nil ([]) Gs.nil ([]))]).length), Gs.val R.ts R.texts.length], by kernel_rfl, (Qb (Cell.own Qe rfl) (Qb (Cell.own Qe rfl) Qo)), rfl⟩⟩ (.cons rfl (.cons rfl .nil)))) ?_
 refine ⟨s12, ?_, congrArg (fun i => Value.tuple #[_, .int .u64 i, .bool true]) (by unfold objW; simp only [List.length_append, List.length_singleton]; omega), ⟨hks12, fun y hy => ?_, hR.ts⟩⟩
 · refine Own.trans (ow (S := ((Gs.ent 104 7 s12 ((R.objs ++ [(RObj.mk kind proto false Gs.nil ([]) Gs.nil ([]) Gs.nil ([]) Gs.nil ([]))]).flatMap RObj.cells)) ++ ((R.objs.flatMap RObj.ent) ++ ((Gs.ent 9 1 R.ts (R.texts.map encS)) ++ ([])))))) (Own.of_perm (List.Perm.of_eq (by simp [RSt.ent, newR_ent])))
 · rcases List.mem_append.1 hy with q | q
   · exact hR.each y q
   · rw [List.mem_singleton.1 q]; exact newR_ok _ _

theorem rf_Put_none {W0 : World} {R : RSt} (hR : R.ok) {w : Int} (hw : wordOk w) (h0 : objAt w R.objs.length = none) (key : ByteArray) (d : DescP) : SC Tryz.prog W0 74 #[R.val, .int .u64 w, .string key, descV d] R.ent (Ret (fun _ : Unit => R.ent) (fun v _ => v = R.val)) := by
 refine SC_body (fn := Tryz.f74) (n := 70) Tryz.func74 rfl (by kernel_rfl) (ρ := [(0, .agg #[Gs.val R.s R.objs.length, Gs.val R.ts R.texts.length]), (1, .int .u64 w), (2, .string key), (3, .agg #[.int .u64 d.1, .int .u64 d.2.1, .int .i64 d.2.2])]) rfl ?_
 refine SW_sig _ RSt.eq0 ?_
 refine sr ?_
 refine L (nw 28 2 [Gs.val R.s R.objs.length, Gs.val R.ts R.texts.length] ?_)
 intro b1
 refine L (nw 45 3 [.int .u64 d.1, .int .u64 d.2.1, .int .i64 d.2.2] ?_)
 intro b2
 refine L (nw 28 2 [.slice none 0 0, .slice none 0 0] ?_)
 intro b3
 refine nsr ?_
 refine L (lds 2 ?_)
 refine os 1 ?_
 refine L (cl (rf_At (R := RSt.mk R.s R.objs R.ts R.texts) hw (w := w)) ?_)
 rintro v1 _ hv1
 obtain rfl : v1 = .int .i64 (-1) := hv1.trans (by simp only []; unfold atI; rw [h0])
 refine un ?_
 refine os 1 ?_
 refine kp [9, 8, 7, 4, 0, 1, 2, 3] ?_
 refine nq ?_
 refine sr ?_
 refine os 1 ?_
 refine oV (.bool true) ?_
 refine nt ?_
 refine ct ?_
 refine sr ?_
 refine L (lds 2 ?_)
 refine L (st [Gs.val R.s R.objs.length, Gs.val R.ts R.texts.length] ?_)
 refine nt ?_
 refine Qi (Qm ?_)
 refine body_endC [.agg #[Gs.val R.s R.objs.length, Gs.val R.ts R.texts.length]] (fun _ => (.cons ⟨b3, 0, rfl, .inl ⟨[Gs.val R.s R.objs.length, Gs.val R.ts R.texts.length], by kernel_rfl, (Qb (Cell.own Qe rfl) (Qb (Cell.own Qe rfl) Qo)), rfl⟩⟩ .nil)) ?_
 exact ⟨(), RSt.own, rfl⟩

theorem rf_Put_some {W0 : World} {R : RSt} (hR : R.ok) {w : Int} (hw : wordOk w) {n : Nat} {x : RObj} (h0 : objAt w R.objs.length = some n) (hx : R.objs[n]? = some x) (hlen : x.names.length = x.descs.length) (hsm : x.descs.length ≤ 8000000) (key : ByteArray) (d : DescP) : SC Tryz.prog W0 74 #[R.val, .int .u64 w, .string key, descV d] R.ent (Ret (fun r : RObj => (R.put n r).ent) (fun v r => v = R.val ∧ (R.put n r).ok ∧ r.pub = ⟨x.kind, x.proto, x.shut, putNm x.names key, putDs x.names x.descs key (normD d), x.elems, x.inner⟩)) := by
 have hnl := (List.getElem?_eq_some_iff.1 hx).1
 refine SC_body (fn := Tryz.f74) (n := 70) Tryz.func74 rfl (by kernel_rfl) (ρ := [(0, .agg #[Gs.val R.s R.objs.length, Gs.val R.ts R.texts.length]), (1, .int .u64 w), (2, .string key), (3, .agg #[.int .u64 d.1, .int .u64 d.2.1, .int .i64 d.2.2])]) rfl ?_
 refine SW_sig _ RSt.eq0 ?_
 have hixl : 0 ≤ ixS x.names key → (ixS x.names key).toNat < x.descs.length := fun q => by have q2 := (List.getElem?_eq_some_iff.1 (ixS_some q)).1; omega
 refine SW_perm _ (perm_ca perm_cz) ?_
 refine SW_perm ((Gs.ent 9 1 x.ns (x.names.map encS)) ++ ((Gs.ent 45 3 x.ds (x.descs.flatMap Qk)) ++ ((Gs.ent 33 1 x.es (x.elems.map encU)) ++ ((Gs.ent 33 1 x.is (x.inner.map encU)) ++ (((List.eraseIdx R.objs n).flatMap RObj.ent) ++ ((Gs.ent 104 7 R.s (R.objs.flatMap RObj.cells)) ++ ((Gs.ent 9 1 R.ts (R.texts.map encS)) ++ ([])))))))) (robj_focus hx _) ?_
 refine sr ?_
 refine L (nw 28 2 [Gs.val R.s R.objs.length, Gs.val R.ts R.texts.length] ?_)
 intro b1
 refine L (nw 45 3 [.int .u64 d.1, .int .u64 d.2.1, .int .i64 d.2.2] ?_)
 intro b2
 refine L (nw 28 2 [.slice none 0 0, .slice none 0 0] ?_)
 intro b3
 refine nsr ?_
 refine L (lds 2 ?_)
 refine os 1 ?_
 refine L (cl (rf_At (R := RSt.mk R.s R.objs R.ts R.texts) hw (w := w)) ?_)
 rintro v1 _ hv1
 obtain rfl : v1 = .int .i64 (n : Int) := hv1.trans (by simp only []; unfold atI; rw [h0])
 refine un ?_
 refine os 1 ?_
 refine kp [9, 8, 7, 4, 0, 1, 2, 3] ?_
 refine nq ?_
 refine sr ?_
 refine os 2 ?_
 refine nt ?_
 refine SW_false (fun _ => (congrArg Value.bool (show (decide ((n : Int) < 0)) = false from (by simp)))) ?_
 refine Ql (Qj ?_)
 refine sr ?_
 refine os 1 ?_
 refine L (ld ?_)
 refine os 1 ?_
 refine L (ixg (n : Int) (n * 7) hR.row Tryz.underlying25 ?_)
 refine L (ldr [.int .i64 x.kind, .int .u64 x.proto, .bool x.shut, Gs.val x.ns x.names.length, Gs.val x.ds x.descs.length, Gs.val x.es x.elems.length, Gs.val x.is x.inner.length] (Qb (Gs.cell hR.row (fun e he => (Qc (Qc (Qc (Qa (Qa (Qa (Qa (Qa (mem_h he)))))))))) (Qh RObj.len hx (j := 0) (by decide) rfl)) (Qb (Gs.cell hR.row (fun e he => (Qc (Qc (Qc (Qa (Qa (Qa (Qa (Qa (mem_h he)))))))))) (Qh RObj.len hx (j := 1) (by decide) rfl)) (Qb (Gs.cell hR.row (fun e he => (Qc (Qc (Qc (Qa (Qa (Qa (Qa (Qa (mem_h he)))))))))) (Qh RObj.len hx (j := 2) (by decide) rfl)) (Qb (Gs.cell hR.row (fun e he => (Qc (Qc (Qc (Qa (Qa (Qa (Qa (Qa (mem_h he)))))))))) (Qh RObj.len hx (j := 3) (by decide) rfl)) (Qb (Gs.cell hR.row (fun e he => (Qc (Qc (Qc (Qa (Qa (Qa (Qa (Qa (mem_h he)))))))))) (Qh RObj.len hx (j := 4) (by decide) rfl)) (Qb (Gs.cell hR.row (fun e he => (Qc (Qc (Qc (Qa (Qa (Qa (Qa (Qa (mem_h he)))))))))) (Qh RObj.len hx (j := 5) (by decide) rfl)) (Qb (Gs.cell hR.row (fun e he => (Qc (Qc (Qc (Qa (Qa (Qa (Qa (Qa (mem_h he)))))))))) (Qh RObj.len hx (j := 6) (by decide) rfl)) Qo))))))) ?_)
 refine L (nw 104 7 [.int .i64 0, .int .u64 0, .bool false, .slice none 0 0, .slice none 0 0, .slice none 0 0, .slice none 0 0] ?_)
 intro b4
 refine L (st [.int .i64 x.kind, .int .u64 x.proto, .bool x.shut, Gs.val x.ns x.names.length, Gs.val x.ds x.descs.length, Gs.val x.es x.elems.length, Gs.val x.is x.inner.length] ?_)
 refine nsr ?_
 refine os 1 ?_
 refine kp [24, 10, 17, 9, 8, 7, 4, 0, 1, 2, 3] ?_
 refine L (ld ?_)
 refine oX (.int .i64 (IntKind.wrap .i64 ((BitVec.ofInt 64 d.2.2 &&& BitVec.ofInt 64 15).toNat))) (.int .i64 (fl15 d.2.2)) (congrArg (Value.int .i64) (rfl)) ?_
 refine os 1 ?_
 refine L (st [.int .u64 d.1, .int .u64 d.2.1, .int .i64 (fl15 d.2.2)] ?_)
 refine nq ?_
 refine sr ?_
 refine os 1 ?_
 refine L (ld ?_)
 refine os 1 ?_
 refine kp [30, 10, 17, 9, 8, 7, 4, 0, 1, 2, 3] ?_
 refine nt ?_
 refine cdp (fun hc5 : (fl15 d.2.2) ≥ 8 => ?_) (fun hc5 => ?_)
 ·refine Qn ?_
  refine os 1 ?_
  refine L (ld ?_)
  refine oV (.int .i64 (IntKind.wrap .i64 ((BitVec.ofInt 64 (fl15 d.2.2) &&& BitVec.ofInt 64 14).toNat))) ?_
  refine os 1 ?_
  refine L (st [.int .u64 d.1, .int .u64 d.2.1, .int .i64 (IntKind.wrap .i64 ((BitVec.ofInt 64 (fl15 d.2.2) &&& BitVec.ofInt 64 14).toNat))] ?_)
  refine nsr ?_
  refine L (lds 7 ?_)
  refine os 1 ?_
  refine L (cl (rf_place (show Gs.ok 1 (x.names).length x.ns (x.names.map encS) from (RSt.ok.at (x := x) hR hx).ns) key) ?_)
  rintro _ _ rfl
  refine os 1 ?_
  refine kp [11, 30, 10, 17, 9, 8, 7, 4, 0, 1, 2, 3] ?_
  refine nq ?_
  refine sr ?_
  refine os 2 ?_
  refine nt ?_
  refine cdp (fun hc6 : (ixS x.names key) < 0 => ?_) (fun hc6 => ?_)
  ·refine sr ?_
   refine os 1 ?_
   refine L (ld ?_)
   refine os 1 ?_
   refine L (nws 9 1 1 [.string key] ?_)
   intro b7
   refine SL_perm _ (perm_cc perm_cz) ?_
   refine L (O_append (size := 1) (bytes := 16) (z := .string ByteArray.empty) x.ns x.names.length 1 (some ⟨b7, 0, none⟩) 1 (x.names.map encS) ([.string key]) ((x.names ++ [key]).map encS) (map_snoc _ key rfl) (fun _ => rfl) (fun _ => rfl) Tryz.underlying26 (by kernel_rfl) rfl (by decide) (show Gs.ok 1 (x.names).length x.ns (x.names.map encS) from (RSt.ok.at (x := x) hR hx).ns) rfl (.inr ⟨b7, 0, rfl, Cells.own (Qa Qe) rfl⟩) rfl (by omega) (by decide) rfl ?_)
   intro s8 hks8 hfs8
   rw [show x.names.length + 1 = (x.names ++ [key]).length from by simp]
   rw [show x.names.length + 1 = (x.names ++ [key]).length from by simp] at hks8
   have hls8 : (x.names ++ [key]).length = x.names.length + 1 := by simp
   refine os 1 ?_
   refine L (st [.int .i64 x.kind, .int .u64 x.proto, .bool x.shut, Gs.val s8 ((x.names ++ [key]).length), Gs.val x.ds x.descs.length, Gs.val x.es x.elems.length, Gs.val x.is x.inner.length] ?_)
   refine nsr ?_
   refine os 1 ?_
   refine kp [46, 39, 11, 30, 10, 17, 9, 8, 7, 4, 0, 1, 2, 3] ?_
   refine L (ld ?_)
   refine L (lds 3 ?_)
   refine L (nws 45 3 1 [.int .u64 d.1, .int .u64 d.2.1, .int .i64 (IntKind.wrap .i64 ((BitVec.ofInt 64 (fl15 d.2.2) &&& BitVec.ofInt 64 14).toNat))] ?_)
   intro b9
   refine SL_perm _ (perm_cc (perm_cc (perm_ca (perm_cc (perm_cc (perm_cc (perm_cc perm_cz))))))) ?_
   refine L (O_append (size := 3) (bytes := 24) (z := .agg #[.int .u64 0, .int .u64 0, .int .i64 0]) x.ds x.descs.length 1 (some ⟨b9, 0, none⟩) 1 (x.descs.flatMap Qk) ([.int .u64 d.1, .int .u64 d.2.1, .int .i64 (IntKind.wrap .i64 ((BitVec.ofInt 64 (fl15 d.2.2) &&& BitVec.ofInt 64 14).toNat))]) ((x.descs ++ [(d.1, d.2.1, IntKind.wrap .i64 ((BitVec.ofInt 64 (fl15 d.2.2) &&& BitVec.ofInt 64 14).toNat))]).flatMap Qk) (flat_snoc _ (d.1, d.2.1, IntKind.wrap .i64 ((BitVec.ofInt 64 (fl15 d.2.2) &&& BitVec.ofInt 64 14).toNat)) rfl) (fun _ => rfl) (fun _ => rfl) Tryz.underlying99 (by kernel_rfl) rfl (by decide) (show Gs.ok 3 (x.descs).length x.ds (x.descs.flatMap Qk) from (RSt.ok.at (x := x) hR hx).ds) rfl (.inr ⟨b9, 0, rfl, Cells.own (Qa Qe) rfl⟩) rfl (by omega) (by decide) rfl ?_)
   intro s10 hks10 hfs10
   rw [show x.descs.length + 1 = (x.descs ++ [(d.1, d.2.1, IntKind.wrap .i64 ((BitVec.ofInt 64 (fl15 d.2.2) &&& BitVec.ofInt 64 14).toNat))]).length from by simp]
   rw [show x.descs.length + 1 = (x.descs ++ [(d.1, d.2.1, IntKind.wrap .i64 ((BitVec.ofInt 64 (fl15 d.2.2) &&& BitVec.ofInt 64 14).toNat))]).length from by simp] at hks10
   have hls10 : (x.descs ++ [(d.1, d.2.1, IntKind.wrap .i64 ((BitVec.ofInt 64 (fl15 d.2.2) &&& BitVec.ofInt 64 14).toNat))]).length = x.descs.length + 1 := by simp
   refine os 1 ?_
   refine L (st [.int .i64 x.kind, .int .u64 x.proto, .bool x.shut, Gs.val s8 ((x.names ++ [key]).length), Gs.val s10 ((x.descs ++ [(d.1, d.2.1, IntKind.wrap .i64 ((BitVec.ofInt 64 (fl15 d.2.2) &&& BitVec.ofInt 64 14).toNat))]).length), Gs.val x.es x.elems.length, Gs.val x.is x.inner.length] ?_)
   refine nsr ?_
   refine L (lds 2 ?_)
   refine os 1 ?_
   refine kp [53, 52, 39, 11, 30, 10, 17, 9, 8, 7, 4, 0, 1, 2, 3] ?_
   refine L (lds 7 ?_)
   refine L (cl (rf_with (RObj.mk x.kind x.proto x.shut s8 (x.names ++ [key]) s10 (x.descs ++ [(d.1, d.2.1, IntKind.wrap .i64 ((BitVec.ofInt 64 (fl15 d.2.2) &&& BitVec.ofInt 64 14).toNat))]) x.es x.elems x.is x.inner) hR.row hx) ?_)
   rintro _ _ rfl
   refine L (st [Gs.val R.s R.objs.length, Gs.val R.ts R.texts.length] ?_)
   refine nt ?_
   refine Qi (Qm ?_)
   refine body_endC [.agg #[Gs.val R.s R.objs.length, Gs.val R.ts R.texts.length]] (fun _ => (.cons ⟨b3, 0, rfl, .inl ⟨[Gs.val R.s R.objs.length, Gs.val R.ts R.texts.length], by kernel_rfl, (Qb (Cell.own Qe rfl) (Qb (Cell.own Qe rfl) Qo)), rfl⟩⟩ .nil)) ?_
   have hfl : normF d.2.2 = IntKind.wrap .i64 ((BitVec.ofInt 64 (fl15 d.2.2) &&& BitVec.ofInt 64 14).toNat) := by rw [refF_norm]; exact if_pos hc5
   have hnm : putNm x.names key = (x.names ++ [key]) := if_pos (show ixS x.names key < 0 from by omega)
   have hds : putDs x.names x.descs key (normD d) = (x.descs ++ [(d.1, d.2.1, IntKind.wrap .i64 ((BitVec.ofInt 64 (fl15 d.2.2) &&& BitVec.ofInt 64 14).toNat))]) := (if_pos (show ixS x.names key < 0 from by omega)).trans (by unfold normD; rw [hfl])
   refine ⟨(RObj.mk x.kind x.proto x.shut s8 (x.names ++ [key]) s10 (x.descs ++ [(d.1, d.2.1, IntKind.wrap .i64 ((BitVec.ofInt 64 (fl15 d.2.2) &&& BitVec.ofInt 64 14).toNat))]) x.es x.elems x.is x.inner), ?_, rfl, hR.put hx ⟨hks8, hks10, (show Gs.ok 1 (x.elems).length x.es (x.elems.map encU) from (RSt.ok.at (x := x) hR hx).es), (show Gs.ok 1 (x.inner).length x.is (x.inner.map encU) from (RSt.ok.at (x := x) hR hx).is)⟩, by rw [hnm, hds]; rfl⟩
   exact Own.trans (ow (S := ((Gs.ent 104 7 R.s ((List.set R.objs n (RObj.mk x.kind x.proto x.shut s8 (x.names ++ [key]) s10 (x.descs ++ [(d.1, d.2.1, IntKind.wrap .i64 ((BitVec.ofInt 64 (fl15 d.2.2) &&& BitVec.ofInt 64 14).toNat))]) x.es x.elems x.is x.inner)).flatMap RObj.cells)) ++ ((Gs.ent 9 1 s8 ((x.names ++ [key]).map encS)) ++ ((Gs.ent 45 3 s10 ((x.descs ++ [(d.1, d.2.1, IntKind.wrap .i64 ((BitVec.ofInt 64 (fl15 d.2.2) &&& BitVec.ofInt 64 14).toNat))]).flatMap Qk)) ++ ((Gs.ent 33 1 x.es (x.elems.map encU)) ++ ((Gs.ent 33 1 x.is (x.inner.map encU)) ++ (((List.eraseIdx R.objs n).flatMap RObj.ent) ++ ((Gs.ent 9 1 R.ts (R.texts.map encS)) ++ ([])))))))))) (Own.of_perm (RSt.back hx (RObj.mk x.kind x.proto x.shut s8 (x.names ++ [key]) s10 (x.descs ++ [(d.1, d.2.1, IntKind.wrap .i64 ((BitVec.ofInt 64 (fl15 d.2.2) &&& BitVec.ofInt 64 14).toNat))]) x.es x.elems x.is x.inner)))
  refine Ql (Qj ?_)
  refine SW_seq ?_
  have hixn := hixl (by omega)
  refine Qn ?_
  refine L (nws 45 0 0 [] ?_)
  intro b11
  refine os 1 ?_
  refine L (ld ?_)
  refine SL_sig ((Gs.ent 45 3 (Gs.at b11 0) (([] : List DescP).flatMap Qk)) ++ ((Gs.ent 9 1 x.ns (x.names.map encS)) ++ ((b2, .cells 45 3 [.int .u64 d.1, .int .u64 d.2.1, .int .i64 (IntKind.wrap .i64 ((BitVec.ofInt 64 (fl15 d.2.2) &&& BitVec.ofInt 64 14).toNat))]) :: ((b4, .cells 104 7 [.int .i64 x.kind, .int .u64 x.proto, .bool x.shut, Gs.val x.ns x.names.length, Gs.val x.ds x.descs.length, Gs.val x.es x.elems.length, Gs.val x.is x.inner.length]) :: ((b3, .cells 28 2 [.slice none 0 0, .slice none 0 0]) :: ((b1, .cells 28 2 [Gs.val R.s R.objs.length, Gs.val R.ts R.texts.length]) :: ((Gs.ent 45 3 x.ds (x.descs.flatMap Qk)) ++ ((Gs.ent 33 1 x.es (x.elems.map encU)) ++ ((Gs.ent 33 1 x.is (x.inner.map encU)) ++ (((List.eraseIdx R.objs n).flatMap RObj.ent) ++ ((Gs.ent 104 7 R.s (R.objs.flatMap RObj.cells)) ++ ((Gs.ent 9 1 R.ts (R.texts.map encS)) ++ ([]))))))))))))) rfl ?_
  refine L (O_append (size := 3) (bytes := 24) (z := .agg #[.int .u64 0, .int .u64 0, .int .i64 0]) (Gs.at b11 0) 0 x.descs.length (Gs.addr x.ds) (Gs.cap x.ds) (([] : List DescP).flatMap Qk) (x.descs.flatMap Qk) ((([] : List DescP) ++ x.descs).flatMap Qk) (flat_app _ _) (fun _ => rfl) (fun _ => rfl) Tryz.underlying99 (by kernel_rfl) rfl (by decide) ⟨Nat.le_refl _, by unfold maxLen; omega, rfl⟩ (Gs.ok.len (show Gs.ok 3 (x.descs).length x.ds (x.descs.flatMap Qk) from (RSt.ok.at (x := x) hR hx).ds)) (Gs.src (show Gs.ok 3 (x.descs).length x.ds (x.descs.flatMap Qk) from (RSt.ok.at (x := x) hR hx).ds) (fun e he => (Qa (Qa (Qc (Qc (Qc (Qc (mem_h he))))))))) (flat_one (fun _ => rfl) _) (by omega) (by decide) rfl ?_)
  intro s12 hks12 hfs12
  rw [show 0 + x.descs.length = (([] : List DescP) ++ x.descs).length from by simp]
  rw [show 0 + x.descs.length = (([] : List DescP) ++ x.descs).length from by simp] at hks12
  have hls12 : (([] : List DescP) ++ x.descs).length = ([] : List DescP).length + x.descs.length := by simp
  refine os 1 ?_
  refine kp [12, 39, 11, 30, 10, 17, 9, 8, 7, 4, 0, 1, 2, 3] ?_
  refine nsr ?_
  refine os 2 ?_
  refine L (lds 3 ?_)
  refine L (ixg (ixS x.names key) (((ixS x.names key).toNat) * 3) hks12 Tryz.underlying99 ?_)
  obtain ⟨e1, he1⟩ : ∃ y_, (([] : List DescP) ++ x.descs)[((ixS x.names key).toNat)]? = some y_ := ⟨_, List.getElem?_eq_getElem (by omega)⟩
  have hok1 := Gs.ok.relen (ys := (((([] : List DescP) ++ x.descs).set ((ixS x.names key).toNat) (d.1, d.2.1, IntKind.wrap .i64 ((BitVec.ofInt 64 (fl15 d.2.2) &&& BitVec.ofInt 64 14).toNat))).flatMap Qk)) hks12 (by simp [flat_len descCells_len])
  refine L (O_storeG (ys := (((([] : List DescP) ++ x.descs).set ((ixS x.names key).toNat) (d.1, d.2.1, IntKind.wrap .i64 ((BitVec.ofInt 64 (fl15 d.2.2) &&& BitVec.ofInt 64 14).toNat))).flatMap Qk)) s12 (((ixS x.names key).toNat) * 3) (.agg #[.int .u64 d.1, .int .u64 d.2.1, .int .i64 (IntKind.wrap .i64 ((BitVec.ofInt 64 (fl15 d.2.2) &&& BitVec.ofInt 64 14).toNat))]) [.int .u64 d.1, .int .u64 d.2.1, .int .i64 (IntKind.wrap .i64 ((BitVec.ofInt 64 (fl15 d.2.2) &&& BitVec.ofInt 64 14).toNat))] (Gs.ok.ne hks12 (by first | omega | (simp; omega))) (fun _ => rfl) (fun _ => rfl) rfl (by kernel_rfl) rfl (by rw [flat_len descCells_len]; simp; omega) (row_lay (j := 0) descCells_len (d.1, d.2.1, IntKind.wrap .i64 ((BitVec.ofInt 64 (fl15 d.2.2) &&& BitVec.ofInt 64 14).toNat)) he1 (Nat.le_of_ble_eq_true rfl) rfl) rfl ?_)
  refine nq ?_
  rw [show (([] : List DescP) ++ x.descs).length = ((([] : List DescP) ++ x.descs).set ((ixS x.names key).toNat) (d.1, d.2.1, IntKind.wrap .i64 ((BitVec.ofInt 64 (fl15 d.2.2) &&& BitVec.ofInt 64 14).toNat))).length from by simp]
  refine Qn ?_
  refine os 2 ?_
  refine L (st [.int .i64 x.kind, .int .u64 x.proto, .bool x.shut, Gs.val x.ns x.names.length, Gs.val s12 (((([] : List DescP) ++ x.descs).set ((ixS x.names key).toNat) (d.1, d.2.1, IntKind.wrap .i64 ((BitVec.ofInt 64 (fl15 d.2.2) &&& BitVec.ofInt 64 14).toNat))).length), Gs.val x.es x.elems.length, Gs.val x.is x.inner.length] ?_)
  refine nsr ?_
  refine L (lds 2 ?_)
  refine os 1 ?_
  refine kp [67, 66, 12, 39, 11, 30, 10, 17, 9, 8, 7, 4, 0, 1, 2, 3] ?_
  refine L (lds 7 ?_)
  refine L (cl (rf_with (RObj.mk x.kind x.proto x.shut x.ns x.names s12 ((([] : List DescP) ++ x.descs).set ((ixS x.names key).toNat) (d.1, d.2.1, IntKind.wrap .i64 ((BitVec.ofInt 64 (fl15 d.2.2) &&& BitVec.ofInt 64 14).toNat))) x.es x.elems x.is x.inner) hR.row hx) ?_)
  rintro _ _ rfl
  refine L (st [Gs.val R.s R.objs.length, Gs.val R.ts R.texts.length] ?_)
  refine nt ?_
  refine Qi ?_
  refine body_endC [.agg #[Gs.val R.s R.objs.length, Gs.val R.ts R.texts.length]] (fun _ => (.cons ⟨b3, 0, rfl, .inl ⟨[Gs.val R.s R.objs.length, Gs.val R.ts R.texts.length], by kernel_rfl, (Qb (Cell.own Qe rfl) (Qb (Cell.own Qe rfl) Qo)), rfl⟩⟩ .nil)) ?_
  have hfl : normF d.2.2 = IntKind.wrap .i64 ((BitVec.ofInt 64 (fl15 d.2.2) &&& BitVec.ofInt 64 14).toNat) := by rw [refF_norm]; exact if_pos hc5
  have hnm : putNm x.names key = x.names := if_neg (show ¬ ixS x.names key < 0 from by omega)
  have hds : putDs x.names x.descs key (normD d) = ((([] : List DescP) ++ x.descs).set ((ixS x.names key).toNat) (d.1, d.2.1, IntKind.wrap .i64 ((BitVec.ofInt 64 (fl15 d.2.2) &&& BitVec.ofInt 64 14).toNat))) := (if_neg (show ¬ ixS x.names key < 0 from by omega)).trans (by unfold normD; rw [hfl]; rfl)
  refine ⟨(RObj.mk x.kind x.proto x.shut x.ns x.names s12 ((([] : List DescP) ++ x.descs).set ((ixS x.names key).toNat) (d.1, d.2.1, IntKind.wrap .i64 ((BitVec.ofInt 64 (fl15 d.2.2) &&& BitVec.ofInt 64 14).toNat))) x.es x.elems x.is x.inner), ?_, rfl, hR.put hx ⟨(show Gs.ok 1 (x.names).length x.ns (x.names.map encS) from (RSt.ok.at (x := x) hR hx).ns), (by have q_ := hok1; simp only [List.nil_append, List.length_set] at q_ ⊢; exact q_), (show Gs.ok 1 (x.elems).length x.es (x.elems.map encU) from (RSt.ok.at (x := x) hR hx).es), (show Gs.ok 1 (x.inner).length x.is (x.inner.map encU) from (RSt.ok.at (x := x) hR hx).is)⟩, by rw [hnm, hds]; rfl⟩
  exact Own.trans (ow (S := ((Gs.ent 104 7 R.s ((List.set R.objs n (RObj.mk x.kind x.proto x.shut x.ns x.names s12 ((([] : List DescP) ++ x.descs).set ((ixS x.names key).toNat) (d.1, d.2.1, IntKind.wrap .i64 ((BitVec.ofInt 64 (fl15 d.2.2) &&& BitVec.ofInt 64 14).toNat))) x.es x.elems x.is x.inner)).flatMap RObj.cells)) ++ ((Gs.ent 9 1 x.ns (x.names.map encS)) ++ ((Gs.ent 45 3 s12 (((([] : List DescP) ++ x.descs).set ((ixS x.names key).toNat) (d.1, d.2.1, IntKind.wrap .i64 ((BitVec.ofInt 64 (fl15 d.2.2) &&& BitVec.ofInt 64 14).toNat))).flatMap Qk)) ++ ((Gs.ent 33 1 x.es (x.elems.map encU)) ++ ((Gs.ent 33 1 x.is (x.inner.map encU)) ++ (((List.eraseIdx R.objs n).flatMap RObj.ent) ++ ((Gs.ent 9 1 R.ts (R.texts.map encS)) ++ ([])))))))))) (Own.of_perm (RSt.back hx (RObj.mk x.kind x.proto x.shut x.ns x.names s12 ((([] : List DescP) ++ x.descs).set ((ixS x.names key).toNat) (d.1, d.2.1, IntKind.wrap .i64 ((BitVec.ofInt 64 (fl15 d.2.2) &&& BitVec.ofInt 64 14).toNat))) x.es x.elems x.is x.inner)))
 refine Ql (Qj ?_)
 refine sr ?_
 refine L (lds 7 ?_)
 refine os 1 ?_
 refine L (cl (rf_place (show Gs.ok 1 (x.names).length x.ns (x.names.map encS) from (RSt.ok.at (x := x) hR hx).ns) key) ?_)
 rintro _ _ rfl
 refine os 1 ?_
 refine kp [11, 30, 10, 17, 9, 8, 7, 4, 0, 1, 2, 3] ?_
 refine nq ?_
 refine sr ?_
 refine os 2 ?_
 refine nt ?_
 refine cdp (fun hc13 : (ixS x.names key) < 0 => ?_) (fun hc13 => ?_)
 ·refine sr ?_
  refine os 1 ?_
  refine L (ld ?_)
  refine os 1 ?_
  refine L (nws 9 1 1 [.string key] ?_)
  intro b14
  refine SL_perm _ (perm_cc perm_cz) ?_
  refine L (O_append (size := 1) (bytes := 16) (z := .string ByteArray.empty) x.ns x.names.length 1 (some ⟨b14, 0, none⟩) 1 (x.names.map encS) ([.string key]) ((x.names ++ [key]).map encS) (map_snoc _ key rfl) (fun _ => rfl) (fun _ => rfl) Tryz.underlying26 (by kernel_rfl) rfl (by decide) (show Gs.ok 1 (x.names).length x.ns (x.names.map encS) from (RSt.ok.at (x := x) hR hx).ns) rfl (.inr ⟨b14, 0, rfl, Cells.own (Qa Qe) rfl⟩) rfl (by omega) (by decide) rfl ?_)
  intro s15 hks15 hfs15
  rw [show x.names.length + 1 = (x.names ++ [key]).length from by simp]
  rw [show x.names.length + 1 = (x.names ++ [key]).length from by simp] at hks15
  have hls15 : (x.names ++ [key]).length = x.names.length + 1 := by simp
  refine os 1 ?_
  refine L (st [.int .i64 x.kind, .int .u64 x.proto, .bool x.shut, Gs.val s15 ((x.names ++ [key]).length), Gs.val x.ds x.descs.length, Gs.val x.es x.elems.length, Gs.val x.is x.inner.length] ?_)
  refine nsr ?_
  refine os 1 ?_
  refine kp [46, 39, 11, 30, 10, 17, 9, 8, 7, 4, 0, 1, 2, 3] ?_
  refine L (ld ?_)
  refine L (lds 3 ?_)
  refine L (nws 45 3 1 [.int .u64 d.1, .int .u64 d.2.1, .int .i64 (fl15 d.2.2)] ?_)
  intro b16
  refine SL_perm _ (perm_cc (perm_cc (perm_ca (perm_cc (perm_cc (perm_cc (perm_cc perm_cz))))))) ?_
  refine L (O_append (size := 3) (bytes := 24) (z := .agg #[.int .u64 0, .int .u64 0, .int .i64 0]) x.ds x.descs.length 1 (some ⟨b16, 0, none⟩) 1 (x.descs.flatMap Qk) ([.int .u64 d.1, .int .u64 d.2.1, .int .i64 (fl15 d.2.2)]) ((x.descs ++ [(d.1, d.2.1, fl15 d.2.2)]).flatMap Qk) (flat_snoc _ (d.1, d.2.1, fl15 d.2.2) rfl) (fun _ => rfl) (fun _ => rfl) Tryz.underlying99 (by kernel_rfl) rfl (by decide) (show Gs.ok 3 (x.descs).length x.ds (x.descs.flatMap Qk) from (RSt.ok.at (x := x) hR hx).ds) rfl (.inr ⟨b16, 0, rfl, Cells.own (Qa Qe) rfl⟩) rfl (by omega) (by decide) rfl ?_)
  intro s17 hks17 hfs17
  rw [show x.descs.length + 1 = (x.descs ++ [(d.1, d.2.1, fl15 d.2.2)]).length from by simp]
  rw [show x.descs.length + 1 = (x.descs ++ [(d.1, d.2.1, fl15 d.2.2)]).length from by simp] at hks17
  have hls17 : (x.descs ++ [(d.1, d.2.1, fl15 d.2.2)]).length = x.descs.length + 1 := by simp
  refine os 1 ?_
  refine L (st [.int .i64 x.kind, .int .u64 x.proto, .bool x.shut, Gs.val s15 ((x.names ++ [key]).length), Gs.val s17 ((x.descs ++ [(d.1, d.2.1, fl15 d.2.2)]).length), Gs.val x.es x.elems.length, Gs.val x.is x.inner.length] ?_)
  refine nsr ?_
  refine L (lds 2 ?_)
  refine os 1 ?_
  refine kp [53, 52, 39, 11, 30, 10, 17, 9, 8, 7, 4, 0, 1, 2, 3] ?_
  refine L (lds 7 ?_)
  refine L (cl (rf_with (RObj.mk x.kind x.proto x.shut s15 (x.names ++ [key]) s17 (x.descs ++ [(d.1, d.2.1, fl15 d.2.2)]) x.es x.elems x.is x.inner) hR.row hx) ?_)
  rintro _ _ rfl
  refine L (st [Gs.val R.s R.objs.length, Gs.val R.ts R.texts.length] ?_)
  refine nt ?_
  refine Qi (Qm ?_)
  refine body_endC [.agg #[Gs.val R.s R.objs.length, Gs.val R.ts R.texts.length]] (fun _ => (.cons ⟨b3, 0, rfl, .inl ⟨[Gs.val R.s R.objs.length, Gs.val R.ts R.texts.length], by kernel_rfl, (Qb (Cell.own Qe rfl) (Qb (Cell.own Qe rfl) Qo)), rfl⟩⟩ .nil)) ?_
  have hfl : normF d.2.2 = fl15 d.2.2 := by rw [refF_norm]; exact if_neg hc5
  have hnm : putNm x.names key = (x.names ++ [key]) := if_pos (show ixS x.names key < 0 from by omega)
  have hds : putDs x.names x.descs key (normD d) = (x.descs ++ [(d.1, d.2.1, fl15 d.2.2)]) := (if_pos (show ixS x.names key < 0 from by omega)).trans (by unfold normD; rw [hfl])
  refine ⟨(RObj.mk x.kind x.proto x.shut s15 (x.names ++ [key]) s17 (x.descs ++ [(d.1, d.2.1, fl15 d.2.2)]) x.es x.elems x.is x.inner), ?_, rfl, hR.put hx ⟨hks15, hks17, (show Gs.ok 1 (x.elems).length x.es (x.elems.map encU) from (RSt.ok.at (x := x) hR hx).es), (show Gs.ok 1 (x.inner).length x.is (x.inner.map encU) from (RSt.ok.at (x := x) hR hx).is)⟩, by rw [hnm, hds]; rfl⟩
  exact Own.trans (ow (S := ((Gs.ent 104 7 R.s ((List.set R.objs n (RObj.mk x.kind x.proto x.shut s15 (x.names ++ [key]) s17 (x.descs ++ [(d.1, d.2.1, fl15 d.2.2)]) x.es x.elems x.is x.inner)).flatMap RObj.cells)) ++ ((Gs.ent 9 1 s15 ((x.names ++ [key]).map encS)) ++ ((Gs.ent 45 3 s17 ((x.descs ++ [(d.1, d.2.1, fl15 d.2.2)]).flatMap Qk)) ++ ((Gs.ent 33 1 x.es (x.elems.map encU)) ++ ((Gs.ent 33 1 x.is (x.inner.map encU)) ++ (((List.eraseIdx R.objs n).flatMap RObj.ent) ++ ((Gs.ent 9 1 R.ts (R.texts.map encS)) ++ ([])))))))))) (Own.of_perm (RSt.back hx (RObj.mk x.kind x.proto x.shut s15 (x.names ++ [key]) s17 (x.descs ++ [(d.1, d.2.1, fl15 d.2.2)]) x.es x.elems x.is x.inner)))
 refine Ql (Qj ?_)
 refine SW_seq ?_
 have hixn := hixl (by omega)
 refine Qn ?_
 refine L (nws 45 0 0 [] ?_)
 intro b18
 refine os 1 ?_
 refine L (ld ?_)
 refine SL_sig ((Gs.ent 45 3 (Gs.at b18 0) (([] : List DescP).flatMap Qk)) ++ ((Gs.ent 9 1 x.ns (x.names.map encS)) ++ ((b2, .cells 45 3 [.int .u64 d.1, .int .u64 d.2.1, .int .i64 (fl15 d.2.2)]) :: ((b4, .cells 104 7 [.int .i64 x.kind, .int .u64 x.proto, .bool x.shut, Gs.val x.ns x.names.length, Gs.val x.ds x.descs.length, Gs.val x.es x.elems.length, Gs.val x.is x.inner.length]) :: ((b3, .cells 28 2 [.slice none 0 0, .slice none 0 0]) :: ((b1, .cells 28 2 [Gs.val R.s R.objs.length, Gs.val R.ts R.texts.length]) :: ((Gs.ent 45 3 x.ds (x.descs.flatMap Qk)) ++ ((Gs.ent 33 1 x.es (x.elems.map encU)) ++ ((Gs.ent 33 1 x.is (x.inner.map encU)) ++ (((List.eraseIdx R.objs n).flatMap RObj.ent) ++ ((Gs.ent 104 7 R.s (R.objs.flatMap RObj.cells)) ++ ((Gs.ent 9 1 R.ts (R.texts.map encS)) ++ ([]))))))))))))) rfl ?_
 refine L (O_append (size := 3) (bytes := 24) (z := .agg #[.int .u64 0, .int .u64 0, .int .i64 0]) (Gs.at b18 0) 0 x.descs.length (Gs.addr x.ds) (Gs.cap x.ds) (([] : List DescP).flatMap Qk) (x.descs.flatMap Qk) ((([] : List DescP) ++ x.descs).flatMap Qk) (flat_app _ _) (fun _ => rfl) (fun _ => rfl) Tryz.underlying99 (by kernel_rfl) rfl (by decide) ⟨Nat.le_refl _, by unfold maxLen; omega, rfl⟩ (Gs.ok.len (show Gs.ok 3 (x.descs).length x.ds (x.descs.flatMap Qk) from (RSt.ok.at (x := x) hR hx).ds)) (Gs.src (show Gs.ok 3 (x.descs).length x.ds (x.descs.flatMap Qk) from (RSt.ok.at (x := x) hR hx).ds) (fun e he => (Qa (Qa (Qc (Qc (Qc (Qc (mem_h he))))))))) (flat_one (fun _ => rfl) _) (by omega) (by decide) rfl ?_)
 intro s19 hks19 hfs19
 rw [show 0 + x.descs.length = (([] : List DescP) ++ x.descs).length from by simp]
 rw [show 0 + x.descs.length = (([] : List DescP) ++ x.descs).length from by simp] at hks19
 have hls19 : (([] : List DescP) ++ x.descs).length = ([] : List DescP).length + x.descs.length := by simp
 refine os 1 ?_
 refine kp [12, 39, 11, 30, 10, 17, 9, 8, 7, 4, 0, 1, 2, 3] ?_
 refine nsr ?_
 refine os 2 ?_
 refine L (lds 3 ?_)
 refine L (ixg (ixS x.names key) (((ixS x.names key).toNat) * 3) hks19 Tryz.underlying99 ?_)
 obtain ⟨e2, he2⟩ : ∃ y_, (([] : List DescP) ++ x.descs)[((ixS x.names key).toNat)]? = some y_ := ⟨_, List.getElem?_eq_getElem (by omega)⟩
 have hok2 := Gs.ok.relen (ys := (((([] : List DescP) ++ x.descs).set ((ixS x.names key).toNat) (d.1, d.2.1, fl15 d.2.2)).flatMap Qk)) hks19 (by simp [flat_len descCells_len])
 refine L (O_storeG (ys := (((([] : List DescP) ++ x.descs).set ((ixS x.names key).toNat) (d.1, d.2.1, fl15 d.2.2)).flatMap Qk)) s19 (((ixS x.names key).toNat) * 3) (.agg #[.int .u64 d.1, .int .u64 d.2.1, .int .i64 (fl15 d.2.2)]) [.int .u64 d.1, .int .u64 d.2.1, .int .i64 (fl15 d.2.2)] (Gs.ok.ne hks19 (by first | omega | (simp; omega))) (fun _ => rfl) (fun _ => rfl) rfl (by kernel_rfl) rfl (by rw [flat_len descCells_len]; simp; omega) (row_lay (j := 0) descCells_len (d.1, d.2.1, fl15 d.2.2) he2 (Nat.le_of_ble_eq_true rfl) rfl) rfl ?_)
 refine nq ?_
 rw [show (([] : List DescP) ++ x.descs).length = ((([] : List DescP) ++ x.descs).set ((ixS x.names key).toNat) (d.1, d.2.1, fl15 d.2.2)).length from by simp]
 refine Qn ?_
 refine os 2 ?_
 refine L (st [.int .i64 x.kind, .int .u64 x.proto, .bool x.shut, Gs.val x.ns x.names.length, Gs.val s19 (((([] : List DescP) ++ x.descs).set ((ixS x.names key).toNat) (d.1, d.2.1, fl15 d.2.2)).length), Gs.val x.es x.elems.length, Gs.val x.is x.inner.length] ?_)
 refine nsr ?_
 refine L (lds 2 ?_)
 refine os 1 ?_
 refine kp [67, 66, 12, 39, 11, 30, 10, 17, 9, 8, 7, 4, 0, 1, 2, 3] ?_
 refine L (lds 7 ?_)
 refine L (cl (rf_with (RObj.mk x.kind x.proto x.shut x.ns x.names s19 ((([] : List DescP) ++ x.descs).set ((ixS x.names key).toNat) (d.1, d.2.1, fl15 d.2.2)) x.es x.elems x.is x.inner) hR.row hx) ?_)
 rintro _ _ rfl
 refine L (st [Gs.val R.s R.objs.length, Gs.val R.ts R.texts.length] ?_)
 refine nt ?_
 refine Qi ?_
 refine body_endC [.agg #[Gs.val R.s R.objs.length, Gs.val R.ts R.texts.length]] (fun _ => (.cons ⟨b3, 0, rfl, .inl ⟨[Gs.val R.s R.objs.length, Gs.val R.ts R.texts.length], by kernel_rfl, (Qb (Cell.own Qe rfl) (Qb (Cell.own Qe rfl) Qo)), rfl⟩⟩ .nil)) ?_
 have hfl : normF d.2.2 = fl15 d.2.2 := by rw [refF_norm]; exact if_neg hc5
 have hnm : putNm x.names key = x.names := if_neg (show ¬ ixS x.names key < 0 from by omega)
 have hds : putDs x.names x.descs key (normD d) = ((([] : List DescP) ++ x.descs).set ((ixS x.names key).toNat) (d.1, d.2.1, fl15 d.2.2)) := (if_neg (show ¬ ixS x.names key < 0 from by omega)).trans (by unfold normD; rw [hfl]; rfl)
 refine ⟨(RObj.mk x.kind x.proto x.shut x.ns x.names s19 ((([] : List DescP) ++ x.descs).set ((ixS x.names key).toNat) (d.1, d.2.1, fl15 d.2.2)) x.es x.elems x.is x.inner), ?_, rfl, hR.put hx ⟨(show Gs.ok 1 (x.names).length x.ns (x.names.map encS) from (RSt.ok.at (x := x) hR hx).ns), (by have q_ := hok2; simp only [List.nil_append, List.length_set] at q_ ⊢; exact q_), (show Gs.ok 1 (x.elems).length x.es (x.elems.map encU) from (RSt.ok.at (x := x) hR hx).es), (show Gs.ok 1 (x.inner).length x.is (x.inner.map encU) from (RSt.ok.at (x := x) hR hx).is)⟩, by rw [hnm, hds]; rfl⟩
 exact Own.trans (ow (S := ((Gs.ent 104 7 R.s ((List.set R.objs n (RObj.mk x.kind x.proto x.shut x.ns x.names s19 ((([] : List DescP) ++ x.descs).set ((ixS x.names key).toNat) (d.1, d.2.1, fl15 d.2.2)) x.es x.elems x.is x.inner)).flatMap RObj.cells)) ++ ((Gs.ent 9 1 x.ns (x.names.map encS)) ++ ((Gs.ent 45 3 s19 (((([] : List DescP) ++ x.descs).set ((ixS x.names key).toNat) (d.1, d.2.1, fl15 d.2.2)).flatMap Qk)) ++ ((Gs.ent 33 1 x.es (x.elems.map encU)) ++ ((Gs.ent 33 1 x.is (x.inner.map encU)) ++ (((List.eraseIdx R.objs n).flatMap RObj.ent) ++ ((Gs.ent 9 1 R.ts (R.texts.map encS)) ++ ([])))))))))) (Own.of_perm (RSt.back hx (RObj.mk x.kind x.proto x.shut x.ns x.names s19 ((([] : List DescP) ++ x.descs).set ((ixS x.names key).toNat) (d.1, d.2.1, fl15 d.2.2)) x.es x.elems x.is x.inner)))

theorem rf_Drop_none {W0 : World} {R : RSt} (hR : R.ok) {w : Int} (hw : wordOk w) (h0 : objAt w R.objs.length = none) (key : ByteArray) : SC Tryz.prog W0 76 #[R.val, .int .u64 w, .string key] R.ent (Ret (fun _ : Unit => R.ent) (fun v _ => v = .tuple #[R.val, .bool false])) := by
 refine SC_body (fn := Tryz.f76) (n := 65) Tryz.func76 rfl (by kernel_rfl) (ρ := [(0, .agg #[Gs.val R.s R.objs.length, Gs.val R.ts R.texts.length]), (1, .int .u64 w), (2, .string key)]) rfl ?_
 refine SW_sig _ RSt.eq0 ?_
 refine sr ?_
 refine L (nw 28 2 [Gs.val R.s R.objs.length, Gs.val R.ts R.texts.length] ?_)
 intro b1
 refine L (nw 28 2 [.slice none 0 0, .slice none 0 0] ?_)
 intro b2
 refine os 1 ?_
 refine nsr ?_
 refine L (lds 2 ?_)
 refine os 1 ?_
 refine L (cl (rf_At (R := RSt.mk R.s R.objs R.ts R.texts) hw (w := w)) ?_)
 rintro v1 _ hv1
 obtain rfl : v1 = .int .i64 (-1) := hv1.trans (by simp only []; unfold atI; rw [h0])
 refine un ?_
 refine os 1 ?_
 refine kp [8, 7, 6, 3, 0, 1, 2] ?_
 refine nq ?_
 refine sr ?_
 refine os 1 ?_
 refine oV (.bool true) ?_
 refine nt ?_
 refine ct ?_
 refine sr ?_
 refine L (lds 2 ?_)
 refine L (st [Gs.val R.s R.objs.length, Gs.val R.ts R.texts.length] ?_)
 refine os 1 ?_
 refine nt ?_
 refine Qi (Qm ?_)
 refine body_endC [.agg #[Gs.val R.s R.objs.length, Gs.val R.ts R.texts.length], .bool false] (fun _ => (.cons ⟨b2, 0, rfl, .inl ⟨[Gs.val R.s R.objs.length, Gs.val R.ts R.texts.length], by kernel_rfl, (Qb (Cell.own Qe rfl) (Qb (Cell.own Qe rfl) Qo)), rfl⟩⟩ (.cons rfl .nil))) ?_
 exact ⟨(), RSt.own, rfl⟩

theorem rf_Drop_no {W0 : World} {R : RSt} (hR : R.ok) {w : Int} (hw : wordOk w) {n : Nat} {x : RObj} (h0 : objAt w R.objs.length = some n) (hx : R.objs[n]? = some x) {key : ByteArray} (hno : ixS x.names key < 0) : SC Tryz.prog W0 76 #[R.val, .int .u64 w, .string key] R.ent (Ret (fun _ : Unit => R.ent) (fun v _ => v = .tuple #[R.val, .bool false])) := by
 have hnl := (List.getElem?_eq_some_iff.1 hx).1
 refine SC_body (fn := Tryz.f76) (n := 65) Tryz.func76 rfl (by kernel_rfl) (ρ := [(0, .agg #[Gs.val R.s R.objs.length, Gs.val R.ts R.texts.length]), (1, .int .u64 w), (2, .string key)]) rfl ?_
 refine SW_sig _ RSt.eq0 ?_
 refine SW_perm _ (perm_ca perm_cz) ?_
 refine SW_perm ((Gs.ent 9 1 x.ns (x.names.map encS)) ++ ((Gs.ent 45 3 x.ds (x.descs.flatMap Qk)) ++ ((Gs.ent 33 1 x.es (x.elems.map encU)) ++ ((Gs.ent 33 1 x.is (x.inner.map encU)) ++ (((List.eraseIdx R.objs n).flatMap RObj.ent) ++ ((Gs.ent 104 7 R.s (R.objs.flatMap RObj.cells)) ++ ((Gs.ent 9 1 R.ts (R.texts.map encS)) ++ ([])))))))) (robj_focus hx _) ?_
 refine sr ?_
 refine L (nw 28 2 [Gs.val R.s R.objs.length, Gs.val R.ts R.texts.length] ?_)
 intro b1
 refine L (nw 28 2 [.slice none 0 0, .slice none 0 0] ?_)
 intro b2
 refine os 1 ?_
 refine nsr ?_
 refine L (lds 2 ?_)
 refine os 1 ?_
 refine L (cl (rf_At (R := RSt.mk R.s R.objs R.ts R.texts) hw (w := w)) ?_)
 rintro v1 _ hv1
 obtain rfl : v1 = .int .i64 (n : Int) := hv1.trans (by simp only []; unfold atI; rw [h0])
 refine un ?_
 refine os 1 ?_
 refine kp [8, 7, 6, 3, 0, 1, 2] ?_
 refine nq ?_
 refine sr ?_
 refine os 2 ?_
 refine nt ?_
 refine SW_false (fun _ => (congrArg Value.bool (show (decide ((n : Int) < 0)) = false from (by simp)))) ?_
 refine Ql (Qj ?_)
 refine sr ?_
 refine os 1 ?_
 refine L (ld ?_)
 refine os 1 ?_
 refine L (ixg (n : Int) (n * 7) hR.row Tryz.underlying25 ?_)
 refine L (ldr [.int .i64 x.kind, .int .u64 x.proto, .bool x.shut, Gs.val x.ns x.names.length, Gs.val x.ds x.descs.length, Gs.val x.es x.elems.length, Gs.val x.is x.inner.length] (Qb (Gs.cell hR.row (fun e he => (Qc (Qc (Qa (Qa (Qa (Qa (Qa (mem_h he))))))))) (Qh RObj.len hx (j := 0) (by decide) rfl)) (Qb (Gs.cell hR.row (fun e he => (Qc (Qc (Qa (Qa (Qa (Qa (Qa (mem_h he))))))))) (Qh RObj.len hx (j := 1) (by decide) rfl)) (Qb (Gs.cell hR.row (fun e he => (Qc (Qc (Qa (Qa (Qa (Qa (Qa (mem_h he))))))))) (Qh RObj.len hx (j := 2) (by decide) rfl)) (Qb (Gs.cell hR.row (fun e he => (Qc (Qc (Qa (Qa (Qa (Qa (Qa (mem_h he))))))))) (Qh RObj.len hx (j := 3) (by decide) rfl)) (Qb (Gs.cell hR.row (fun e he => (Qc (Qc (Qa (Qa (Qa (Qa (Qa (mem_h he))))))))) (Qh RObj.len hx (j := 4) (by decide) rfl)) (Qb (Gs.cell hR.row (fun e he => (Qc (Qc (Qa (Qa (Qa (Qa (Qa (mem_h he))))))))) (Qh RObj.len hx (j := 5) (by decide) rfl)) (Qb (Gs.cell hR.row (fun e he => (Qc (Qc (Qa (Qa (Qa (Qa (Qa (mem_h he))))))))) (Qh RObj.len hx (j := 6) (by decide) rfl)) Qo))))))) ?_)
 refine L (nw 104 7 [.int .i64 0, .int .u64 0, .bool false, .slice none 0 0, .slice none 0 0, .slice none 0 0, .slice none 0 0] ?_)
 intro b3
 refine L (st [.int .i64 x.kind, .int .u64 x.proto, .bool x.shut, Gs.val x.ns x.names.length, Gs.val x.ds x.descs.length, Gs.val x.es x.elems.length, Gs.val x.is x.inner.length] ?_)
 refine nsr ?_
 refine L (lds 7 ?_)
 refine os 1 ?_
 refine kp [26, 25, 9, 18, 8, 7, 6, 3, 0, 1, 2] ?_
 refine L (cl (rf_place (show Gs.ok 1 (x.names).length x.ns (x.names.map encS) from (RSt.ok.at (x := x) hR hx).ns) key) ?_)
 rintro _ _ rfl
 refine os 1 ?_
 refine kp [10, 9, 18, 8, 7, 6, 3, 0, 1, 2] ?_
 refine nq ?_
 refine sr ?_
 refine os 2 ?_
 refine nt ?_
 refine SW_true (fun _ => (congrArg Value.bool (show (decide ((ixS x.names key) < 0)) = true from (by simp; omega)))) ?_
 refine sr ?_
 refine L (lds 2 ?_)
 refine L (st [Gs.val R.s R.objs.length, Gs.val R.ts R.texts.length] ?_)
 refine os 1 ?_
 refine nt ?_
 refine Qi (Qm ?_)
 refine body_endC [.agg #[Gs.val R.s R.objs.length, Gs.val R.ts R.texts.length], .bool false] (fun _ => (.cons ⟨b2, 0, rfl, .inl ⟨[Gs.val R.s R.objs.length, Gs.val R.ts R.texts.length], by kernel_rfl, (Qb (Cell.own Qe rfl) (Qb (Cell.own Qe rfl) Qo)), rfl⟩⟩ (.cons rfl .nil))) ?_
 exact ⟨(), Own.trans (ow (S := ((Gs.ent 104 7 R.s (R.objs.flatMap RObj.cells)) ++ ((Gs.ent 9 1 x.ns (x.names.map encS)) ++ ((Gs.ent 45 3 x.ds (x.descs.flatMap Qk)) ++ ((Gs.ent 33 1 x.es (x.elems.map encU)) ++ ((Gs.ent 33 1 x.is (x.inner.map encU)) ++ (((List.eraseIdx R.objs n).flatMap RObj.ent) ++ ((Gs.ent 9 1 R.ts (R.texts.map encS)) ++ ([])))))))))) (Own.of_perm (by simpa only [RSt.put, set_same hx] using RSt.back hx x)), rfl⟩

theorem rf_Drop_yes {W0 : World} {R : RSt} (hR : R.ok) {w : Int} (hw : wordOk w) {n : Nat} {x : RObj} (h0 : objAt w R.objs.length = some n) (hx : R.objs[n]? = some x) (hlen : x.names.length = x.descs.length) (hsm : x.descs.length ≤ 8000000) {key : ByteArray} {q_ : Nat} (hq : ixS x.names key = q_) (hql : q_ < x.names.length) : SC Tryz.prog W0 76 #[R.val, .int .u64 w, .string key] R.ent (Ret (fun r : RObj => (R.put n r).ent) (fun v r => v = .tuple #[R.val, .bool true] ∧ (R.put n r).ok ∧ r.pub = ⟨x.kind, x.proto, x.shut, x.names.eraseIdx q_, x.descs.eraseIdx q_, x.elems, x.inner⟩)) := by
 have hnl := (List.getElem?_eq_some_iff.1 hx).1
 refine SC_body (fn := Tryz.f76) (n := 65) Tryz.func76 rfl (by kernel_rfl) (ρ := [(0, .agg #[Gs.val R.s R.objs.length, Gs.val R.ts R.texts.length]), (1, .int .u64 w), (2, .string key)]) rfl ?_
 refine SW_sig _ RSt.eq0 ?_
 refine SW_perm _ (perm_ca perm_cz) ?_
 refine SW_perm ((Gs.ent 9 1 x.ns (x.names.map encS)) ++ ((Gs.ent 45 3 x.ds (x.descs.flatMap Qk)) ++ ((Gs.ent 33 1 x.es (x.elems.map encU)) ++ ((Gs.ent 33 1 x.is (x.inner.map encU)) ++ (((List.eraseIdx R.objs n).flatMap RObj.ent) ++ ((Gs.ent 104 7 R.s (R.objs.flatMap RObj.cells)) ++ ((Gs.ent 9 1 R.ts (R.texts.map encS)) ++ ([])))))))) (robj_focus hx _) ?_
 refine sr ?_
 refine L (nw 28 2 [Gs.val R.s R.objs.length, Gs.val R.ts R.texts.length] ?_)
 intro b1
 refine L (nw 28 2 [.slice none 0 0, .slice none 0 0] ?_)
 intro b2
 refine os 1 ?_
 refine nsr ?_
 refine L (lds 2 ?_)
 refine os 1 ?_
 refine L (cl (rf_At (R := RSt.mk R.s R.objs R.ts R.texts) hw (w := w)) ?_)
 rintro v1 _ hv1
 obtain rfl : v1 = .int .i64 (n : Int) := hv1.trans (by simp only []; unfold atI; rw [h0])
 refine un ?_
 refine os 1 ?_
 refine kp [8, 7, 6, 3, 0, 1, 2] ?_
 refine nq ?_
 refine sr ?_
 refine os 2 ?_
 refine nt ?_
 refine SW_false (fun _ => (congrArg Value.bool (show (decide ((n : Int) < 0)) = false from (by simp)))) ?_
 refine Ql (Qj ?_)
 refine sr ?_
 refine os 1 ?_
 refine L (ld ?_)
 refine os 1 ?_
 refine L (ixg (n : Int) (n * 7) hR.row Tryz.underlying25 ?_)
 refine L (ldr [.int .i64 x.kind, .int .u64 x.proto, .bool x.shut, Gs.val x.ns x.names.length, Gs.val x.ds x.descs.length, Gs.val x.es x.elems.length, Gs.val x.is x.inner.length] (Qb (Gs.cell hR.row (fun e he => (Qc (Qc (Qa (Qa (Qa (Qa (Qa (mem_h he))))))))) (Qh RObj.len hx (j := 0) (by decide) rfl)) (Qb (Gs.cell hR.row (fun e he => (Qc (Qc (Qa (Qa (Qa (Qa (Qa (mem_h he))))))))) (Qh RObj.len hx (j := 1) (by decide) rfl)) (Qb (Gs.cell hR.row (fun e he => (Qc (Qc (Qa (Qa (Qa (Qa (Qa (mem_h he))))))))) (Qh RObj.len hx (j := 2) (by decide) rfl)) (Qb (Gs.cell hR.row (fun e he => (Qc (Qc (Qa (Qa (Qa (Qa (Qa (mem_h he))))))))) (Qh RObj.len hx (j := 3) (by decide) rfl)) (Qb (Gs.cell hR.row (fun e he => (Qc (Qc (Qa (Qa (Qa (Qa (Qa (mem_h he))))))))) (Qh RObj.len hx (j := 4) (by decide) rfl)) (Qb (Gs.cell hR.row (fun e he => (Qc (Qc (Qa (Qa (Qa (Qa (Qa (mem_h he))))))))) (Qh RObj.len hx (j := 5) (by decide) rfl)) (Qb (Gs.cell hR.row (fun e he => (Qc (Qc (Qa (Qa (Qa (Qa (Qa (mem_h he))))))))) (Qh RObj.len hx (j := 6) (by decide) rfl)) Qo))))))) ?_)
 refine L (nw 104 7 [.int .i64 0, .int .u64 0, .bool false, .slice none 0 0, .slice none 0 0, .slice none 0 0, .slice none 0 0] ?_)
 intro b3
 refine L (st [.int .i64 x.kind, .int .u64 x.proto, .bool x.shut, Gs.val x.ns x.names.length, Gs.val x.ds x.descs.length, Gs.val x.es x.elems.length, Gs.val x.is x.inner.length] ?_)
 refine nsr ?_
 refine L (lds 7 ?_)
 refine os 1 ?_
 refine kp [26, 25, 9, 18, 8, 7, 6, 3, 0, 1, 2] ?_
 refine L (cl (rf_place (show Gs.ok 1 (x.names).length x.ns (x.names.map encS) from (RSt.ok.at (x := x) hR hx).ns) key) ?_)
 rintro v2 _ hv2
 obtain rfl : v2 = .int .i64 (q_ : Int) := hv2.trans (congrArg (Value.int .i64) hq)
 refine os 1 ?_
 refine kp [10, 9, 18, 8, 7, 6, 3, 0, 1, 2] ?_
 refine nq ?_
 refine sr ?_
 refine os 2 ?_
 refine nt ?_
 refine SW_false (fun _ => (congrArg Value.bool (show (decide ((q_ : Int) < 0)) = false from (by simp)))) ?_
 refine Ql (Qj ?_)
 refine sr ?_
 refine os 1 ?_
 refine nsr ?_
 refine os 1 ?_
 refine nq ?_
 refine sr ?_
 refine os 1 ?_
 refine nt ?_
 refine SW_block ?_
 refine SW_loop (α := Nat × Gs × Gs) (fun z_ ρ_ σ_ => Fits ρ_ σ_ [(0, .agg #[Gs.val R.s R.objs.length, Gs.val R.ts R.texts.length]), (3, pt b1 0), (6, pt b2 0), (7, .bool false), (8, .int .i64 (n : Int)), (9, pt b3 0), (10, .int .i64 (q_ : Int)), (11, Gs.val z_.2.1 (((x.names.take z_.1).eraseIdx q_).length)), (12, Gs.val z_.2.2 (((x.descs.take z_.1).eraseIdx q_).length)), (13, .int .i64 (z_.1 : Int))] ((Gs.ent 9 1 z_.2.1 (((x.names.take z_.1).eraseIdx q_).map encS)) ++ ((Gs.ent 45 3 z_.2.2 (((x.descs.take z_.1).eraseIdx q_).flatMap Qk)) ++ ((Gs.ent 9 1 x.ns (x.names.map encS)) ++ ((b3, .cells 104 7 [.int .i64 x.kind, .int .u64 x.proto, .bool x.shut, Gs.val x.ns x.names.length, Gs.val x.ds x.descs.length, Gs.val x.es x.elems.length, Gs.val x.is x.inner.length]) :: ((b2, .cells 28 2 [.slice none 0 0, .slice none 0 0]) :: ((b1, .cells 28 2 [Gs.val R.s R.objs.length, Gs.val R.ts R.texts.length]) :: ((Gs.ent 45 3 x.ds (x.descs.flatMap Qk)) ++ ((Gs.ent 33 1 x.es (x.elems.map encU)) ++ ((Gs.ent 33 1 x.is (x.inner.map encU)) ++ (((List.eraseIdx R.objs n).flatMap RObj.ent) ++ ((Gs.ent 104 7 R.s (R.objs.flatMap RObj.cells)) ++ ((Gs.ent 9 1 R.ts (R.texts.map encS)) ++ ([]))))))))))))) ∧ z_.1 ≤ x.names.length ∧ Gs.ok 1 ((x.names.take z_.1).eraseIdx q_).length z_.2.1 (((x.names.take z_.1).eraseIdx q_).map encS) ∧ Gs.ok 3 ((x.descs.take z_.1).eraseIdx q_).length z_.2.2 (((x.descs.take z_.1).eraseIdx q_).flatMap Qk)) (fun z_ => x.names.length - z_.1) (0, Gs.nil, Gs.nil) ⟨⟨fun _ => rfl, (Own.of_perm (List.Perm.of_eq (by simp [Gs.ent])))⟩, Nat.zero_le _, ⟨rfl, rfl⟩, ⟨rfl, rfl⟩⟩ ?_
 rintro ⟨i, a, b⟩ ρ_ σ_ ⟨hfit, hi0, hi1, hi2⟩
 refine SW_fits hfit ?_
 clear hfit
 simp only [] at hi0 hi1 hi2 ⊢
 have hle1 : ((x.names.take i).eraseIdx q_).length ≤ x.names.length := Nat.le_trans (List.length_eraseIdx_le _ _) (by simp; omega)
 have hle2 : ((x.descs.take i).eraseIdx q_).length ≤ x.names.length := Nat.le_trans (List.length_eraseIdx_le _ _) (by simp; omega)
 refine SW_seq ?_
 refine sr ?_
 refine os 2 ?_
 refine L (ld ?_)
 refine os 2 ?_
 refine kp [35, 0, 3, 6, 7, 8, 9, 10, 11, 12, 13] ?_
 refine nt ?_
 refine cdp (fun hc4 : (i : Int) < (x.names.length : Int) => ?_) (fun hc4 => ?_)
 ·refine Ql (Qj ?_)
  refine SW_seq ?_
  refine SW_block ?_
  refine sr ?_
  refine os 3 ?_
  refine nt ?_
  refine cd (fun hc5 : ((i : Int) != (q_ : Int)) = true => ?_) (fun hc5 => ?_)
  ·simp only [bne_iff_ne, ne_eq, bne_eq_false_iff_eq] at hc5
   refine sr ?_
   refine os 2 ?_
   refine L (ld ?_)
   refine os 1 ?_
   refine L (ixg (i : Int) (i) (show Gs.ok 1 (x.names).length x.ns (x.names.map encS) from (RSt.ok.at (x := x) hR hx).ns) Tryz.underlying26 ?_)
   obtain ⟨e1, he1⟩ : ∃ y_, x.names[i]? = some y_ := ⟨_, List.getElem?_eq_getElem (by omega)⟩
   refine L (ld ?_ (hc := Gs.cell (show Gs.ok 1 (x.names).length x.ns (x.names.map encS) from (RSt.ok.at (x := x) hR hx).ns) (fun e he => (Qa (Qa (mem_h he)))) (map_cell he1 rfl)))
   refine L (nws 9 1 1 [.string e1] ?_)
   intro b6
   refine SL_perm _ (perm_cc perm_cz) ?_
   refine L (O_append (size := 1) (bytes := 16) (z := .string ByteArray.empty) a (((x.names.take i).eraseIdx q_).length) 1 (some ⟨b6, 0, none⟩) 1 (((x.names.take i).eraseIdx q_).map encS) ([.string e1]) ((((x.names.take i).eraseIdx q_) ++ [e1]).map encS) (map_snoc _ e1 rfl) (fun _ => rfl) (fun _ => rfl) Tryz.underlying26 (by kernel_rfl) rfl (by decide) hi1 rfl (.inr ⟨b6, 0, rfl, Cells.own (Qa Qe) rfl⟩) rfl (by omega) (by decide) rfl ?_)
   intro s7 hks7 hfs7
   rw [show ((x.names.take i).eraseIdx q_).length + 1 = (((x.names.take i).eraseIdx q_) ++ [e1]).length from by simp]
   rw [show ((x.names.take i).eraseIdx q_).length + 1 = (((x.names.take i).eraseIdx q_) ++ [e1]).length from by simp] at hks7
   have hls7 : (((x.names.take i).eraseIdx q_) ++ [e1]).length = ((x.names.take i).eraseIdx q_).length + 1 := by simp
   refine os 1 ?_
   refine kp [11, 40, 35, 0, 3, 6, 7, 8, 9, 10, 12, 13] ?_
   refine nr ?_
   refine os 2 ?_
   refine L (ld ?_)
   refine os 1 ?_
   refine L (ixg (i : Int) (i * 3) (show Gs.ok 3 (x.descs).length x.ds (x.descs.flatMap Qk) from (RSt.ok.at (x := x) hR hx).ds) Tryz.underlying99 ?_)
   obtain ⟨e2, he2⟩ : ∃ y_, x.descs[i]? = some y_ := ⟨_, List.getElem?_eq_getElem (by omega)⟩
   refine L (ldr [.int .u64 e2.1, .int .u64 e2.2.1, .int .i64 e2.2.2] (Qb (Gs.cell (show Gs.ok 3 (x.descs).length x.ds (x.descs.flatMap Qk) from (RSt.ok.at (x := x) hR hx).ds) (fun e he => (Qa (Qc (Qa (Qa (Qc (Qc (Qc (mem_h he))))))))) (Qh descCells_len he2 (j := 0) (by decide) rfl)) (Qb (Gs.cell (show Gs.ok 3 (x.descs).length x.ds (x.descs.flatMap Qk) from (RSt.ok.at (x := x) hR hx).ds) (fun e he => (Qa (Qc (Qa (Qa (Qc (Qc (Qc (mem_h he))))))))) (Qh descCells_len he2 (j := 1) (by decide) rfl)) (Qb (Gs.cell (show Gs.ok 3 (x.descs).length x.ds (x.descs.flatMap Qk) from (RSt.ok.at (x := x) hR hx).ds) (fun e he => (Qa (Qc (Qa (Qa (Qc (Qc (Qc (mem_h he))))))))) (Qh descCells_len he2 (j := 2) (by decide) rfl)) Qo))) ?_)
   refine L (nws 45 3 1 [.int .u64 e2.1, .int .u64 e2.2.1, .int .i64 e2.2.2] ?_)
   intro b8
   refine SL_perm _ (perm_cc (perm_ca (perm_cc perm_cz))) ?_
   refine L (O_append (size := 3) (bytes := 24) (z := .agg #[.int .u64 0, .int .u64 0, .int .i64 0]) b (((x.descs.take i).eraseIdx q_).length) 1 (some ⟨b8, 0, none⟩) 1 (((x.descs.take i).eraseIdx q_).flatMap Qk) ([.int .u64 e2.1, .int .u64 e2.2.1, .int .i64 e2.2.2]) ((((x.descs.take i).eraseIdx q_) ++ [(e2.1, e2.2.1, e2.2.2)]).flatMap Qk) (flat_snoc _ (e2.1, e2.2.1, e2.2.2) rfl) (fun _ => rfl) (fun _ => rfl) Tryz.underlying99 (by kernel_rfl) rfl (by decide) hi2 rfl (.inr ⟨b8, 0, rfl, Cells.own (Qa Qe) rfl⟩) rfl (by omega) (by decide) rfl ?_)
   intro s9 hks9 hfs9
   rw [show ((x.descs.take i).eraseIdx q_).length + 1 = (((x.descs.take i).eraseIdx q_) ++ [(e2.1, e2.2.1, e2.2.2)]).length from by simp]
   rw [show ((x.descs.take i).eraseIdx q_).length + 1 = (((x.descs.take i).eraseIdx q_) ++ [(e2.1, e2.2.1, e2.2.2)]).length from by simp] at hks9
   have hls9 : (((x.descs.take i).eraseIdx q_) ++ [(e2.1, e2.2.1, e2.2.2)]).length = ((x.descs.take i).eraseIdx q_).length + 1 := by simp
   refine os 1 ?_
   refine kp [12, 11, 40, 35, 0, 3, 6, 7, 8, 9, 10, 13] ?_
   refine SL_nil (n_in (Qj ?_))
   refine Qn ?_
   refine os 3 ?_
   refine nt ?_
   have s1 := erase_step (k := q_) he1 (by omega)
   have s2 := erase_step (k := q_) he2 (by omega)
   rw [if_neg (by omega)] at s1 s2
   refine ⟨(i + 1, s7, s9), by simp only []; omega, ?_⟩
   simp only []
   rw [s1, s2]
   exact ⟨⟨fun _ => rfl, ow⟩, by omega, hks7, hks9⟩
  simp only [bne_iff_ne, ne_eq, bne_eq_false_iff_eq] at hc5
  refine Ql (n_in (Qj ?_))
  refine Qn ?_
  refine os 3 ?_
  refine kp [13, 40, 35, 0, 3, 6, 7, 8, 9, 10, 11, 12] ?_
  refine nt ?_
  obtain ⟨e8, he8⟩ : ∃ y_, x.names[i]? = some y_ := ⟨_, List.getElem?_eq_getElem (by omega)⟩
  obtain ⟨e9, he9⟩ : ∃ y_, x.descs[i]? = some y_ := ⟨_, List.getElem?_eq_getElem (by omega)⟩
  have s1 := erase_step (k := q_) he8 (by omega)
  have s2 := erase_step (k := q_) he9 (by omega)
  rw [if_pos (by omega)] at s1 s2
  refine ⟨(i + 1, a, b), by simp only []; omega, ?_⟩
  simp only []
  rw [s1, s2]
  exact ⟨⟨fun _ => rfl, ow⟩, by omega, hi1, hi2⟩
 refine SW_exit (x_then (x_then (x_in (Qj ?_))))
 refine SW_seq ?_
 have hie : i = x.names.length := by omega
 have t1 : x.names.take i = x.names := List.take_of_length_le (by omega)
 have t2 : x.descs.take i = x.descs := List.take_of_length_le (by omega)
 rw [t1] at hi1
 rw [t2] at hi2
 refine SW_sig ((Gs.ent 9 1 a ((x.names.eraseIdx q_).map encS)) ++ ((Gs.ent 45 3 b ((x.descs.eraseIdx q_).flatMap Qk)) ++ ((Gs.ent 9 1 x.ns (x.names.map encS)) ++ ((b3, .cells 104 7 [.int .i64 x.kind, .int .u64 x.proto, .bool x.shut, Gs.val x.ns x.names.length, Gs.val x.ds x.descs.length, Gs.val x.es x.elems.length, Gs.val x.is x.inner.length]) :: ((b2, .cells 28 2 [.slice none 0 0, .slice none 0 0]) :: ((b1, .cells 28 2 [Gs.val R.s R.objs.length, Gs.val R.ts R.texts.length]) :: ((Gs.ent 45 3 x.ds (x.descs.flatMap Qk)) ++ ((Gs.ent 33 1 x.es (x.elems.map encU)) ++ ((Gs.ent 33 1 x.is (x.inner.map encU)) ++ (((List.eraseIdx R.objs n).flatMap RObj.ent) ++ ((Gs.ent 104 7 R.s (R.objs.flatMap RObj.cells)) ++ ((Gs.ent 9 1 R.ts (R.texts.map encS)) ++ ([]))))))))))))) (by rw [t1, t2]) ?_
 refine SW_rho [(35, .bool (decide ((i : Int) < (x.names.length : Int)))), (0, .agg #[Gs.val R.s R.objs.length, Gs.val R.ts R.texts.length]), (3, pt b1 0), (6, pt b2 0), (7, .bool false), (8, .int .i64 (n : Int)), (9, pt b3 0), (10, .int .i64 (q_ : Int)), (11, Gs.val a ((x.names.eraseIdx q_).length)), (12, Gs.val b ((x.descs.eraseIdx q_).length)), (13, .int .i64 (i : Int))] (by rw [t1, t2] <;> rfl) ?_
 refine Qn ?_
 refine os 2 ?_
 refine L (st [.int .i64 x.kind, .int .u64 x.proto, .bool x.shut, Gs.val a ((x.names.eraseIdx q_).length), Gs.val x.ds x.descs.length, Gs.val x.es x.elems.length, Gs.val x.is x.inner.length] ?_)
 refine nsr ?_
 refine os 2 ?_
 refine L (st [.int .i64 x.kind, .int .u64 x.proto, .bool x.shut, Gs.val a ((x.names.eraseIdx q_).length), Gs.val b ((x.descs.eraseIdx q_).length), Gs.val x.es x.elems.length, Gs.val x.is x.inner.length] ?_)
 refine nsr ?_
 refine L (lds 2 ?_)
 refine os 1 ?_
 refine L (lds 7 ?_)
 refine L (cl (rf_with (RObj.mk x.kind x.proto x.shut a (x.names.eraseIdx q_) b (x.descs.eraseIdx q_) x.es x.elems x.is x.inner) hR.row hx) ?_)
 rintro _ _ rfl
 refine L (st [Gs.val R.s R.objs.length, Gs.val R.ts R.texts.length] ?_)
 refine os 1 ?_
 refine kp [7, 35, 0, 3, 6, 8, 9, 10, 11, 12, 13] ?_
 refine nt ?_
 refine Qi ?_
 refine body_endC [.agg #[Gs.val R.s R.objs.length, Gs.val R.ts R.texts.length], .bool true] (fun _ => (.cons ⟨b2, 0, rfl, .inl ⟨[Gs.val R.s R.objs.length, Gs.val R.ts R.texts.length], by kernel_rfl, (Qb (Cell.own Qe rfl) (Qb (Cell.own Qe rfl) Qo)), rfl⟩⟩ (.cons rfl .nil))) ?_
 refine ⟨(RObj.mk x.kind x.proto x.shut a (x.names.eraseIdx q_) b (x.descs.eraseIdx q_) x.es x.elems x.is x.inner), ?_, rfl, hR.put hx ⟨hi1, hi2, (show Gs.ok 1 (x.elems).length x.es (x.elems.map encU) from (RSt.ok.at (x := x) hR hx).es), (show Gs.ok 1 (x.inner).length x.is (x.inner.map encU) from (RSt.ok.at (x := x) hR hx).is)⟩, rfl⟩
 exact Own.trans (ow (S := ((Gs.ent 104 7 R.s ((List.set R.objs n (RObj.mk x.kind x.proto x.shut a (x.names.eraseIdx q_) b (x.descs.eraseIdx q_) x.es x.elems x.is x.inner)).flatMap RObj.cells)) ++ ((Gs.ent 9 1 a ((x.names.eraseIdx q_).map encS)) ++ ((Gs.ent 45 3 b ((x.descs.eraseIdx q_).flatMap Qk)) ++ ((Gs.ent 33 1 x.es (x.elems.map encU)) ++ ((Gs.ent 33 1 x.is (x.inner.map encU)) ++ (((List.eraseIdx R.objs n).flatMap RObj.ent) ++ ((Gs.ent 9 1 R.ts (R.texts.map encS)) ++ ([])))))))))) (Own.of_perm (RSt.back hx (RObj.mk x.kind x.proto x.shut a (x.names.eraseIdx q_) b (x.descs.eraseIdx q_) x.es x.elems x.is x.inner)))

end Go.Proofs.YthflblophelioaaGreatDoor
namespace Go.Proofs.YthflblophelioaaGreatDoor
open Go.Sl
variable {k : Nat} {H : HeapV} {F : HeapF} {n : Nat} {x : ObjL} {W0 : World}
def textP (texts : List ByteArray) (key : ByteArray) : List ByteArray × Int × Bool :=
 if 0 ≤ ixS texts key then (texts, txtW (ixS texts key).toNat, true)
 else if 4096 < key.size ∨ 16384 ≤ texts.length then (texts, 18445336698825998336, false) else (texts ++ [key], txtW texts.length, true)
theorem Known.ix {texts : List ByteArray} {known : List (ByteArray × Int)} (h : Known texts known) {key : ByteArray} : (∀ w, mget known key = some w → 0 ≤ ixS texts key ∧ w = txtW (ixS texts key).toNat) ∧ (mget known key = none → ixS texts key < 0) := by
 refine ⟨fun w hw => ?_, fun hn => ?_⟩
 · obtain ⟨i, h1, h2⟩ := h.to key w hw
   have h0 : 0 ≤ ixS texts key := by
     by_cases q : ixS texts key < 0
     · exact absurd (List.mem_of_getElem? h1) (ixS_none.1 q)
     · omega
   refine ⟨h0, ?_⟩
   have := h.back _ _ (ixS_some h0)
   rw [hw] at this
   exact Option.some.inj this
 · refine ixS_none.2 fun hm => ?_
   obtain ⟨i, hi⟩ := List.getElem?_of_mem hm
   rw [h.back i key hi] at hn
   cases hn
theorem Known.more {texts : List ByteArray} {known : List (ByteArray × Int)} (h : Known texts known) {key : ByteArray} (hn : mget known key = none) : Known (texts ++ [key]) (mset known key (txtW texts.length)) := by
 have hk := ixS_none.1 (h.ix.2 hn)
 refine ⟨fun s w hw => ?_, fun i s hs => ?_⟩
 · rw [mget_mset] at hw
   by_cases e : key = s
   · rw [if_pos e] at hw; cases hw; subst e
     exact ⟨texts.length, by simp, rfl⟩
   · rw [if_neg e] at hw
     obtain ⟨i, h1, h2⟩ := h.to s w hw
     exact ⟨i, by rw [List.getElem?_append_left (List.getElem?_eq_some_iff.1 h1).1]; exact h1, h2⟩
 · rw [mget_mset]
   by_cases hi : i < texts.length
   · rw [List.getElem?_append_left hi] at hs
     rw [if_neg (fun e => hk (by rw [e]; exact List.mem_of_getElem? hs))]
     exact h.back i s hs
   · rw [List.getElem?_append_right (by omega)] at hs
     have h1 := (List.getElem?_eq_some_iff.1 hs).1
     simp at h1
     have e : i = texts.length := by omega
     subst e
     simp at hs
     rw [if_pos hs]
theorem HInv.elems (h : HInv k H F) {o : ObjS} (ho : (H.pub F)[n]? = some o) : o.elems.length ≤ 4096 := by
 obtain ⟨x, hx, rfl⟩ := pub_obj ho
 exact h.ok.small x (List.mem_of_getElem? hx)
end Go.Proofs.YthflblophelioaaGreatDoor
namespace Go.Proofs.YthflblophelioaaGreatDoor
open Go.Sl

theorem rf_SetLen_bad {W0 : World} {R : RSt} (hR : R.ok) {w : Int} (hw : wordOk w) {n : Nat} {x : RObj} (h0 : objAt w R.objs.length = some n) (hx : R.objs[n]? = some x) {m : Int} (hbad : ¬ (0 ≤ m ∧ m ≤ 4096)) : SC Tryz.prog W0 72 #[R.val, .int .u64 w, .int .i64 m] R.ent (Ret (fun _ : Unit => R.ent) (fun v _ => v = .tuple #[R.val, .bool false])) := by
 have hnl := (List.getElem?_eq_some_iff.1 hx).1
 refine SC_body (fn := Tryz.f72) (n := 58) Tryz.func72 rfl (by kernel_rfl) (ρ := [(0, .agg #[Gs.val R.s R.objs.length, Gs.val R.ts R.texts.length]), (1, .int .u64 w), (2, .int .i64 m)]) rfl ?_
 refine SW_sig _ RSt.eq0 ?_
 refine sr ?_
 refine L (nw 28 2 [Gs.val R.s R.objs.length, Gs.val R.ts R.texts.length] ?_)
 intro b1
 refine L (nw 28 2 [.slice none 0 0, .slice none 0 0] ?_)
 intro b2
 refine os 1 ?_
 refine nsr ?_
 refine L (lds 2 ?_)
 refine os 1 ?_
 refine L (cl (rf_At (R := RSt.mk R.s R.objs R.ts R.texts) hw (w := w)) ?_)
 rintro v1 _ hv1
 obtain rfl : v1 = .int .i64 (n : Int) := hv1.trans (by simp only []; unfold atI; rw [h0])
 refine un ?_
 refine os 1 ?_
 refine kp [8, 7, 6, 3, 0, 1, 2] ?_
 refine nq ?_
 refine sr ?_
 refine os 3 ?_
 refine pn 17 (show (decide ((n : Int) < 0)) = false from (by simp)) ?_
 refine os 4 ?_
 refine kp [21, 8, 7, 6, 3, 0, 1, 2] ?_
 refine tbp 21 (fun hg4 => ?_) (fun hg4 => ?_)
 ·replace hg4 : m < 0 := hg4
  refine os 3 ?_
  refine kp [24, 8, 7, 6, 3, 0, 1, 2] ?_
  refine nt ?_
  refine ct ?_
  refine sr ?_
  refine L (lds 2 ?_)
  refine L (st [Gs.val R.s R.objs.length, Gs.val R.ts R.texts.length] ?_)
  refine os 1 ?_
  refine nt ?_
  refine Qi (Qm ?_)
  refine body_endC [.agg #[Gs.val R.s R.objs.length, Gs.val R.ts R.texts.length], .bool false] (fun _ => (.cons ⟨b2, 0, rfl, .inl ⟨[Gs.val R.s R.objs.length, Gs.val R.ts R.texts.length], by kernel_rfl, (Qb (Cell.own Qe rfl) (Qb (Cell.own Qe rfl) Qo)), rfl⟩⟩ (.cons rfl .nil))) ?_
  exact ⟨(), RSt.own, rfl⟩
 replace hg4 : ¬ (m < 0) := hg4
 refine os 3 ?_
 refine kp [24, 8, 7, 6, 3, 0, 1, 2] ?_
 refine nt ?_
 refine cdp (fun hc5 : m > 4096 => ?_) (fun hc5 => ?_)
 ·refine sr ?_
  refine L (lds 2 ?_)
  refine L (st [Gs.val R.s R.objs.length, Gs.val R.ts R.texts.length] ?_)
  refine os 1 ?_
  refine nt ?_
  refine Qi (Qm ?_)
  refine body_endC [.agg #[Gs.val R.s R.objs.length, Gs.val R.ts R.texts.length], .bool false] (fun _ => (.cons ⟨b2, 0, rfl, .inl ⟨[Gs.val R.s R.objs.length, Gs.val R.ts R.texts.length], by kernel_rfl, (Qb (Cell.own Qe rfl) (Qb (Cell.own Qe rfl) Qo)), rfl⟩⟩ (.cons rfl .nil))) ?_
  exact ⟨(), RSt.own, rfl⟩
 exact absurd (by omega) hbad

theorem rf_SetLen_none {W0 : World} {R : RSt} (hR : R.ok) {w : Int} (hw : wordOk w) (h0 : objAt w R.objs.length = none) (m : Int) : SC Tryz.prog W0 72 #[R.val, .int .u64 w, .int .i64 m] R.ent (Ret (fun _ : Unit => R.ent) (fun v _ => v = .tuple #[R.val, .bool false])) := by
 refine SC_body (fn := Tryz.f72) (n := 58) Tryz.func72 rfl (by kernel_rfl) (ρ := [(0, .agg #[Gs.val R.s R.objs.length, Gs.val R.ts R.texts.length]), (1, .int .u64 w), (2, .int .i64 m)]) rfl ?_
 refine SW_sig _ RSt.eq0 ?_
 refine sr ?_
 refine L (nw 28 2 [Gs.val R.s R.objs.length, Gs.val R.ts R.texts.length] ?_)
 intro b1
 refine L (nw 28 2 [.slice none 0 0, .slice none 0 0] ?_)
 intro b2
 refine os 1 ?_
 refine nsr ?_
 refine L (lds 2 ?_)
 refine os 1 ?_
 refine L (cl (rf_At (R := RSt.mk R.s R.objs R.ts R.texts) hw (w := w)) ?_)
 rintro v1 _ hv1
 obtain rfl : v1 = .int .i64 (-1) := hv1.trans (by simp only []; unfold atI; rw [h0])
 refine un ?_
 refine os 1 ?_
 refine kp [8, 7, 6, 3, 0, 1, 2] ?_
 refine nq ?_
 refine sr ?_
 refine os 1 ?_
 refine oV (.bool true) ?_
 refine os 8 ?_
 refine kp [24, 8, 7, 6, 3, 0, 1, 2] ?_
 refine nt ?_
 refine ct ?_
 refine sr ?_
 refine L (lds 2 ?_)
 refine L (st [Gs.val R.s R.objs.length, Gs.val R.ts R.texts.length] ?_)
 refine os 1 ?_
 refine nt ?_
 refine Qi (Qm ?_)
 refine body_endC [.agg #[Gs.val R.s R.objs.length, Gs.val R.ts R.texts.length], .bool false] (fun _ => (.cons ⟨b2, 0, rfl, .inl ⟨[Gs.val R.s R.objs.length, Gs.val R.ts R.texts.length], by kernel_rfl, (Qb (Cell.own Qe rfl) (Qb (Cell.own Qe rfl) Qo)), rfl⟩⟩ (.cons rfl .nil))) ?_
 exact ⟨(), RSt.own, rfl⟩

theorem rf_SetLen_some {W0 : World} {R : RSt} (hR : R.ok) {w : Int} (hw : wordOk w) {n : Nat} {x : RObj} (h0 : objAt w R.objs.length = some n) (hx : R.objs[n]? = some x) {m : Nat} (hm : m ≤ 4096) : SC Tryz.prog W0 72 #[R.val, .int .u64 w, .int .i64 (m : Int)] R.ent (Ret (fun r : RObj => (R.put n r).ent) (fun v r => v = .tuple #[R.val, .bool true] ∧ (R.put n r).ok ∧ r.pub = ⟨x.kind, x.proto, x.shut, x.names, x.descs, setLenL x.elems m, x.inner⟩)) := by
 have hnl := (List.getElem?_eq_some_iff.1 hx).1
 refine SC_body (fn := Tryz.f72) (n := 58) Tryz.func72 rfl (by kernel_rfl) (ρ := [(0, .agg #[Gs.val R.s R.objs.length, Gs.val R.ts R.texts.length]), (1, .int .u64 w), (2, .int .i64 (m : Int))]) rfl ?_
 refine SW_sig _ RSt.eq0 ?_
 refine SW_perm _ (perm_ca perm_cz) ?_
 refine SW_perm ((Gs.ent 9 1 x.ns (x.names.map encS)) ++ ((Gs.ent 45 3 x.ds (x.descs.flatMap Qk)) ++ ((Gs.ent 33 1 x.es (x.elems.map encU)) ++ ((Gs.ent 33 1 x.is (x.inner.map encU)) ++ (((List.eraseIdx R.objs n).flatMap RObj.ent) ++ ((Gs.ent 104 7 R.s (R.objs.flatMap RObj.cells)) ++ ((Gs.ent 9 1 R.ts (R.texts.map encS)) ++ ([])))))))) (robj_focus hx _) ?_
 refine sr ?_
 refine L (nw 28 2 [Gs.val R.s R.objs.length, Gs.val R.ts R.texts.length] ?_)
 intro b1
 refine L (nw 28 2 [.slice none 0 0, .slice none 0 0] ?_)
 intro b2
 refine os 1 ?_
 refine nsr ?_
 refine L (lds 2 ?_)
 refine os 1 ?_
 refine L (cl (rf_At (R := RSt.mk R.s R.objs R.ts R.texts) hw (w := w)) ?_)
 rintro v1 _ hv1
 obtain rfl : v1 = .int .i64 (n : Int) := hv1.trans (by simp only []; unfold atI; rw [h0])
 refine un ?_
 refine os 1 ?_
 refine kp [8, 7, 6, 3, 0, 1, 2] ?_
 refine nq ?_
 refine sr ?_
 refine os 3 ?_
 refine pn 17 (show (decide ((n : Int) < 0)) = false from (by simp)) ?_
 refine os 4 ?_
 refine kp [21, 8, 7, 6, 3, 0, 1, 2] ?_
 refine pn 21 (show (decide ((m : Int) < 0)) = false from (by simp <;> omega)) ?_
 refine os 3 ?_
 refine kp [24, 8, 7, 6, 3, 0, 1, 2] ?_
 refine nt ?_
 refine SW_false (fun _ => (congrArg Value.bool (show (decide ((m : Int) > 4096)) = false from (by simp <;> omega)))) ?_
 refine Ql (Qj ?_)
 refine sr ?_
 refine os 1 ?_
 refine L (ld ?_)
 refine os 1 ?_
 refine L (ixg (n : Int) (n * 7) hR.row Tryz.underlying25 ?_)
 refine L (ldr [.int .i64 x.kind, .int .u64 x.proto, .bool x.shut, Gs.val x.ns x.names.length, Gs.val x.ds x.descs.length, Gs.val x.es x.elems.length, Gs.val x.is x.inner.length] (Qb (Gs.cell hR.row (fun e he => (Qc (Qc (Qa (Qa (Qa (Qa (Qa (mem_h he))))))))) (Qh RObj.len hx (j := 0) (by decide) rfl)) (Qb (Gs.cell hR.row (fun e he => (Qc (Qc (Qa (Qa (Qa (Qa (Qa (mem_h he))))))))) (Qh RObj.len hx (j := 1) (by decide) rfl)) (Qb (Gs.cell hR.row (fun e he => (Qc (Qc (Qa (Qa (Qa (Qa (Qa (mem_h he))))))))) (Qh RObj.len hx (j := 2) (by decide) rfl)) (Qb (Gs.cell hR.row (fun e he => (Qc (Qc (Qa (Qa (Qa (Qa (Qa (mem_h he))))))))) (Qh RObj.len hx (j := 3) (by decide) rfl)) (Qb (Gs.cell hR.row (fun e he => (Qc (Qc (Qa (Qa (Qa (Qa (Qa (mem_h he))))))))) (Qh RObj.len hx (j := 4) (by decide) rfl)) (Qb (Gs.cell hR.row (fun e he => (Qc (Qc (Qa (Qa (Qa (Qa (Qa (mem_h he))))))))) (Qh RObj.len hx (j := 5) (by decide) rfl)) (Qb (Gs.cell hR.row (fun e he => (Qc (Qc (Qa (Qa (Qa (Qa (Qa (mem_h he))))))))) (Qh RObj.len hx (j := 6) (by decide) rfl)) Qo))))))) ?_)
 refine L (nw 104 7 [.int .i64 0, .int .u64 0, .bool false, .slice none 0 0, .slice none 0 0, .slice none 0 0, .slice none 0 0] ?_)
 intro b5
 refine L (st [.int .i64 x.kind, .int .u64 x.proto, .bool x.shut, Gs.val x.ns x.names.length, Gs.val x.ds x.descs.length, Gs.val x.es x.elems.length, Gs.val x.is x.inner.length] ?_)
 refine nsr ?_
 refine os 1 ?_
 refine kp [10, 9, 24, 8, 7, 6, 3, 0, 1, 2] ?_
 refine nq ?_
 refine sr ?_
 refine os 1 ?_
 refine nt ?_
 refine SW_block ?_
 refine SW_loop (α := Nat × Gs) (fun z_ ρ_ σ_ => Fits ρ_ σ_ [(2, .int .i64 (m : Int)), (3, pt b1 0), (6, pt b2 0), (7, .bool false), (8, .int .i64 (n : Int)), (9, pt b5 0), (10, Gs.val z_.2 (((setLenL x.elems m).take z_.1).length)), (11, .int .i64 (z_.1 : Int))] ((Gs.ent 33 1 z_.2 (((setLenL x.elems m).take z_.1).map encU)) ++ ((b5, .cells 104 7 [.int .i64 x.kind, .int .u64 x.proto, .bool x.shut, Gs.val x.ns x.names.length, Gs.val x.ds x.descs.length, Gs.val x.es x.elems.length, Gs.val x.is x.inner.length]) :: ((b2, .cells 28 2 [.slice none 0 0, .slice none 0 0]) :: ((b1, .cells 28 2 [Gs.val R.s R.objs.length, Gs.val R.ts R.texts.length]) :: ((Gs.ent 9 1 x.ns (x.names.map encS)) ++ ((Gs.ent 45 3 x.ds (x.descs.flatMap Qk)) ++ ((Gs.ent 33 1 x.es (x.elems.map encU)) ++ ((Gs.ent 33 1 x.is (x.inner.map encU)) ++ (((List.eraseIdx R.objs n).flatMap RObj.ent) ++ ((Gs.ent 104 7 R.s (R.objs.flatMap RObj.cells)) ++ ((Gs.ent 9 1 R.ts (R.texts.map encS)) ++ ([])))))))))))) ∧ z_.1 ≤ m ∧ Gs.ok 1 ((setLenL x.elems m).take z_.1).length z_.2 (((setLenL x.elems m).take z_.1).map encU)) (fun z_ => m - z_.1) (0, Gs.nil) ⟨⟨fun _ => rfl, (Own.of_perm (List.Perm.of_eq (by simp [Gs.ent])))⟩, Nat.zero_le _, ⟨rfl, rfl⟩⟩ ?_
 rintro ⟨i, a⟩ ρ_ σ_ ⟨hfit, hi0, hi1⟩
 refine SW_fits hfit ?_
 clear hfit
 simp only [] at hi0 hi1 ⊢
 have hle1 : ((setLenL x.elems m).take i).length ≤ 4096 := Nat.le_trans (List.length_take_le _ _) (by omega)
 refine SW_seq ?_
 refine sr ?_
 refine os 3 ?_
 refine nt ?_
 refine cdp (fun hc6 : (i : Int) < (m : Int) => ?_) (fun hc6 => ?_)
 ·refine Ql (Qj ?_)
  refine SW_seq ?_
  refine SW_block ?_
  refine sr ?_
  refine os 2 ?_
  refine L (ld ?_)
  refine os 2 ?_
  refine kp [40, 33, 2, 3, 6, 7, 8, 9, 10, 11] ?_
  refine nt ?_
  refine cdp (fun hc7 : (i : Int) < (x.elems.length : Int) => ?_) (fun hc7 => ?_)
  ·refine Qn ?_
   refine os 2 ?_
   refine L (ld ?_)
   refine os 1 ?_
   refine L (ixg (i : Int) (i) (show Gs.ok 1 (x.elems).length x.es (x.elems.map encU) from (RSt.ok.at (x := x) hR hx).es) Tryz.underlying100 ?_)
   obtain ⟨e1, he1⟩ : ∃ y_, x.elems[i]? = some y_ := ⟨_, List.getElem?_eq_getElem (by omega)⟩
   refine L (ld ?_ (hc := Gs.cell (show Gs.ok 1 (x.elems).length x.es (x.elems.map encU) from (RSt.ok.at (x := x) hR hx).es) (fun e he => (Qa (Qc (Qc (Qc (Qa (Qa (mem_h he)))))))) (map_cell he1 rfl)))
   refine L (nws 33 1 1 [.int .u64 e1] ?_)
   intro b8
   refine SL_perm _ (perm_cc perm_cz) ?_
   refine L (O_append (size := 1) (bytes := 8) (z := .int .u64 0) a (((setLenL x.elems m).take i).length) 1 (some ⟨b8, 0, none⟩) 1 (((setLenL x.elems m).take i).map encU) ([.int .u64 e1]) ((((setLenL x.elems m).take i) ++ [e1]).map encU) (map_snoc _ e1 rfl) (fun _ => rfl) (fun _ => rfl) Tryz.underlying100 (by kernel_rfl) rfl (by decide) hi1 rfl (.inr ⟨b8, 0, rfl, Cells.own (Qa Qe) rfl⟩) rfl (by omega) (by decide) rfl ?_)
   intro s9 hks9 hfs9
   rw [show ((setLenL x.elems m).take i).length + 1 = (((setLenL x.elems m).take i) ++ [e1]).length from by simp]
   rw [show ((setLenL x.elems m).take i).length + 1 = (((setLenL x.elems m).take i) ++ [e1]).length from by simp] at hks9
   have hls9 : (((setLenL x.elems m).take i) ++ [e1]).length = ((setLenL x.elems m).take i).length + 1 := by simp
   refine os 1 ?_
   refine kp [10, 40, 33, 2, 3, 6, 7, 8, 9, 11] ?_
   refine SL_nil (n_in (Qj ?_))
   refine Qn ?_
   refine os 3 ?_
   refine nt ?_
   have s1 := setLen_step (l := x.elems) (m := m) (i := i) (by omega)
   have q1 := he1
   have q2 := (List.getElem?_eq_some_iff.1 q1).1
   rw [dif_pos q2, (List.getElem?_eq_some_iff.1 q1).2] at s1
   refine ⟨(i + 1, s9), by simp only []; omega, ?_⟩
   simp only []
   rw [s1]
   exact ⟨⟨fun _ => rfl, ow⟩, by omega, hks9⟩
  refine Qn ?_
  refine os 1 ?_
  refine L (nws 33 1 1 [.int .u64 18445336698825998340] ?_)
  intro b10
  refine SL_perm _ (perm_cc perm_cz) ?_
  refine L (O_append (size := 1) (bytes := 8) (z := .int .u64 0) a (((setLenL x.elems m).take i).length) 1 (some ⟨b10, 0, none⟩) 1 (((setLenL x.elems m).take i).map encU) ([.int .u64 18445336698825998340]) ((((setLenL x.elems m).take i) ++ [18445336698825998340]).map encU) (map_snoc _ 18445336698825998340 rfl) (fun _ => rfl) (fun _ => rfl) Tryz.underlying100 (by kernel_rfl) rfl (by decide) hi1 rfl (.inr ⟨b10, 0, rfl, Cells.own (Qa Qe) rfl⟩) rfl (by omega) (by decide) rfl ?_)
  intro s11 hks11 hfs11
  rw [show ((setLenL x.elems m).take i).length + 1 = (((setLenL x.elems m).take i) ++ [18445336698825998340]).length from by simp]
  rw [show ((setLenL x.elems m).take i).length + 1 = (((setLenL x.elems m).take i) ++ [18445336698825998340]).length from by simp] at hks11
  have hls11 : (((setLenL x.elems m).take i) ++ [18445336698825998340]).length = ((setLenL x.elems m).take i).length + 1 := by simp
  refine os 1 ?_
  refine kp [10, 40, 33, 2, 3, 6, 7, 8, 9, 11] ?_
  refine SL_nil (n_in (Qj ?_))
  refine Qn ?_
  refine os 3 ?_
  refine nt ?_
  have s1 := setLen_step (l := x.elems) (m := m) (i := i) (by omega)
  rw [dif_neg (by omega)] at s1
  refine ⟨(i + 1, s11), by simp only []; omega, ?_⟩
  simp only []
  rw [s1]
  exact ⟨⟨fun _ => rfl, ow⟩, by omega, hks11⟩
 refine SW_exit (x_then (x_then (x_in (Qj ?_))))
 refine SW_seq ?_
 have hie : i = m := by omega
 have t1 : (setLenL x.elems m).take i = setLenL x.elems m := List.take_of_length_le (by rw [setLenL_len]; omega)
 rw [t1] at hi1
 refine SW_sig ((Gs.ent 33 1 a ((setLenL x.elems m).map encU)) ++ ((b5, .cells 104 7 [.int .i64 x.kind, .int .u64 x.proto, .bool x.shut, Gs.val x.ns x.names.length, Gs.val x.ds x.descs.length, Gs.val x.es x.elems.length, Gs.val x.is x.inner.length]) :: ((b2, .cells 28 2 [.slice none 0 0, .slice none 0 0]) :: ((b1, .cells 28 2 [Gs.val R.s R.objs.length, Gs.val R.ts R.texts.length]) :: ((Gs.ent 9 1 x.ns (x.names.map encS)) ++ ((Gs.ent 45 3 x.ds (x.descs.flatMap Qk)) ++ ((Gs.ent 33 1 x.es (x.elems.map encU)) ++ ((Gs.ent 33 1 x.is (x.inner.map encU)) ++ (((List.eraseIdx R.objs n).flatMap RObj.ent) ++ ((Gs.ent 104 7 R.s (R.objs.flatMap RObj.cells)) ++ ((Gs.ent 9 1 R.ts (R.texts.map encS)) ++ ([])))))))))))) (by rw [t1]) ?_
 refine SW_rho [(33, .bool (decide ((i : Int) < (m : Int)))), (32, .int .i64 (m : Int)), (31, .int .i64 (i : Int)), (2, .int .i64 (m : Int)), (3, pt b1 0), (6, pt b2 0), (7, .bool false), (8, .int .i64 (n : Int)), (9, pt b5 0), (10, Gs.val a ((setLenL x.elems m).length)), (11, .int .i64 (i : Int))] (by rw [t1] <;> rfl) ?_
 refine Qn ?_
 refine os 2 ?_
 refine L (st [.int .i64 x.kind, .int .u64 x.proto, .bool x.shut, Gs.val x.ns x.names.length, Gs.val x.ds x.descs.length, Gs.val a ((setLenL x.elems m).length), Gs.val x.is x.inner.length] ?_)
 refine nsr ?_
 refine L (lds 2 ?_)
 refine os 1 ?_
 refine L (lds 7 ?_)
 refine L (cl (rf_with (RObj.mk x.kind x.proto x.shut x.ns x.names x.ds x.descs a (setLenL x.elems m) x.is x.inner) hR.row hx) ?_)
 rintro _ _ rfl
 refine L (st [Gs.val R.s R.objs.length, Gs.val R.ts R.texts.length] ?_)
 refine os 1 ?_
 refine kp [7, 33, 2, 3, 6, 8, 9, 10, 11] ?_
 refine nt ?_
 refine Qi ?_
 refine body_endC [.agg #[Gs.val R.s R.objs.length, Gs.val R.ts R.texts.length], .bool true] (fun _ => (.cons ⟨b2, 0, rfl, .inl ⟨[Gs.val R.s R.objs.length, Gs.val R.ts R.texts.length], by kernel_rfl, (Qb (Cell.own Qe rfl) (Qb (Cell.own Qe rfl) Qo)), rfl⟩⟩ (.cons rfl .nil))) ?_
 refine ⟨(RObj.mk x.kind x.proto x.shut x.ns x.names x.ds x.descs a (setLenL x.elems m) x.is x.inner), ?_, rfl, hR.put hx ⟨(show Gs.ok 1 (x.names).length x.ns (x.names.map encS) from (RSt.ok.at (x := x) hR hx).ns), (show Gs.ok 3 (x.descs).length x.ds (x.descs.flatMap Qk) from (RSt.ok.at (x := x) hR hx).ds), hi1, (show Gs.ok 1 (x.inner).length x.is (x.inner.map encU) from (RSt.ok.at (x := x) hR hx).is)⟩, rfl⟩
 exact Own.trans (ow (S := ((Gs.ent 104 7 R.s ((List.set R.objs n (RObj.mk x.kind x.proto x.shut x.ns x.names x.ds x.descs a (setLenL x.elems m) x.is x.inner)).flatMap RObj.cells)) ++ ((Gs.ent 9 1 x.ns (x.names.map encS)) ++ ((Gs.ent 45 3 x.ds (x.descs.flatMap Qk)) ++ ((Gs.ent 33 1 a ((setLenL x.elems m).map encU)) ++ ((Gs.ent 33 1 x.is (x.inner.map encU)) ++ (((List.eraseIdx R.objs n).flatMap RObj.ent) ++ ((Gs.ent 9 1 R.ts (R.texts.map encS)) ++ ([])))))))))) (Own.of_perm (RSt.back hx (RObj.mk x.kind x.proto x.shut x.ns x.names x.ds x.descs a (setLenL x.elems m) x.is x.inner)))

end Go.Proofs.YthflblophelioaaGreatDoor
namespace Go.Proofs.YthflblophelioaaGreatDoor
open Go.Sl

theorem rf_SetElem_bad {W0 : World} {R : RSt} (hR : R.ok) {w : Int} (hw : wordOk w) {n : Nat} {x : RObj} (h0 : objAt w R.objs.length = some n) (hx : R.objs[n]? = some x) {m : Int} (wd : Int) (hbad : ¬ (0 ≤ m ∧ m < 4096)) : SC Tryz.prog W0 73 #[R.val, .int .u64 w, .int .i64 m, .int .u64 wd] R.ent (Ret (fun _ : Unit => R.ent) (fun v _ => v = .tuple #[R.val, .bool false])) := by
 have hnl := (List.getElem?_eq_some_iff.1 hx).1
 refine SC_body (fn := Tryz.f73) (n := 67) Tryz.func73 rfl (by kernel_rfl) (ρ := [(0, .agg #[Gs.val R.s R.objs.length, Gs.val R.ts R.texts.length]), (1, .int .u64 w), (2, .int .i64 m), (3, .int .u64 wd)]) rfl ?_
 refine SW_sig _ RSt.eq0 ?_
 refine sr ?_
 refine L (nw 28 2 [Gs.val R.s R.objs.length, Gs.val R.ts R.texts.length] ?_)
 intro b1
 refine L (nw 28 2 [.slice none 0 0, .slice none 0 0] ?_)
 intro b2
 refine os 1 ?_
 refine nq ?_
 refine sr ?_
 refine os 3 ?_
 refine tbp 17 (fun hg3 => ?_) (fun hg3 => ?_)
 ·replace hg3 : m < 0 := hg3
  refine os 9 ?_
  refine kp [26, 9, 8, 4, 0, 1, 2, 3] ?_
  refine nt ?_
  refine ct ?_
  refine sr ?_
  refine L (lds 2 ?_)
  refine L (st [Gs.val R.s R.objs.length, Gs.val R.ts R.texts.length] ?_)
  refine os 1 ?_
  refine nt ?_
  refine Qi (Qm ?_)
  refine body_endC [.agg #[Gs.val R.s R.objs.length, Gs.val R.ts R.texts.length], .bool false] (fun _ => (.cons ⟨b2, 0, rfl, .inl ⟨[Gs.val R.s R.objs.length, Gs.val R.ts R.texts.length], by kernel_rfl, (Qb (Cell.own Qe rfl) (Qb (Cell.own Qe rfl) Qo)), rfl⟩⟩ (.cons rfl .nil))) ?_
  exact ⟨(), RSt.own, rfl⟩
 replace hg3 : ¬ (m < 0) := hg3
 refine os 4 ?_
 refine kp [21, 9, 8, 4, 0, 1, 2, 3] ?_
 refine tbp 21 (fun hg4 => ?_) (fun hg4 => ?_)
 ·replace hg4 : m ≥ 4096 := hg4
  refine os 5 ?_
  refine kp [26, 9, 8, 4, 0, 1, 2, 3] ?_
  refine nt ?_
  refine ct ?_
  refine sr ?_
  refine L (lds 2 ?_)
  refine L (st [Gs.val R.s R.objs.length, Gs.val R.ts R.texts.length] ?_)
  refine os 1 ?_
  refine nt ?_
  refine Qi (Qm ?_)
  refine body_endC [.agg #[Gs.val R.s R.objs.length, Gs.val R.ts R.texts.length], .bool false] (fun _ => (.cons ⟨b2, 0, rfl, .inl ⟨[Gs.val R.s R.objs.length, Gs.val R.ts R.texts.length], by kernel_rfl, (Qb (Cell.own Qe rfl) (Qb (Cell.own Qe rfl) Qo)), rfl⟩⟩ (.cons rfl .nil))) ?_
  exact ⟨(), RSt.own, rfl⟩
 replace hg4 : ¬ (m ≥ 4096) := hg4
 exact absurd (by omega) hbad

theorem rf_SetElem_none {W0 : World} {R : RSt} (hR : R.ok) {w : Int} (hw : wordOk w) (h0 : objAt w R.objs.length = none) (m wd : Int) : SC Tryz.prog W0 73 #[R.val, .int .u64 w, .int .i64 m, .int .u64 wd] R.ent (Ret (fun _ : Unit => R.ent) (fun v _ => v = .tuple #[R.val, .bool false])) := by
 refine SC_body (fn := Tryz.f73) (n := 67) Tryz.func73 rfl (by kernel_rfl) (ρ := [(0, .agg #[Gs.val R.s R.objs.length, Gs.val R.ts R.texts.length]), (1, .int .u64 w), (2, .int .i64 m), (3, .int .u64 wd)]) rfl ?_
 refine SW_sig _ RSt.eq0 ?_
 refine sr ?_
 refine L (nw 28 2 [Gs.val R.s R.objs.length, Gs.val R.ts R.texts.length] ?_)
 intro b1
 refine L (nw 28 2 [.slice none 0 0, .slice none 0 0] ?_)
 intro b2
 refine os 1 ?_
 refine nq ?_
 refine sr ?_
 refine os 3 ?_
 refine tbp 17 (fun hg3 => ?_) (fun hg3 => ?_)
 ·replace hg3 : m < 0 := hg3
  refine os 9 ?_
  refine kp [26, 9, 8, 4, 0, 1, 2, 3] ?_
  refine nt ?_
  refine ct ?_
  refine sr ?_
  refine L (lds 2 ?_)
  refine L (st [Gs.val R.s R.objs.length, Gs.val R.ts R.texts.length] ?_)
  refine os 1 ?_
  refine nt ?_
  refine Qi (Qm ?_)
  refine body_endC [.agg #[Gs.val R.s R.objs.length, Gs.val R.ts R.texts.length], .bool false] (fun _ => (.cons ⟨b2, 0, rfl, .inl ⟨[Gs.val R.s R.objs.length, Gs.val R.ts R.texts.length], by kernel_rfl, (Qb (Cell.own Qe rfl) (Qb (Cell.own Qe rfl) Qo)), rfl⟩⟩ (.cons rfl .nil))) ?_
  exact ⟨(), RSt.own, rfl⟩
 replace hg3 : ¬ (m < 0) := hg3
 refine os 4 ?_
 refine kp [21, 9, 8, 4, 0, 1, 2, 3] ?_
 refine tbp 21 (fun hg4 => ?_) (fun hg4 => ?_)
 ·replace hg4 : m ≥ 4096 := hg4
  refine os 5 ?_
  refine kp [26, 9, 8, 4, 0, 1, 2, 3] ?_
  refine nt ?_
  refine ct ?_
  refine sr ?_
  refine L (lds 2 ?_)
  refine L (st [Gs.val R.s R.objs.length, Gs.val R.ts R.texts.length] ?_)
  refine os 1 ?_
  refine nt ?_
  refine Qi (Qm ?_)
  refine body_endC [.agg #[Gs.val R.s R.objs.length, Gs.val R.ts R.texts.length], .bool false] (fun _ => (.cons ⟨b2, 0, rfl, .inl ⟨[Gs.val R.s R.objs.length, Gs.val R.ts R.texts.length], by kernel_rfl, (Qb (Cell.own Qe rfl) (Qb (Cell.own Qe rfl) Qo)), rfl⟩⟩ (.cons rfl .nil))) ?_
  exact ⟨(), RSt.own, rfl⟩
 replace hg4 : ¬ (m ≥ 4096) := hg4
 refine L (lds 2 ?_)
 refine os 1 ?_
 refine L (cl (rf_At (R := RSt.mk R.s R.objs R.ts R.texts) hw (w := w)) ?_)
 rintro v1 _ hv1
 obtain rfl : v1 = .int .i64 (-1) := hv1.trans (by simp only []; unfold atI; rw [h0])
 refine un ?_
 refine oV (.bool true) ?_
 refine os 1 ?_
 refine kp [26, 9, 8, 4, 0, 1, 2, 3] ?_
 refine nt ?_
 refine ct ?_
 refine sr ?_
 refine L (lds 2 ?_)
 refine L (st [Gs.val R.s R.objs.length, Gs.val R.ts R.texts.length] ?_)
 refine os 1 ?_
 refine nt ?_
 refine Qi (Qm ?_)
 refine body_endC [.agg #[Gs.val R.s R.objs.length, Gs.val R.ts R.texts.length], .bool false] (fun _ => (.cons ⟨b2, 0, rfl, .inl ⟨[Gs.val R.s R.objs.length, Gs.val R.ts R.texts.length], by kernel_rfl, (Qb (Cell.own Qe rfl) (Qb (Cell.own Qe rfl) Qo)), rfl⟩⟩ (.cons rfl .nil))) ?_
 exact ⟨(), RSt.own, rfl⟩

theorem rf_SetElem_fast {W0 : World} {R : RSt} (hR : R.ok) {w : Int} (hw : wordOk w) {n : Nat} {x : RObj} (h0 : objAt w R.objs.length = some n) (hx : R.objs[n]? = some x) {m : Nat} (wd : Int) (hes : x.elems.length ≤ 4096) (hm : m < 4096) (hmx : m < x.elems.length) : SC Tryz.prog W0 73 #[R.val, .int .u64 w, .int .i64 (m : Int), .int .u64 wd] R.ent (Ret (fun r : RObj => (R.put n r).ent) (fun v r => v = .tuple #[R.val, .bool true] ∧ (R.put n r).ok ∧ r.pub = ⟨x.kind, x.proto, x.shut, x.names, x.descs, (x.elems).set m wd, x.inner⟩)) := by
 have hnl := (List.getElem?_eq_some_iff.1 hx).1
 refine SC_body (fn := Tryz.f73) (n := 67) Tryz.func73 rfl (by kernel_rfl) (ρ := [(0, .agg #[Gs.val R.s R.objs.length, Gs.val R.ts R.texts.length]), (1, .int .u64 w), (2, .int .i64 (m : Int)), (3, .int .u64 wd)]) rfl ?_
 refine SW_sig _ RSt.eq0 ?_
 have hcn : x.elems.length ≤ maxLen := Nat.le_trans (Gs.ok.cap_le (hR.at hx).es) (Gs.ok.cap_max (hR.at hx).es)
 unfold maxLen at hcn
 refine sr ?_
 refine L (nw 28 2 [Gs.val R.s R.objs.length, Gs.val R.ts R.texts.length] ?_)
 intro b1
 refine L (nw 28 2 [.slice none 0 0, .slice none 0 0] ?_)
 intro b2
 refine os 1 ?_
 refine nq ?_
 refine sr ?_
 refine os 3 ?_
 refine pn 17 (show (decide ((m : Int) < 0)) = false from (by simp <;> omega)) ?_
 refine os 4 ?_
 refine kp [21, 9, 8, 4, 0, 1, 2, 3] ?_
 refine pn 21 (show (decide ((m : Int) ≥ 4096)) = false from (by simp <;> omega)) ?_
 refine L (lds 2 ?_)
 refine os 1 ?_
 refine L (cl (rf_At (R := RSt.mk R.s R.objs R.ts R.texts) hw (w := w)) ?_)
 rintro v1 _ hv1
 obtain rfl : v1 = .int .i64 (n : Int) := hv1.trans (by simp only []; unfold atI; rw [h0])
 refine un ?_
 refine os 2 ?_
 refine kp [26, 9, 8, 4, 0, 1, 2, 3] ?_
 refine nt ?_
 refine SW_false (fun _ => (congrArg Value.bool (show (decide ((n : Int) < 0)) = false from (by simp)))) ?_
 refine Ql (Qj ?_)
 refine SW_seq ?_
 refine sr ?_
 refine os 1 ?_
 refine L (lds 2 ?_)
 refine os 1 ?_
 refine L (cl (rf_Len_some hR hw h0 hx) ?_ (hp := RSt.pm))
 rintro _ _ rfl
 refine SL_sig _ RSt.eq ?_
 refine os 1 ?_
 refine kp [32, 26, 9, 8, 4, 0, 1, 2, 3] ?_
 refine nt ?_
 refine SW_false (fun _ => (congrArg Value.bool (show (decide ((m : Int) ≥ (x.elems.length : Int))) = false from (by simp <;> omega)))) ?_
 refine Ql (Qj ?_)
 refine sr ?_
 refine L (lds 2 ?_)
 refine os 1 ?_
 refine L (cl (rf_At (R := RSt.mk R.s R.objs R.ts R.texts) hw (w := w)) ?_)
 rintro v3 _ hv3
 obtain rfl : v3 = .int .i64 (n : Int) := hv3.trans (by simp only []; unfold atI; rw [h0])
 refine un ?_
 refine os 1 ?_
 refine kp [12, 32, 26, 9, 8, 4, 0, 1, 2, 3] ?_
 refine nq ?_
 refine SW_perm _ (perm_ca perm_cz) ?_
 refine SW_perm ((Gs.ent 9 1 x.ns (x.names.map encS)) ++ ((Gs.ent 45 3 x.ds (x.descs.flatMap Qk)) ++ ((Gs.ent 33 1 x.es (x.elems.map encU)) ++ ((Gs.ent 33 1 x.is (x.inner.map encU)) ++ (((List.eraseIdx R.objs n).flatMap RObj.ent) ++ ((Gs.ent 104 7 R.s (R.objs.flatMap RObj.cells)) ++ ((Gs.ent 9 1 R.ts (R.texts.map encS)) ++ ((b2, .cells 28 2 [.slice none 0 0, .slice none 0 0]) :: ((b1, .cells 28 2 [Gs.val R.s R.objs.length, Gs.val R.ts R.texts.length]) :: ([])))))))))) (robj_focus hx _) ?_
 refine Qn ?_
 refine os 1 ?_
 refine L (ld ?_)
 refine os 1 ?_
 refine L (ixg (n : Int) (n * 7) hR.row Tryz.underlying25 ?_)
 refine L (ldr [.int .i64 x.kind, .int .u64 x.proto, .bool x.shut, Gs.val x.ns x.names.length, Gs.val x.ds x.descs.length, Gs.val x.es x.elems.length, Gs.val x.is x.inner.length] (Qb (Gs.cell hR.row (fun e he => (Qa (Qa (Qa (Qa (Qa (mem_h he))))))) (Qh RObj.len hx (j := 0) (by decide) rfl)) (Qb (Gs.cell hR.row (fun e he => (Qa (Qa (Qa (Qa (Qa (mem_h he))))))) (Qh RObj.len hx (j := 1) (by decide) rfl)) (Qb (Gs.cell hR.row (fun e he => (Qa (Qa (Qa (Qa (Qa (mem_h he))))))) (Qh RObj.len hx (j := 2) (by decide) rfl)) (Qb (Gs.cell hR.row (fun e he => (Qa (Qa (Qa (Qa (Qa (mem_h he))))))) (Qh RObj.len hx (j := 3) (by decide) rfl)) (Qb (Gs.cell hR.row (fun e he => (Qa (Qa (Qa (Qa (Qa (mem_h he))))))) (Qh RObj.len hx (j := 4) (by decide) rfl)) (Qb (Gs.cell hR.row (fun e he => (Qa (Qa (Qa (Qa (Qa (mem_h he))))))) (Qh RObj.len hx (j := 5) (by decide) rfl)) (Qb (Gs.cell hR.row (fun e he => (Qa (Qa (Qa (Qa (Qa (mem_h he))))))) (Qh RObj.len hx (j := 6) (by decide) rfl)) Qo))))))) ?_)
 refine L (nw 104 7 [.int .i64 0, .int .u64 0, .bool false, .slice none 0 0, .slice none 0 0, .slice none 0 0, .slice none 0 0] ?_)
 intro b5
 refine L (st [.int .i64 x.kind, .int .u64 x.proto, .bool x.shut, Gs.val x.ns x.names.length, Gs.val x.ds x.descs.length, Gs.val x.es x.elems.length, Gs.val x.is x.inner.length] ?_)
 refine nsr ?_
 refine L (nws 33 0 0 [] ?_)
 intro b6
 refine os 1 ?_
 refine L (ld ?_)
 refine SL_sig ((Gs.ent 33 1 (Gs.at b6 0) (([] : List Int).map encU)) ++ ((b5, .cells 104 7 [.int .i64 x.kind, .int .u64 x.proto, .bool x.shut, Gs.val x.ns x.names.length, Gs.val x.ds x.descs.length, Gs.val x.es x.elems.length, Gs.val x.is x.inner.length]) :: ((Gs.ent 9 1 x.ns (x.names.map encS)) ++ ((Gs.ent 45 3 x.ds (x.descs.flatMap Qk)) ++ ((Gs.ent 33 1 x.es (x.elems.map encU)) ++ ((Gs.ent 33 1 x.is (x.inner.map encU)) ++ (((List.eraseIdx R.objs n).flatMap RObj.ent) ++ ((Gs.ent 104 7 R.s (R.objs.flatMap RObj.cells)) ++ ((Gs.ent 9 1 R.ts (R.texts.map encS)) ++ ((b2, .cells 28 2 [.slice none 0 0, .slice none 0 0]) :: ((b1, .cells 28 2 [Gs.val R.s R.objs.length, Gs.val R.ts R.texts.length]) :: ([])))))))))))) rfl ?_
 refine L (O_append (size := 1) (bytes := 8) (z := .int .u64 0) (Gs.at b6 0) 0 x.elems.length (Gs.addr x.es) (Gs.cap x.es) (([] : List Int).map encU) (x.elems.map encU) ((([] : List Int) ++ x.elems).map encU) (map_app _ _) (fun _ => rfl) (fun _ => rfl) Tryz.underlying100 (by kernel_rfl) rfl (by decide) ⟨Nat.le_refl _, by unfold maxLen; omega, rfl⟩ (Gs.ok.len (show Gs.ok 1 (x.elems).length x.es (x.elems.map encU) from (RSt.ok.at (x := x) hR hx).es)) (Gs.src (show Gs.ok 1 (x.elems).length x.es (x.elems.map encU) from (RSt.ok.at (x := x) hR hx).es) (fun e he => (Qa (Qc (Qa (Qa (mem_h he))))))) (map_one (fun _ => rfl) _) (by omega) (by decide) rfl ?_)
 intro s7 hks7 hfs7
 rw [show 0 + x.elems.length = (([] : List Int) ++ x.elems).length from by simp]
 rw [show 0 + x.elems.length = (([] : List Int) ++ x.elems).length from by simp] at hks7
 have hls7 : (([] : List Int) ++ x.elems).length = ([] : List Int).length + x.elems.length := by simp
 refine os 1 ?_
 refine kp [14, 13, 12, 32, 26, 9, 8, 4, 0, 1, 2, 3] ?_
 refine nsr ?_
 refine os 3 ?_
 refine L (ixg (m : Int) (m) hks7 Tryz.underlying100 ?_)
 obtain ⟨e1, he1⟩ : ∃ y_, (([] : List Int) ++ x.elems)[m]? = some y_ := ⟨_, List.getElem?_eq_getElem (by omega)⟩
 have hok1 := Gs.ok.relen (ys := (((([] : List Int) ++ x.elems).set m wd).map encU)) hks7 (by simp)
 refine L (O_storeG (ys := (((([] : List Int) ++ x.elems).set m wd).map encU)) s7 (m) (.int .u64 wd) [.int .u64 wd] (Gs.ok.ne hks7 (by first | omega | (simp; omega))) (fun _ => rfl) (fun _ => rfl) rfl (by kernel_rfl) rfl (by simp; omega) (row_lay_map wd (by omega)) rfl ?_)
 refine nq ?_
 rw [show (([] : List Int) ++ x.elems).length = ((([] : List Int) ++ x.elems).set m wd).length from by simp]
 refine Qn ?_
 refine os 2 ?_
 refine L (st [.int .i64 x.kind, .int .u64 x.proto, .bool x.shut, Gs.val x.ns x.names.length, Gs.val x.ds x.descs.length, Gs.val s7 (((([] : List Int) ++ x.elems).set m wd).length), Gs.val x.is x.inner.length] ?_)
 refine nsr ?_
 refine L (lds 2 ?_)
 refine os 1 ?_
 refine kp [64, 63, 14, 13, 12, 32, 26, 9, 8, 4, 0, 1, 2, 3] ?_
 refine L (lds 7 ?_)
 refine L (cl (rf_with (RObj.mk x.kind x.proto x.shut x.ns x.names x.ds x.descs s7 ((([] : List Int) ++ x.elems).set m wd) x.is x.inner) hR.row hx) ?_)
 rintro _ _ rfl
 refine L (st [Gs.val R.s R.objs.length, Gs.val R.ts R.texts.length] ?_)
 refine os 1 ?_
 refine kp [9, 14, 13, 12, 32, 26, 8, 4, 0, 1, 2, 3] ?_
 refine nt ?_
 refine Qi ?_
 refine body_endC [.agg #[Gs.val R.s R.objs.length, Gs.val R.ts R.texts.length], .bool true] (fun _ => (.cons ⟨b2, 0, rfl, .inl ⟨[Gs.val R.s R.objs.length, Gs.val R.ts R.texts.length], by kernel_rfl, (Qb (Cell.own Qe rfl) (Qb (Cell.own Qe rfl) Qo)), rfl⟩⟩ (.cons rfl .nil))) ?_
 refine ⟨(RObj.mk x.kind x.proto x.shut x.ns x.names x.ds x.descs s7 ((([] : List Int) ++ x.elems).set m wd) x.is x.inner), ?_, rfl, hR.put hx ⟨(show Gs.ok 1 (x.names).length x.ns (x.names.map encS) from (RSt.ok.at (x := x) hR hx).ns), (show Gs.ok 3 (x.descs).length x.ds (x.descs.flatMap Qk) from (RSt.ok.at (x := x) hR hx).ds), (by have q_ := hok1; simp only [List.nil_append, List.length_set] at q_ ⊢; exact q_), (show Gs.ok 1 (x.inner).length x.is (x.inner.map encU) from (RSt.ok.at (x := x) hR hx).is)⟩, rfl⟩
 exact Own.trans (ow (S := ((Gs.ent 104 7 R.s ((List.set R.objs n (RObj.mk x.kind x.proto x.shut x.ns x.names x.ds x.descs s7 ((([] : List Int) ++ x.elems).set m wd) x.is x.inner)).flatMap RObj.cells)) ++ ((Gs.ent 9 1 x.ns (x.names.map encS)) ++ ((Gs.ent 45 3 x.ds (x.descs.flatMap Qk)) ++ ((Gs.ent 33 1 s7 (((([] : List Int) ++ x.elems).set m wd).map encU)) ++ ((Gs.ent 33 1 x.is (x.inner.map encU)) ++ (((List.eraseIdx R.objs n).flatMap RObj.ent) ++ ((Gs.ent 9 1 R.ts (R.texts.map encS)) ++ ([])))))))))) (Own.of_perm (RSt.back hx (RObj.mk x.kind x.proto x.shut x.ns x.names x.ds x.descs s7 ((([] : List Int) ++ x.elems).set m wd) x.is x.inner)))

theorem rf_SetElem_slow {W0 : World} {R : RSt} (hR : R.ok) {w : Int} (hw : wordOk w) {n : Nat} {x : RObj} (h0 : objAt w R.objs.length = some n) (hx : R.objs[n]? = some x) {m : Nat} (wd : Int) (hes : x.elems.length ≤ 4096) (hm : m < 4096) (hmx : x.elems.length ≤ m) : SC Tryz.prog W0 73 #[R.val, .int .u64 w, .int .i64 (m : Int), .int .u64 wd] R.ent (Ret (fun r : RObj => (R.put n r).ent) (fun v r => v = .tuple #[R.val, .bool true] ∧ (R.put n r).ok ∧ r.pub = ⟨x.kind, x.proto, x.shut, x.names, x.descs, (setLenL x.elems (m + 1)).set m wd, x.inner⟩)) := by
 have hnl := (List.getElem?_eq_some_iff.1 hx).1
 refine SC_body (fn := Tryz.f73) (n := 67) Tryz.func73 rfl (by kernel_rfl) (ρ := [(0, .agg #[Gs.val R.s R.objs.length, Gs.val R.ts R.texts.length]), (1, .int .u64 w), (2, .int .i64 (m : Int)), (3, .int .u64 wd)]) rfl ?_
 refine SW_sig _ RSt.eq0 ?_
 have hcn : x.elems.length ≤ maxLen := Nat.le_trans (Gs.ok.cap_le (hR.at hx).es) (Gs.ok.cap_max (hR.at hx).es)
 unfold maxLen at hcn
 refine sr ?_
 refine L (nw 28 2 [Gs.val R.s R.objs.length, Gs.val R.ts R.texts.length] ?_)
 intro b1
 refine L (nw 28 2 [.slice none 0 0, .slice none 0 0] ?_)
 intro b2
 refine os 1 ?_
 refine nq ?_
 refine sr ?_
 refine os 3 ?_
 refine pn 17 (show (decide ((m : Int) < 0)) = false from (by simp <;> omega)) ?_
 refine os 4 ?_
 refine kp [21, 9, 8, 4, 0, 1, 2, 3] ?_
 refine pn 21 (show (decide ((m : Int) ≥ 4096)) = false from (by simp <;> omega)) ?_
 refine L (lds 2 ?_)
 refine os 1 ?_
 refine L (cl (rf_At (R := RSt.mk R.s R.objs R.ts R.texts) hw (w := w)) ?_)
 rintro v1 _ hv1
 obtain rfl : v1 = .int .i64 (n : Int) := hv1.trans (by simp only []; unfold atI; rw [h0])
 refine un ?_
 refine os 2 ?_
 refine kp [26, 9, 8, 4, 0, 1, 2, 3] ?_
 refine nt ?_
 refine SW_false (fun _ => (congrArg Value.bool (show (decide ((n : Int) < 0)) = false from (by simp)))) ?_
 refine Ql (Qj ?_)
 refine SW_seq ?_
 refine sr ?_
 refine os 1 ?_
 refine L (lds 2 ?_)
 refine os 1 ?_
 refine L (cl (rf_Len_some hR hw h0 hx) ?_ (hp := RSt.pm))
 rintro _ _ rfl
 refine SL_sig _ RSt.eq ?_
 refine os 1 ?_
 refine kp [32, 26, 9, 8, 4, 0, 1, 2, 3] ?_
 refine nt ?_
 refine SW_true (fun _ => (congrArg Value.bool (show (decide ((m : Int) ≥ (x.elems.length : Int))) = true from (by simp <;> omega)))) ?_
 refine sr ?_
 refine L (lds 2 ?_)
 refine os 3 ?_
 refine L (cl (rf_SetLen_some hR hw h0 hx (m := m + 1) (by omega)) ?_ (hp := RSt.pm))
 rintro v3 r ⟨hv3, hR2, hpub⟩
 obtain rfl : v3 = .tuple #[.agg #[Gs.val R.s ((R.objs.set n r).length), Gs.val R.ts R.texts.length], .bool true] := hv3.trans (by simp only [RSt.val, List.length_set])
 refine SL_sig _ (by simp only [RSt.ent, RSt.put, List.cons_append, List.append_assoc, List.nil_append]; rfl) ?_
 simp only [RObj.pub, ObjS.mk.injEq] at hpub
 have hx2 : (R.objs.set n r)[n]? = some r := Qd hx
 have h02 : objAt w (R.objs.set n r).length = some n := by rw [List.length_set]; exact h0
 have hnl2 : n < (R.objs.set n r).length := by rw [List.length_set]; exact hnl
 have hel : r.elems.length = m + 1 := by rw [hpub.2.2.2.2.2.1, setLenL_len]
 refine os 3 ?_
 refine kp [40, 39, 32, 26, 9, 8, 4, 0, 1, 2, 3] ?_
 refine L (nw 28 2 [.slice none 0 0, .slice none 0 0] ?_)
 intro b5
 refine L (st [Gs.val R.s ((R.objs.set n r).length), Gs.val R.ts R.texts.length] ?_)
 refine os 1 ?_
 refine nq ?_
 refine sr ?_
 refine os 1 ?_
 refine oV (.bool false) ?_
 refine kp [42, 11, 10, 32, 26, 9, 8, 4, 0, 1, 2, 3] ?_
 refine nt ?_
 refine cf ?_
 refine Ql (Qj ?_)
 refine Qn ?_
 refine L (lds 2 ?_)
 refine L (st [Gs.val R.s ((R.objs.set n r).length), Gs.val R.ts R.texts.length] ?_)
 refine nsr ?_
 refine L (lds 2 ?_)
 refine os 1 ?_
 refine L (cl (rf_At (R := RSt.mk R.s (R.objs.set n r) R.ts R.texts) hw (w := w)) ?_)
 rintro v4 _ hv4
 obtain rfl : v4 = .int .i64 (n : Int) := hv4.trans (by simp only []; unfold atI; rw [h02])
 refine un ?_
 refine os 1 ?_
 refine kp [12, 42, 11, 10, 32, 26, 9, 8, 4, 0, 1, 2, 3] ?_
 refine nq ?_
 refine SW_perm _ (perm_cc (perm_cc (perm_ca perm_cz))) ?_
 refine SW_perm ((Gs.ent 9 1 r.ns (r.names.map encS)) ++ ((Gs.ent 45 3 r.ds (r.descs.flatMap Qk)) ++ ((Gs.ent 33 1 r.es (r.elems.map encU)) ++ ((Gs.ent 33 1 r.is (r.inner.map encU)) ++ (((List.eraseIdx (R.objs.set n r) n).flatMap RObj.ent) ++ ((b1, .cells 28 2 [Gs.val R.s ((R.objs.set n r).length), Gs.val R.ts R.texts.length]) :: ((b5, .cells 28 2 [Gs.val R.s ((R.objs.set n r).length), Gs.val R.ts R.texts.length]) :: ((Gs.ent 104 7 R.s ((R.objs.set n r).flatMap RObj.cells)) ++ ((Gs.ent 9 1 R.ts (R.texts.map encS)) ++ ((b2, .cells 28 2 [.slice none 0 0, .slice none 0 0]) :: ([]))))))))))) (robj_focus hx2 _) ?_
 refine Qn ?_
 refine os 1 ?_
 refine L (ld ?_)
 refine os 1 ?_
 refine L (ixg (n : Int) (n * 7) hR2.row Tryz.underlying25 ?_)
 refine L (ldr [.int .i64 r.kind, .int .u64 r.proto, .bool r.shut, Gs.val r.ns r.names.length, Gs.val r.ds r.descs.length, Gs.val r.es r.elems.length, Gs.val r.is r.inner.length] (Qb (Gs.cell hR2.row (fun e he => (Qa (Qa (Qa (Qa (Qa (Qc (Qc (mem_h he))))))))) (Qh RObj.len hx2 (j := 0) (by decide) rfl)) (Qb (Gs.cell hR2.row (fun e he => (Qa (Qa (Qa (Qa (Qa (Qc (Qc (mem_h he))))))))) (Qh RObj.len hx2 (j := 1) (by decide) rfl)) (Qb (Gs.cell hR2.row (fun e he => (Qa (Qa (Qa (Qa (Qa (Qc (Qc (mem_h he))))))))) (Qh RObj.len hx2 (j := 2) (by decide) rfl)) (Qb (Gs.cell hR2.row (fun e he => (Qa (Qa (Qa (Qa (Qa (Qc (Qc (mem_h he))))))))) (Qh RObj.len hx2 (j := 3) (by decide) rfl)) (Qb (Gs.cell hR2.row (fun e he => (Qa (Qa (Qa (Qa (Qa (Qc (Qc (mem_h he))))))))) (Qh RObj.len hx2 (j := 4) (by decide) rfl)) (Qb (Gs.cell hR2.row (fun e he => (Qa (Qa (Qa (Qa (Qa (Qc (Qc (mem_h he))))))))) (Qh RObj.len hx2 (j := 5) (by decide) rfl)) (Qb (Gs.cell hR2.row (fun e he => (Qa (Qa (Qa (Qa (Qa (Qc (Qc (mem_h he))))))))) (Qh RObj.len hx2 (j := 6) (by decide) rfl)) Qo))))))) ?_)
 refine L (nw 104 7 [.int .i64 0, .int .u64 0, .bool false, .slice none 0 0, .slice none 0 0, .slice none 0 0, .slice none 0 0] ?_)
 intro b6
 refine L (st [.int .i64 r.kind, .int .u64 r.proto, .bool r.shut, Gs.val r.ns r.names.length, Gs.val r.ds r.descs.length, Gs.val r.es r.elems.length, Gs.val r.is r.inner.length] ?_)
 refine nsr ?_
 refine L (nws 33 0 0 [] ?_)
 intro b7
 refine os 1 ?_
 refine L (ld ?_)
 refine SL_sig ((Gs.ent 33 1 (Gs.at b7 0) (([] : List Int).map encU)) ++ ((b6, .cells 104 7 [.int .i64 r.kind, .int .u64 r.proto, .bool r.shut, Gs.val r.ns r.names.length, Gs.val r.ds r.descs.length, Gs.val r.es r.elems.length, Gs.val r.is r.inner.length]) :: ((Gs.ent 9 1 r.ns (r.names.map encS)) ++ ((Gs.ent 45 3 r.ds (r.descs.flatMap Qk)) ++ ((Gs.ent 33 1 r.es (r.elems.map encU)) ++ ((Gs.ent 33 1 r.is (r.inner.map encU)) ++ (((List.eraseIdx (R.objs.set n r) n).flatMap RObj.ent) ++ ((b1, .cells 28 2 [Gs.val R.s ((R.objs.set n r).length), Gs.val R.ts R.texts.length]) :: ((b5, .cells 28 2 [Gs.val R.s ((R.objs.set n r).length), Gs.val R.ts R.texts.length]) :: ((Gs.ent 104 7 R.s ((R.objs.set n r).flatMap RObj.cells)) ++ ((Gs.ent 9 1 R.ts (R.texts.map encS)) ++ ((b2, .cells 28 2 [.slice none 0 0, .slice none 0 0]) :: ([]))))))))))))) rfl ?_
 refine L (O_append (size := 1) (bytes := 8) (z := .int .u64 0) (Gs.at b7 0) 0 r.elems.length (Gs.addr r.es) (Gs.cap r.es) (([] : List Int).map encU) (r.elems.map encU) ((([] : List Int) ++ r.elems).map encU) (map_app _ _) (fun _ => rfl) (fun _ => rfl) Tryz.underlying100 (by kernel_rfl) rfl (by decide) ⟨Nat.le_refl _, by unfold maxLen; omega, rfl⟩ (Gs.ok.len (show Gs.ok 1 (r.elems).length r.es (r.elems.map encU) from (RSt.ok.at (x := r) hR2 hx2).es)) (Gs.src (show Gs.ok 1 (r.elems).length r.es (r.elems.map encU) from (RSt.ok.at (x := r) hR2 hx2).es) (fun e he => (Qa (Qc (Qa (Qa (mem_h he))))))) (map_one (fun _ => rfl) _) (by omega) (by decide) rfl ?_)
 intro s8 hks8 hfs8
 rw [show 0 + r.elems.length = (([] : List Int) ++ r.elems).length from by simp]
 rw [show 0 + r.elems.length = (([] : List Int) ++ r.elems).length from by simp] at hks8
 have hls8 : (([] : List Int) ++ r.elems).length = ([] : List Int).length + r.elems.length := by simp
 refine os 1 ?_
 refine kp [14, 13, 12, 42, 11, 10, 32, 26, 9, 8, 4, 0, 1, 2, 3] ?_
 refine nsr ?_
 refine os 3 ?_
 refine L (ixg (m : Int) (m) hks8 Tryz.underlying100 ?_)
 obtain ⟨e1, he1⟩ : ∃ y_, (([] : List Int) ++ r.elems)[m]? = some y_ := ⟨_, List.getElem?_eq_getElem (by omega)⟩
 have hok1 := Gs.ok.relen (ys := (((([] : List Int) ++ r.elems).set m wd).map encU)) hks8 (by simp)
 refine L (O_storeG (ys := (((([] : List Int) ++ r.elems).set m wd).map encU)) s8 (m) (.int .u64 wd) [.int .u64 wd] (Gs.ok.ne hks8 (by first | omega | (simp; omega))) (fun _ => rfl) (fun _ => rfl) rfl (by kernel_rfl) rfl (by simp; omega) (row_lay_map wd (by omega)) rfl ?_)
 refine nq ?_
 rw [show (([] : List Int) ++ r.elems).length = ((([] : List Int) ++ r.elems).set m wd).length from by simp]
 refine Qn ?_
 refine os 2 ?_
 refine L (st [.int .i64 r.kind, .int .u64 r.proto, .bool r.shut, Gs.val r.ns r.names.length, Gs.val r.ds r.descs.length, Gs.val s8 (((([] : List Int) ++ r.elems).set m wd).length), Gs.val r.is r.inner.length] ?_)
 refine nsr ?_
 refine L (lds 2 ?_)
 refine os 1 ?_
 refine kp [64, 63, 14, 13, 12, 42, 11, 10, 32, 26, 9, 8, 4, 0, 1, 2, 3] ?_
 refine L (lds 7 ?_)
 refine L (cl (rf_with (RObj.mk r.kind r.proto r.shut r.ns r.names r.ds r.descs s8 ((([] : List Int) ++ r.elems).set m wd) r.is r.inner) hR2.row hx2) ?_)
 rintro _ _ rfl
 refine L (st [Gs.val R.s ((R.objs.set n r).length), Gs.val R.ts R.texts.length] ?_)
 refine os 1 ?_
 refine kp [9, 14, 13, 12, 42, 11, 10, 32, 26, 8, 4, 0, 1, 2, 3] ?_
 refine nt ?_
 refine Qi ?_
 refine body_endC [.agg #[Gs.val R.s ((R.objs.set n r).length), Gs.val R.ts R.texts.length], .bool true] (fun _ => (.cons ⟨b2, 0, rfl, .inl ⟨[Gs.val R.s ((R.objs.set n r).length), Gs.val R.ts R.texts.length], by kernel_rfl, (Qb (Cell.own Qe rfl) (Qb (Cell.own Qe rfl) Qo)), rfl⟩⟩ (.cons rfl .nil))) ?_
 have hk_ := RSt.ok.put hR2 hx2 (x' := (RObj.mk r.kind r.proto r.shut r.ns r.names r.ds r.descs s8 ((([] : List Int) ++ r.elems).set m wd) r.is r.inner)) ⟨(show Gs.ok 1 (r.names).length r.ns (r.names.map encS) from (RSt.ok.at (x := r) hR2 hx2).ns), (show Gs.ok 3 (r.descs).length r.ds (r.descs.flatMap Qk) from (RSt.ok.at (x := r) hR2 hx2).ds), (by have q_ := hok1; simp only [List.nil_append, List.length_set] at q_ ⊢; exact q_), (show Gs.ok 1 (r.inner).length r.is (r.inner.map encU) from (RSt.ok.at (x := r) hR2 hx2).is)⟩
 have hb_ := RSt.back (R := RSt.mk R.s (R.objs.set n r) R.ts R.texts) hx2 (RObj.mk r.kind r.proto r.shut r.ns r.names r.ds r.descs s8 ((([] : List Int) ++ r.elems).set m wd) r.is r.inner)
 simp only [RSt.put, List.set_set, List.length_set] at hk_ hb_
 refine ⟨(RObj.mk r.kind r.proto r.shut r.ns r.names r.ds r.descs s8 ((([] : List Int) ++ r.elems).set m wd) r.is r.inner), ?_, ?_, hk_, ?_⟩
 · refine Own.trans (ow (S := ((Gs.ent 104 7 R.s ((List.set (R.objs.set n r) n (RObj.mk r.kind r.proto r.shut r.ns r.names r.ds r.descs s8 ((([] : List Int) ++ r.elems).set m wd) r.is r.inner)).flatMap RObj.cells)) ++ ((Gs.ent 9 1 r.ns (r.names.map encS)) ++ ((Gs.ent 45 3 r.ds (r.descs.flatMap Qk)) ++ ((Gs.ent 33 1 s8 (((([] : List Int) ++ r.elems).set m wd).map encU)) ++ ((Gs.ent 33 1 r.is (r.inner.map encU)) ++ (((List.eraseIdx (R.objs.set n r) n).flatMap RObj.ent) ++ ((Gs.ent 9 1 R.ts (R.texts.map encS)) ++ ([])))))))))) (Own.of_perm ?_)
   simp only [RSt.put, List.set_set, List.length_set] at hb_ ⊢
   exact hb_
 · simp only [RSt.val, List.length_set]; rfl
 · simp only [RObj.pub, List.nil_append, ObjS.mk.injEq]
   obtain ⟨p1, p2, p3, p4, p5, p6, p7⟩ := hpub
   exact ⟨p1, p2, p3, p4, p5, by rw [p6], p7⟩

end Go.Proofs.YthflblophelioaaGreatDoor
namespace Go.Proofs.YthflblophelioaaGreatDoor
open Go.Sl

end Go.Proofs.YthflblophelioaaGreatDoor
namespace Go.Proofs.YthflblophelioaaGreatDoor
open Go.Sl
def protoW (l : List ObjS) (w : Int) : Int := match objAt w l.length with | some n => (match l[n]? with | some o => o.proto | none => 18445336698825998337) | none => 18445336698825998337
theorem protoW_none {l : List ObjS} {w : Int} (h : objAt w l.length = none) : protoW l w = 18445336698825998337 := by unfold protoW; rw [h]
theorem protoW_some {l : List ObjS} {w : Int} {n : Nat} {o : ObjS} (h : objAt w l.length = some n) (ho : l[n]? = some o) : protoW l w = o.proto := by unfold protoW; rw [h]; simp only []; rw [ho]
def upN (l : List ObjS) (p : Int) : Nat → Int
 | 0 => p
 | i + 1 => protoW l (upN l p i)
def hitP (l : List ObjS) (p w : Int) : Bool := (List.range (l.length + 1)).any (fun i => decide (upN l p i = w))
theorem hitP_iff {l : List ObjS} {p w : Int} : hitP l p w = true ↔ ∃ i, i ≤ l.length ∧ upN l p i = w := by
 unfold hitP
 rw [List.any_eq_true]
 constructor
 · rintro ⟨i, h1, h2⟩
   exact ⟨i, by have := List.mem_range.1 h1; omega, of_decide_eq_true h2⟩
 · rintro ⟨i, h1, h2⟩
   exact ⟨i, List.mem_range.2 (by omega), decide_eq_true h2⟩
abbrev ObjS.under (o : ObjS) (p : Int) : ObjS := ⟨o.kind, p, o.shut, o.names, o.descs, o.elems, o.inner⟩
def reproP (l : List ObjS) (w p : Int) : List ObjS := match objAt w l.length with
 | none => l
 | some n => match l[n]? with
   | none => l
   | some o => if (p ≠ 18445336698825998337 ∧ objAt p l.length = none) ∨ hitP l p w = true then l else l.set n (o.under p)
theorem reproP_none {l : List ObjS} {w p : Int} (h : objAt w l.length = none) : reproP l w p = l := by unfold reproP; rw [h]
theorem reproP_no {l : List ObjS} {w p : Int} (h : (p ≠ 18445336698825998337 ∧ objAt p l.length = none) ∨ hitP l p w = true) : reproP l w p = l := by
 unfold reproP
 cases objAt w l.length with
 | none => rfl
 | some n =>
   simp only []
   cases l[n]? with
   | none => rfl
   | some o => exact if_pos h
theorem reproP_yes {l : List ObjS} {w p : Int} {n : Nat} {o : ObjS} (h0 : objAt w l.length = some n) (ho : l[n]? = some o) (h1 : ¬ (p ≠ 18445336698825998337 ∧ objAt p l.length = none)) (h2 : hitP l p w = false) : reproP l w p = l.set n (o.under p) := by
 unfold reproP
 rw [h0]
 simp only []
 rw [ho]
 simp only []
 exact if_neg (fun q => q.elim h1 (by rw [h2]; decide))
abbrev protosOk (l : List ObjS) : Prop := ∀ o ∈ l, wordOk o.proto
theorem protoW_ok {l : List ObjS} (hl : protosOk l) (w : Int) : wordOk (protoW l w) := by
 unfold protoW
 cases objAt w l.length with
 | none => exact (by decide : wordOk 18445336698825998337)
 | some n =>
   simp only []
   cases h : l[n]? with
   | none => exact (by decide : wordOk 18445336698825998337)
   | some o => exact hl o (List.mem_of_getElem? h)
theorem upN_ok {l : List ObjS} (hl : protosOk l) {p : Int} (hp : wordOk p) : ∀ i, wordOk (upN l p i)
 | 0 => hp
 | i + 1 => protoW_ok hl _
variable {W0 : World} {R : RSt}
theorem rf_ProtoW (hR : R.ok) {w : Int} (hw : wordOk w) : SC Tryz.prog W0 44 #[R.val, .int .u64 w] R.ent (Ret (fun _ : Unit => R.ent) (fun v _ => v = .int .u64 (protoW R.pub w))) := by
 cases h0 : objAt w R.objs.length with
 | none => rw [protoW_none (by rw [RSt.pub_len]; exact h0)]; exact rf_Proto_none hR hw h0
 | some n =>
   have hl := (objAt_tag h0).2
   have hx : R.objs[n]? = some R.objs[n] := List.getElem?_eq_getElem hl
   rw [protoW_some (by rw [RSt.pub_len]; exact h0) (RSt.pub_at hx)]
   exact rf_Proto_some hR hw h0 hx
end Go.Proofs.YthflblophelioaaGreatDoor
