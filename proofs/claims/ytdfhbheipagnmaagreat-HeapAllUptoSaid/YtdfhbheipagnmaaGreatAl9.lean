/-
  What the document's own functions do to the memory they own, step by step: each theorem is one function's contract. Conditions: those that each theorem names.
-/
import Derived.Test.YtdfhbheipagnmaaGreatAl8
import Derived.Test.YtdfhbheipagnmaaGreatAl7
set_option linter.unusedVariables false
set_option linter.unusedSimpArgs false
set_option maxRecDepth 100000
set_option maxHeartbeats 4000000
namespace Go.Proofs.YtdfhbheipagnmaaGreat
open Go.Sl

theorem rf_SetLen_bad {W0 : World} {R : RSt} (hR : R.ok) {w : Int} (hw : wordOk w) {n : Nat} {x : RObj} (h0 : objAt w R.objs.length = some n) (hx : R.objs[n]? = some x) {m : Int} (hbad : ¬ (0 ≤ m ∧ m ≤ 4096)) : SC Tryz.prog W0 27 #[R.val, .int .u64 w, .int .i64 m] R.ent (Ret (fun _ : Unit => R.ent) (fun v _ => v = .tuple #[R.val, .bool false])) := by
 have hnl := (List.getElem?_eq_some_iff.1 hx).1
 refine SC_body (fn := Tryz.f27) (n := 58) Tryz.func27 rfl (by kernel_rfl) (ρ := [(0, .agg #[Gs.val R.s R.objs.length, Gs.val R.ts R.texts.length]), (1, .int .u64 w), (2, .int .i64 m)]) rfl ?_
 refine SW_sig _ RSt.eq0 ?_
 refine sr ?_
 refine L (nw 28 2 [Gs.val R.s R.objs.length, Gs.val R.ts R.texts.length] ?_)
 intro b1
 refine L (nw 28 2 [.slice none 0 0, .slice none 0 0] ?_)
 intro b2
 refine os 1 ?_
 refine nsr ?_
 refine L (lds 2 ?_)
 refine os 1 ?_
 refine L (cl (rf_At (R := RSt.mk R.s R.objs R.ts R.texts) hw (w := w)) ?_)
 rintro v1 _ hv1
 obtain rfl : v1 = .int .i64 (n : Int) := hv1.trans (by simp only []; unfold atI; rw [h0])
 refine un ?_
 refine os 1 ?_
 refine kp [8, 7, 6, 3, 0, 1, 2] ?_
 refine nq ?_
 refine sr ?_
 refine os 3 ?_
 refine pn 17 (show (decide ((n : Int) < 0)) = false from (by simp)) ?_
 refine os 4 ?_
 refine kp [21, 8, 7, 6, 3, 0, 1, 2] ?_
 refine tbp 21 (fun hg4 => ?_) (fun hg4 => ?_)
 ·skip
  replace hg4 : m < 0 := hg4
  refine os 3 ?_
  refine kp [24, 8, 7, 6, 3, 0, 1, 2] ?_
  refine nt ?_
  refine ct ?_
  refine sr ?_
  refine L (lds 2 ?_)
  refine L (st [Gs.val R.s R.objs.length, Gs.val R.ts R.texts.length] ?_)
  refine os 1 ?_
  refine nt ?_
  refine SW_ret (r_then ?_)
  refine body_endC [.agg #[Gs.val R.s R.objs.length, Gs.val R.ts R.texts.length], .bool false] (fun _ => (.cons ⟨b2, 0, rfl, .inl ⟨[Gs.val R.s R.objs.length, Gs.val R.ts R.texts.length], by kernel_rfl, (cells_cons (Cell.own mem_z rfl) (cells_cons (Cell.own mem_z rfl) cells_nil)), rfl⟩⟩ (.cons rfl .nil))) ?_
  exact ⟨(), RSt.own, rfl⟩
 ·skip
  replace hg4 : ¬ (m < 0) := hg4
  refine os 3 ?_
  refine kp [24, 8, 7, 6, 3, 0, 1, 2] ?_
  refine nt ?_
  refine cdp (fun hc5 : m > 4096 => ?_) (fun hc5 => ?_)
  ·skip
   refine sr ?_
   refine L (lds 2 ?_)
   refine L (st [Gs.val R.s R.objs.length, Gs.val R.ts R.texts.length] ?_)
   refine os 1 ?_
   refine nt ?_
   refine SW_ret (r_then ?_)
   refine body_endC [.agg #[Gs.val R.s R.objs.length, Gs.val R.ts R.texts.length], .bool false] (fun _ => (.cons ⟨b2, 0, rfl, .inl ⟨[Gs.val R.s R.objs.length, Gs.val R.ts R.texts.length], by kernel_rfl, (cells_cons (Cell.own mem_z rfl) (cells_cons (Cell.own mem_z rfl) cells_nil)), rfl⟩⟩ (.cons rfl .nil))) ?_
   exact ⟨(), RSt.own, rfl⟩
  ·skip
   exact absurd (by omega) hbad

theorem rf_SetLen_none {W0 : World} {R : RSt} (hR : R.ok) {w : Int} (hw : wordOk w) (h0 : objAt w R.objs.length = none) (m : Int) : SC Tryz.prog W0 27 #[R.val, .int .u64 w, .int .i64 m] R.ent (Ret (fun _ : Unit => R.ent) (fun v _ => v = .tuple #[R.val, .bool false])) := by
 refine SC_body (fn := Tryz.f27) (n := 58) Tryz.func27 rfl (by kernel_rfl) (ρ := [(0, .agg #[Gs.val R.s R.objs.length, Gs.val R.ts R.texts.length]), (1, .int .u64 w), (2, .int .i64 m)]) rfl ?_
 refine SW_sig _ RSt.eq0 ?_
 refine sr ?_
 refine L (nw 28 2 [Gs.val R.s R.objs.length, Gs.val R.ts R.texts.length] ?_)
 intro b1
 refine L (nw 28 2 [.slice none 0 0, .slice none 0 0] ?_)
 intro b2
 refine os 1 ?_
 refine nsr ?_
 refine L (lds 2 ?_)
 refine os 1 ?_
 refine L (cl (rf_At (R := RSt.mk R.s R.objs R.ts R.texts) hw (w := w)) ?_)
 rintro v1 _ hv1
 obtain rfl : v1 = .int .i64 (-1) := hv1.trans (by simp only []; unfold atI; rw [h0])
 refine un ?_
 refine os 1 ?_
 refine kp [8, 7, 6, 3, 0, 1, 2] ?_
 refine nq ?_
 refine sr ?_
 refine os 1 ?_
 refine oV (.bool true) ?_
 refine os 8 ?_
 refine kp [24, 8, 7, 6, 3, 0, 1, 2] ?_
 refine nt ?_
 refine ct ?_
 refine sr ?_
 refine L (lds 2 ?_)
 refine L (st [Gs.val R.s R.objs.length, Gs.val R.ts R.texts.length] ?_)
 refine os 1 ?_
 refine nt ?_
 refine SW_ret (r_then ?_)
 refine body_endC [.agg #[Gs.val R.s R.objs.length, Gs.val R.ts R.texts.length], .bool false] (fun _ => (.cons ⟨b2, 0, rfl, .inl ⟨[Gs.val R.s R.objs.length, Gs.val R.ts R.texts.length], by kernel_rfl, (cells_cons (Cell.own mem_z rfl) (cells_cons (Cell.own mem_z rfl) cells_nil)), rfl⟩⟩ (.cons rfl .nil))) ?_
 exact ⟨(), RSt.own, rfl⟩

theorem rf_SetLen_some {W0 : World} {R : RSt} (hR : R.ok) {w : Int} (hw : wordOk w) {n : Nat} {x : RObj} (h0 : objAt w R.objs.length = some n) (hx : R.objs[n]? = some x) {m : Nat} (hm : m ≤ 4096) : SC Tryz.prog W0 27 #[R.val, .int .u64 w, .int .i64 (m : Int)] R.ent (Ret (fun r : RObj => (R.put n r).ent) (fun v r => v = .tuple #[R.val, .bool true] ∧ (R.put n r).ok ∧ r.pub = ⟨x.kind, x.proto, x.shut, x.names, x.descs, setLenL x.elems m, x.inner⟩)) := by
 have hnl := (List.getElem?_eq_some_iff.1 hx).1
 refine SC_body (fn := Tryz.f27) (n := 58) Tryz.func27 rfl (by kernel_rfl) (ρ := [(0, .agg #[Gs.val R.s R.objs.length, Gs.val R.ts R.texts.length]), (1, .int .u64 w), (2, .int .i64 (m : Int))]) rfl ?_
 refine SW_sig _ RSt.eq0 ?_
 refine SW_perm _ (perm_ca perm_cz) ?_
 refine SW_perm ((Gs.ent 9 1 x.ns (x.names.map encS)) ++ ((Gs.ent 35 3 x.ds (x.descs.flatMap descCells)) ++ ((Gs.ent 33 1 x.es (x.elems.map encU)) ++ ((Gs.ent 33 1 x.is (x.inner.map encU)) ++ (((List.eraseIdx R.objs n).flatMap RObj.ent) ++ ((Gs.ent 83 7 R.s (R.objs.flatMap RObj.cells)) ++ ((Gs.ent 9 1 R.ts (R.texts.map encS)) ++ ([])))))))) (robj_focus hx _) ?_
 refine sr ?_
 refine L (nw 28 2 [Gs.val R.s R.objs.length, Gs.val R.ts R.texts.length] ?_)
 intro b1
 refine L (nw 28 2 [.slice none 0 0, .slice none 0 0] ?_)
 intro b2
 refine os 1 ?_
 refine nsr ?_
 refine L (lds 2 ?_)
 refine os 1 ?_
 refine L (cl (rf_At (R := RSt.mk R.s R.objs R.ts R.texts) hw (w := w)) ?_)
 rintro v1 _ hv1
 obtain rfl : v1 = .int .i64 (n : Int) := hv1.trans (by simp only []; unfold atI; rw [h0])
 refine un ?_
 refine os 1 ?_
 refine kp [8, 7, 6, 3, 0, 1, 2] ?_
 refine nq ?_
 refine sr ?_
 refine os 3 ?_
 refine pn 17 (show (decide ((n : Int) < 0)) = false from (by simp)) ?_
 refine os 4 ?_
 refine kp [21, 8, 7, 6, 3, 0, 1, 2] ?_
 refine pn 21 (show (decide ((m : Int) < 0)) = false from (by simp <;> omega)) ?_
 refine os 3 ?_
 refine kp [24, 8, 7, 6, 3, 0, 1, 2] ?_
 refine nt ?_
 refine SW_false (fun _ => (congrArg Value.bool (show (decide ((m : Int) > 4096)) = false from (by simp <;> omega)))) ?_
 refine SW_skip (n_then ?_)
 refine sr ?_
 refine os 1 ?_
 refine L (ld ?_)
 refine os 1 ?_
 refine L (ixg (n : Int) (n * 7) hR.row Tryz.underlying25 ?_)
 refine L (ldr [.int .i64 x.kind, .int .u64 x.proto, .bool x.shut, Gs.val x.ns x.names.length, Gs.val x.ds x.descs.length, Gs.val x.es x.elems.length, Gs.val x.is x.inner.length] (cells_cons (Gs.cell hR.row (fun e he => (mem_c (mem_c (mem_a (mem_a (mem_a (mem_a (mem_a (mem_h he))))))))) (flat_cell RObj.len hx (j := 0) (by decide) rfl)) (cells_cons (Gs.cell hR.row (fun e he => (mem_c (mem_c (mem_a (mem_a (mem_a (mem_a (mem_a (mem_h he))))))))) (flat_cell RObj.len hx (j := 1) (by decide) rfl)) (cells_cons (Gs.cell hR.row (fun e he => (mem_c (mem_c (mem_a (mem_a (mem_a (mem_a (mem_a (mem_h he))))))))) (flat_cell RObj.len hx (j := 2) (by decide) rfl)) (cells_cons (Gs.cell hR.row (fun e he => (mem_c (mem_c (mem_a (mem_a (mem_a (mem_a (mem_a (mem_h he))))))))) (flat_cell RObj.len hx (j := 3) (by decide) rfl)) (cells_cons (Gs.cell hR.row (fun e he => (mem_c (mem_c (mem_a (mem_a (mem_a (mem_a (mem_a (mem_h he))))))))) (flat_cell RObj.len hx (j := 4) (by decide) rfl)) (cells_cons (Gs.cell hR.row (fun e he => (mem_c (mem_c (mem_a (mem_a (mem_a (mem_a (mem_a (mem_h he))))))))) (flat_cell RObj.len hx (j := 5) (by decide) rfl)) (cells_cons (Gs.cell hR.row (fun e he => (mem_c (mem_c (mem_a (mem_a (mem_a (mem_a (mem_a (mem_h he))))))))) (flat_cell RObj.len hx (j := 6) (by decide) rfl)) cells_nil))))))) ?_)
 refine L (nw 83 7 [.int .i64 0, .int .u64 0, .bool false, .slice none 0 0, .slice none 0 0, .slice none 0 0, .slice none 0 0] ?_)
 intro b5
 refine L (st [.int .i64 x.kind, .int .u64 x.proto, .bool x.shut, Gs.val x.ns x.names.length, Gs.val x.ds x.descs.length, Gs.val x.es x.elems.length, Gs.val x.is x.inner.length] ?_)
 refine nsr ?_
 refine os 1 ?_
 refine kp [10, 9, 24, 8, 7, 6, 3, 0, 1, 2] ?_
 refine nq ?_
 refine sr ?_
 refine os 1 ?_
 refine nt ?_
 refine SW_block ?_
 refine SW_loop (α := Nat × Gs) (fun z_ ρ_ σ_ => Fits ρ_ σ_ [(2, .int .i64 (m : Int)), (3, pt b1 0), (6, pt b2 0), (7, .bool false), (8, .int .i64 (n : Int)), (9, pt b5 0), (10, Gs.val z_.2 (((setLenL x.elems m).take z_.1).length)), (11, .int .i64 (z_.1 : Int))] ((Gs.ent 33 1 z_.2 (((setLenL x.elems m).take z_.1).map encU)) ++ ((b5, .cells 83 7 [.int .i64 x.kind, .int .u64 x.proto, .bool x.shut, Gs.val x.ns x.names.length, Gs.val x.ds x.descs.length, Gs.val x.es x.elems.length, Gs.val x.is x.inner.length]) :: ((b2, .cells 28 2 [.slice none 0 0, .slice none 0 0]) :: ((b1, .cells 28 2 [Gs.val R.s R.objs.length, Gs.val R.ts R.texts.length]) :: ((Gs.ent 9 1 x.ns (x.names.map encS)) ++ ((Gs.ent 35 3 x.ds (x.descs.flatMap descCells)) ++ ((Gs.ent 33 1 x.es (x.elems.map encU)) ++ ((Gs.ent 33 1 x.is (x.inner.map encU)) ++ (((List.eraseIdx R.objs n).flatMap RObj.ent) ++ ((Gs.ent 83 7 R.s (R.objs.flatMap RObj.cells)) ++ ((Gs.ent 9 1 R.ts (R.texts.map encS)) ++ ([])))))))))))) ∧ z_.1 ≤ m ∧ Gs.ok 1 ((setLenL x.elems m).take z_.1).length z_.2 (((setLenL x.elems m).take z_.1).map encU)) (fun z_ => m - z_.1) (0, Gs.nil) ⟨⟨fun _ => rfl, (Own.of_perm (List.Perm.of_eq (by simp [Gs.ent])))⟩, Nat.zero_le _, ⟨rfl, rfl⟩⟩ ?_
 rintro ⟨i, a⟩ ρ_ σ_ ⟨hfit, hi0, hi1⟩
 refine SW_fits hfit ?_
 clear hfit
 simp only [] at hi0 hi1 ⊢
 have hle1 : ((setLenL x.elems m).take i).length ≤ 4096 := Nat.le_trans (List.length_take_le _ _) (by omega)
 refine SW_seq ?_
 refine sr ?_
 refine os 3 ?_
 refine nt ?_
 refine cdp (fun hc6 : (i : Int) < (m : Int) => ?_) (fun hc6 => ?_)
 ·skip
  refine SW_skip (n_then ?_)
  refine SW_seq ?_
  refine SW_block ?_
  refine sr ?_
  refine os 2 ?_
  refine L (ld ?_)
  refine os 2 ?_
  refine kp [40, 33, 2, 3, 6, 7, 8, 9, 10, 11] ?_
  refine nt ?_
  refine cdp (fun hc7 : (i : Int) < (x.elems.length : Int) => ?_) (fun hc7 => ?_)
  ·skip
   refine SW_region ?_
   refine os 2 ?_
   refine L (ld ?_)
   refine os 1 ?_
   refine L (ixg (i : Int) (i) (show Gs.ok 1 (x.elems).length x.es (x.elems.map encU) from (RSt.ok.at (x := x) hR hx).es) Tryz.underlying36 ?_)
   obtain ⟨e1, he1⟩ : ∃ y_, x.elems[i]? = some y_ := ⟨_, List.getElem?_eq_getElem (by omega)⟩
   refine L (ld ?_ (hc := Gs.cell (show Gs.ok 1 (x.elems).length x.es (x.elems.map encU) from (RSt.ok.at (x := x) hR hx).es) (fun e he => (mem_a (mem_c (mem_c (mem_c (mem_a (mem_a (mem_h he)))))))) (map_cell he1 rfl)))
   refine L (nws 33 1 1 [.int .u64 e1] ?_)
   intro b8
   refine SL_perm _ (perm_cc perm_cz) ?_
   refine L (O_append (size := 1) (bytes := 8) (z := .int .u64 0) a (((setLenL x.elems m).take i).length) 1 (some ⟨b8, 0, none⟩) 1 (((setLenL x.elems m).take i).map encU) ([.int .u64 e1]) ((((setLenL x.elems m).take i) ++ [e1]).map encU) (map_snoc _ e1 rfl) (fun _ => rfl) (fun _ => rfl) Tryz.underlying36 (by kernel_rfl) rfl (by decide) hi1 rfl (.inr ⟨b8, 0, rfl, Cells.own (mem_a mem_z) rfl⟩) rfl (by omega) (by decide) rfl ?_)
   intro s9 hks9 hfs9
   rw [show ((setLenL x.elems m).take i).length + 1 = (((setLenL x.elems m).take i) ++ [e1]).length from by simp]
   rw [show ((setLenL x.elems m).take i).length + 1 = (((setLenL x.elems m).take i) ++ [e1]).length from by simp] at hks9
   have hls9 : (((setLenL x.elems m).take i) ++ [e1]).length = ((setLenL x.elems m).take i).length + 1 := by simp
   refine os 1 ?_
   refine kp [10, 40, 33, 2, 3, 6, 7, 8, 9, 11] ?_
   refine SL_nil (n_in (n_then ?_))
   refine SW_region ?_
   refine os 3 ?_
   refine nt ?_
   have s1 := setLen_step (l := x.elems) (m := m) (i := i) (by omega)
   have q1 := he1
   have q2 := (List.getElem?_eq_some_iff.1 q1).1
   rw [dif_pos q2, (List.getElem?_eq_some_iff.1 q1).2] at s1
   refine ⟨(i + 1, s9), by simp only []; omega, ?_⟩
   simp only []
   rw [s1]
   exact ⟨⟨fun _ => rfl, ow⟩, by omega, hks9⟩
  ·skip
   refine SW_region ?_
   refine os 1 ?_
   refine L (nws 33 1 1 [.int .u64 18445336698825998340] ?_)
   intro b10
   refine SL_perm _ (perm_cc perm_cz) ?_
   refine L (O_append (size := 1) (bytes := 8) (z := .int .u64 0) a (((setLenL x.elems m).take i).length) 1 (some ⟨b10, 0, none⟩) 1 (((setLenL x.elems m).take i).map encU) ([.int .u64 18445336698825998340]) ((((setLenL x.elems m).take i) ++ [18445336698825998340]).map encU) (map_snoc _ 18445336698825998340 rfl) (fun _ => rfl) (fun _ => rfl) Tryz.underlying36 (by kernel_rfl) rfl (by decide) hi1 rfl (.inr ⟨b10, 0, rfl, Cells.own (mem_a mem_z) rfl⟩) rfl (by omega) (by decide) rfl ?_)
   intro s11 hks11 hfs11
   rw [show ((setLenL x.elems m).take i).length + 1 = (((setLenL x.elems m).take i) ++ [18445336698825998340]).length from by simp]
   rw [show ((setLenL x.elems m).take i).length + 1 = (((setLenL x.elems m).take i) ++ [18445336698825998340]).length from by simp] at hks11
   have hls11 : (((setLenL x.elems m).take i) ++ [18445336698825998340]).length = ((setLenL x.elems m).take i).length + 1 := by simp
   refine os 1 ?_
   refine kp [10, 40, 33, 2, 3, 6, 7, 8, 9, 11] ?_
   refine SL_nil (n_in (n_then ?_))
   refine SW_region ?_
   refine os 3 ?_
   refine nt ?_
   have s1 := setLen_step (l := x.elems) (m := m) (i := i) (by omega)
   rw [dif_neg (by omega)] at s1
   refine ⟨(i + 1, s11), by simp only []; omega, ?_⟩
   simp only []
   rw [s1]
   exact ⟨⟨fun _ => rfl, ow⟩, by omega, hks11⟩
 ·skip
  refine SW_exit (x_then (x_then (x_in (n_then ?_))))
  refine SW_seq ?_
  have hie : i = m := by omega
  have t1 : (setLenL x.elems m).take i = setLenL x.elems m := List.take_of_length_le (by rw [setLenL_len]; omega)
  rw [t1] at hi1
  refine SW_sig ((Gs.ent 33 1 a ((setLenL x.elems m).map encU)) ++ ((b5, .cells 83 7 [.int .i64 x.kind, .int .u64 x.proto, .bool x.shut, Gs.val x.ns x.names.length, Gs.val x.ds x.descs.length, Gs.val x.es x.elems.length, Gs.val x.is x.inner.length]) :: ((b2, .cells 28 2 [.slice none 0 0, .slice none 0 0]) :: ((b1, .cells 28 2 [Gs.val R.s R.objs.length, Gs.val R.ts R.texts.length]) :: ((Gs.ent 9 1 x.ns (x.names.map encS)) ++ ((Gs.ent 35 3 x.ds (x.descs.flatMap descCells)) ++ ((Gs.ent 33 1 x.es (x.elems.map encU)) ++ ((Gs.ent 33 1 x.is (x.inner.map encU)) ++ (((List.eraseIdx R.objs n).flatMap RObj.ent) ++ ((Gs.ent 83 7 R.s (R.objs.flatMap RObj.cells)) ++ ((Gs.ent 9 1 R.ts (R.texts.map encS)) ++ ([])))))))))))) (by rw [t1]) ?_
  refine SW_rho [(33, .bool (decide ((i : Int) < (m : Int)))), (32, .int .i64 (m : Int)), (31, .int .i64 (i : Int)), (2, .int .i64 (m : Int)), (3, pt b1 0), (6, pt b2 0), (7, .bool false), (8, .int .i64 (n : Int)), (9, pt b5 0), (10, Gs.val a ((setLenL x.elems m).length)), (11, .int .i64 (i : Int))] (by rw [t1] <;> rfl) ?_
  refine SW_region ?_
  refine os 2 ?_
  refine L (st [.int .i64 x.kind, .int .u64 x.proto, .bool x.shut, Gs.val x.ns x.names.length, Gs.val x.ds x.descs.length, Gs.val a ((setLenL x.elems m).length), Gs.val x.is x.inner.length] ?_)
  refine nsr ?_
  refine L (lds 2 ?_)
  refine os 1 ?_
  refine L (lds 7 ?_)
  refine L (cl (rf_with (RObj.mk x.kind x.proto x.shut x.ns x.names x.ds x.descs a (setLenL x.elems m) x.is x.inner) hR.row hx) ?_)
  rintro _ _ rfl
  refine L (st [Gs.val R.s R.objs.length, Gs.val R.ts R.texts.length] ?_)
  refine os 1 ?_
  refine kp [7, 33, 2, 3, 6, 8, 9, 10, 11] ?_
  refine nt ?_
  refine SW_ret ?_
  refine body_endC [.agg #[Gs.val R.s R.objs.length, Gs.val R.ts R.texts.length], .bool true] (fun _ => (.cons ⟨b2, 0, rfl, .inl ⟨[Gs.val R.s R.objs.length, Gs.val R.ts R.texts.length], by kernel_rfl, (cells_cons (Cell.own mem_z rfl) (cells_cons (Cell.own mem_z rfl) cells_nil)), rfl⟩⟩ (.cons rfl .nil))) ?_
  refine ⟨(RObj.mk x.kind x.proto x.shut x.ns x.names x.ds x.descs a (setLenL x.elems m) x.is x.inner), ?_, rfl, hR.put hx ⟨(show Gs.ok 1 (x.names).length x.ns (x.names.map encS) from (RSt.ok.at (x := x) hR hx).ns), (show Gs.ok 3 (x.descs).length x.ds (x.descs.flatMap descCells) from (RSt.ok.at (x := x) hR hx).ds), hi1, (show Gs.ok 1 (x.inner).length x.is (x.inner.map encU) from (RSt.ok.at (x := x) hR hx).is)⟩, rfl⟩
  exact Own.trans (ow (S := ((Gs.ent 83 7 R.s ((List.set R.objs n (RObj.mk x.kind x.proto x.shut x.ns x.names x.ds x.descs a (setLenL x.elems m) x.is x.inner)).flatMap RObj.cells)) ++ ((Gs.ent 9 1 x.ns (x.names.map encS)) ++ ((Gs.ent 35 3 x.ds (x.descs.flatMap descCells)) ++ ((Gs.ent 33 1 a ((setLenL x.elems m).map encU)) ++ ((Gs.ent 33 1 x.is (x.inner.map encU)) ++ (((List.eraseIdx R.objs n).flatMap RObj.ent) ++ ((Gs.ent 9 1 R.ts (R.texts.map encS)) ++ ([])))))))))) (Own.of_perm (RSt.back hx (RObj.mk x.kind x.proto x.shut x.ns x.names x.ds x.descs a (setLenL x.elems m) x.is x.inner)))

end Go.Proofs.YtdfhbheipagnmaaGreat
namespace Go.Proofs.YtdfhbheipagnmaaGreat
open Go.Sl

theorem rf_SetElem_bad {W0 : World} {R : RSt} (hR : R.ok) {w : Int} (hw : wordOk w) {n : Nat} {x : RObj} (h0 : objAt w R.objs.length = some n) (hx : R.objs[n]? = some x) {m : Int} (wd : Int) (hbad : ¬ (0 ≤ m ∧ m < 4096)) : SC Tryz.prog W0 25 #[R.val, .int .u64 w, .int .i64 m, .int .u64 wd] R.ent (Ret (fun _ : Unit => R.ent) (fun v _ => v = .tuple #[R.val, .bool false])) := by
 have hnl := (List.getElem?_eq_some_iff.1 hx).1
 refine SC_body (fn := Tryz.f25) (n := 67) Tryz.func25 rfl (by kernel_rfl) (ρ := [(0, .agg #[Gs.val R.s R.objs.length, Gs.val R.ts R.texts.length]), (1, .int .u64 w), (2, .int .i64 m), (3, .int .u64 wd)]) rfl ?_
 refine SW_sig _ RSt.eq0 ?_
 refine sr ?_
 refine L (nw 28 2 [Gs.val R.s R.objs.length, Gs.val R.ts R.texts.length] ?_)
 intro b1
 refine L (nw 28 2 [.slice none 0 0, .slice none 0 0] ?_)
 intro b2
 refine os 1 ?_
 refine nq ?_
 refine sr ?_
 refine os 3 ?_
 refine tbp 17 (fun hg3 => ?_) (fun hg3 => ?_)
 ·skip
  replace hg3 : m < 0 := hg3
  refine os 9 ?_
  refine kp [26, 9, 8, 4, 0, 1, 2, 3] ?_
  refine nt ?_
  refine ct ?_
  refine sr ?_
  refine L (lds 2 ?_)
  refine L (st [Gs.val R.s R.objs.length, Gs.val R.ts R.texts.length] ?_)
  refine os 1 ?_
  refine nt ?_
  refine SW_ret (r_then ?_)
  refine body_endC [.agg #[Gs.val R.s R.objs.length, Gs.val R.ts R.texts.length], .bool false] (fun _ => (.cons ⟨b2, 0, rfl, .inl ⟨[Gs.val R.s R.objs.length, Gs.val R.ts R.texts.length], by kernel_rfl, (cells_cons (Cell.own mem_z rfl) (cells_cons (Cell.own mem_z rfl) cells_nil)), rfl⟩⟩ (.cons rfl .nil))) ?_
  exact ⟨(), RSt.own, rfl⟩
 ·skip
  replace hg3 : ¬ (m < 0) := hg3
  refine os 4 ?_
  refine kp [21, 9, 8, 4, 0, 1, 2, 3] ?_
  refine tbp 21 (fun hg4 => ?_) (fun hg4 => ?_)
  ·skip
   replace hg4 : m ≥ 4096 := hg4
   refine os 5 ?_
   refine kp [26, 9, 8, 4, 0, 1, 2, 3] ?_
   refine nt ?_
   refine ct ?_
   refine sr ?_
   refine L (lds 2 ?_)
   refine L (st [Gs.val R.s R.objs.length, Gs.val R.ts R.texts.length] ?_)
   refine os 1 ?_
   refine nt ?_
   refine SW_ret (r_then ?_)
   refine body_endC [.agg #[Gs.val R.s R.objs.length, Gs.val R.ts R.texts.length], .bool false] (fun _ => (.cons ⟨b2, 0, rfl, .inl ⟨[Gs.val R.s R.objs.length, Gs.val R.ts R.texts.length], by kernel_rfl, (cells_cons (Cell.own mem_z rfl) (cells_cons (Cell.own mem_z rfl) cells_nil)), rfl⟩⟩ (.cons rfl .nil))) ?_
   exact ⟨(), RSt.own, rfl⟩
  ·skip
   replace hg4 : ¬ (m ≥ 4096) := hg4
   exact absurd (by omega) hbad

theorem rf_SetElem_none {W0 : World} {R : RSt} (hR : R.ok) {w : Int} (hw : wordOk w) (h0 : objAt w R.objs.length = none) (m wd : Int) : SC Tryz.prog W0 25 #[R.val, .int .u64 w, .int .i64 m, .int .u64 wd] R.ent (Ret (fun _ : Unit => R.ent) (fun v _ => v = .tuple #[R.val, .bool false])) := by
 refine SC_body (fn := Tryz.f25) (n := 67) Tryz.func25 rfl (by kernel_rfl) (ρ := [(0, .agg #[Gs.val R.s R.objs.length, Gs.val R.ts R.texts.length]), (1, .int .u64 w), (2, .int .i64 m), (3, .int .u64 wd)]) rfl ?_
 refine SW_sig _ RSt.eq0 ?_
 refine sr ?_
 refine L (nw 28 2 [Gs.val R.s R.objs.length, Gs.val R.ts R.texts.length] ?_)
 intro b1
 refine L (nw 28 2 [.slice none 0 0, .slice none 0 0] ?_)
 intro b2
 refine os 1 ?_
 refine nq ?_
 refine sr ?_
 refine os 3 ?_
 refine tbp 17 (fun hg3 => ?_) (fun hg3 => ?_)
 ·skip
  replace hg3 : m < 0 := hg3
  refine os 9 ?_
  refine kp [26, 9, 8, 4, 0, 1, 2, 3] ?_
  refine nt ?_
  refine ct ?_
  refine sr ?_
  refine L (lds 2 ?_)
  refine L (st [Gs.val R.s R.objs.length, Gs.val R.ts R.texts.length] ?_)
  refine os 1 ?_
  refine nt ?_
  refine SW_ret (r_then ?_)
  refine body_endC [.agg #[Gs.val R.s R.objs.length, Gs.val R.ts R.texts.length], .bool false] (fun _ => (.cons ⟨b2, 0, rfl, .inl ⟨[Gs.val R.s R.objs.length, Gs.val R.ts R.texts.length], by kernel_rfl, (cells_cons (Cell.own mem_z rfl) (cells_cons (Cell.own mem_z rfl) cells_nil)), rfl⟩⟩ (.cons rfl .nil))) ?_
  exact ⟨(), RSt.own, rfl⟩
 ·skip
  replace hg3 : ¬ (m < 0) := hg3
  refine os 4 ?_
  refine kp [21, 9, 8, 4, 0, 1, 2, 3] ?_
  refine tbp 21 (fun hg4 => ?_) (fun hg4 => ?_)
  ·skip
   replace hg4 : m ≥ 4096 := hg4
   refine os 5 ?_
   refine kp [26, 9, 8, 4, 0, 1, 2, 3] ?_
   refine nt ?_
   refine ct ?_
   refine sr ?_
   refine L (lds 2 ?_)
   refine L (st [Gs.val R.s R.objs.length, Gs.val R.ts R.texts.length] ?_)
   refine os 1 ?_
   refine nt ?_
   refine SW_ret (r_then ?_)
   refine body_endC [.agg #[Gs.val R.s R.objs.length, Gs.val R.ts R.texts.length], .bool false] (fun _ => (.cons ⟨b2, 0, rfl, .inl ⟨[Gs.val R.s R.objs.length, Gs.val R.ts R.texts.length], by kernel_rfl, (cells_cons (Cell.own mem_z rfl) (cells_cons (Cell.own mem_z rfl) cells_nil)), rfl⟩⟩ (.cons rfl .nil))) ?_
   exact ⟨(), RSt.own, rfl⟩
  ·skip
   replace hg4 : ¬ (m ≥ 4096) := hg4
   refine L (lds 2 ?_)
   refine os 1 ?_
   refine L (cl (rf_At (R := RSt.mk R.s R.objs R.ts R.texts) hw (w := w)) ?_)
   rintro v1 _ hv1
   obtain rfl : v1 = .int .i64 (-1) := hv1.trans (by simp only []; unfold atI; rw [h0])
   refine un ?_
   refine oV (.bool true) ?_
   refine os 1 ?_
   refine kp [26, 9, 8, 4, 0, 1, 2, 3] ?_
   refine nt ?_
   refine ct ?_
   refine sr ?_
   refine L (lds 2 ?_)
   refine L (st [Gs.val R.s R.objs.length, Gs.val R.ts R.texts.length] ?_)
   refine os 1 ?_
   refine nt ?_
   refine SW_ret (r_then ?_)
   refine body_endC [.agg #[Gs.val R.s R.objs.length, Gs.val R.ts R.texts.length], .bool false] (fun _ => (.cons ⟨b2, 0, rfl, .inl ⟨[Gs.val R.s R.objs.length, Gs.val R.ts R.texts.length], by kernel_rfl, (cells_cons (Cell.own mem_z rfl) (cells_cons (Cell.own mem_z rfl) cells_nil)), rfl⟩⟩ (.cons rfl .nil))) ?_
   exact ⟨(), RSt.own, rfl⟩

theorem rf_SetElem_fast {W0 : World} {R : RSt} (hR : R.ok) {w : Int} (hw : wordOk w) {n : Nat} {x : RObj} (h0 : objAt w R.objs.length = some n) (hx : R.objs[n]? = some x) {m : Nat} (wd : Int) (hes : x.elems.length ≤ 4096) (hm : m < 4096) (hmx : m < x.elems.length) : SC Tryz.prog W0 25 #[R.val, .int .u64 w, .int .i64 (m : Int), .int .u64 wd] R.ent (Ret (fun r : RObj => (R.put n r).ent) (fun v r => v = .tuple #[R.val, .bool true] ∧ (R.put n r).ok ∧ r.pub = ⟨x.kind, x.proto, x.shut, x.names, x.descs, (x.elems).set m wd, x.inner⟩)) := by
 have hnl := (List.getElem?_eq_some_iff.1 hx).1
 refine SC_body (fn := Tryz.f25) (n := 67) Tryz.func25 rfl (by kernel_rfl) (ρ := [(0, .agg #[Gs.val R.s R.objs.length, Gs.val R.ts R.texts.length]), (1, .int .u64 w), (2, .int .i64 (m : Int)), (3, .int .u64 wd)]) rfl ?_
 refine SW_sig _ RSt.eq0 ?_
 have hcn : x.elems.length ≤ maxLen := Nat.le_trans (Gs.ok.cap_le (hR.at hx).es) (Gs.ok.cap_max (hR.at hx).es)
 unfold maxLen at hcn
 refine sr ?_
 refine L (nw 28 2 [Gs.val R.s R.objs.length, Gs.val R.ts R.texts.length] ?_)
 intro b1
 refine L (nw 28 2 [.slice none 0 0, .slice none 0 0] ?_)
 intro b2
 refine os 1 ?_
 refine nq ?_
 refine sr ?_
 refine os 3 ?_
 refine pn 17 (show (decide ((m : Int) < 0)) = false from (by simp <;> omega)) ?_
 refine os 4 ?_
 refine kp [21, 9, 8, 4, 0, 1, 2, 3] ?_
 refine pn 21 (show (decide ((m : Int) ≥ 4096)) = false from (by simp <;> omega)) ?_
 refine L (lds 2 ?_)
 refine os 1 ?_
 refine L (cl (rf_At (R := RSt.mk R.s R.objs R.ts R.texts) hw (w := w)) ?_)
 rintro v1 _ hv1
 obtain rfl : v1 = .int .i64 (n : Int) := hv1.trans (by simp only []; unfold atI; rw [h0])
 refine un ?_
 refine os 2 ?_
 refine kp [26, 9, 8, 4, 0, 1, 2, 3] ?_
 refine nt ?_
 refine SW_false (fun _ => (congrArg Value.bool (show (decide ((n : Int) < 0)) = false from (by simp)))) ?_
 refine SW_skip (n_then ?_)
 refine SW_seq ?_
 refine sr ?_
 refine os 1 ?_
 refine L (lds 2 ?_)
 refine os 1 ?_
 refine L (cl (rf_Len_some hR hw h0 hx) ?_ (hp := RSt.pm))
 rintro _ _ rfl
 refine SL_sig _ RSt.eq ?_
 refine os 1 ?_
 refine kp [32, 26, 9, 8, 4, 0, 1, 2, 3] ?_
 refine nt ?_
 refine SW_false (fun _ => (congrArg Value.bool (show (decide ((m : Int) ≥ (x.elems.length : Int))) = false from (by simp <;> omega)))) ?_
 refine SW_skip (n_then ?_)
 refine sr ?_
 refine L (lds 2 ?_)
 refine os 1 ?_
 refine L (cl (rf_At (R := RSt.mk R.s R.objs R.ts R.texts) hw (w := w)) ?_)
 rintro v3 _ hv3
 obtain rfl : v3 = .int .i64 (n : Int) := hv3.trans (by simp only []; unfold atI; rw [h0])
 refine un ?_
 refine os 1 ?_
 refine kp [12, 32, 26, 9, 8, 4, 0, 1, 2, 3] ?_
 refine nq ?_
 refine SW_perm _ (perm_ca perm_cz) ?_
 refine SW_perm ((Gs.ent 9 1 x.ns (x.names.map encS)) ++ ((Gs.ent 35 3 x.ds (x.descs.flatMap descCells)) ++ ((Gs.ent 33 1 x.es (x.elems.map encU)) ++ ((Gs.ent 33 1 x.is (x.inner.map encU)) ++ (((List.eraseIdx R.objs n).flatMap RObj.ent) ++ ((Gs.ent 83 7 R.s (R.objs.flatMap RObj.cells)) ++ ((Gs.ent 9 1 R.ts (R.texts.map encS)) ++ ((b2, .cells 28 2 [.slice none 0 0, .slice none 0 0]) :: ((b1, .cells 28 2 [Gs.val R.s R.objs.length, Gs.val R.ts R.texts.length]) :: ([])))))))))) (robj_focus hx _) ?_
 refine SW_region ?_
 refine os 1 ?_
 refine L (ld ?_)
 refine os 1 ?_
 refine L (ixg (n : Int) (n * 7) hR.row Tryz.underlying25 ?_)
 refine L (ldr [.int .i64 x.kind, .int .u64 x.proto, .bool x.shut, Gs.val x.ns x.names.length, Gs.val x.ds x.descs.length, Gs.val x.es x.elems.length, Gs.val x.is x.inner.length] (cells_cons (Gs.cell hR.row (fun e he => (mem_a (mem_a (mem_a (mem_a (mem_a (mem_h he))))))) (flat_cell RObj.len hx (j := 0) (by decide) rfl)) (cells_cons (Gs.cell hR.row (fun e he => (mem_a (mem_a (mem_a (mem_a (mem_a (mem_h he))))))) (flat_cell RObj.len hx (j := 1) (by decide) rfl)) (cells_cons (Gs.cell hR.row (fun e he => (mem_a (mem_a (mem_a (mem_a (mem_a (mem_h he))))))) (flat_cell RObj.len hx (j := 2) (by decide) rfl)) (cells_cons (Gs.cell hR.row (fun e he => (mem_a (mem_a (mem_a (mem_a (mem_a (mem_h he))))))) (flat_cell RObj.len hx (j := 3) (by decide) rfl)) (cells_cons (Gs.cell hR.row (fun e he => (mem_a (mem_a (mem_a (mem_a (mem_a (mem_h he))))))) (flat_cell RObj.len hx (j := 4) (by decide) rfl)) (cells_cons (Gs.cell hR.row (fun e he => (mem_a (mem_a (mem_a (mem_a (mem_a (mem_h he))))))) (flat_cell RObj.len hx (j := 5) (by decide) rfl)) (cells_cons (Gs.cell hR.row (fun e he => (mem_a (mem_a (mem_a (mem_a (mem_a (mem_h he))))))) (flat_cell RObj.len hx (j := 6) (by decide) rfl)) cells_nil))))))) ?_)
 refine L (nw 83 7 [.int .i64 0, .int .u64 0, .bool false, .slice none 0 0, .slice none 0 0, .slice none 0 0, .slice none 0 0] ?_)
 intro b5
 refine L (st [.int .i64 x.kind, .int .u64 x.proto, .bool x.shut, Gs.val x.ns x.names.length, Gs.val x.ds x.descs.length, Gs.val x.es x.elems.length, Gs.val x.is x.inner.length] ?_)
 refine nsr ?_
 refine L (nws 33 0 0 [] ?_)
 intro b6
 refine os 1 ?_
 refine L (ld ?_)
 refine SL_sig ((Gs.ent 33 1 (Gs.at b6 0) (([] : List Int).map encU)) ++ ((b5, .cells 83 7 [.int .i64 x.kind, .int .u64 x.proto, .bool x.shut, Gs.val x.ns x.names.length, Gs.val x.ds x.descs.length, Gs.val x.es x.elems.length, Gs.val x.is x.inner.length]) :: ((Gs.ent 9 1 x.ns (x.names.map encS)) ++ ((Gs.ent 35 3 x.ds (x.descs.flatMap descCells)) ++ ((Gs.ent 33 1 x.es (x.elems.map encU)) ++ ((Gs.ent 33 1 x.is (x.inner.map encU)) ++ (((List.eraseIdx R.objs n).flatMap RObj.ent) ++ ((Gs.ent 83 7 R.s (R.objs.flatMap RObj.cells)) ++ ((Gs.ent 9 1 R.ts (R.texts.map encS)) ++ ((b2, .cells 28 2 [.slice none 0 0, .slice none 0 0]) :: ((b1, .cells 28 2 [Gs.val R.s R.objs.length, Gs.val R.ts R.texts.length]) :: ([])))))))))))) rfl ?_
 refine L (O_append (size := 1) (bytes := 8) (z := .int .u64 0) (Gs.at b6 0) 0 x.elems.length (Gs.addr x.es) (Gs.cap x.es) (([] : List Int).map encU) (x.elems.map encU) ((([] : List Int) ++ x.elems).map encU) (map_app _ _) (fun _ => rfl) (fun _ => rfl) Tryz.underlying36 (by kernel_rfl) rfl (by decide) ⟨Nat.le_refl _, by unfold maxLen; omega, rfl⟩ (Gs.ok.len (show Gs.ok 1 (x.elems).length x.es (x.elems.map encU) from (RSt.ok.at (x := x) hR hx).es)) (Gs.src (show Gs.ok 1 (x.elems).length x.es (x.elems.map encU) from (RSt.ok.at (x := x) hR hx).es) (fun e he => (mem_a (mem_c (mem_a (mem_a (mem_h he))))))) (map_one (fun _ => rfl) _) (by omega) (by decide) rfl ?_)
 intro s7 hks7 hfs7
 rw [show 0 + x.elems.length = (([] : List Int) ++ x.elems).length from by simp]
 rw [show 0 + x.elems.length = (([] : List Int) ++ x.elems).length from by simp] at hks7
 have hls7 : (([] : List Int) ++ x.elems).length = ([] : List Int).length + x.elems.length := by simp
 refine os 1 ?_
 refine kp [14, 13, 12, 32, 26, 9, 8, 4, 0, 1, 2, 3] ?_
 refine nsr ?_
 refine os 3 ?_
 refine L (ixg (m : Int) (m) hks7 Tryz.underlying36 ?_)
 obtain ⟨e1, he1⟩ : ∃ y_, (([] : List Int) ++ x.elems)[m]? = some y_ := ⟨_, List.getElem?_eq_getElem (by omega)⟩
 have hok1 := Gs.ok.relen (ys := (((([] : List Int) ++ x.elems).set m wd).map encU)) hks7 (by simp)
 refine L (O_storeG (ys := (((([] : List Int) ++ x.elems).set m wd).map encU)) s7 (m) (.int .u64 wd) [.int .u64 wd] (Gs.ok.ne hks7 (by first | omega | (simp; omega))) (fun _ => rfl) (fun _ => rfl) rfl (by kernel_rfl) rfl (by simp; omega) (row_lay_map wd (by omega)) rfl ?_)
 refine nq ?_
 rw [show (([] : List Int) ++ x.elems).length = ((([] : List Int) ++ x.elems).set m wd).length from by simp]
 refine SW_region ?_
 refine os 2 ?_
 refine L (st [.int .i64 x.kind, .int .u64 x.proto, .bool x.shut, Gs.val x.ns x.names.length, Gs.val x.ds x.descs.length, Gs.val s7 (((([] : List Int) ++ x.elems).set m wd).length), Gs.val x.is x.inner.length] ?_)
 refine nsr ?_
 refine L (lds 2 ?_)
 refine os 1 ?_
 refine kp [64, 63, 14, 13, 12, 32, 26, 9, 8, 4, 0, 1, 2, 3] ?_
 refine L (lds 7 ?_)
 refine L (cl (rf_with (RObj.mk x.kind x.proto x.shut x.ns x.names x.ds x.descs s7 ((([] : List Int) ++ x.elems).set m wd) x.is x.inner) hR.row hx) ?_)
 rintro _ _ rfl
 refine L (st [Gs.val R.s R.objs.length, Gs.val R.ts R.texts.length] ?_)
 refine os 1 ?_
 refine kp [9, 14, 13, 12, 32, 26, 8, 4, 0, 1, 2, 3] ?_
 refine nt ?_
 refine SW_ret ?_
 refine body_endC [.agg #[Gs.val R.s R.objs.length, Gs.val R.ts R.texts.length], .bool true] (fun _ => (.cons ⟨b2, 0, rfl, .inl ⟨[Gs.val R.s R.objs.length, Gs.val R.ts R.texts.length], by kernel_rfl, (cells_cons (Cell.own mem_z rfl) (cells_cons (Cell.own mem_z rfl) cells_nil)), rfl⟩⟩ (.cons rfl .nil))) ?_
 refine ⟨(RObj.mk x.kind x.proto x.shut x.ns x.names x.ds x.descs s7 ((([] : List Int) ++ x.elems).set m wd) x.is x.inner), ?_, rfl, hR.put hx ⟨(show Gs.ok 1 (x.names).length x.ns (x.names.map encS) from (RSt.ok.at (x := x) hR hx).ns), (show Gs.ok 3 (x.descs).length x.ds (x.descs.flatMap descCells) from (RSt.ok.at (x := x) hR hx).ds), (by have q_ := hok1; simp only [List.nil_append, List.length_set] at q_ ⊢; exact q_), (show Gs.ok 1 (x.inner).length x.is (x.inner.map encU) from (RSt.ok.at (x := x) hR hx).is)⟩, rfl⟩
 exact Own.trans (ow (S := ((Gs.ent 83 7 R.s ((List.set R.objs n (RObj.mk x.kind x.proto x.shut x.ns x.names x.ds x.descs s7 ((([] : List Int) ++ x.elems).set m wd) x.is x.inner)).flatMap RObj.cells)) ++ ((Gs.ent 9 1 x.ns (x.names.map encS)) ++ ((Gs.ent 35 3 x.ds (x.descs.flatMap descCells)) ++ ((Gs.ent 33 1 s7 (((([] : List Int) ++ x.elems).set m wd).map encU)) ++ ((Gs.ent 33 1 x.is (x.inner.map encU)) ++ (((List.eraseIdx R.objs n).flatMap RObj.ent) ++ ((Gs.ent 9 1 R.ts (R.texts.map encS)) ++ ([])))))))))) (Own.of_perm (RSt.back hx (RObj.mk x.kind x.proto x.shut x.ns x.names x.ds x.descs s7 ((([] : List Int) ++ x.elems).set m wd) x.is x.inner)))

theorem rf_SetElem_slow {W0 : World} {R : RSt} (hR : R.ok) {w : Int} (hw : wordOk w) {n : Nat} {x : RObj} (h0 : objAt w R.objs.length = some n) (hx : R.objs[n]? = some x) {m : Nat} (wd : Int) (hes : x.elems.length ≤ 4096) (hm : m < 4096) (hmx : x.elems.length ≤ m) : SC Tryz.prog W0 25 #[R.val, .int .u64 w, .int .i64 (m : Int), .int .u64 wd] R.ent (Ret (fun r : RObj => (R.put n r).ent) (fun v r => v = .tuple #[R.val, .bool true] ∧ (R.put n r).ok ∧ r.pub = ⟨x.kind, x.proto, x.shut, x.names, x.descs, (setLenL x.elems (m + 1)).set m wd, x.inner⟩)) := by
 have hnl := (List.getElem?_eq_some_iff.1 hx).1
 refine SC_body (fn := Tryz.f25) (n := 67) Tryz.func25 rfl (by kernel_rfl) (ρ := [(0, .agg #[Gs.val R.s R.objs.length, Gs.val R.ts R.texts.length]), (1, .int .u64 w), (2, .int .i64 (m : Int)), (3, .int .u64 wd)]) rfl ?_
 refine SW_sig _ RSt.eq0 ?_
 have hcn : x.elems.length ≤ maxLen := Nat.le_trans (Gs.ok.cap_le (hR.at hx).es) (Gs.ok.cap_max (hR.at hx).es)
 unfold maxLen at hcn
 refine sr ?_
 refine L (nw 28 2 [Gs.val R.s R.objs.length, Gs.val R.ts R.texts.length] ?_)
 intro b1
 refine L (nw 28 2 [.slice none 0 0, .slice none 0 0] ?_)
 intro b2
 refine os 1 ?_
 refine nq ?_
 refine sr ?_
 refine os 3 ?_
 refine pn 17 (show (decide ((m : Int) < 0)) = false from (by simp <;> omega)) ?_
 refine os 4 ?_
 refine kp [21, 9, 8, 4, 0, 1, 2, 3] ?_
 refine pn 21 (show (decide ((m : Int) ≥ 4096)) = false from (by simp <;> omega)) ?_
 refine L (lds 2 ?_)
 refine os 1 ?_
 refine L (cl (rf_At (R := RSt.mk R.s R.objs R.ts R.texts) hw (w := w)) ?_)
 rintro v1 _ hv1
 obtain rfl : v1 = .int .i64 (n : Int) := hv1.trans (by simp only []; unfold atI; rw [h0])
 refine un ?_
 refine os 2 ?_
 refine kp [26, 9, 8, 4, 0, 1, 2, 3] ?_
 refine nt ?_
 refine SW_false (fun _ => (congrArg Value.bool (show (decide ((n : Int) < 0)) = false from (by simp)))) ?_
 refine SW_skip (n_then ?_)
 refine SW_seq ?_
 refine sr ?_
 refine os 1 ?_
 refine L (lds 2 ?_)
 refine os 1 ?_
 refine L (cl (rf_Len_some hR hw h0 hx) ?_ (hp := RSt.pm))
 rintro _ _ rfl
 refine SL_sig _ RSt.eq ?_
 refine os 1 ?_
 refine kp [32, 26, 9, 8, 4, 0, 1, 2, 3] ?_
 refine nt ?_
 refine SW_true (fun _ => (congrArg Value.bool (show (decide ((m : Int) ≥ (x.elems.length : Int))) = true from (by simp <;> omega)))) ?_
 refine sr ?_
 refine L (lds 2 ?_)
 refine os 3 ?_
 refine L (cl (rf_SetLen_some hR hw h0 hx (m := m + 1) (by omega)) ?_ (hp := RSt.pm))
 rintro v3 r ⟨hv3, hR2, hpub⟩
 obtain rfl : v3 = .tuple #[.agg #[Gs.val R.s ((R.objs.set n r).length), Gs.val R.ts R.texts.length], .bool true] := hv3.trans (by simp only [RSt.val, List.length_set])
 refine SL_sig _ (by simp only [RSt.ent, RSt.put, List.cons_append, List.append_assoc, List.nil_append]; rfl) ?_
 simp only [RObj.pub, ObjS.mk.injEq] at hpub
 have hx2 : (R.objs.set n r)[n]? = some r := get_set hx
 have h02 : objAt w (R.objs.set n r).length = some n := by rw [List.length_set]; exact h0
 have hnl2 : n < (R.objs.set n r).length := by rw [List.length_set]; exact hnl
 have hel : r.elems.length = m + 1 := by rw [hpub.2.2.2.2.2.1, setLenL_len]
 refine os 3 ?_
 refine kp [40, 39, 32, 26, 9, 8, 4, 0, 1, 2, 3] ?_
 refine L (nw 28 2 [.slice none 0 0, .slice none 0 0] ?_)
 intro b5
 refine L (st [Gs.val R.s ((R.objs.set n r).length), Gs.val R.ts R.texts.length] ?_)
 refine os 1 ?_
 refine nq ?_
 refine sr ?_
 refine os 1 ?_
 refine oV (.bool false) ?_
 refine kp [42, 11, 10, 32, 26, 9, 8, 4, 0, 1, 2, 3] ?_
 refine nt ?_
 refine cf ?_
 refine SW_skip (n_then ?_)
 refine SW_region ?_
 refine L (lds 2 ?_)
 refine L (st [Gs.val R.s ((R.objs.set n r).length), Gs.val R.ts R.texts.length] ?_)
 refine nsr ?_
 refine L (lds 2 ?_)
 refine os 1 ?_
 refine L (cl (rf_At (R := RSt.mk R.s (R.objs.set n r) R.ts R.texts) hw (w := w)) ?_)
 rintro v4 _ hv4
 obtain rfl : v4 = .int .i64 (n : Int) := hv4.trans (by simp only []; unfold atI; rw [h02])
 refine un ?_
 refine os 1 ?_
 refine kp [12, 42, 11, 10, 32, 26, 9, 8, 4, 0, 1, 2, 3] ?_
 refine nq ?_
 refine SW_perm _ (perm_cc (perm_cc (perm_ca perm_cz))) ?_
 refine SW_perm ((Gs.ent 9 1 r.ns (r.names.map encS)) ++ ((Gs.ent 35 3 r.ds (r.descs.flatMap descCells)) ++ ((Gs.ent 33 1 r.es (r.elems.map encU)) ++ ((Gs.ent 33 1 r.is (r.inner.map encU)) ++ (((List.eraseIdx (R.objs.set n r) n).flatMap RObj.ent) ++ ((b1, .cells 28 2 [Gs.val R.s ((R.objs.set n r).length), Gs.val R.ts R.texts.length]) :: ((b5, .cells 28 2 [Gs.val R.s ((R.objs.set n r).length), Gs.val R.ts R.texts.length]) :: ((Gs.ent 83 7 R.s ((R.objs.set n r).flatMap RObj.cells)) ++ ((Gs.ent 9 1 R.ts (R.texts.map encS)) ++ ((b2, .cells 28 2 [.slice none 0 0, .slice none 0 0]) :: ([]))))))))))) (robj_focus hx2 _) ?_
 refine SW_region ?_
 refine os 1 ?_
 refine L (ld ?_)
 refine os 1 ?_
 refine L (ixg (n : Int) (n * 7) hR2.row Tryz.underlying25 ?_)
 refine L (ldr [.int .i64 r.kind, .int .u64 r.proto, .bool r.shut, Gs.val r.ns r.names.length, Gs.val r.ds r.descs.length, Gs.val r.es r.elems.length, Gs.val r.is r.inner.length] (cells_cons (Gs.cell hR2.row (fun e he => (mem_a (mem_a (mem_a (mem_a (mem_a (mem_c (mem_c (mem_h he))))))))) (flat_cell RObj.len hx2 (j := 0) (by decide) rfl)) (cells_cons (Gs.cell hR2.row (fun e he => (mem_a (mem_a (mem_a (mem_a (mem_a (mem_c (mem_c (mem_h he))))))))) (flat_cell RObj.len hx2 (j := 1) (by decide) rfl)) (cells_cons (Gs.cell hR2.row (fun e he => (mem_a (mem_a (mem_a (mem_a (mem_a (mem_c (mem_c (mem_h he))))))))) (flat_cell RObj.len hx2 (j := 2) (by decide) rfl)) (cells_cons (Gs.cell hR2.row (fun e he => (mem_a (mem_a (mem_a (mem_a (mem_a (mem_c (mem_c (mem_h he))))))))) (flat_cell RObj.len hx2 (j := 3) (by decide) rfl)) (cells_cons (Gs.cell hR2.row (fun e he => (mem_a (mem_a (mem_a (mem_a (mem_a (mem_c (mem_c (mem_h he))))))))) (flat_cell RObj.len hx2 (j := 4) (by decide) rfl)) (cells_cons (Gs.cell hR2.row (fun e he => (mem_a (mem_a (mem_a (mem_a (mem_a (mem_c (mem_c (mem_h he))))))))) (flat_cell RObj.len hx2 (j := 5) (by decide) rfl)) (cells_cons (Gs.cell hR2.row (fun e he => (mem_a (mem_a (mem_a (mem_a (mem_a (mem_c (mem_c (mem_h he))))))))) (flat_cell RObj.len hx2 (j := 6) (by decide) rfl)) cells_nil))))))) ?_)
 refine L (nw 83 7 [.int .i64 0, .int .u64 0, .bool false, .slice none 0 0, .slice none 0 0, .slice none 0 0, .slice none 0 0] ?_)
 intro b6
 refine L (st [.int .i64 r.kind, .int .u64 r.proto, .bool r.shut, Gs.val r.ns r.names.length, Gs.val r.ds r.descs.length, Gs.val r.es r.elems.length, Gs.val r.is r.inner.length] ?_)
 refine nsr ?_
 refine L (nws 33 0 0 [] ?_)
 intro b7
 refine os 1 ?_
 refine L (ld ?_)
 refine SL_sig ((Gs.ent 33 1 (Gs.at b7 0) (([] : List Int).map encU)) ++ ((b6, .cells 83 7 [.int .i64 r.kind, .int .u64 r.proto, .bool r.shut, Gs.val r.ns r.names.length, Gs.val r.ds r.descs.length, Gs.val r.es r.elems.length, Gs.val r.is r.inner.length]) :: ((Gs.ent 9 1 r.ns (r.names.map encS)) ++ ((Gs.ent 35 3 r.ds (r.descs.flatMap descCells)) ++ ((Gs.ent 33 1 r.es (r.elems.map encU)) ++ ((Gs.ent 33 1 r.is (r.inner.map encU)) ++ (((List.eraseIdx (R.objs.set n r) n).flatMap RObj.ent) ++ ((b1, .cells 28 2 [Gs.val R.s ((R.objs.set n r).length), Gs.val R.ts R.texts.length]) :: ((b5, .cells 28 2 [Gs.val R.s ((R.objs.set n r).length), Gs.val R.ts R.texts.length]) :: ((Gs.ent 83 7 R.s ((R.objs.set n r).flatMap RObj.cells)) ++ ((Gs.ent 9 1 R.ts (R.texts.map encS)) ++ ((b2, .cells 28 2 [.slice none 0 0, .slice none 0 0]) :: ([]))))))))))))) rfl ?_
 refine L (O_append (size := 1) (bytes := 8) (z := .int .u64 0) (Gs.at b7 0) 0 r.elems.length (Gs.addr r.es) (Gs.cap r.es) (([] : List Int).map encU) (r.elems.map encU) ((([] : List Int) ++ r.elems).map encU) (map_app _ _) (fun _ => rfl) (fun _ => rfl) Tryz.underlying36 (by kernel_rfl) rfl (by decide) ⟨Nat.le_refl _, by unfold maxLen; omega, rfl⟩ (Gs.ok.len (show Gs.ok 1 (r.elems).length r.es (r.elems.map encU) from (RSt.ok.at (x := r) hR2 hx2).es)) (Gs.src (show Gs.ok 1 (r.elems).length r.es (r.elems.map encU) from (RSt.ok.at (x := r) hR2 hx2).es) (fun e he => (mem_a (mem_c (mem_a (mem_a (mem_h he))))))) (map_one (fun _ => rfl) _) (by omega) (by decide) rfl ?_)
 intro s8 hks8 hfs8
 rw [show 0 + r.elems.length = (([] : List Int) ++ r.elems).length from by simp]
 rw [show 0 + r.elems.length = (([] : List Int) ++ r.elems).length from by simp] at hks8
 have hls8 : (([] : List Int) ++ r.elems).length = ([] : List Int).length + r.elems.length := by simp
 refine os 1 ?_
 refine kp [14, 13, 12, 42, 11, 10, 32, 26, 9, 8, 4, 0, 1, 2, 3] ?_
 refine nsr ?_
 refine os 3 ?_
 refine L (ixg (m : Int) (m) hks8 Tryz.underlying36 ?_)
 obtain ⟨e1, he1⟩ : ∃ y_, (([] : List Int) ++ r.elems)[m]? = some y_ := ⟨_, List.getElem?_eq_getElem (by omega)⟩
 have hok1 := Gs.ok.relen (ys := (((([] : List Int) ++ r.elems).set m wd).map encU)) hks8 (by simp)
 refine L (O_storeG (ys := (((([] : List Int) ++ r.elems).set m wd).map encU)) s8 (m) (.int .u64 wd) [.int .u64 wd] (Gs.ok.ne hks8 (by first | omega | (simp; omega))) (fun _ => rfl) (fun _ => rfl) rfl (by kernel_rfl) rfl (by simp; omega) (row_lay_map wd (by omega)) rfl ?_)
 refine nq ?_
 rw [show (([] : List Int) ++ r.elems).length = ((([] : List Int) ++ r.elems).set m wd).length from by simp]
 refine SW_region ?_
 refine os 2 ?_
 refine L (st [.int .i64 r.kind, .int .u64 r.proto, .bool r.shut, Gs.val r.ns r.names.length, Gs.val r.ds r.descs.length, Gs.val s8 (((([] : List Int) ++ r.elems).set m wd).length), Gs.val r.is r.inner.length] ?_)
 refine nsr ?_
 refine L (lds 2 ?_)
 refine os 1 ?_
 refine kp [64, 63, 14, 13, 12, 42, 11, 10, 32, 26, 9, 8, 4, 0, 1, 2, 3] ?_
 refine L (lds 7 ?_)
 refine L (cl (rf_with (RObj.mk r.kind r.proto r.shut r.ns r.names r.ds r.descs s8 ((([] : List Int) ++ r.elems).set m wd) r.is r.inner) hR2.row hx2) ?_)
 rintro _ _ rfl
 refine L (st [Gs.val R.s ((R.objs.set n r).length), Gs.val R.ts R.texts.length] ?_)
 refine os 1 ?_
 refine kp [9, 14, 13, 12, 42, 11, 10, 32, 26, 8, 4, 0, 1, 2, 3] ?_
 refine nt ?_
 refine SW_ret ?_
 refine body_endC [.agg #[Gs.val R.s ((R.objs.set n r).length), Gs.val R.ts R.texts.length], .bool true] (fun _ => (.cons ⟨b2, 0, rfl, .inl ⟨[Gs.val R.s ((R.objs.set n r).length), Gs.val R.ts R.texts.length], by kernel_rfl, (cells_cons (Cell.own mem_z rfl) (cells_cons (Cell.own mem_z rfl) cells_nil)), rfl⟩⟩ (.cons rfl .nil))) ?_
 have hk_ := RSt.ok.put hR2 hx2 (x' := (RObj.mk r.kind r.proto r.shut r.ns r.names r.ds r.descs s8 ((([] : List Int) ++ r.elems).set m wd) r.is r.inner)) ⟨(show Gs.ok 1 (r.names).length r.ns (r.names.map encS) from (RSt.ok.at (x := r) hR2 hx2).ns), (show Gs.ok 3 (r.descs).length r.ds (r.descs.flatMap descCells) from (RSt.ok.at (x := r) hR2 hx2).ds), (by have q_ := hok1; simp only [List.nil_append, List.length_set] at q_ ⊢; exact q_), (show Gs.ok 1 (r.inner).length r.is (r.inner.map encU) from (RSt.ok.at (x := r) hR2 hx2).is)⟩
 have hb_ := RSt.back (R := RSt.mk R.s (R.objs.set n r) R.ts R.texts) hx2 (RObj.mk r.kind r.proto r.shut r.ns r.names r.ds r.descs s8 ((([] : List Int) ++ r.elems).set m wd) r.is r.inner)
 simp only [RSt.put, List.set_set, List.length_set] at hk_ hb_
 refine ⟨(RObj.mk r.kind r.proto r.shut r.ns r.names r.ds r.descs s8 ((([] : List Int) ++ r.elems).set m wd) r.is r.inner), ?_, ?_, hk_, ?_⟩
 · refine Own.trans (ow (S := ((Gs.ent 83 7 R.s ((List.set (R.objs.set n r) n (RObj.mk r.kind r.proto r.shut r.ns r.names r.ds r.descs s8 ((([] : List Int) ++ r.elems).set m wd) r.is r.inner)).flatMap RObj.cells)) ++ ((Gs.ent 9 1 r.ns (r.names.map encS)) ++ ((Gs.ent 35 3 r.ds (r.descs.flatMap descCells)) ++ ((Gs.ent 33 1 s8 (((([] : List Int) ++ r.elems).set m wd).map encU)) ++ ((Gs.ent 33 1 r.is (r.inner.map encU)) ++ (((List.eraseIdx (R.objs.set n r) n).flatMap RObj.ent) ++ ((Gs.ent 9 1 R.ts (R.texts.map encS)) ++ ([])))))))))) (Own.of_perm ?_)
   simp only [RSt.put, List.set_set, List.length_set] at hb_ ⊢
   exact hb_
 · simp only [RSt.val, List.length_set]; rfl
 · simp only [RObj.pub, List.nil_append, ObjS.mk.injEq]
   obtain ⟨p1, p2, p3, p4, p5, p6, p7⟩ := hpub
   exact ⟨p1, p2, p3, p4, p5, by rw [p6], p7⟩

end Go.Proofs.YtdfhbheipagnmaaGreat
namespace Go.Proofs.YtdfhbheipagnmaaGreat
open Go.Sl

theorem rf_Text {W0 : World} {R : RSt} (hR : R.ok) (htx : R.texts.length ≤ 16384) (key : ByteArray) : SC Tryz.prog W0 33 #[R.val, .string key] R.ent (Ret (fun R' : RSt => R'.ent) (fun v R' => v = .tuple #[R'.val, .int .u64 (textP R.texts key).2.1, .bool (textP R.texts key).2.2] ∧ R'.ok ∧ R'.objs = R.objs ∧ R'.texts = (textP R.texts key).1)) := by
 refine SC_body (fn := Tryz.f33) (n := 49) Tryz.func33 rfl (by kernel_rfl) (ρ := [(0, .agg #[Gs.val R.s R.objs.length, Gs.val R.ts R.texts.length]), (1, .string key)]) rfl ?_
 refine SW_sig _ RSt.eq0 ?_
 have hcap : R.texts.length ≤ maxLen := Nat.le_trans (Gs.ok.cap_le hR.ts) (Gs.ok.cap_max hR.ts)
 unfold maxLen at hcap
 refine sr ?_
 refine L (nw 28 2 [Gs.val R.s R.objs.length, Gs.val R.ts R.texts.length] ?_)
 intro b1
 refine L (nw 28 2 [.slice none 0 0, .slice none 0 0] ?_)
 intro b2
 refine os 2 ?_
 refine nq ?_
 refine sr ?_
 refine os 1 ?_
 refine nt ?_
 refine SW_block ?_
 refine SW_loop (α := Nat) (fun z_ ρ_ σ_ => Fits ρ_ σ_ [(0, .agg #[Gs.val R.s R.objs.length, Gs.val R.ts R.texts.length]), (1, .string key), (2, pt b1 0), (4, pt b2 0), (5, .int .u64 0), (6, .bool false), (7, .int .i64 (z_ : Int))] ((b2, .cells 28 2 [.slice none 0 0, .slice none 0 0]) :: ((b1, .cells 28 2 [Gs.val R.s R.objs.length, Gs.val R.ts R.texts.length]) :: ((Gs.ent 83 7 R.s (R.objs.flatMap RObj.cells)) ++ ((R.objs.flatMap RObj.ent) ++ ((Gs.ent 9 1 R.ts (R.texts.map encS)) ++ ([])))))) ∧ z_ ≤ R.texts.length ∧ ixS R.texts key = ixFrom (fun a : ByteArray => decide (a = key)) (R.texts.drop z_) z_) (fun z_ => R.texts.length - z_) 0 ⟨⟨fun _ => rfl, ow⟩, Nat.zero_le _, rfl⟩ ?_
 rintro i ρ_ σ_ ⟨hfit, hi0, hi1⟩
 refine SW_fits hfit ?_
 clear hfit
 refine SW_seq ?_
 refine sr ?_
 refine os 2 ?_
 refine L (ld ?_)
 refine os 2 ?_
 refine kp [12, 0, 1, 2, 4, 5, 6, 7] ?_
 refine nt ?_
 refine cdp (fun hc3 : (i : Int) < (R.texts.length : Int) => ?_) (fun hc3 => ?_)
 ·skip
  refine SW_skip (n_then ?_)
  refine SW_seq ?_
  refine SW_block ?_
  refine sr ?_
  refine os 1 ?_
  refine L (ld ?_)
  refine os 1 ?_
  refine L (ixg (i : Int) (i) hR.ts Tryz.underlying26 ?_)
  obtain ⟨e1, he1⟩ : ∃ y_, R.texts[i]? = some y_ := ⟨_, List.getElem?_eq_getElem (by omega)⟩
  refine L (ld ?_ (hc := Gs.cell hR.ts (fun e he => (mem_c (mem_c (mem_a (mem_a (mem_h he)))))) (map_cell he1 rfl)))
  refine os 1 ?_
  refine oX (.bool (e1.toList == key.toList)) (.bool (decide (e1 = key))) (congrArg Value.bool (by rw [str_eq])) ?_
  refine kp [21, 12, 0, 1, 2, 4, 5, 6, 7] ?_
  refine nt ?_
  refine cdp (fun hc4 : e1 = key => ?_) (fun hc4 => ?_)
  ·skip
   refine sr ?_
   refine L (lds 2 ?_)
   refine os 3 ?_
   refine L (st [Gs.val R.s R.objs.length, Gs.val R.ts R.texts.length] ?_)
   refine os 2 ?_
   refine kp [6, 5, 21, 12, 0, 1, 2, 4, 7] ?_
   refine nt ?_
   refine SW_ret (r_in (r_then (r_then (r_in (r_then ?_)))))
   refine body_endC [.agg #[Gs.val R.s R.objs.length, Gs.val R.ts R.texts.length], .int .u64 (18445618173802708992 + (i : Int)), .bool true] (fun _ => (.cons ⟨b2, 0, rfl, .inl ⟨[Gs.val R.s R.objs.length, Gs.val R.ts R.texts.length], by kernel_rfl, (cells_cons (Cell.own mem_z rfl) (cells_cons (Cell.own mem_z rfl) cells_nil)), rfl⟩⟩ (.cons rfl (.cons rfl .nil)))) ?_
   have e8 : ixS R.texts key = i := by rw [hi1, ixFrom_at he1, if_pos (by simpa using hc4)]
   have e9 : textP R.texts key = (R.texts, txtW i, true) := by unfold textP; rw [if_pos (by omega), e8]; rfl
   rw [e9]
   refine ⟨R, RSt.own, congrArg (fun i => Value.tuple #[_, .int .u64 i, .bool true]) (by simp only []; unfold txtW; omega), hR, rfl, rfl⟩
  ·skip
   refine SW_skip (n_in (n_then ?_))
   refine SW_region ?_
   refine os 3 ?_
   refine nt ?_
   exact ⟨i + 1, by omega, ⟨fun _ => rfl, ow⟩, by omega, by rw [hi1, ixFrom_at he1, if_neg (by simpa using hc4)]⟩
 ·skip
  refine SW_exit (x_then (x_then (x_in (n_then ?_))))
  refine SW_seq ?_
  refine sr ?_
  refine os 4 ?_
  refine tbp 29 (fun hg5 => ?_) (fun hg5 => ?_)
  ·skip
   replace hg5 : (key.size : Int) > 4096 := hg5
   refine os 5 ?_
   refine kp [34, 12, 0, 1, 2, 4, 5, 6, 7] ?_
   refine nt ?_
   refine ct ?_
   refine sr ?_
   refine L (lds 2 ?_)
   refine L (st [Gs.val R.s R.objs.length, Gs.val R.ts R.texts.length] ?_)
   refine os 2 ?_
   refine nt ?_
   refine SW_ret (r_then ?_)
   refine body_endC [.agg #[Gs.val R.s R.objs.length, Gs.val R.ts R.texts.length], .int .u64 18445336698825998336, .bool false] (fun _ => (.cons ⟨b2, 0, rfl, .inl ⟨[Gs.val R.s R.objs.length, Gs.val R.ts R.texts.length], by kernel_rfl, (cells_cons (Cell.own mem_z rfl) (cells_cons (Cell.own mem_z rfl) cells_nil)), rfl⟩⟩ (.cons rfl (.cons rfl .nil)))) ?_
   have e8 : ixS R.texts key < 0 := by rw [hi1, ixFrom_end (by omega)]; decide
   have e9 : textP R.texts key = (R.texts, 18445336698825998336, false) := by unfold textP; rw [if_neg (by omega), if_pos (by omega)]
   rw [e9]
   exact ⟨R, RSt.own, rfl, hR, rfl, rfl⟩
  ·skip
   replace hg5 : ¬ ((key.size : Int) > 4096) := hg5
   refine os 1 ?_
   refine L (ld ?_)
   refine os 3 ?_
   refine kp [34, 12, 0, 1, 2, 4, 5, 6, 7] ?_
   refine nt ?_
   refine cdp (fun hc6 : (R.texts.length : Int) ≥ 16384 => ?_) (fun hc6 => ?_)
   ·skip
    refine sr ?_
    refine L (lds 2 ?_)
    refine L (st [Gs.val R.s R.objs.length, Gs.val R.ts R.texts.length] ?_)
    refine os 2 ?_
    refine nt ?_
    refine SW_ret (r_then ?_)
    refine body_endC [.agg #[Gs.val R.s R.objs.length, Gs.val R.ts R.texts.length], .int .u64 18445336698825998336, .bool false] (fun _ => (.cons ⟨b2, 0, rfl, .inl ⟨[Gs.val R.s R.objs.length, Gs.val R.ts R.texts.length], by kernel_rfl, (cells_cons (Cell.own mem_z rfl) (cells_cons (Cell.own mem_z rfl) cells_nil)), rfl⟩⟩ (.cons rfl (.cons rfl .nil)))) ?_
    have e8 : ixS R.texts key < 0 := by rw [hi1, ixFrom_end (by omega)]; decide
    have e9 : textP R.texts key = (R.texts, 18445336698825998336, false) := by unfold textP; rw [if_neg (by omega), if_pos (by omega)]
    rw [e9]
    exact ⟨R, RSt.own, rfl, hR, rfl, rfl⟩
   ·skip
    refine SW_skip (n_then ?_)
    refine sr ?_
    refine os 1 ?_
    refine L (ld ?_)
    refine os 1 ?_
    refine L (nws 9 1 1 [.string key] ?_)
    intro b7
    refine SL_perm _ (perm_cc (perm_cc (perm_cc (perm_ca (perm_ca perm_cz))))) ?_
    refine L (O_append (size := 1) (bytes := 16) (z := .string ByteArray.empty) R.ts R.texts.length 1 (some ⟨b7, 0, none⟩) 1 (R.texts.map encS) ([.string key]) ((R.texts ++ [key]).map encS) (map_snoc _ key rfl) (fun _ => rfl) (fun _ => rfl) Tryz.underlying26 (by kernel_rfl) rfl (by decide) hR.ts rfl (.inr ⟨b7, 0, rfl, Cells.own (mem_a mem_z) rfl⟩) rfl (by omega) (by decide) rfl ?_)
    intro s8 hks8 hfs8
    rw [show R.texts.length + 1 = (R.texts ++ [key]).length from by simp]
    rw [show R.texts.length + 1 = (R.texts ++ [key]).length from by simp] at hks8
    have hls8 : (R.texts ++ [key]).length = R.texts.length + 1 := by simp
    refine os 1 ?_
    refine L (st [Gs.val R.s R.objs.length, Gs.val s8 ((R.texts ++ [key]).length)] ?_)
    refine nq ?_
    refine SW_draw [(b1, 0, Gs.val R.s R.objs.length), (b1, 1, Gs.val s8 ((R.texts ++ [key]).length)), (b1, 1, Gs.val s8 ((R.texts ++ [key]).length))] [0, 1, 2, 3, 4, 5, 6, 7] (by kernel_rfl) (rd_cons (Cell.own mem_z rfl) (rd_cons (Cell.own mem_z rfl) (rd_cons (Cell.own mem_z rfl) rd_nil))) ?_
    refine tr 0 (.agg #[Gs.val R.s R.objs.length, Gs.val s8 ((R.texts ++ [key]).length)]) ?_ (hy := fun δ w hr => Rd_loads b1 0 [Gs.val R.s R.objs.length, Gs.val s8 ((R.texts ++ [key]).length)] rfl (by kernel_rfl) (rdm_cons List.mem_cons_self (rdm_cons (List.mem_cons_of_mem _ List.mem_cons_self) rdm_nil)) hr)
    refine aF 1 ?_
    refine aL 2 ?_
    refine aS 3 ?_
    refine kpA [45, 42, 34, 12, 0, 1, 2, 4, 5, 6, 7] ?_
    refine tk 4 (.int .i64 (IntKind.wrap .i64 (((((R.texts ++ [key]).length : Nat)) : Int) - 1))) ?_
    rw [show IntKind.wrap .i64 (((((R.texts ++ [key]).length : Nat)) : Int) - 1) = ((((R.texts ++ [key]).length : Nat)) : Int) - 1 from IntWalk.i64_in _ (by omega)]
    refine tk 5 (.int .u64 (IntKind.wrap .u64 (((((R.texts ++ [key]).length : Nat)) : Int) - 1))) ?_
    rw [show IntKind.wrap .u64 (((((R.texts ++ [key]).length : Nat)) : Int) - 1) = ((((R.texts ++ [key]).length : Nat)) : Int) - 1 from IntWalk.u64_in _ (by omega)]
    refine tk 6 (.int .u64 (IntKind.wrap .u64 (18445618173802708992 + (((((R.texts ++ [key]).length : Nat)) : Int) - 1)))) ?_
    rw [show IntKind.wrap .u64 (18445618173802708992 + (((((R.texts ++ [key]).length : Nat)) : Int) - 1)) = 18445618173802708992 + (((((R.texts ++ [key]).length : Nat)) : Int) - 1) from IntWalk.u64_in _ (by omega)]
    refine sa1 true 7 (h := st [Gs.val R.s R.objs.length, Gs.val s8 ((R.texts ++ [key]).length)] ?_)
    refine ⟨fun hnd => (rd_cons (Cell.own (mem_c mem_z) rfl) (rd_cons (Cell.own (mem_c mem_z) rfl) (rd_cons (Cell.own (mem_c mem_z) rfl) rd_nil))), ?_⟩
    refine aS 8 ?_
    refine aS 9 ?_
    refine SA_done (by kernel_rfl) (n_then ?_)
    refine SW_ret ?_
    refine body_endC [.agg #[Gs.val R.s R.objs.length, Gs.val s8 ((R.texts ++ [key]).length)], .int .u64 (18445618173802708992 + (((((R.texts ++ [key]).length : Nat)) : Int) - 1)), .bool true] (fun _ => (.cons ⟨b2, 0, rfl, .inl ⟨[Gs.val R.s R.objs.length, Gs.val s8 ((R.texts ++ [key]).length)], by kernel_rfl, (cells_cons (Cell.own mem_z rfl) (cells_cons (Cell.own mem_z rfl) cells_nil)), rfl⟩⟩ (.cons rfl (.cons rfl .nil)))) ?_
    have e8 : ixS R.texts key < 0 := by rw [hi1, ixFrom_end (by omega)]; decide
    have e9 : textP R.texts key = (R.texts ++ [key], txtW R.texts.length, true) := by unfold textP; rw [if_neg (by omega), if_neg (by omega)]
    rw [e9]
    refine ⟨RSt.mk R.s R.objs s8 (R.texts ++ [key]), ?_, congrArg (fun i => Value.tuple #[_, .int .u64 i, .bool true]) (by simp only [List.length_append, List.length_singleton]; unfold txtW; omega), ⟨hR.row, hR.each, hks8⟩, rfl, rfl⟩
    exact Own.trans (ow (S := ((Gs.ent 83 7 R.s (R.objs.flatMap RObj.cells)) ++ ((R.objs.flatMap RObj.ent) ++ ((Gs.ent 9 1 s8 ((R.texts ++ [key]).map encS)) ++ ([])))))) (Own.of_perm (List.Perm.of_eq (by simp only [RSt.ent, List.append_nil])))

end Go.Proofs.YtdfhbheipagnmaaGreat
namespace Go.Proofs.YtdfhbheipagnmaaGreat
open Go.Sl
/-- An object's prototype; null, if there is no object. -/
def protoW (l : List ObjS) (w : Int) : Int := match objAt w l.length with | some n => (match l[n]? with | some o => o.proto | none => 18445336698825998337) | none => 18445336698825998337
theorem protoW_none {l : List ObjS} {w : Int} (h : objAt w l.length = none) : protoW l w = 18445336698825998337 := by unfold protoW; rw [h]
theorem protoW_some {l : List ObjS} {w : Int} {n : Nat} {o : ObjS} (h : objAt w l.length = some n) (ho : l[n]? = some o) : protoW l w = o.proto := by unfold protoW; rw [h]; simp only []; rw [ho]
def upN (l : List ObjS) (p : Int) : Nat → Int
  | 0 => p
  | i + 1 => protoW l (upN l p i)
def hitP (l : List ObjS) (p w : Int) : Bool := (List.range (l.length + 1)).any (fun i => decide (upN l p i = w))
theorem hitP_iff {l : List ObjS} {p w : Int} : hitP l p w = true ↔ ∃ i, i ≤ l.length ∧ upN l p i = w := by
  unfold hitP
  rw [List.any_eq_true]
  constructor
  · rintro ⟨i, h1, h2⟩
    exact ⟨i, by have := List.mem_range.1 h1; omega, of_decide_eq_true h2⟩
  · rintro ⟨i, h1, h2⟩
    exact ⟨i, List.mem_range.2 (by omega), decide_eq_true h2⟩
abbrev ObjS.under (o : ObjS) (p : Int) : ObjS := ⟨o.kind, p, o.shut, o.names, o.descs, o.elems, o.inner⟩
def reproP (l : List ObjS) (w p : Int) : List ObjS := match objAt w l.length with
  | none => l
  | some n => match l[n]? with
    | none => l
    | some o => if (p ≠ 18445336698825998337 ∧ objAt p l.length = none) ∨ hitP l p w = true then l else l.set n (o.under p)
theorem reproP_none {l : List ObjS} {w p : Int} (h : objAt w l.length = none) : reproP l w p = l := by unfold reproP; rw [h]
theorem reproP_no {l : List ObjS} {w p : Int} (h : (p ≠ 18445336698825998337 ∧ objAt p l.length = none) ∨ hitP l p w = true) : reproP l w p = l := by
  unfold reproP
  cases objAt w l.length with
  | none => rfl
  | some n =>
    simp only []
    cases l[n]? with
    | none => rfl
    | some o => exact if_pos h
theorem reproP_yes {l : List ObjS} {w p : Int} {n : Nat} {o : ObjS} (h0 : objAt w l.length = some n) (ho : l[n]? = some o) (h1 : ¬ (p ≠ 18445336698825998337 ∧ objAt p l.length = none)) (h2 : hitP l p w = false) : reproP l w p = l.set n (o.under p) := by
  unfold reproP
  rw [h0]
  simp only []
  rw [ho]
  simp only []
  exact if_neg (fun q => q.elim h1 (by rw [h2]; decide))
abbrev protosOk (l : List ObjS) : Prop := ∀ o ∈ l, wordOk o.proto
theorem protoW_ok {l : List ObjS} (hl : protosOk l) (w : Int) : wordOk (protoW l w) := by
  unfold protoW
  cases objAt w l.length with
  | none => exact (by decide : wordOk 18445336698825998337)
  | some n =>
    simp only []
    cases h : l[n]? with
    | none => exact (by decide : wordOk 18445336698825998337)
    | some o => exact hl o (List.mem_of_getElem? h)
theorem upN_ok {l : List ObjS} (hl : protosOk l) {p : Int} (hp : wordOk p) : ∀ i, wordOk (upN l p i)
  | 0 => hp
  | i + 1 => protoW_ok hl _
variable {W0 : World} {R : RSt}
theorem rf_ProtoW (hR : R.ok) {w : Int} (hw : wordOk w) : SC Tryz.prog W0 66 #[R.val, .int .u64 w] R.ent (Ret (fun _ : Unit => R.ent) (fun v _ => v = .int .u64 (protoW R.pub w))) := by
  cases h0 : objAt w R.objs.length with
  | none => rw [protoW_none (by rw [RSt.pub_len]; exact h0)]; exact rf_Proto_none hR hw h0
  | some n =>
    have hl := (objAt_tag h0).2
    have hx : R.objs[n]? = some R.objs[n] := List.getElem?_eq_getElem hl
    rw [protoW_some (by rw [RSt.pub_len]; exact h0) (RSt.pub_at hx)]
    exact rf_Proto_some hR hw h0 hx
end Go.Proofs.YtdfhbheipagnmaaGreat
namespace Go.Proofs.YtdfhbheipagnmaaGreat
open Go.Sl

theorem rf_Reproto_none {W0 : World} {R : RSt} (hR : R.ok) (hlen : R.objs.length ≤ 65536) {w : Int} (hw : wordOk w) (h0 : objAt w R.objs.length = none) {p : Int} (hwp : wordOk p) (hP : protosOk R.pub) : SC Tryz.prog W0 22 #[R.val, .int .u64 w, .int .u64 p] R.ent (Ret (fun R' : RSt => R'.ent) (fun v R' => v = R'.val ∧ R'.ok ∧ R'.pub = reproP R.pub w p ∧ R'.texts = R.texts)) := by
 refine SC_body (fn := Tryz.f22) (n := 53) Tryz.func22 rfl (by kernel_rfl) (ρ := [(0, .agg #[Gs.val R.s R.objs.length, Gs.val R.ts R.texts.length]), (1, .int .u64 w), (2, .int .u64 p)]) rfl ?_
 refine SW_sig _ RSt.eq0 ?_
 have hcap : R.objs.length ≤ 65536 := hlen
 refine sr ?_
 refine L (nw 28 2 [Gs.val R.s R.objs.length, Gs.val R.ts R.texts.length] ?_)
 intro b1
 refine L (nw 28 2 [.slice none 0 0, .slice none 0 0] ?_)
 intro b2
 refine nsr ?_
 refine L (lds 2 ?_)
 refine os 1 ?_
 refine L (cl (rf_At (R := RSt.mk R.s R.objs R.ts R.texts) hw (w := w)) ?_)
 rintro v1 _ hv1
 obtain rfl : v1 = .int .i64 (-1) := hv1.trans (by simp only []; unfold atI; rw [h0])
 refine un ?_
 refine os 1 ?_
 refine kp [7, 6, 3, 0, 1, 2] ?_
 refine nq ?_
 refine sr ?_
 refine os 1 ?_
 refine oV (.bool true) ?_
 refine os 10 ?_
 refine kp [25, 7, 6, 3, 0, 1, 2] ?_
 refine nt ?_
 refine ct ?_
 refine sr ?_
 refine L (lds 2 ?_)
 refine L (st [Gs.val R.s R.objs.length, Gs.val R.ts R.texts.length] ?_)
 refine nt ?_
 refine SW_ret (r_then ?_)
 refine body_endC [.agg #[Gs.val R.s R.objs.length, Gs.val R.ts R.texts.length]] (fun _ => (.cons ⟨b2, 0, rfl, .inl ⟨[Gs.val R.s R.objs.length, Gs.val R.ts R.texts.length], by kernel_rfl, (cells_cons (Cell.own mem_z rfl) (cells_cons (Cell.own mem_z rfl) cells_nil)), rfl⟩⟩ .nil)) ?_
 exact ⟨R, RSt.own, rfl, hR, by rw [reproP_none (by rw [RSt.pub_len]; exact h0)], rfl⟩

theorem rf_Reproto_some {W0 : World} {R : RSt} (hR : R.ok) (hlen : R.objs.length ≤ 65536) {w : Int} (hw : wordOk w) {n : Nat} {x : RObj} (h0 : objAt w R.objs.length = some n) (hx : R.objs[n]? = some x) {p : Int} (hwp : wordOk p) (hP : protosOk R.pub) : SC Tryz.prog W0 22 #[R.val, .int .u64 w, .int .u64 p] R.ent (Ret (fun R' : RSt => R'.ent) (fun v R' => v = R'.val ∧ R'.ok ∧ R'.pub = reproP R.pub w p ∧ R'.texts = R.texts)) := by
 have hnl := (List.getElem?_eq_some_iff.1 hx).1
 refine SC_body (fn := Tryz.f22) (n := 53) Tryz.func22 rfl (by kernel_rfl) (ρ := [(0, .agg #[Gs.val R.s R.objs.length, Gs.val R.ts R.texts.length]), (1, .int .u64 w), (2, .int .u64 p)]) rfl ?_
 refine SW_sig _ RSt.eq0 ?_
 have hcap : R.objs.length ≤ 65536 := hlen
 refine sr ?_
 refine L (nw 28 2 [Gs.val R.s R.objs.length, Gs.val R.ts R.texts.length] ?_)
 intro b1
 refine L (nw 28 2 [.slice none 0 0, .slice none 0 0] ?_)
 intro b2
 refine nsr ?_
 refine L (lds 2 ?_)
 refine os 1 ?_
 refine L (cl (rf_At (R := RSt.mk R.s R.objs R.ts R.texts) hw (w := w)) ?_)
 rintro v1 _ hv1
 obtain rfl : v1 = .int .i64 (n : Int) := hv1.trans (by simp only []; unfold atI; rw [h0])
 refine un ?_
 refine os 1 ?_
 refine kp [7, 6, 3, 0, 1, 2] ?_
 refine nq ?_
 refine sr ?_
 refine os 3 ?_
 refine pn 16 (show (decide ((n : Int) < 0)) = false from (by simp)) ?_
 refine os 3 ?_
 refine tb 19 (fun hg4 => ?_) (fun hg4 => ?_)
 ·skip
  replace hg4 : (p != 18445336698825998337) = true := hg4
  simp only [beq_iff_eq, bne_iff_ne, ne_eq, beq_eq_false_iff_ne, bne_eq_false_iff_eq] at hg4
  refine L (lds 2 ?_)
  refine os 1 ?_
  rcases hm1 : objAt p R.objs.length with _ | m1
  ·skip
   refine L (cl (rf_At (R := RSt.mk R.s R.objs R.ts R.texts) hwp (w := p)) ?_)
   rintro v2 _ hv2
   obtain rfl : v2 = .int .i64 (-1) := hv2.trans (by simp only []; unfold atI; rw [hm1])
   refine un ?_
   refine oV (.bool true) ?_
   refine os 2 ?_
   refine kp [25, 7, 6, 3, 0, 1, 2] ?_
   refine nt ?_
   refine ct ?_
   refine sr ?_
   refine L (lds 2 ?_)
   refine L (st [Gs.val R.s R.objs.length, Gs.val R.ts R.texts.length] ?_)
   refine nt ?_
   refine SW_ret (r_then ?_)
   refine body_endC [.agg #[Gs.val R.s R.objs.length, Gs.val R.ts R.texts.length]] (fun _ => (.cons ⟨b2, 0, rfl, .inl ⟨[Gs.val R.s R.objs.length, Gs.val R.ts R.texts.length], by kernel_rfl, (cells_cons (Cell.own mem_z rfl) (cells_cons (Cell.own mem_z rfl) cells_nil)), rfl⟩⟩ .nil)) ?_
   first | (exfalso; omega) | exact ⟨R, RSt.own, rfl, hR, by rw [reproP_no (.inl ⟨by first | assumption | omega, by rw [RSt.pub_len]; assumption⟩)], rfl⟩
  ·skip
   refine L (cl (rf_At (R := RSt.mk R.s R.objs R.ts R.texts) hwp (w := p)) ?_)
   rintro v3 _ hv3
   obtain rfl : v3 = .int .i64 (m1 : Int) := hv3.trans (by simp only []; unfold atI; rw [hm1])
   refine un ?_
   refine os 3 ?_
   refine kp [25, 7, 6, 3, 0, 1, 2] ?_
   refine nt ?_
   refine cdp (fun hc5 : (m1 : Int) < 0 => ?_) (fun hc5 => ?_)
   ·skip
    refine sr ?_
    refine L (lds 2 ?_)
    refine L (st [Gs.val R.s R.objs.length, Gs.val R.ts R.texts.length] ?_)
    refine nt ?_
    refine SW_ret (r_then ?_)
    refine body_endC [.agg #[Gs.val R.s R.objs.length, Gs.val R.ts R.texts.length]] (fun _ => (.cons ⟨b2, 0, rfl, .inl ⟨[Gs.val R.s R.objs.length, Gs.val R.ts R.texts.length], by kernel_rfl, (cells_cons (Cell.own mem_z rfl) (cells_cons (Cell.own mem_z rfl) cells_nil)), rfl⟩⟩ .nil)) ?_
    first | (exfalso; omega) | exact ⟨R, RSt.own, rfl, hR, by rw [reproP_no (.inl ⟨by first | assumption | omega, by rw [RSt.pub_len]; assumption⟩)], rfl⟩
   ·skip
    refine SW_skip (n_then ?_)
    refine sr ?_
    refine os 2 ?_
    refine nq ?_
    refine sr ?_
    refine os 1 ?_
    refine nt ?_
    refine SW_block ?_
    refine SW_loop (α := Nat) (fun z_ ρ_ σ_ => Fits ρ_ σ_ [(0, .agg #[Gs.val R.s R.objs.length, Gs.val R.ts R.texts.length]), (1, .int .u64 w), (2, .int .u64 p), (3, pt b1 0), (6, pt b2 0), (7, .int .i64 (n : Int)), (8, .int .u64 (upN R.pub p z_)), (9, .int .i64 (z_ : Int))] ((b2, .cells 28 2 [.slice none 0 0, .slice none 0 0]) :: ((b1, .cells 28 2 [Gs.val R.s R.objs.length, Gs.val R.ts R.texts.length]) :: ((Gs.ent 83 7 R.s (R.objs.flatMap RObj.cells)) ++ ((R.objs.flatMap RObj.ent) ++ ((Gs.ent 9 1 R.ts (R.texts.map encS)) ++ ([])))))) ∧ z_ ≤ R.objs.length + 1 ∧ (∀ j, j < z_ → upN R.pub p j ≠ w)) (fun z_ => R.objs.length + 1 - z_) 0 ⟨⟨fun _ => rfl, ow⟩, Nat.zero_le _, fun j hj => absurd hj (Nat.not_lt_zero j)⟩ ?_
    rintro i ρ_ σ_ ⟨hfit, hi0, hi1⟩
    refine SW_fits hfit ?_
    clear hfit
    refine SW_seq ?_
    refine sr ?_
    refine os 2 ?_
    refine L (ld ?_)
    refine os 2 ?_
    refine kp [32, 0, 1, 2, 3, 6, 7, 8, 9] ?_
    refine nt ?_
    refine cdp (fun hc6 : (i : Int) ≤ (R.objs.length : Int) => ?_) (fun hc6 => ?_)
    ·skip
     refine SW_skip (n_then ?_)
     refine SW_seq ?_
     refine SW_block ?_
     refine SW_seq ?_
     refine sr ?_
     refine os 3 ?_
     refine nt ?_
     refine cd (fun hc7 : ((upN R.pub p i) == w) = true => ?_) (fun hc7 => ?_)
     ·skip
      simp only [beq_iff_eq, beq_eq_false_iff_ne, ne_eq] at hc7
      refine sr ?_
      refine L (lds 2 ?_)
      refine L (st [Gs.val R.s R.objs.length, Gs.val R.ts R.texts.length] ?_)
      refine nt ?_
      refine SW_ret (r_then (r_in (r_then (r_then (r_in (r_then ?_))))))
      refine body_endC [.agg #[Gs.val R.s R.objs.length, Gs.val R.ts R.texts.length]] (fun _ => (.cons ⟨b2, 0, rfl, .inl ⟨[Gs.val R.s R.objs.length, Gs.val R.ts R.texts.length], by kernel_rfl, (cells_cons (Cell.own mem_z rfl) (cells_cons (Cell.own mem_z rfl) cells_nil)), rfl⟩⟩ .nil)) ?_
      exact ⟨R, RSt.own, rfl, hR, by rw [reproP_no (.inr (hitP_iff.2 ⟨i, by rw [RSt.pub_len]; omega, hc7⟩))], rfl⟩
     ·skip
      simp only [beq_iff_eq, beq_eq_false_iff_ne, ne_eq] at hc7
      refine SW_skip (n_then ?_)
      refine SW_region ?_
      refine L (lds 2 ?_)
      refine os 1 ?_
      refine L (cl (rf_ProtoW hR (w := (upN R.pub p i)) (upN_ok hP hwp _)) ?_ (hp := RSt.pm))
      rintro _ _ rfl
      refine SL_sig _ RSt.eq ?_
      refine os 1 ?_
      refine kp [8, 37, 32, 0, 1, 2, 3, 6, 7, 9] ?_
      refine SL_nil (n_in (n_then ?_))
      refine SW_region ?_
      refine os 3 ?_
      refine nt ?_
      exact ⟨i + 1, by omega, ⟨fun _ => rfl, ow⟩, by omega, fun j hj => by by_cases q_ : j = i; (subst q_; exact hc7); exact hi1 j (by omega)⟩
    ·skip
     refine SW_exit (x_then (x_then (x_in (n_then ?_))))
     refine SW_seq ?_
     refine SW_perm _ (perm_cc (perm_cc (perm_ca perm_cz))) ?_
     refine SW_perm ((Gs.ent 9 1 x.ns (x.names.map encS)) ++ ((Gs.ent 35 3 x.ds (x.descs.flatMap descCells)) ++ ((Gs.ent 33 1 x.es (x.elems.map encU)) ++ ((Gs.ent 33 1 x.is (x.inner.map encU)) ++ (((List.eraseIdx R.objs n).flatMap RObj.ent) ++ ((b2, .cells 28 2 [.slice none 0 0, .slice none 0 0]) :: ((b1, .cells 28 2 [Gs.val R.s R.objs.length, Gs.val R.ts R.texts.length]) :: ((Gs.ent 83 7 R.s (R.objs.flatMap RObj.cells)) ++ ((Gs.ent 9 1 R.ts (R.texts.map encS)) ++ ([])))))))))) (robj_focus hx _) ?_
     refine SW_region ?_
     refine os 1 ?_
     refine L (ld ?_)
     refine os 1 ?_
     refine L (ixg (n : Int) (n * 7) hR.row Tryz.underlying25 ?_)
     refine L (ldr [.int .i64 x.kind, .int .u64 x.proto, .bool x.shut, Gs.val x.ns x.names.length, Gs.val x.ds x.descs.length, Gs.val x.es x.elems.length, Gs.val x.is x.inner.length] (cells_cons (Gs.cell hR.row (fun e he => (mem_a (mem_a (mem_a (mem_a (mem_a (mem_c (mem_c (mem_h he))))))))) (flat_cell RObj.len hx (j := 0) (by decide) rfl)) (cells_cons (Gs.cell hR.row (fun e he => (mem_a (mem_a (mem_a (mem_a (mem_a (mem_c (mem_c (mem_h he))))))))) (flat_cell RObj.len hx (j := 1) (by decide) rfl)) (cells_cons (Gs.cell hR.row (fun e he => (mem_a (mem_a (mem_a (mem_a (mem_a (mem_c (mem_c (mem_h he))))))))) (flat_cell RObj.len hx (j := 2) (by decide) rfl)) (cells_cons (Gs.cell hR.row (fun e he => (mem_a (mem_a (mem_a (mem_a (mem_a (mem_c (mem_c (mem_h he))))))))) (flat_cell RObj.len hx (j := 3) (by decide) rfl)) (cells_cons (Gs.cell hR.row (fun e he => (mem_a (mem_a (mem_a (mem_a (mem_a (mem_c (mem_c (mem_h he))))))))) (flat_cell RObj.len hx (j := 4) (by decide) rfl)) (cells_cons (Gs.cell hR.row (fun e he => (mem_a (mem_a (mem_a (mem_a (mem_a (mem_c (mem_c (mem_h he))))))))) (flat_cell RObj.len hx (j := 5) (by decide) rfl)) (cells_cons (Gs.cell hR.row (fun e he => (mem_a (mem_a (mem_a (mem_a (mem_a (mem_c (mem_c (mem_h he))))))))) (flat_cell RObj.len hx (j := 6) (by decide) rfl)) cells_nil))))))) ?_)
     refine L (nw 83 7 [.int .i64 0, .int .u64 0, .bool false, .slice none 0 0, .slice none 0 0, .slice none 0 0, .slice none 0 0] ?_)
     intro b8
     refine L (st [.int .i64 x.kind, .int .u64 x.proto, .bool x.shut, Gs.val x.ns x.names.length, Gs.val x.ds x.descs.length, Gs.val x.es x.elems.length, Gs.val x.is x.inner.length] ?_)
     refine nsr ?_
     refine os 2 ?_
     refine L (st [.int .i64 x.kind, .int .u64 p, .bool x.shut, Gs.val x.ns x.names.length, Gs.val x.ds x.descs.length, Gs.val x.es x.elems.length, Gs.val x.is x.inner.length] ?_)
     refine nsr ?_
     refine L (lds 2 ?_)
     refine os 1 ?_
     refine kp [50, 49, 10, 32, 0, 1, 2, 3, 6, 7, 8, 9] ?_
     refine L (lds 7 ?_)
     refine L (cl (rf_with (RObj.mk x.kind p x.shut x.ns x.names x.ds x.descs x.es x.elems x.is x.inner) hR.row hx) ?_)
     rintro _ _ rfl
     refine L (st [Gs.val R.s R.objs.length, Gs.val R.ts R.texts.length] ?_)
     refine nt ?_
     refine SW_ret ?_
     refine body_endC [.agg #[Gs.val R.s R.objs.length, Gs.val R.ts R.texts.length]] (fun _ => (.cons ⟨b2, 0, rfl, .inl ⟨[Gs.val R.s R.objs.length, Gs.val R.ts R.texts.length], by kernel_rfl, (cells_cons (Cell.own mem_z rfl) (cells_cons (Cell.own mem_z rfl) cells_nil)), rfl⟩⟩ .nil)) ?_
     refine ⟨R.put n (RObj.mk x.kind p x.shut x.ns x.names x.ds x.descs x.es x.elems x.is x.inner), ?_, by simp only [RSt.val, RSt.put, List.length_set]; rfl, hR.put hx ⟨(show Gs.ok 1 (x.names).length x.ns (x.names.map encS) from (RSt.ok.at (x := x) hR hx).ns), (show Gs.ok 3 (x.descs).length x.ds (x.descs.flatMap descCells) from (RSt.ok.at (x := x) hR hx).ds), (show Gs.ok 1 (x.elems).length x.es (x.elems.map encU) from (RSt.ok.at (x := x) hR hx).es), (show Gs.ok 1 (x.inner).length x.is (x.inner.map encU) from (RSt.ok.at (x := x) hR hx).is)⟩, ?_, rfl⟩
     · exact Own.trans (ow (S := ((Gs.ent 83 7 R.s ((List.set R.objs n (RObj.mk x.kind p x.shut x.ns x.names x.ds x.descs x.es x.elems x.is x.inner)).flatMap RObj.cells)) ++ ((Gs.ent 9 1 x.ns (x.names.map encS)) ++ ((Gs.ent 35 3 x.ds (x.descs.flatMap descCells)) ++ ((Gs.ent 33 1 x.es (x.elems.map encU)) ++ ((Gs.ent 33 1 x.is (x.inner.map encU)) ++ (((List.eraseIdx R.objs n).flatMap RObj.ent) ++ ((Gs.ent 9 1 R.ts (R.texts.map encS)) ++ ([])))))))))) (Own.of_perm (RSt.back hx (RObj.mk x.kind p x.shut x.ns x.names x.ds x.descs x.es x.elems x.is x.inner)))
     · rw [RSt.pub_put, reproP_yes (by rw [RSt.pub_len]; exact h0) (RSt.pub_at hx)]; rfl
       · rintro ⟨q1, q2⟩; rw [RSt.pub_len] at q2; first | exact absurd q2 (by simp_all) | exact q1 (by assumption)
       · cases hq_ : hitP R.pub p w with
         | false => rfl
         | true => obtain ⟨j, j1, j2⟩ := hitP_iff.1 hq_; rw [RSt.pub_len] at j1; exact absurd j2 (hi1 j (by omega))
 ·skip
  replace hg4 : (p != 18445336698825998337) = false := hg4
  simp only [beq_iff_eq, bne_iff_ne, ne_eq, beq_eq_false_iff_ne, bne_eq_false_iff_eq] at hg4
  refine os 6 ?_
  refine kp [25, 7, 6, 3, 0, 1, 2] ?_
  refine nt ?_
  refine cf ?_
  refine SW_skip (n_then ?_)
  refine sr ?_
  refine os 2 ?_
  refine nq ?_
  refine sr ?_
  refine os 1 ?_
  refine nt ?_
  refine SW_block ?_
  refine SW_loop (α := Nat) (fun z_ ρ_ σ_ => Fits ρ_ σ_ [(0, .agg #[Gs.val R.s R.objs.length, Gs.val R.ts R.texts.length]), (1, .int .u64 w), (2, .int .u64 p), (3, pt b1 0), (6, pt b2 0), (7, .int .i64 (n : Int)), (8, .int .u64 (upN R.pub p z_)), (9, .int .i64 (z_ : Int))] ((b2, .cells 28 2 [.slice none 0 0, .slice none 0 0]) :: ((b1, .cells 28 2 [Gs.val R.s R.objs.length, Gs.val R.ts R.texts.length]) :: ((Gs.ent 83 7 R.s (R.objs.flatMap RObj.cells)) ++ ((R.objs.flatMap RObj.ent) ++ ((Gs.ent 9 1 R.ts (R.texts.map encS)) ++ ([])))))) ∧ z_ ≤ R.objs.length + 1 ∧ (∀ j, j < z_ → upN R.pub p j ≠ w)) (fun z_ => R.objs.length + 1 - z_) 0 ⟨⟨fun _ => rfl, ow⟩, Nat.zero_le _, fun j hj => absurd hj (Nat.not_lt_zero j)⟩ ?_
  rintro i ρ_ σ_ ⟨hfit, hi0, hi1⟩
  refine SW_fits hfit ?_
  clear hfit
  refine SW_seq ?_
  refine sr ?_
  refine os 2 ?_
  refine L (ld ?_)
  refine os 2 ?_
  refine kp [32, 0, 1, 2, 3, 6, 7, 8, 9] ?_
  refine nt ?_
  refine cdp (fun hc9 : (i : Int) ≤ (R.objs.length : Int) => ?_) (fun hc9 => ?_)
  ·skip
   refine SW_skip (n_then ?_)
   refine SW_seq ?_
   refine SW_block ?_
   refine SW_seq ?_
   refine sr ?_
   refine os 3 ?_
   refine nt ?_
   refine cd (fun hc10 : ((upN R.pub p i) == w) = true => ?_) (fun hc10 => ?_)
   ·skip
    simp only [beq_iff_eq, beq_eq_false_iff_ne, ne_eq] at hc10
    refine sr ?_
    refine L (lds 2 ?_)
    refine L (st [Gs.val R.s R.objs.length, Gs.val R.ts R.texts.length] ?_)
    refine nt ?_
    refine SW_ret (r_then (r_in (r_then (r_then (r_in (r_then ?_))))))
    refine body_endC [.agg #[Gs.val R.s R.objs.length, Gs.val R.ts R.texts.length]] (fun _ => (.cons ⟨b2, 0, rfl, .inl ⟨[Gs.val R.s R.objs.length, Gs.val R.ts R.texts.length], by kernel_rfl, (cells_cons (Cell.own mem_z rfl) (cells_cons (Cell.own mem_z rfl) cells_nil)), rfl⟩⟩ .nil)) ?_
    exact ⟨R, RSt.own, rfl, hR, by rw [reproP_no (.inr (hitP_iff.2 ⟨i, by rw [RSt.pub_len]; omega, hc10⟩))], rfl⟩
   ·skip
    simp only [beq_iff_eq, beq_eq_false_iff_ne, ne_eq] at hc10
    refine SW_skip (n_then ?_)
    refine SW_region ?_
    refine L (lds 2 ?_)
    refine os 1 ?_
    refine L (cl (rf_ProtoW hR (w := (upN R.pub p i)) (upN_ok hP hwp _)) ?_ (hp := RSt.pm))
    rintro _ _ rfl
    refine SL_sig _ RSt.eq ?_
    refine os 1 ?_
    refine kp [8, 37, 32, 0, 1, 2, 3, 6, 7, 9] ?_
    refine SL_nil (n_in (n_then ?_))
    refine SW_region ?_
    refine os 3 ?_
    refine nt ?_
    exact ⟨i + 1, by omega, ⟨fun _ => rfl, ow⟩, by omega, fun j hj => by by_cases q_ : j = i; (subst q_; exact hc10); exact hi1 j (by omega)⟩
  ·skip
   refine SW_exit (x_then (x_then (x_in (n_then ?_))))
   refine SW_seq ?_
   refine SW_perm _ (perm_cc (perm_cc (perm_ca perm_cz))) ?_
   refine SW_perm ((Gs.ent 9 1 x.ns (x.names.map encS)) ++ ((Gs.ent 35 3 x.ds (x.descs.flatMap descCells)) ++ ((Gs.ent 33 1 x.es (x.elems.map encU)) ++ ((Gs.ent 33 1 x.is (x.inner.map encU)) ++ (((List.eraseIdx R.objs n).flatMap RObj.ent) ++ ((b2, .cells 28 2 [.slice none 0 0, .slice none 0 0]) :: ((b1, .cells 28 2 [Gs.val R.s R.objs.length, Gs.val R.ts R.texts.length]) :: ((Gs.ent 83 7 R.s (R.objs.flatMap RObj.cells)) ++ ((Gs.ent 9 1 R.ts (R.texts.map encS)) ++ ([])))))))))) (robj_focus hx _) ?_
   refine SW_region ?_
   refine os 1 ?_
   refine L (ld ?_)
   refine os 1 ?_
   refine L (ixg (n : Int) (n * 7) hR.row Tryz.underlying25 ?_)
   refine L (ldr [.int .i64 x.kind, .int .u64 x.proto, .bool x.shut, Gs.val x.ns x.names.length, Gs.val x.ds x.descs.length, Gs.val x.es x.elems.length, Gs.val x.is x.inner.length] (cells_cons (Gs.cell hR.row (fun e he => (mem_a (mem_a (mem_a (mem_a (mem_a (mem_c (mem_c (mem_h he))))))))) (flat_cell RObj.len hx (j := 0) (by decide) rfl)) (cells_cons (Gs.cell hR.row (fun e he => (mem_a (mem_a (mem_a (mem_a (mem_a (mem_c (mem_c (mem_h he))))))))) (flat_cell RObj.len hx (j := 1) (by decide) rfl)) (cells_cons (Gs.cell hR.row (fun e he => (mem_a (mem_a (mem_a (mem_a (mem_a (mem_c (mem_c (mem_h he))))))))) (flat_cell RObj.len hx (j := 2) (by decide) rfl)) (cells_cons (Gs.cell hR.row (fun e he => (mem_a (mem_a (mem_a (mem_a (mem_a (mem_c (mem_c (mem_h he))))))))) (flat_cell RObj.len hx (j := 3) (by decide) rfl)) (cells_cons (Gs.cell hR.row (fun e he => (mem_a (mem_a (mem_a (mem_a (mem_a (mem_c (mem_c (mem_h he))))))))) (flat_cell RObj.len hx (j := 4) (by decide) rfl)) (cells_cons (Gs.cell hR.row (fun e he => (mem_a (mem_a (mem_a (mem_a (mem_a (mem_c (mem_c (mem_h he))))))))) (flat_cell RObj.len hx (j := 5) (by decide) rfl)) (cells_cons (Gs.cell hR.row (fun e he => (mem_a (mem_a (mem_a (mem_a (mem_a (mem_c (mem_c (mem_h he))))))))) (flat_cell RObj.len hx (j := 6) (by decide) rfl)) cells_nil))))))) ?_)
   refine L (nw 83 7 [.int .i64 0, .int .u64 0, .bool false, .slice none 0 0, .slice none 0 0, .slice none 0 0, .slice none 0 0] ?_)
   intro b11
   refine L (st [.int .i64 x.kind, .int .u64 x.proto, .bool x.shut, Gs.val x.ns x.names.length, Gs.val x.ds x.descs.length, Gs.val x.es x.elems.length, Gs.val x.is x.inner.length] ?_)
   refine nsr ?_
   refine os 2 ?_
   refine L (st [.int .i64 x.kind, .int .u64 p, .bool x.shut, Gs.val x.ns x.names.length, Gs.val x.ds x.descs.length, Gs.val x.es x.elems.length, Gs.val x.is x.inner.length] ?_)
   refine nsr ?_
   refine L (lds 2 ?_)
   refine os 1 ?_
   refine kp [50, 49, 10, 32, 0, 1, 2, 3, 6, 7, 8, 9] ?_
   refine L (lds 7 ?_)
   refine L (cl (rf_with (RObj.mk x.kind p x.shut x.ns x.names x.ds x.descs x.es x.elems x.is x.inner) hR.row hx) ?_)
   rintro _ _ rfl
   refine L (st [Gs.val R.s R.objs.length, Gs.val R.ts R.texts.length] ?_)
   refine nt ?_
   refine SW_ret ?_
   refine body_endC [.agg #[Gs.val R.s R.objs.length, Gs.val R.ts R.texts.length]] (fun _ => (.cons ⟨b2, 0, rfl, .inl ⟨[Gs.val R.s R.objs.length, Gs.val R.ts R.texts.length], by kernel_rfl, (cells_cons (Cell.own mem_z rfl) (cells_cons (Cell.own mem_z rfl) cells_nil)), rfl⟩⟩ .nil)) ?_
   refine ⟨R.put n (RObj.mk x.kind p x.shut x.ns x.names x.ds x.descs x.es x.elems x.is x.inner), ?_, by simp only [RSt.val, RSt.put, List.length_set]; rfl, hR.put hx ⟨(show Gs.ok 1 (x.names).length x.ns (x.names.map encS) from (RSt.ok.at (x := x) hR hx).ns), (show Gs.ok 3 (x.descs).length x.ds (x.descs.flatMap descCells) from (RSt.ok.at (x := x) hR hx).ds), (show Gs.ok 1 (x.elems).length x.es (x.elems.map encU) from (RSt.ok.at (x := x) hR hx).es), (show Gs.ok 1 (x.inner).length x.is (x.inner.map encU) from (RSt.ok.at (x := x) hR hx).is)⟩, ?_, rfl⟩
   · exact Own.trans (ow (S := ((Gs.ent 83 7 R.s ((List.set R.objs n (RObj.mk x.kind p x.shut x.ns x.names x.ds x.descs x.es x.elems x.is x.inner)).flatMap RObj.cells)) ++ ((Gs.ent 9 1 x.ns (x.names.map encS)) ++ ((Gs.ent 35 3 x.ds (x.descs.flatMap descCells)) ++ ((Gs.ent 33 1 x.es (x.elems.map encU)) ++ ((Gs.ent 33 1 x.is (x.inner.map encU)) ++ (((List.eraseIdx R.objs n).flatMap RObj.ent) ++ ((Gs.ent 9 1 R.ts (R.texts.map encS)) ++ ([])))))))))) (Own.of_perm (RSt.back hx (RObj.mk x.kind p x.shut x.ns x.names x.ds x.descs x.es x.elems x.is x.inner)))
   · rw [RSt.pub_put, reproP_yes (by rw [RSt.pub_len]; exact h0) (RSt.pub_at hx)]; rfl
     · rintro ⟨q1, q2⟩; rw [RSt.pub_len] at q2; first | exact absurd q2 (by simp_all) | exact q1 (by assumption)
     · cases hq_ : hitP R.pub p w with
       | false => rfl
       | true => obtain ⟨j, j1, j2⟩ := hitP_iff.1 hq_; rw [RSt.pub_len] at j1; exact absurd j2 (hi1 j (by omega))

theorem rf_Elem_some {W0 : World} {R : RSt} (hR : R.ok) {w : Int} (hw : wordOk w) {n : Nat} {x : RObj} (h0 : objAt w R.objs.length = some n) (hx : R.objs[n]? = some x) (m : Int) : SC Tryz.prog W0 48 #[R.val, .int .u64 w, .int .i64 m] R.ent (Ret (fun _ : Unit => R.ent) (fun v _ => v = .tuple #[.int .u64 (elemO x.elems m).1, .bool (elemO x.elems m).2])) := by
 have hnl := (List.getElem?_eq_some_iff.1 hx).1
 refine SC_body (fn := Tryz.f48) (n := 32) Tryz.func48 rfl (by kernel_rfl) (ρ := [(0, .agg #[Gs.val R.s R.objs.length, Gs.val R.ts R.texts.length]), (1, .int .u64 w), (2, .int .i64 m)]) rfl ?_
 refine SW_sig _ RSt.eq0 ?_
 refine sr ?_
 refine L (nw 28 2 [Gs.val R.s R.objs.length, Gs.val R.ts R.texts.length] ?_)
 intro b1
 refine os 2 ?_
 refine nq ?_
 refine sr ?_
 refine os 3 ?_
 refine tbp 11 (fun hg2 => ?_) (fun hg2 => ?_)
 ·skip
  replace hg2 : m < 0 := hg2
  refine os 6 ?_
  refine kp [17, 7, 6, 3, 0, 1, 2] ?_
  refine nt ?_
  refine ct ?_
  refine sr ?_
  refine os 2 ?_
  refine nt ?_
  refine SW_ret (r_then ?_)
  refine body_end (.tuple #[.int .u64 18445336698825998336, .bool false]) (fun _ => rfl) ?_
  refine ⟨(), RSt.own, ?_⟩
  rw [show elemO x.elems m = (18445336698825998336, false) from if_neg (by omega)]
 ·skip
  replace hg2 : ¬ (m < 0) := hg2
  refine os 1 ?_
  refine L (lds 2 ?_)
  refine os 1 ?_
  refine L (cl (rf_Len_some hR hw h0 hx) ?_ (hp := RSt.pm))
  rintro _ _ rfl
  refine SL_sig _ RSt.eq ?_
  refine os 2 ?_
  refine kp [17, 7, 6, 3, 0, 1, 2] ?_
  refine nt ?_
  refine cdp (fun hc3 : m ≥ (x.elems.length : Int) => ?_) (fun hc3 => ?_)
  ·skip
   refine sr ?_
   refine os 2 ?_
   refine nt ?_
   refine SW_ret (r_then ?_)
   refine body_end (.tuple #[.int .u64 18445336698825998336, .bool false]) (fun _ => rfl) ?_
   refine ⟨(), RSt.own, ?_⟩
   rw [show elemO x.elems m = (18445336698825998336, false) from if_neg (by omega)]
  ·skip
   refine SW_skip (n_then ?_)
   refine SW_seq ?_
   obtain ⟨e1, he1⟩ : ∃ y_, x.elems[m.toNat]? = some y_ := ⟨_, List.getElem?_eq_getElem (by omega)⟩
   refine SW_draw [(b1, 0, Gs.val R.s R.objs.length), (b1, 0, Gs.val R.s R.objs.length), (b1, 1, Gs.val R.ts R.texts.length), ((Gs.blk R.s), n * 7 + 5, Gs.val x.es x.elems.length), ((Gs.blk x.es), m.toNat, .int .u64 e1)] [0, 1, 2, 3, 4, 5, 6, 7, 8, 9] (by kernel_rfl) (rd_cons (Cell.own (mem_a (mem_a (mem_a mem_z))) rfl) (rd_cons (Cell.own (mem_a (mem_a (mem_a mem_z))) rfl) (rd_cons (Cell.own (mem_a (mem_a (mem_a mem_z))) rfl) (rd_cons (Gs.cell hR.row (fun e he => (mem_h he)) (flat_cell RObj.len hx (j := 5) (by decide) rfl)) (rd_cons (Gs.cell (RSt.ok.at hR hx).es (fun e he => (mem_a (mem_h ((RObj.mes hx) _ he)))) (map_cell he1 rfl)) rd_nil))))) ?_
   refine aF 0 ?_
   refine aL 1 ?_
   refine tr 2 (.agg #[Gs.val R.s R.objs.length, Gs.val R.ts R.texts.length]) ?_ (hy := fun δ w hr => Rd_loads b1 0 [Gs.val R.s R.objs.length, Gs.val R.ts R.texts.length] rfl (by kernel_rfl) (rdm_cons List.mem_cons_self (rdm_cons (List.mem_cons_of_mem _ (List.mem_cons_of_mem _ List.mem_cons_self)) rdm_nil)) hr)
   refine aS 3 ?_
   refine aS 8 ?_
   refine sa1 true 4 (h := cl (rf_At (R := RSt.mk R.s R.objs R.ts R.texts) hw (w := w)) ?_)
   rintro v3 _ hv3
   obtain rfl : v3 = .int .i64 (n : Int) := hv3.trans (by simp only []; unfold atI; rw [h0])
   try simp only [List.cons_append, List.append_assoc, List.nil_append]
   refine ⟨fun hnd => (rd_cons (Cell.own (mem_a (mem_a (mem_a mem_z))) rfl) (rd_cons (Cell.own (mem_a (mem_a (mem_a mem_z))) rfl) (rd_cons (Cell.own (mem_a (mem_a (mem_a mem_z))) rfl) (rd_cons (Gs.cell hR.row (fun e he => (mem_h he)) (flat_cell RObj.len hx (j := 5) (by decide) rfl)) (rd_cons (Gs.cell (RSt.ok.at hR hx).es (fun e he => (mem_a (mem_h ((RObj.mes hx) _ he)))) (map_cell he1 rfl)) rd_nil))))), ?_⟩
   refine aI 5 (n : Int) (n * 7) hR.row Tryz.underlying25 ?_
   refine aF 6 ?_
   refine aL 7 ?_
   refine aI 9 m (m.toNat) ((RSt.ok.at hR hx).es) Tryz.underlying36 ?_
   refine kpA [27, 17, 7, 6, 3, 0, 1, 2] ?_
   refine aL 10 ?_
   refine aS 11 ?_
   refine SA_done (by kernel_rfl) (n_then ?_)
   refine SW_seq ?_
   refine sr ?_
   refine os 2 ?_
   refine kp [30, 8, 17, 7, 6, 3, 0, 1, 2] ?_
   refine nt ?_
   refine cd (fun hc4 : (e1 == 18445336698825998340) = true => ?_) (fun hc4 => ?_)
   ·skip
    simp only [beq_iff_eq, bne_iff_ne, ne_eq, beq_eq_false_iff_ne, bne_eq_false_iff_eq] at hc4
    refine sr ?_
    refine os 2 ?_
    refine nt ?_
    refine SW_ret (r_then ?_)
    refine body_end (.tuple #[.int .u64 18445336698825998336, .bool false]) (fun _ => rfl) ?_
    refine ⟨(), RSt.own, ?_⟩
    rw [show elemO x.elems m = (18445336698825998336, false) from by unfold elemO; rw [if_pos (by omega), he1]; exact if_pos hc4]
   ·skip
    simp only [beq_iff_eq, bne_iff_ne, ne_eq, beq_eq_false_iff_ne, bne_eq_false_iff_eq] at hc4
    refine SW_skip (n_then ?_)
    refine sr ?_
    refine os 3 ?_
    refine nt ?_
    refine SW_ret ?_
    refine body_end (.tuple #[.int .u64 e1, .bool true]) (fun _ => rfl) ?_
    refine ⟨(), RSt.own, ?_⟩
    rw [show elemO x.elems m = (e1, true) from by unfold elemO; rw [if_pos (by omega), he1]; exact if_neg hc4]

end Go.Proofs.YtdfhbheipagnmaaGreat
namespace Go.Proofs.YtdfhbheipagnmaaGreat
open Go.Sl
variable {k : Nat} {H : HeapV} {F : HeapF} {n : Nat} {x : ObjL} {W0 : World}
theorem objAt_inj {w v : Int} {len n : Nat} (h : objAt w len = some n) (k : objAt v len = some n) : w = v := by
  obtain ⟨h1, -⟩ := objAt_tag h
  obtain ⟨k1, -⟩ := objAt_tag k
  unfold tagOf at h1 k1
  split at h1 <;> split at k1 <;> first | (cases h1; done) | (cases k1; done) | skip
  have a := Option.some.inj h1
  have b := Option.some.inj k1
  omega
theorem objAt_null (len : Nat) : objAt 18445336698825998337 len = none := by
  unfold objAt tagOf
  rw [if_neg (by decide)]
theorem upN_null {l : List ObjS} {p : Int} {i : Nat} (h : objAt (upN l p i) l.length = none) : ∀ j, objAt (upN l p (i + j)) l.length = none
  | 0 => h
  | j + 1 => by
    show objAt (protoW l (upN l p (i + j))) l.length = none
    rw [protoW_none (upN_null h j)]
    exact objAt_null _
theorem upN_add {l : List ObjS} {p : Int} (i : Nat) : ∀ j, upN l p (i + j) = upN l (upN l p i) j
  | 0 => rfl
  | j + 1 => congrArg (protoW l) (upN_add i j)
/-- Of more values than there may be, two are alike. -/
theorem pigeon : ∀ (n : Nat) (f : Nat → Nat), (∀ i, i ≤ n → f i < n) → ∃ a b, a < b ∧ b ≤ n ∧ f a = f b
  | 0, f, h => absurd (h 0 (Nat.le_refl 0)) (Nat.not_lt_zero _)
  | n + 1, f, h => by
    by_cases hq : ∃ i, i ≤ n ∧ f i = f (n + 1)
    · obtain ⟨i, h1, h2⟩ := hq
      exact ⟨i, n + 1, by omega, Nat.le_refl _, h2⟩
    · have hne : ∀ i, i ≤ n → f i ≠ f (n + 1) := fun i hi e => hq ⟨i, hi, e⟩
      have hl := h (n + 1) (Nat.le_refl _)
      obtain ⟨a, b, h1, h2, h3⟩ := pigeon n (fun i => if f i = n then f (n + 1) else f i) (fun i hi => by
        have := h i (by omega)
        have := hne i hi
        show (if f i = n then f (n + 1) else f i) < n
        split <;> omega)
      have ha := hne a (by omega)
      have hb := hne b h2
      refine ⟨a, b, h1, by omega, ?_⟩
      split at h3 <;> split at h3 <;> omega
/-- Does a chain of prototypes end? -/
def Ends (l : List ObjS) (p : Int) : Prop := ∃ i, objAt (upN l p i) l.length = none
theorem Ends.bound {l : List ObjS} {p : Int} (h : Ends l p) : objAt (upN l p l.length) l.length = none := by
  apply Classical.byContradiction
  intro hc
  have hall : ∀ i, i ≤ l.length → ∃ m, objAt (upN l p i) l.length = some m := fun i hi => by
    cases q : objAt (upN l p i) l.length with
    | some m => exact ⟨m, rfl⟩
    | none =>
      refine absurd ?_ hc
      have := upN_null q (l.length - i)
      rwa [show i + (l.length - i) = l.length by omega] at this
  have hf : ∀ i, i ≤ l.length → (objAt (upN l p i) l.length).getD 0 < l.length := fun i hi => by
    obtain ⟨m, hm⟩ := hall i hi
    rw [hm]
    exact (objAt_tag hm).2
  obtain ⟨a, b, h1, h2, h3⟩ := pigeon l.length (fun i => (objAt (upN l p i) l.length).getD 0) hf
  obtain ⟨ma, ha⟩ := hall a (by omega)
  obtain ⟨mb, hb⟩ := hall b h2
  simp only [ha, hb, Option.getD_some] at h3
  subst h3
  have e : upN l p a = upN l p b := objAt_inj ha hb
  have hno : ∀ K, objAt (upN l p K) l.length ≠ none := by
    intro K
    induction K using Nat.strongRecOn with
    | _ K ih =>
      intro hK
      by_cases hl : K ≤ l.length
      · obtain ⟨m, hm⟩ := hall K hl
        rw [hm] at hK; cases hK
      · refine ih (a + (K - b)) (by omega) ?_
        rw [upN_add, e, ← upN_add, show b + (K - b) = K by omega]
        exact hK
  obtain ⟨i, hi⟩ := h
  exact hno i hi
theorem hitP_no {l : List ObjS} {p w : Int} {n i : Nat} (h0 : objAt w l.length = some n) (hi : objAt (upN l p i) l.length = none) (hb : ∀ j, j < i → upN l p j ≠ w) : hitP l p w = false := by
  cases h : hitP l p w with
  | false => rfl
  | true =>
    obtain ⟨j, h1, h2⟩ := hitP_iff.1 h
    by_cases hj : j < i
    · exact absurd h2 (hb j hj)
    · have := upN_null hi (j - i)
      rw [show i + (j - i) = j by omega, h2, h0] at this
      cases this
/-- How a prototype's change moves what an object has. -/
def moveS (t : TreeP) (p : PS) (rk : Int) : TreeP × PS := if p.shape < 0 then (t, p) else ((moveP t p.shape rk).1, stepS (moveP t p.shape rk).1 p (moveP t p.shape rk).2.1 (moveP t p.shape rk).2.2)
structure SameM (x x' : ObjL) (p : Int) : Prop where
  kind : x'.kind = x.kind
  proto : x'.proto = p
  shut : x'.shut = x.shut
  elems : x'.elems = x.elems
  inner : x'.inner = x.inner
  cell : x'.cell = if 0 ≤ x.cell then -1 else x.cell
/-! guards -/
abbrev ObjL.noC (x : ObjL) : ObjL := ⟨x.kind, x.proto, x.shut, x.shape, x.ns, x.names, x.vs, x.vals, x.es, x.elems, x.is, x.inner, 0⟩
abbrev ObjL.withC (x : ObjL) (c : Int) : ObjL := ⟨x.kind, x.proto, x.shut, x.shape, x.ns, x.names, x.vs, x.vals, x.es, x.elems, x.is, x.inner, c⟩
abbrev HeapV.reg (H : HeapV) (objs : List ObjL) (cs : Gs) (cl : List CellL) : HeapV := ⟨H.s, objs, H.ts, H.texts, H.known, H.V, cs, cl, H.br⟩
abbrev GdP := List Int × List PCell
def HeapV.gd (H : HeapV) : GdP := (H.objs.map ObjL.cell, H.cl.map CellL.abs)
def valP (l : List PCell) (n : Int) : Bool := if 0 ≤ n ∧ n < l.length then (match l[n.toNat]? with | some c => c.1 | none => false) else false
theorem isV_valP (C : CellsL) (n : Int) : C.isV n = valP C.abs n := by
  unfold CellsL.isV valP
  rw [C.abs_len]
  by_cases h : 0 ≤ n ∧ n < C.l.length
  · rw [if_pos h, if_pos h]
    obtain ⟨c, hc⟩ := CellsL.get h
    rw [hc, show C.abs[n.toNat]? = some c.abs from by simp [CellsL.abs, hc]]
    rfl
  · rw [if_neg h, if_neg h]
def guardF (l : List ObjS) : Nat → Int → GdP → GdP × Int
  | 0, _, g => (g, -1)
  | k + 1, w, g => match objAt w l.length with
    | none => (g, -1)
    | some n => match l[n]?, g.1[n]? with
      | some o, some c => if 0 ≤ c ∧ valP g.2 c = true then (g, c) else
        let r := guardF l k o.proto g
        ((r.1.1.set n r.1.2.length, mkP r.1.2 r.2), (r.1.2.length : Int))
      | _, _ => (g, -1)
theorem guardF_none {l : List ObjS} {w : Int} (h : objAt w l.length = none) (k : Nat) (g : GdP) : guardF l k w g = (g, -1) := by
  cases k with
  | zero => rfl
  | succ k => unfold guardF; rw [h]
theorem guardF_old {l : List ObjS} {w : Int} {n : Nat} {o : ObjS} {c : Int} {g : GdP} (h : objAt w l.length = some n) (ho : l[n]? = some o) (hc : g.1[n]? = some c) (hv : 0 ≤ c ∧ valP g.2 c = true) (k : Nat) : guardF l (k + 1) w g = (g, c) := by
  rw [guardF, h]
  simp only [ho, hc]
  rw [if_pos hv]
theorem guardF_new {l : List ObjS} {w : Int} {n : Nat} {o : ObjS} {c : Int} {g : GdP} (h : objAt w l.length = some n) (ho : l[n]? = some o) (hc : g.1[n]? = some c) (hv : ¬ (0 ≤ c ∧ valP g.2 c = true)) (k : Nat) :
    guardF l (k + 1) w g = (((guardF l k o.proto g).1.1.set n (guardF l k o.proto g).1.2.length, mkP (guardF l k o.proto g).1.2 (guardF l k o.proto g).2), ((guardF l k o.proto g).1.2.length : Int)) := by
  rw [guardF, h]
  simp only [ho, hc]
  rw [if_neg hv]
theorem mkP_len (l : List PCell) (n : Int) : (mkP l n).length = l.length + 1 := by
  unfold mkP
  by_cases h : 0 ≤ n ∧ n < l.length
  · rw [if_pos h, List.getElem?_eq_getElem (show n.toNat < l.length by omega)]; simp
  · rw [if_neg h]; simp
structure CB (l : List PCell) : Prop where
  abv : abv l ≤ l.length
  each : ∀ c ∈ l, c.2.length ≤ l.length
theorem abv_append (a b : List PCell) : abv (a ++ b) = abv a + abv b := by simp [Go.Proofs.YtdfhbheipagnmaaGreat.abv]
theorem abv_set {l : List PCell} {i : Nat} {c : PCell} (h : l[i]? = some c) (c' : PCell) : abv (l.set i c') + c.2.length = abv l + c'.2.length := by
  obtain ⟨l1, l2, rfl, rfl⟩ := split_at h
  rw [split_set rfl]
  simp [Go.Proofs.YtdfhbheipagnmaaGreat.abv]; omega
theorem CB.mk' {l : List PCell} (h : CB l) (n : Int) : CB (mkP l n) := by
  refine ⟨?_, ?_⟩
  · rw [mkP_len]
    unfold mkP
    by_cases hn : 0 ≤ n ∧ n < l.length
    · have hc : l[n.toNat]? = some l[n.toNat] := List.getElem?_eq_getElem (show n.toNat < l.length by omega)
      rw [if_pos hn, hc]
      simp only []
      rw [abv_append]
      have := abv_set hc (l[n.toNat].1, l[n.toNat].2 ++ [(l.length : Int)])
      have := h.abv
      simp only [List.length_append, List.length_singleton] at *
      simp only [Go.Proofs.YtdfhbheipagnmaaGreat.abv, List.map_cons, List.map_nil, List.length_nil, List.sum_cons, List.sum_nil] at *
      omega
    · rw [if_neg hn, abv_append]
      have := h.abv
      simp only [Go.Proofs.YtdfhbheipagnmaaGreat.abv, List.map_cons, List.map_nil, List.length_nil, List.sum_cons, List.sum_nil] at *
      omega
  · rw [mkP_len]
    intro c hc
    unfold mkP at hc
    by_cases hn : 0 ≤ n ∧ n < l.length
    · have hg : l[n.toNat]? = some l[n.toNat] := List.getElem?_eq_getElem (show n.toNat < l.length by omega)
      rw [if_pos hn, hg] at hc
      simp only [] at hc
      rcases List.mem_append.1 hc with q | q
      · rcases List.mem_or_eq_of_mem_set q with q | rfl
        · have := h.each c q; omega
        · have := h.each _ (List.mem_of_getElem? hg)
          simp only [List.length_append, List.length_singleton]; omega
      · rw [List.mem_singleton.1 q]; exact Nat.zero_le _
    · rw [if_neg hn] at hc
      rcases List.mem_append.1 hc with q | q
      · have := h.each c q; omega
      · rw [List.mem_singleton.1 q]; exact Nat.zero_le _
structure GuardR (F : HeapF) (H : HeapV) (k : Nat) (w : Int) (r : List ObjL × Gs × List CellL) : Prop where
  ok : (H.reg r.1 r.2.1 r.2.2).ok F
  same : r.1.map ObjL.noC = H.objs.map ObjL.noC
  out : (r.1.map ObjL.cell, r.2.2.map CellL.abs) = (guardF (H.pub F) k w H.gd).1
  len : r.2.2.length ≤ H.cl.length + k
  cb : CB (r.2.2.map CellL.abs)
theorem HeapV.bud.cb (h : H.bud k) : CB (H.cl.map CellL.abs) := ⟨by rw [List.length_map]; exact h.abv, fun c hc => by
  obtain ⟨d, hd, rfl⟩ := List.mem_map.1 hc
  rw [List.length_map]
  exact h.each d hd⟩
theorem CB.at {l : List CellL} (h : CB (l.map CellL.abs)) : ∀ c ∈ l, c.above.length ≤ l.length := fun c hc => by
  have := h.each _ (List.mem_map_of_mem hc)
  rwa [List.length_map] at this
theorem GuardR.at {w : Int} {r : List ObjL × Gs × List CellL} (h : GuardR F H k w r) {i : Nat} {y : ObjL} (hy : H.objs[i]? = some y) : ∃ z, r.1[i]? = some z ∧ z.noC = y.noC := by
  have e := congrArg (fun l => l[i]?) h.same
  simp only [List.getElem?_map, hy, Option.map_some] at e
  cases hz : r.1[i]? with
  | none => rw [hz] at e; cases e
  | some z => rw [hz] at e; exact ⟨z, rfl, by simpa using e⟩
theorem HeapV.gd_at (hx : H.objs[n]? = some x) : H.gd.1[n]? = some x.cell := by simp [HeapV.gd, hx]
theorem noC_cells {x z : ObjL} (h : z.noC = x.noC) (c : Int) : (z.withC c).noC = x.noC := h
end Go.Proofs.YtdfhbheipagnmaaGreat
