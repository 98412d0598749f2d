/-
  What the document's own functions do to the memory they own, step by step: each theorem is one function's contract. Conditions: those that each theorem names.
-/
import Derived.Test.YthflblophelioaaGreatDoorPs4
import Derived.Test.YthflblophelioaaGreatDoorPs3
set_option linter.unusedVariables false
set_option linter.unusedSimpArgs false
set_option maxRecDepth 100000
set_option maxHeartbeats 4000000
namespace Go.Proofs.YthflblophelioaaGreatDoor
open Go.Sl

theorem rf_Tag {W0 : World} {w : Int} (hw : wordOk w) : SC Tryz.prog W0 83 #[.int .u64 w] [] (Ret (fun _ : Unit => []) (fun v _ => v = .tuple #[.int .u64 (tagP w).1, .int .u32 (tagP w).2])) := by
 refine SC_body (fn := Tryz.f83) (n := 19) Tryz.func83 rfl (by kernel_rfl) (ρ := [(0, .int .u64 w)]) rfl ?_
 obtain ⟨hw0, hw1⟩ := hw
 refine sr ?_
 refine os 2 ?_
 refine nsr ?_
 refine os 1 ?_
 refine oX (.int .u64 (IntKind.wrap .u64 (Int.tdiv w 65536))) (.int .u64 (w / 65536)) (congrArg (Value.int .u64) (quo_u64 (by omega) (by omega) (by decide))) ?_
 refine oX (.int .u64 (IntKind.wrap .u64 (Int.tdiv (w / 65536) 65536))) (.int .u64 ((w / 65536) / 65536)) (congrArg (Value.int .u64) (quo_u64 (by omega) (by omega) (by decide))) ?_
 refine oX (.int .u64 (IntKind.wrap .u64 (Int.tdiv ((w / 65536) / 65536) 65536))) (.int .u64 (((w / 65536) / 65536) / 65536)) (congrArg (Value.int .u64) (quo_u64 (by omega) (by omega) (by decide))) ?_
 refine os 1 ?_
 refine kp [4, 3, 2, 0] ?_
 refine nq ?_
 refine sr ?_
 refine os 3 ?_
 refine tbp 11 (fun hg1 => ?_) (fun hg1 => ?_)
 ·replace hg1 : (((w / 65536) / 65536) / 65536) < 65529 := hg1
  refine os 3 ?_
  refine kp [14, 4, 3, 2, 0] ?_
  refine nt ?_
  refine ct ?_
  refine sr ?_
  refine os 2 ?_
  refine nt ?_
  refine Qi (Qm ?_)
  refine Qg (.tuple #[.int .u64 0, .int .u32 0]) (fun _ => rfl) ?_
  exact ⟨(), ⟨_, List.Perm.refl _⟩, by unfold tagP; rw [if_pos (by omega)]⟩
 replace hg1 : ¬ ((((w / 65536) / 65536) / 65536) < 65529) := hg1
 refine os 3 ?_
 refine kp [14, 4, 3, 2, 0] ?_
 refine nt ?_
 refine cdp (fun hc2 : (((w / 65536) / 65536) / 65536) > 65532 => ?_) (fun hc2 => ?_)
 ·refine sr ?_
  refine os 2 ?_
  refine nt ?_
  refine Qi (Qm ?_)
  refine Qg (.tuple #[.int .u64 0, .int .u32 0]) (fun _ => rfl) ?_
  exact ⟨(), ⟨_, List.Perm.refl _⟩, by unfold tagP; rw [if_pos (by omega)]⟩
 refine Ql (Qj ?_)
 refine sr ?_
 refine os 2 ?_
 refine oX (.int .u64 (Int.tmod w 4294967296)) (.int .u64 (w % 4294967296)) (congrArg (Value.int .u64) (rem_nn (by omega))) ?_
 refine os 3 ?_
 refine kp [3, 2, 14, 4, 0] ?_
 refine nt ?_
 refine Qi ?_
 refine Qg (.tuple #[.int .u64 (((w / 65536) / 65536) / 65536), .int .u32 (w % 4294967296)]) (fun _ => rfl) ?_
 exact ⟨(), ⟨_, List.Perm.refl _⟩, by unfold tagP; rw [if_neg (by omega), show ((w / 65536) / 65536) / 65536 = w / 281474976710656 from by omega]⟩

theorem rf_Right {W0 : World} {w : Int} (hw : wordOk w) : SC Tryz.prog W0 84 #[.int .u64 w] [] (Ret (fun _ : Bool => []) (fun v b => v = .bool b ∧ ((tagP w).1 ≠ 0 → (b = true ↔ (w / 4294967296 % 65536 = 0 ∧ ((tagP w).1 = 65531 → w % 4294967296 ≤ 4)))))) := by
 refine SC_body (fn := Tryz.f84) (n := 26) Tryz.func84 rfl (by kernel_rfl) (ρ := [(0, .int .u64 w)]) rfl ?_
 obtain ⟨hw0, hw1⟩ := id hw
 refine sr ?_
 refine os 1 ?_
 refine nsr ?_
 refine os 1 ?_
 refine L (cl (rf_Tag hw) ?_)
 rintro _ _ rfl
 refine un ?_
 refine os 5 ?_
 refine kp [4, 3, 2, 0] ?_
 refine nq ?_
 refine sr ?_
 refine os 2 ?_
 refine nt ?_
 refine cd (fun hc1 : (((tagP w).1) == 0) = true => ?_) (fun hc1 => ?_)
 ·simp only [beq_iff_eq, bne_iff_ne, ne_eq, beq_eq_false_iff_ne, bne_eq_false_iff_eq] at hc1
  refine sr ?_
  refine os 1 ?_
  refine L (cl (ref_Number w) ?_)
  rintro _ nw1 rfl
  refine un ?_
  refine os 3 ?_
  refine kp [2, 11, 4, 3, 0] ?_
  refine nt ?_
  refine Qi (Qm ?_)
  refine Qg (.bool (nw1 == w)) (fun _ => rfl) ?_
  exact ⟨_, ⟨_, List.Perm.refl _⟩, rfl, fun q => absurd hc1 q⟩
 simp only [beq_iff_eq, bne_iff_ne, ne_eq, beq_eq_false_iff_ne, bne_eq_false_iff_eq] at hc1
 refine Ql (Qj ?_)
 refine SW_seq ?_
 refine sr ?_
 refine os 1 ?_
 refine oX (.int .u64 (IntKind.wrap .u64 (Int.tdiv w 4294967296))) (.int .u64 (w / 4294967296)) (congrArg (Value.int .u64) (quo_u64 (by omega) (by omega) (by decide))) ?_
 refine oX (.int .u64 (Int.tmod (w / 4294967296) 65536)) (.int .u64 ((w / 4294967296) % 65536)) (congrArg (Value.int .u64) (rem_nn (by omega))) ?_
 refine os 1 ?_
 refine kp [19, 11, 4, 3, 2, 0] ?_
 refine nt ?_
 refine cd (fun hc2 : (((w / 4294967296) % 65536) != 0) = true => ?_) (fun hc2 => ?_)
 ·simp only [beq_iff_eq, bne_iff_ne, ne_eq, beq_eq_false_iff_ne, bne_eq_false_iff_eq] at hc2
  refine sr ?_
  refine os 1 ?_
  refine nt ?_
  refine Qi (Qm ?_)
  refine Qg (.bool false) (fun _ => rfl) ?_
  exact ⟨false, ⟨_, List.Perm.refl _⟩, rfl, fun _ => ⟨fun q => absurd q (by decide), fun q => absurd q.1 (by omega)⟩⟩
 simp only [beq_iff_eq, bne_iff_ne, ne_eq, beq_eq_false_iff_ne, bne_eq_false_iff_eq] at hc2
 refine Ql (Qj ?_)
 refine sr ?_
 refine os 3 ?_
 refine tb 22 (fun hg3 => ?_) (fun hg3 => ?_)
 ·replace hg3 : (((tagP w).1) != 65531) = true := hg3
  simp only [beq_iff_eq, bne_iff_ne, ne_eq, beq_eq_false_iff_ne, bne_eq_false_iff_eq] at hg3
  refine os 4 ?_
  refine kp [2, 19, 11, 4, 3, 0] ?_
  refine nt ?_
  refine Qi ?_
  refine Qg (.bool true) (fun _ => rfl) ?_
  refine ⟨_, ⟨_, List.Perm.refl _⟩, rfl, fun _ => ?_⟩
  have e2 : (tagP w).1 ≠ 0 → (tagP w).2 = w % 4294967296 := by unfold tagP; split <;> simp
  have e3 := e2 hc1
  exact ⟨fun _ => ⟨by omega, fun q => absurd q (by omega)⟩, fun _ => rfl⟩
 replace hg3 : (((tagP w).1) != 65531) = false := hg3
 simp only [beq_iff_eq, bne_iff_ne, ne_eq, beq_eq_false_iff_ne, bne_eq_false_iff_eq] at hg3
 refine os 4 ?_
 refine kp [2, 19, 11, 4, 3, 0] ?_
 refine nt ?_
 refine Qi ?_
 refine Qg (.bool (decide (((tagP w).2) ≤ 4))) (fun _ => rfl) ?_
 refine ⟨_, ⟨_, List.Perm.refl _⟩, rfl, fun _ => ?_⟩
 have e2 : (tagP w).1 ≠ 0 → (tagP w).2 = w % 4294967296 := by unfold tagP; split <;> simp
 have e3 := e2 hc1
 rw [e3]
 simp only [decide_eq_true_eq]
 exact ⟨fun q => ⟨by omega, fun _ => q⟩, fun q => q.2 (by omega)⟩

theorem rf_IsTag {W0 : World} {w : Int} (hw : wordOk w) {tag : Int} (ht : 65529 ≤ tag ∧ tag ≤ 65532 ∧ tag ≠ 65531) : SC Tryz.prog W0 47 #[.int .u64 w, .int .u64 tag] [] (Ret (fun _ : Unit => []) (fun v _ => v = tagV w tag)) := by
 refine SC_body (fn := Tryz.f47) (n := 24) Tryz.func47 rfl (by kernel_rfl) (ρ := [(0, .int .u64 w), (1, .int .u64 tag)]) rfl ?_
 obtain ⟨hw0, hw1⟩ := id hw
 refine sr ?_
 refine os 2 ?_
 refine nsr ?_
 refine os 1 ?_
 refine L (cl (rf_Tag hw) ?_)
 rintro _ _ rfl
 refine un ?_
 refine os 5 ?_
 refine kp [7, 6, 5, 4, 0, 1] ?_
 refine nsr ?_
 refine os 1 ?_
 refine L (cl (rf_Right hw) ?_)
 rintro _ rb ⟨rfl, hrb⟩
 refine un ?_
 refine os 1 ?_
 refine nq ?_
 refine sr ?_
 refine os 4 ?_
 refine tb 19 (fun hg1 => ?_) (fun hg1 => ?_)
 ·replace hg1 : (((tagP w).1) != tag) = true := hg1
  simp only [beq_iff_eq, bne_iff_ne, ne_eq, beq_eq_false_iff_ne, bne_eq_false_iff_eq] at hg1
  refine os 3 ?_
  refine kp [22, 8, 7, 6, 5, 4, 0, 1] ?_
  refine nt ?_
  refine ct ?_
  refine sr ?_
  refine os 2 ?_
  refine nt ?_
  refine Qi (Qm ?_)
  refine Qg (.tuple #[.int .u32 0, .bool false]) (fun _ => rfl) ?_
  have e1 : (tagP w).1 = if w / 281474976710656 < 65529 ∨ w / 281474976710656 > 65532 then 0 else w / 281474976710656 := by unfold tagP; split <;> rfl
  have e2 : (tagP w).1 ≠ 0 → (tagP w).2 = w % 4294967296 := by unfold tagP; split <;> simp
  refine ⟨(), ⟨_, List.Perm.refl _⟩, ?_⟩
  have hn : ¬ w / 4294967296 = tag * 65536 := fun q => (by have e4 : (tagP w).1 = tag := (by rw [e1, if_neg (by omega)]; omega); exact hg1 e4)
  unfold tagV tagOf; rw [if_neg hn]
 replace hg1 : (((tagP w).1) != tag) = false := hg1
 simp only [beq_iff_eq, bne_iff_ne, ne_eq, beq_eq_false_iff_ne, bne_eq_false_iff_eq] at hg1
 refine os 3 ?_
 refine kp [22, 8, 7, 6, 5, 4, 0, 1] ?_
 refine nt ?_
 refine cd (fun hc2 : (!rb) = true => ?_) (fun hc2 => ?_)
 ·replace hc2 := bnot_t hc2
  refine sr ?_
  refine os 2 ?_
  refine nt ?_
  refine Qi (Qm ?_)
  refine Qg (.tuple #[.int .u32 0, .bool false]) (fun _ => rfl) ?_
  have e1 : (tagP w).1 = if w / 281474976710656 < 65529 ∨ w / 281474976710656 > 65532 then 0 else w / 281474976710656 := by unfold tagP; split <;> rfl
  have e2 : (tagP w).1 ≠ 0 → (tagP w).2 = w % 4294967296 := by unfold tagP; split <;> simp
  refine ⟨(), ⟨_, List.Perm.refl _⟩, ?_⟩
  have hn : ¬ w / 4294967296 = tag * 65536 := fun q => (by have e4 : (tagP w).1 = tag := (by rw [e1, if_neg (by omega)]; omega); have e5 := (hrb (by omega)).2 ⟨by omega, fun z => absurd z (by omega)⟩; rw [e5] at hc2; cases hc2)
  unfold tagV tagOf; rw [if_neg hn]
 replace hc2 := bnot_f hc2
 refine Ql (Qj ?_)
 refine sr ?_
 refine os 3 ?_
 refine nt ?_
 refine Qi ?_
 refine Qg (.tuple #[.int .u32 ((tagP w).2), .bool true]) (fun _ => rfl) ?_
 have e1 : (tagP w).1 = if w / 281474976710656 < 65529 ∨ w / 281474976710656 > 65532 then 0 else w / 281474976710656 := by unfold tagP; split <;> rfl
 have e2 : (tagP w).1 ≠ 0 → (tagP w).2 = w % 4294967296 := by unfold tagP; split <;> simp
 refine ⟨(), ⟨_, List.Perm.refl _⟩, ?_⟩
 have e4 := e2 (by omega)
 have e5 := (hrb (by omega)).1 hc2
 have e6 : w / 281474976710656 = tag := by rw [e1] at hg1; split at hg1 <;> omega
 have hy : w / 4294967296 = tag * 65536 := by omega
 unfold tagV tagOf; rw [if_pos hy, e4]
 simp only []
 rw [Int.toNat_of_nonneg (by omega)]

theorem rf_At {W0 : World} {R : RSt} {w : Int} (hw : wordOk w) : SC Tryz.prog W0 15 #[R.val, .int .u64 w] [] (Ret (fun _ : Unit => []) (fun v _ => v = .int .i64 (atI R.objs.length w))) := by
 refine SC_body (fn := Tryz.f15) (n := 24) Tryz.func15 rfl (by kernel_rfl) (ρ := [(0, .agg #[Gs.val R.s R.objs.length, Gs.val R.ts R.texts.length]), (1, .int .u64 w)]) rfl ?_
 refine sr ?_
 refine L (nw 28 2 [Gs.val R.s R.objs.length, Gs.val R.ts R.texts.length] ?_)
 intro b1
 refine os 1 ?_
 refine nsr ?_
 refine os 1 ?_
 rcases hm1 : tagOf w 65530 with _ | m1
 ·refine L (cl (rf_IsTag hw (tag := 65530) (by omega)) ?_)
  rintro v1 _ hv1
  obtain rfl : v1 = .tuple #[.int .u32 0, .bool false] := hv1.trans (by unfold tagV; rw [hm1])
  refine un ?_
  refine os 5 ?_
  refine kp [6, 5, 4, 2, 0, 1] ?_
  refine nq ?_
  refine sr ?_
  refine os 1 ?_
  refine oV (.bool true) ?_
  refine os 8 ?_
  refine kp [21, 6, 5, 4, 2, 0, 1] ?_
  refine nt ?_
  refine ct ?_
  refine sr ?_
  refine os 1 ?_
  refine nt ?_
  refine Qi (Qm ?_)
  refine Qg (.int .i64 (-1)) (fun _ => rfl) ?_
  exact ⟨(), ⟨_, List.Perm.refl _⟩, by unfold atI objAt; rw [hm1]⟩
 have hlt := tagOf_lt hm1
 refine L (cl (rf_IsTag hw (tag := 65530) (by omega)) ?_)
 rintro v2 _ hv2
 obtain rfl : v2 = .tuple #[.int .u32 (m1 : Int), .bool true] := hv2.trans (by unfold tagV; rw [hm1])
 refine un ?_
 refine os 5 ?_
 refine kp [6, 5, 4, 2, 0, 1] ?_
 refine nq ?_
 refine sr ?_
 refine os 1 ?_
 refine oV (.bool false) ?_
 refine os 4 ?_
 refine L (ld ?_)
 refine os 3 ?_
 refine kp [21, 6, 5, 4, 2, 0, 1] ?_
 refine nt ?_
 refine cdp (fun hc2 : (m1 : Int) ≥ (R.objs.length : Int) => ?_) (fun hc2 => ?_)
 ·refine sr ?_
  refine os 1 ?_
  refine nt ?_
  refine Qi (Qm ?_)
  refine Qg (.int .i64 (-1)) (fun _ => rfl) ?_
  exact ⟨(), ⟨_, List.Perm.refl _⟩, by unfold atI objAt; rw [hm1]; simp only []; rw [if_neg (by omega)]⟩
 refine Ql (Qj ?_)
 refine sr ?_
 refine os 3 ?_
 refine nt ?_
 refine Qi ?_
 refine Qg (.int .i64 (m1 : Int)) (fun _ => rfl) ?_
 exact ⟨(), ⟨_, List.Perm.refl _⟩, by unfold atI objAt; rw [hm1]; simp only []; rw [if_pos (by omega)]⟩

end Go.Proofs.YthflblophelioaaGreatDoor
namespace Go.Proofs.YthflblophelioaaGreatDoor
open Go.Sl

theorem rf_place {W0 : World} {x : RObj} (hl : x.ns.ok 1 x.names.length (x.names.map encS)) (key : ByteArray) : SC Tryz.prog W0 103 #[.agg #[.int .i64 x.kind, .int .u64 x.proto, .bool x.shut, x.ns.val x.names.length, x.ds.val x.descs.length, x.es.val x.elems.length, x.is.val x.inner.length], .string key] (Gs.ent 9 1 x.ns (x.names.map encS)) (Ret (fun _ : Unit => Gs.ent 9 1 x.ns (x.names.map encS)) (fun v _ => v = .int .i64 (ixS x.names key))) := by
 refine SC_body (fn := Tryz.f103) (n := 21) Tryz.func103 rfl (by kernel_rfl) (ρ := [(0, .agg #[.int .i64 x.kind, .int .u64 x.proto, .bool x.shut, Gs.val x.ns x.names.length, Gs.val x.ds x.descs.length, Gs.val x.es x.elems.length, Gs.val x.is x.inner.length]), (1, .string key)]) rfl ?_
 refine SW_sig ((Gs.ent 9 1 x.ns (x.names.map encS)) ++ ([])) (by simp only [List.append_nil, List.append_assoc]) ?_
 have hcap : x.names.length ≤ maxLen := Nat.le_trans (Gs.ok.cap_le hl) (Gs.ok.cap_max hl)
 unfold maxLen at hcap
 refine sr ?_
 refine L (nw 104 7 [.int .i64 x.kind, .int .u64 x.proto, .bool x.shut, Gs.val x.ns x.names.length, Gs.val x.ds x.descs.length, Gs.val x.es x.elems.length, Gs.val x.is x.inner.length] ?_)
 intro b1
 refine os 1 ?_
 refine nq ?_
 refine sr ?_
 refine os 1 ?_
 refine nt ?_
 refine SW_block ?_
 refine SW_loop (α := Nat) (fun z_ ρ_ σ_ => Fits ρ_ σ_ [(1, .string key), (2, pt b1 0), (5, .int .i64 (z_ : Int))] ((b1, .cells 104 7 [.int .i64 x.kind, .int .u64 x.proto, .bool x.shut, Gs.val x.ns x.names.length, Gs.val x.ds x.descs.length, Gs.val x.es x.elems.length, Gs.val x.is x.inner.length]) :: ((Gs.ent 9 1 x.ns (x.names.map encS)) ++ ([]))) ∧ z_ ≤ x.names.length ∧ ixS x.names key = ixFrom (fun a : ByteArray => decide (a = key)) (x.names.drop z_) z_) (fun z_ => x.names.length - z_) 0 ⟨⟨fun _ => rfl, ow⟩, Nat.zero_le _, rfl⟩ ?_
 rintro i ρ_ σ_ ⟨hfit, hi0, hi1⟩
 refine SW_fits hfit ?_
 clear hfit
 refine SW_seq ?_
 refine sr ?_
 refine os 2 ?_
 refine L (ld ?_)
 refine os 2 ?_
 refine kp [10, 1, 2, 5] ?_
 refine nt ?_
 refine cdp (fun hc2 : (i : Int) < (x.names.length : Int) => ?_) (fun hc2 => ?_)
 ·refine Ql (Qj ?_)
  refine SW_seq ?_
  refine SW_block ?_
  refine sr ?_
  refine os 1 ?_
  refine L (ld ?_)
  refine os 1 ?_
  refine L (ixg (i : Int) (i) hl Tryz.underlying26 ?_)
  obtain ⟨e1, he1⟩ : ∃ y_, x.names[i]? = some y_ := ⟨_, List.getElem?_eq_getElem (by omega)⟩
  refine L (ld ?_ (hc := Gs.cell hl (fun e he => (Qc (mem_h he))) (map_cell he1 rfl)))
  refine os 1 ?_
  refine oX (.bool (e1.toList == key.toList)) (.bool (decide (e1 = key))) (congrArg Value.bool (by rw [str_eq])) ?_
  refine kp [19, 10, 1, 2, 5] ?_
  refine nt ?_
  refine cdp (fun hc3 : e1 = key => ?_) (fun hc3 => ?_)
  ·refine sr ?_
   refine os 2 ?_
   refine nt ?_
   refine Qi (r_in (Qm (Qm (r_in (Qm ?_)))))
   refine Qg (.int .i64 (i : Int)) (fun _ => rfl) ?_
   exact ⟨(), ow, congrArg (Value.int .i64) (by rw [hi1, ixFrom_at he1, if_pos (by simpa using hc3)])⟩
  refine Ql (n_in (Qj ?_))
  refine Qn ?_
  refine os 3 ?_
  refine nt ?_
  exact ⟨i + 1, by omega, ⟨fun _ => rfl, ow⟩, by omega, by rw [hi1, ixFrom_at he1, if_neg (by simpa using hc3)]⟩
 refine SW_exit (x_then (x_then (x_in (Qj ?_))))
 refine sr ?_
 refine os 1 ?_
 refine nt ?_
 refine Qi ?_
 refine Qg (.int .i64 (-1)) (fun _ => rfl) ?_
 exact ⟨(), ow, congrArg (Value.int .i64) (by rw [hi1, ixFrom_end (by omega)])⟩

theorem rf_with {W0 : World} {s tg : Gs} {l : List RObj} {n m : Nat} {x : RObj} (x' : RObj) (hs : s.ok 7 l.length (l.flatMap RObj.cells)) (hx : l[n]? = some x) : SC Tryz.prog W0 49 #[.agg #[s.val l.length, tg.val m], .int .i64 (n : Int), .agg #[.int .i64 x'.kind, .int .u64 x'.proto, .bool x'.shut, x'.ns.val x'.names.length, x'.ds.val x'.descs.length, x'.es.val x'.elems.length, x'.is.val x'.inner.length]] (Gs.ent 104 7 s (l.flatMap RObj.cells)) (Ret (fun _ : Unit => Gs.ent 104 7 s ((l.set n x').flatMap RObj.cells)) (fun v _ => v = .agg #[s.val l.length, tg.val m])) := by
 have hnl := (List.getElem?_eq_some_iff.1 hx).1
 refine SC_body (fn := Tryz.f49) (n := 13) Tryz.func49 rfl (by kernel_rfl) (ρ := [(0, .agg #[Gs.val s l.length, Gs.val tg m]), (1, .int .i64 (n : Int)), (2, .agg #[.int .i64 x'.kind, .int .u64 x'.proto, .bool x'.shut, Gs.val x'.ns x'.names.length, Gs.val x'.ds x'.descs.length, Gs.val x'.es x'.elems.length, Gs.val x'.is x'.inner.length])]) rfl ?_
 refine SW_sig ((Gs.ent 104 7 s (l.flatMap RObj.cells)) ++ ([])) (by simp only [List.append_nil, List.append_assoc]) ?_
 refine sr ?_
 refine L (nw 28 2 [Gs.val s l.length, Gs.val tg m] ?_)
 intro b1
 refine L (nw 104 7 [.int .i64 x'.kind, .int .u64 x'.proto, .bool x'.shut, Gs.val x'.ns x'.names.length, Gs.val x'.ds x'.descs.length, Gs.val x'.es x'.elems.length, Gs.val x'.is x'.inner.length] ?_)
 intro b2
 refine L (nw 28 2 [.slice none 0 0, .slice none 0 0] ?_)
 intro b3
 refine nsr ?_
 refine os 1 ?_
 refine L (ld ?_)
 refine os 1 ?_
 refine L (lds 7 ?_)
 refine L (ixg (n : Int) (n * 7) hs Tryz.underlying25 ?_)
 have hok1 := Gs.ok.relen (ys := ((l.set n x').flatMap RObj.cells)) hs (by simp [flat_len RObj.len])
 refine SL_perm _ (perm_cc (perm_cc (perm_cc perm_cz))) ?_
 refine L (O_storeG (ys := ((l.set n x').flatMap RObj.cells)) s (n * 7) (.agg #[.int .i64 x'.kind, .int .u64 x'.proto, .bool x'.shut, Gs.val x'.ns x'.names.length, Gs.val x'.ds x'.descs.length, Gs.val x'.es x'.elems.length, Gs.val x'.is x'.inner.length]) [.int .i64 x'.kind, .int .u64 x'.proto, .bool x'.shut, Gs.val x'.ns x'.names.length, Gs.val x'.ds x'.descs.length, Gs.val x'.es x'.elems.length, Gs.val x'.is x'.inner.length] (Gs.ok.ne hs (by first | omega | (simp; omega))) (fun _ => rfl) (fun _ => rfl) rfl (by kernel_rfl) rfl (by rw [flat_len RObj.len]; simp; omega) (row_lay (j := 0) RObj.len x' hx (Nat.le_of_ble_eq_true rfl) rfl) rfl ?_)
 refine nsr ?_
 refine L (lds 2 ?_)
 refine L (st [Gs.val s l.length, Gs.val tg m] ?_)
 refine nt ?_
 refine Qi ?_
 refine body_endC [.agg #[Gs.val s l.length, Gs.val tg m]] (fun _ => (.cons ⟨b3, 0, rfl, .inl ⟨[Gs.val s l.length, Gs.val tg m], by kernel_rfl, (Qb (Cell.own Qe rfl) (Qb (Cell.own Qe rfl) Qo)), rfl⟩⟩ .nil)) ?_
 exact ⟨(), ow, rfl⟩

end Go.Proofs.YthflblophelioaaGreatDoor
namespace Go.Proofs.YthflblophelioaaGreatDoor
open Go.Sl

theorem heap_Elem_none {W0 : World} {F : HeapF} {H : HeapV} (hH : H.ok F) {w : Int} (h0 : objAt w H.objs.length = none) (n_ : Int) : SC Tryz.prog W0 54 #[.pointer (some ⟨F.p, 0, none⟩), .int .u64 w, .int .i64 n_] (HeapV.ent H F) (Ret (fun _ : Unit => H.ent F) (fun v _ => v = .tuple #[.int .u64 18445336698825998336, .bool false])) := by
 refine SC_body (fn := Tryz.f54) (n := 44) Tryz.func54 rfl (by kernel_rfl) (ρ := [(0, pt F.p 0), (1, .int .u64 w), (2, .int .i64 n_)]) rfl ?_
 refine SW_sig _ HeapV.eq0 ?_
 refine sr ?_
 refine os 2 ?_
 refine nsr ?_
 refine os 2 ?_
 refine L (cl (heap_at hH w) ?_ (hp := HeapV.pm))
 rintro v1 _ hv1
 obtain rfl : v1 = .pointer none := hv1.trans (by rw [h0])
 refine SL_sig _ HeapV.eq ?_
 refine os 1 ?_
 refine kp [8, 7, 6, 0, 1, 2] ?_
 refine nq ?_
 refine sr ?_
 refine os 1 ?_
 refine oV (.bool true) ?_
 refine os 23 ?_
 refine kp [36, 8, 7, 6, 0, 1, 2] ?_
 refine nt ?_
 refine ct ?_
 refine sr ?_
 refine os 2 ?_
 refine nt ?_
 refine Qi (Qm ?_)
 refine Qg (.tuple #[.int .u64 18445336698825998336, .bool false]) (fun _ => rfl) ?_
 exact ⟨(), HeapV.own, rfl⟩

theorem heap_Elem_some {W0 : World} {F : HeapF} {H : HeapV} (hH : H.ok F) {w : Int} {n : Nat} {x : ObjL} (h0 : objAt w H.objs.length = some n) (hx : H.objs[n]? = some x) (n_ : Int) : SC Tryz.prog W0 54 #[.pointer (some ⟨F.p, 0, none⟩), .int .u64 w, .int .i64 n_] (HeapV.ent H F) (Ret (fun _ : Unit => H.ent F) (fun v _ => v = .tuple #[.int .u64 (elemO x.elems n_).1, .bool (elemO x.elems n_).2])) := by
 refine SC_body (fn := Tryz.f54) (n := 44) Tryz.func54 rfl (by kernel_rfl) (ρ := [(0, pt F.p 0), (1, .int .u64 w), (2, .int .i64 n_)]) rfl ?_
 refine SW_sig _ HeapV.eq0 ?_
 refine sr ?_
 refine os 2 ?_
 refine nsr ?_
 refine os 2 ?_
 refine L (cl (heap_at hH w) ?_ (hp := HeapV.pm))
 rintro v1 _ hv1
 obtain rfl : v1 = pt (Gs.blk H.s) (n * 9) := hv1.trans (by rw [h0])
 refine SL_sig _ HeapV.eq ?_
 refine os 1 ?_
 refine kp [8, 7, 6, 0, 1, 2] ?_
 refine nq ?_
 refine sr ?_
 refine os 1 ?_
 refine oV (.bool false) ?_
 refine os 5 ?_
 refine kp [18, 8, 7, 6, 0, 1, 2] ?_
 refine tbp 18 (fun hg1 => ?_) (fun hg1 => ?_)
 ·replace hg1 : n_ < 0 := hg1
  refine os 18 ?_
  refine kp [36, 8, 7, 6, 0, 1, 2] ?_
  refine nt ?_
  refine ct ?_
  refine sr ?_
  refine os 2 ?_
  refine nt ?_
  refine Qi (Qm ?_)
  refine Qg (.tuple #[.int .u64 18445336698825998336, .bool false]) (fun _ => rfl) ?_
  exact ⟨(), HeapV.own, by unfold elemO; rw [if_neg (by omega)]⟩
 replace hg1 : ¬ (n_ < 0) := hg1
 refine os 4 ?_
 refine L (ld ?_ (hc := Gs.cell hH.row (fun e he => (Qc (mem_h he))) (Qh ObjL.len hx (j := 6) (by decide) rfl)))
 refine os 4 ?_
 refine kp [27, 8, 7, 6, 0, 1, 2] ?_
 refine tbp 27 (fun hg2 => ?_) (fun hg2 => ?_)
 ·replace hg2 : n_ ≥ (x.elems.length : Int) := hg2
  refine os 9 ?_
  refine kp [36, 8, 7, 6, 0, 1, 2] ?_
  refine nt ?_
  refine ct ?_
  refine sr ?_
  refine os 2 ?_
  refine nt ?_
  refine Qi (Qm ?_)
  refine Qg (.tuple #[.int .u64 18445336698825998336, .bool false]) (fun _ => rfl) ?_
  exact ⟨(), HeapV.own, by unfold elemO; rw [if_neg (by omega)]⟩
 replace hg2 : ¬ (n_ ≥ (x.elems.length : Int)) := hg2
 refine os 3 ?_
 refine L (ld ?_ (hc := Gs.cell hH.row (fun e he => (Qc (mem_h he))) (Qh ObjL.len hx (j := 6) (by decide) rfl)))
 refine os 1 ?_
 refine L (ixg n_ (n_.toNat) ((HeapV.ok.at hH hx).es) Tryz.underlying100 ?_)
 obtain ⟨e1, he1⟩ : ∃ y_, x.elems[n_.toNat]? = some y_ := ⟨_, List.getElem?_eq_getElem (by omega)⟩
 refine L (ld ?_ (hc := Gs.cell (HeapV.ok.at hH hx).es (fun e he => (Qc (Qa (mem_h ((ObjL.mes hx) _ he))))) (map_cell he1 rfl)))
 refine os 2 ?_
 refine kp [36, 8, 7, 6, 0, 1, 2] ?_
 refine nt ?_
 refine cd (fun hc3 : (e1 == 18445336698825998340) = true => ?_) (fun hc3 => ?_)
 ·refine sr ?_
  refine os 2 ?_
  refine nt ?_
  refine Qi (Qm ?_)
  refine Qg (.tuple #[.int .u64 18445336698825998336, .bool false]) (fun _ => rfl) ?_
  exact ⟨(), HeapV.own, by unfold elemO; rw [if_pos (by omega), he1]; simp_all⟩
 refine Ql (Qj ?_)
 refine sr ?_
 refine os 3 ?_
 refine L (ld ?_ (hc := Gs.cell hH.row (fun e he => (Qc (mem_h he))) (Qh ObjL.len hx (j := 6) (by decide) rfl)))
 refine os 1 ?_
 refine L (ixg n_ (n_.toNat) ((HeapV.ok.at hH hx).es) Tryz.underlying100 ?_)
 refine L (ld ?_ (hc := Gs.cell (HeapV.ok.at hH hx).es (fun e he => (Qc (Qa (mem_h ((ObjL.mes hx) _ he))))) (map_cell he1 rfl)))
 refine os 2 ?_
 refine kp [7, 6, 36, 8, 0, 1, 2] ?_
 refine nt ?_
 refine Qi ?_
 refine Qg (.tuple #[.int .u64 e1, .bool true]) (fun _ => rfl) ?_
 exact ⟨(), HeapV.own, by unfold elemO; rw [if_pos (by omega), he1]; simp_all⟩

theorem heap_SetLen_none {W0 : World} {F : HeapF} {H : HeapV} (hH : H.ok F) {w : Int} (h0 : objAt w H.objs.length = none) (m : Int) : SC Tryz.prog W0 96 #[.pointer (some ⟨F.p, 0, none⟩), .int .u64 w, .int .i64 m] (HeapV.ent H F) (Ret (fun _ : Unit => H.ent F) (fun v _ => v = .bool false)) := by
 refine SC_body (fn := Tryz.f96) (n := 57) Tryz.func96 rfl (by kernel_rfl) (ρ := [(0, pt F.p 0), (1, .int .u64 w), (2, .int .i64 m)]) rfl ?_
 refine SW_sig _ HeapV.eq0 ?_
 refine sr ?_
 refine os 1 ?_
 refine nsr ?_
 refine os 2 ?_
 refine L (cl (heap_at hH w) ?_ (hp := HeapV.pm))
 rintro v1 _ hv1
 obtain rfl : v1 = .pointer none := hv1.trans (by rw [h0])
 refine SL_sig _ HeapV.eq ?_
 refine os 1 ?_
 refine kp [7, 6, 0, 1, 2] ?_
 refine nq ?_
 refine sr ?_
 refine os 1 ?_
 refine oV (.bool true) ?_
 refine os 8 ?_
 refine kp [20, 7, 6, 0, 1, 2] ?_
 refine nt ?_
 refine ct ?_
 refine sr ?_
 refine os 1 ?_
 refine nt ?_
 refine Qi (Qm ?_)
 refine Qg (.bool false) (fun _ => rfl) ?_
 exact ⟨(), HeapV.own, rfl⟩

theorem heap_SetLen_bad {W0 : World} {F : HeapF} {H : HeapV} (hH : H.ok F) {w : Int} {n : Nat} {x : ObjL} (h0 : objAt w H.objs.length = some n) (hx : H.objs[n]? = some x) {m : Int} (hbad : ¬ (0 ≤ m ∧ m ≤ 4096)) : SC Tryz.prog W0 96 #[.pointer (some ⟨F.p, 0, none⟩), .int .u64 w, .int .i64 m] (HeapV.ent H F) (Ret (fun _ : Unit => H.ent F) (fun v _ => v = .bool false)) := by
 have hnl := (List.getElem?_eq_some_iff.1 hx).1
 have hec : x.elems.length ≤ x.es.cap := Gs.ok.cap_le (HeapV.ok.at hH hx).es
 refine SC_body (fn := Tryz.f96) (n := 57) Tryz.func96 rfl (by kernel_rfl) (ρ := [(0, pt F.p 0), (1, .int .u64 w), (2, .int .i64 m)]) rfl ?_
 refine SW_sig _ HeapV.eq0 ?_
 refine sr ?_
 refine os 1 ?_
 refine nsr ?_
 refine os 2 ?_
 refine L (cl (heap_at hH w) ?_ (hp := HeapV.pm))
 rintro v1 _ hv1
 obtain rfl : v1 = pt (Gs.blk H.s) (n * 9) := hv1.trans (by rw [h0])
 refine SL_sig _ HeapV.eq ?_
 refine os 1 ?_
 refine kp [7, 6, 0, 1, 2] ?_
 refine nq ?_
 refine sr ?_
 refine os 1 ?_
 refine oV (.bool false) ?_
 refine os 5 ?_
 refine kp [17, 7, 6, 0, 1, 2] ?_
 refine tbp 17 (fun hg1 => ?_) (fun hg1 => ?_)
 ·replace hg1 : m < 0 := hg1
  refine os 3 ?_
  refine kp [20, 7, 6, 0, 1, 2] ?_
  refine nt ?_
  refine ct ?_
  refine sr ?_
  refine os 1 ?_
  refine nt ?_
  refine Qi (Qm ?_)
  refine Qg (.bool false) (fun _ => rfl) ?_
  exact ⟨(), HeapV.own, rfl⟩
 replace hg1 : ¬ (m < 0) := hg1
 refine os 3 ?_
 refine kp [20, 7, 6, 0, 1, 2] ?_
 refine nt ?_
 refine cdp (fun hc2 : m > 4096 => ?_) (fun hc2 => ?_)
 ·refine sr ?_
  refine os 1 ?_
  refine nt ?_
  refine Qi (Qm ?_)
  refine Qg (.bool false) (fun _ => rfl) ?_
  exact ⟨(), HeapV.own, rfl⟩
 exact absurd (by omega) hbad

theorem heap_SetLen_short {W0 : World} {F : HeapF} {H : HeapV} (hH : H.ok F) {w : Int} {n : Nat} {x : ObjL} (h0 : objAt w H.objs.length = some n) (hx : H.objs[n]? = some x) {k : Nat} (hB : H.bud k) (hk : k ≤ 8000000) {m : Nat} (hm4 : m ≤ 4096) (hmx : m ≤ x.elems.length) : SC Tryz.prog W0 96 #[.pointer (some ⟨F.p, 0, none⟩), .int .u64 w, .int .i64 (m : Int)] (HeapV.ent H F) (Ret (fun r : Gs × List CellL × Int => (H.upd n ((ObjL.chg x).withElems r.1 (setLenL x.elems m)) H.V r.2.1 r.2.2).ent F) (fun v r => v = .bool true ∧ (H.upd n ((ObjL.chg x).withElems r.1 (setLenL x.elems m)) H.V r.2.1 r.2.2).ok F ∧ Chg x.cell H.cl r.2.1)) := by
 have hnl := (List.getElem?_eq_some_iff.1 hx).1
 have hec : x.elems.length ≤ x.es.cap := Gs.ok.cap_le (HeapV.ok.at hH hx).es
 refine SC_body (fn := Tryz.f96) (n := 57) Tryz.func96 rfl (by kernel_rfl) (ρ := [(0, pt F.p 0), (1, .int .u64 w), (2, .int .i64 (m : Int))]) rfl ?_
 refine SW_sig _ HeapV.eq0 ?_
 refine sr ?_
 refine os 1 ?_
 refine nsr ?_
 refine os 2 ?_
 refine L (cl (heap_at hH w) ?_ (hp := HeapV.pm))
 rintro v1 _ hv1
 obtain rfl : v1 = pt (Gs.blk H.s) (n * 9) := hv1.trans (by rw [h0])
 refine SL_sig _ HeapV.eq ?_
 refine os 1 ?_
 refine kp [7, 6, 0, 1, 2] ?_
 refine nq ?_
 refine sr ?_
 refine os 1 ?_
 refine oV (.bool false) ?_
 refine os 5 ?_
 refine kp [17, 7, 6, 0, 1, 2] ?_
 refine tbp 17 (fun hg1 => ?_) (fun hg1 => ?_)
 ·replace hg1 : (m : Int) < 0 := hg1
  refine os 3 ?_
  refine kp [20, 7, 6, 0, 1, 2] ?_
  refine nt ?_
  refine ct ?_
  refine sr ?_
  refine os 1 ?_
  refine nt ?_
  refine Qi (Qm ?_)
  refine Qg (.bool false) (fun _ => rfl) ?_
  exact absurd hm4 (by omega)
 replace hg1 : ¬ ((m : Int) < 0) := hg1
 refine os 3 ?_
 refine kp [20, 7, 6, 0, 1, 2] ?_
 refine nt ?_
 refine cdp (fun hc2 : (m : Int) > 4096 => ?_) (fun hc2 => ?_)
 ·exact absurd hm4 (by omega)
 refine Ql (Qj ?_)
 refine sr ?_
 refine os 2 ?_
 refine L (cl (heap_changed hH (n := n) hx hB hk) ?_ (hp := HeapV.pm))
 rintro _ ⟨cl1, br1⟩ ⟨rfl, hccl1, hchcl1⟩
 refine SL_sig _ HeapV.eq ?_
 have hH1 : HeapV.ok (HeapV.mk H.s (H.objs.set n (ObjL.chg x)) H.ts H.texts H.known H.V H.cs cl1 br1) F := hH.chg hx hccl1 br1
 refine nq ?_
 refine sr ?_
 refine os 4 ?_
 refine L (ld ?_ (hc := Gs.cell hH1.row (fun e he => (Qc (mem_h he))) (Qh ObjL.len (Qd hx) (j := 6) (by decide) rfl)) (v := Gs.val x.es x.elems.length))
 refine os 2 ?_
 refine kp [30, 20, 7, 6, 0, 1, 2] ?_
 refine nt ?_
 refine cdp (fun hc3 : (m : Int) ≤ (x.elems.length : Int) => ?_) (fun hc3 => ?_)
 ·refine SW_seq ?_
  refine SW_perm _ (perm_cc (perm_ca perm_cz)) ?_
  refine SW_perm ((Gs.ent 9 1 x.ns (x.names.map encS)) ++ ((Gs.ent 45 3 x.vs (x.vals.flatMap Qk)) ++ ((Gs.ent 33 1 x.es (x.elems.map encU)) ++ ((Gs.ent 33 1 x.is (x.inner.map encU)) ++ (((List.eraseIdx (H.objs.set n (ObjL.chg x)) n).flatMap ObjL.ent) ++ ((F.p, .cells 75 6 [Gs.val H.s ((H.objs.set n (ObjL.chg x)).length), Gs.val H.ts H.texts.length, .map (some F.kb), pt F.T.p 0, pt F.cp 0, .int .i64 br1]) :: ((Gs.ent 102 9 H.s ((H.objs.set n (ObjL.chg x)).flatMap ObjL.cells)) ++ ((Gs.ent 9 1 H.ts (H.texts.map encS)) ++ ((F.kb, .map (kvs encS encU H.known)) :: ((TreeV.ent H.V F.T) ++ ((CellsL.ent (CellsL.mk F.cp H.cs cl1)) ++ ([])))))))))))) (obj_focus (Qd hx) _) ?_
  refine Qn ?_
  refine os 4 ?_
  refine L (ld ?_ (hc := Gs.cell hH1.row (fun e he => (Qa (Qa (Qa (Qa (Qa (Qc (mem_h he)))))))) (Qh ObjL.len (Qd hx) (j := 6) (by decide) rfl)) (v := Gs.val x.es x.elems.length))
  refine os 1 ?_
  refine L (O_val (.slice (Gs.addr x.es) ((m : Int)).toNat (Gs.cap x.es)) rfl (fun δ w _ => run_slice_to (m : Int) (Gs.addr x.es) x.elems.length (Gs.cap x.es) .i64 Tryz.underlying100 (by kernel_rfl) rfl rfl (by omega) (by omega)) ?_)
  rw [show Value.slice (Gs.addr x.es) ((m : Int)).toNat (Gs.cap x.es) = Gs.val x.es ((x.elems.take m).length) from congrArg (fun q_ => Value.slice (Gs.addr x.es) q_ (Gs.cap x.es)) (show ((m : Int)).toNat = (x.elems.take m).length from by simp; omega)]
  refine L (clA (words_Clone (σ := _) (l := x.elems.take m) (Src.take (Gs.src0 (show Gs.ok 1 (x.elems).length x.es (x.elems.map encU) from (HeapV.ok.at (x := (ObjL.chg x)) hH1 (Qd hx)).es) (fun e he => (Qa (Qa (mem_h he))))) m) (by simp; omega)) ?_)
  rintro _ cg1 ⟨rfl, hcg1⟩
  refine un ?_
  refine os 2 ?_
  refine kp [40, 38, 30, 20, 7, 6, 0, 1, 2] ?_
  have hok1 := Gs.ok.relen (ys := ((H.objs.set n (ObjL.mk x.kind x.proto x.shut x.shape x.ns x.names x.vs x.vals cg1 (x.elems.take m) x.is x.inner (if 0 ≤ x.cell then -1 else x.cell))).flatMap ObjL.cells)) hH1.row (by simp [flat_len ObjL.len])
  refine SL_perm _ (perm_ca (perm_ca (perm_ca (perm_ca (perm_ca (perm_ca (perm_cc perm_cz))))))) ?_
  refine L (O_storeG (ys := ((H.objs.set n (ObjL.mk x.kind x.proto x.shut x.shape x.ns x.names x.vs x.vals cg1 (x.elems.take m) x.is x.inner (if 0 ≤ x.cell then -1 else x.cell))).flatMap ObjL.cells)) H.s (n * 9 + 6) (Gs.val cg1 ((x.elems.take m).length)) [Gs.val cg1 ((x.elems.take m).length)] (Gs.ok.ne hH1.row (by first | omega | (simp; omega))) (fun _ => rfl) (fun _ => rfl) rfl (by kernel_rfl) rfl (by rw [flat_len ObjL.len]; simp; omega) ((row_lay (j := 6) ObjL.len (ObjL.mk x.kind x.proto x.shut x.shape x.ns x.names x.vs x.vals cg1 (x.elems.take m) x.is x.inner (if 0 ≤ x.cell then -1 else x.cell)) (Qd hx) (Nat.le_of_ble_eq_true rfl) rfl).trans (by rw [List.set_set])) rfl ?_)
  refine nsr ?_
  refine os 1 ?_
  refine nt ?_
  refine Qi (Qm ?_)
  refine Qg (.bool true) (fun _ => rfl) ?_
  rw [show setLenL x.elems m = x.elems.take m from setLenL_le (by omega)]
  refine ⟨(cg1, cl1, br1), ?_, rfl, ?_, hchcl1⟩
  · refine Own.trans (ow (S := ((F.p, .cells 75 6 [Gs.val H.s ((H.objs.set n (ObjL.chg x)).length), Gs.val H.ts H.texts.length, .map (some F.kb), pt F.T.p 0, pt F.cp 0, .int .i64 br1]) :: ((Gs.ent 102 9 H.s ((H.objs.set n (ObjL.mk x.kind x.proto x.shut x.shape x.ns x.names x.vs x.vals cg1 (x.elems.take m) x.is x.inner (if 0 ≤ x.cell then -1 else x.cell))).flatMap ObjL.cells)) ++ ((Gs.ent 9 1 x.ns (x.names.map encS)) ++ ((Gs.ent 45 3 x.vs (x.vals.flatMap Qk)) ++ ((Gs.ent 33 1 cg1 ((x.elems.take m).map encU)) ++ ((Gs.ent 33 1 x.is (x.inner.map encU)) ++ (((List.eraseIdx (H.objs.set n (ObjL.chg x)) n).flatMap ObjL.ent) ++ ((Gs.ent 9 1 H.ts (H.texts.map encS)) ++ ((F.kb, .map (kvs encS encU H.known)) :: ((TreeV.ent H.V F.T) ++ ((CellsL.ent (CellsL.mk F.cp H.cs cl1)) ++ ([])))))))))))))) (Own.of_perm ?_)
    have hb_ := HeapV.back (H := (HeapV.mk H.s (H.objs.set n (ObjL.chg x)) H.ts H.texts H.known H.V H.cs cl1 br1)) F (Qd hx) (ObjL.mk x.kind x.proto x.shut x.shape x.ns x.names x.vs x.vals cg1 (x.elems.take m) x.is x.inner (if 0 ≤ x.cell then -1 else x.cell))
    simp only [HeapV.head, HeapV.put, List.set_set, List.length_set] at hb_ ⊢
    exact hb_
  · simpa only [HeapV.put, List.set_set, List.length_set] using HeapV.ok.put hH1 (Qd hx) (x' := (ObjL.mk x.kind x.proto x.shut x.shape x.ns x.names x.vs x.vals cg1 (x.elems.take m) x.is x.inner (if 0 ≤ x.cell then -1 else x.cell))) ⟨(by first | exact (show Gs.ok 1 (x.names).length x.ns (x.names.map encS) from (HeapV.ok.at (x := (ObjL.chg x)) hH1 (Qd hx)).ns) | (simp only [List.length_set]; exact (show Gs.ok 1 (x.names).length x.ns (x.names.map encS) from (HeapV.ok.at (x := (ObjL.chg x)) hH1 (Qd hx)).ns))), (by first | exact (show Gs.ok 3 (x.vals).length x.vs (x.vals.flatMap Qk) from (HeapV.ok.at (x := (ObjL.chg x)) hH1 (Qd hx)).vs) | (simp only [List.length_set]; exact (show Gs.ok 3 (x.vals).length x.vs (x.vals.flatMap Qk) from (HeapV.ok.at (x := (ObjL.chg x)) hH1 (Qd hx)).vs))), (by first | exact hcg1 | (simp only [List.length_set]; exact hcg1)), (by first | exact (show Gs.ok 1 (x.inner).length x.is (x.inner.map encU) from (HeapV.ok.at (x := (ObjL.chg x)) hH1 (Qd hx)).is) | (simp only [List.length_set]; exact (show Gs.ok 1 (x.inner).length x.is (x.inner.map encU) from (HeapV.ok.at (x := (ObjL.chg x)) hH1 (Qd hx)).is)))⟩ (by simp [setLenL_len]; omega)
 omega

theorem heap_SetLen_long {W0 : World} {F : HeapF} {H : HeapV} (hH : H.ok F) {w : Int} {n : Nat} {x : ObjL} (h0 : objAt w H.objs.length = some n) (hx : H.objs[n]? = some x) {k : Nat} (hB : H.bud k) (hk : k ≤ 8000000) {m : Nat} (hm4 : m ≤ 4096) (hmx : x.elems.length < m) : SC Tryz.prog W0 96 #[.pointer (some ⟨F.p, 0, none⟩), .int .u64 w, .int .i64 (m : Int)] (HeapV.ent H F) (Ret (fun r : Gs × List CellL × Int => (H.upd n ((ObjL.chg x).withElems r.1 (setLenL x.elems m)) H.V r.2.1 r.2.2).ent F) (fun v r => v = .bool true ∧ (H.upd n ((ObjL.chg x).withElems r.1 (setLenL x.elems m)) H.V r.2.1 r.2.2).ok F ∧ Chg x.cell H.cl r.2.1)) := by
 have hnl := (List.getElem?_eq_some_iff.1 hx).1
 have hec : x.elems.length ≤ x.es.cap := Gs.ok.cap_le (HeapV.ok.at hH hx).es
 refine SC_body (fn := Tryz.f96) (n := 57) Tryz.func96 rfl (by kernel_rfl) (ρ := [(0, pt F.p 0), (1, .int .u64 w), (2, .int .i64 (m : Int))]) rfl ?_
 refine SW_sig _ HeapV.eq0 ?_
 refine sr ?_
 refine os 1 ?_
 refine nsr ?_
 refine os 2 ?_
 refine L (cl (heap_at hH w) ?_ (hp := HeapV.pm))
 rintro v1 _ hv1
 obtain rfl : v1 = pt (Gs.blk H.s) (n * 9) := hv1.trans (by rw [h0])
 refine SL_sig _ HeapV.eq ?_
 refine os 1 ?_
 refine kp [7, 6, 0, 1, 2] ?_
 refine nq ?_
 refine sr ?_
 refine os 1 ?_
 refine oV (.bool false) ?_
 refine os 5 ?_
 refine kp [17, 7, 6, 0, 1, 2] ?_
 refine tbp 17 (fun hg1 => ?_) (fun hg1 => ?_)
 ·replace hg1 : (m : Int) < 0 := hg1
  refine os 3 ?_
  refine kp [20, 7, 6, 0, 1, 2] ?_
  refine nt ?_
  refine ct ?_
  refine sr ?_
  refine os 1 ?_
  refine nt ?_
  refine Qi (Qm ?_)
  refine Qg (.bool false) (fun _ => rfl) ?_
  exact absurd hm4 (by omega)
 replace hg1 : ¬ ((m : Int) < 0) := hg1
 refine os 3 ?_
 refine kp [20, 7, 6, 0, 1, 2] ?_
 refine nt ?_
 refine cdp (fun hc2 : (m : Int) > 4096 => ?_) (fun hc2 => ?_)
 ·exact absurd hm4 (by omega)
 refine Ql (Qj ?_)
 refine sr ?_
 refine os 2 ?_
 refine L (cl (heap_changed hH (n := n) hx hB hk) ?_ (hp := HeapV.pm))
 rintro _ ⟨cl1, br1⟩ ⟨rfl, hccl1, hchcl1⟩
 refine SL_sig _ HeapV.eq ?_
 have hH1 : HeapV.ok (HeapV.mk H.s (H.objs.set n (ObjL.chg x)) H.ts H.texts H.known H.V H.cs cl1 br1) F := hH.chg hx hccl1 br1
 refine nq ?_
 refine sr ?_
 refine os 4 ?_
 refine L (ld ?_ (hc := Gs.cell hH1.row (fun e he => (Qc (mem_h he))) (Qh ObjL.len (Qd hx) (j := 6) (by decide) rfl)) (v := Gs.val x.es x.elems.length))
 refine os 2 ?_
 refine kp [30, 20, 7, 6, 0, 1, 2] ?_
 refine nt ?_
 refine cdp (fun hc3 : (m : Int) ≤ (x.elems.length : Int) => ?_) (fun hc3 => ?_)
 ·omega
 refine Ql (Qj ?_)
 refine SW_seq ?_
 refine SW_block ?_
 refine SW_perm _ (perm_cc (perm_ca perm_cz)) ?_
 refine SW_perm ((Gs.ent 9 1 x.ns (x.names.map encS)) ++ ((Gs.ent 45 3 x.vs (x.vals.flatMap Qk)) ++ ((Gs.ent 33 1 x.es (x.elems.map encU)) ++ ((Gs.ent 33 1 x.is (x.inner.map encU)) ++ (((List.eraseIdx (H.objs.set n (ObjL.chg x)) n).flatMap ObjL.ent) ++ ((F.p, .cells 75 6 [Gs.val H.s ((H.objs.set n (ObjL.chg x)).length), Gs.val H.ts H.texts.length, .map (some F.kb), pt F.T.p 0, pt F.cp 0, .int .i64 br1]) :: ((Gs.ent 102 9 H.s ((H.objs.set n (ObjL.chg x)).flatMap ObjL.cells)) ++ ((Gs.ent 9 1 H.ts (H.texts.map encS)) ++ ((F.kb, .map (kvs encS encU H.known)) :: ((TreeV.ent H.V F.T) ++ ((CellsL.ent (CellsL.mk F.cp H.cs cl1)) ++ ([])))))))))))) (obj_focus (Qd hx) _) ?_
 have e9 : setLenL x.elems x.elems.length = x.elems := setLenL_self _
 refine SW_loop (α := Nat × Gs) (fun z_ ρ_ σ_ => Fits ρ_ σ_ [(0, pt F.p 0), (7, pt (Gs.blk H.s) (n * 9)), (2, .int .i64 (m : Int))] ((Gs.ent 9 1 x.ns (x.names.map encS)) ++ ((Gs.ent 45 3 x.vs (x.vals.flatMap Qk)) ++ ((Gs.ent 33 1 z_.2 ((setLenL x.elems z_.1).map encU)) ++ ((Gs.ent 33 1 x.is (x.inner.map encU)) ++ (((List.eraseIdx (H.objs.set n (ObjL.chg x)) n).flatMap ObjL.ent) ++ ((F.p, .cells 75 6 [Gs.val H.s H.objs.length, Gs.val H.ts H.texts.length, .map (some F.kb), pt F.T.p 0, pt F.cp 0, .int .i64 br1]) :: ((Gs.ent 102 9 H.s ((H.objs.set n (ObjL.mk x.kind x.proto x.shut x.shape x.ns x.names x.vs x.vals z_.2 (setLenL x.elems z_.1) x.is x.inner (if 0 ≤ x.cell then -1 else x.cell))).flatMap ObjL.cells)) ++ ((Gs.ent 9 1 H.ts (H.texts.map encS)) ++ ((F.kb, .map (kvs encS encU H.known)) :: ((TreeV.ent H.V F.T) ++ ((CellsL.ent (CellsL.mk F.cp H.cs cl1)) ++ ([])))))))))))) ∧ (x.elems.length ≤ z_.1 ∧ z_.1 ≤ m) ∧ Gs.ok 9 H.objs.length H.s ((H.objs.set n (ObjL.mk x.kind x.proto x.shut x.shape x.ns x.names x.vs x.vals z_.2 (setLenL x.elems z_.1) x.is x.inner (if 0 ≤ x.cell then -1 else x.cell))).flatMap ObjL.cells) ∧ Gs.ok 1 (setLenL x.elems z_.1).length z_.2 ((setLenL x.elems z_.1).map encU)) (fun z_ => m - z_.1) (x.elems.length, x.es) ⟨⟨fun _ => rfl, (by simp only []; rw [e9]; exact Own.of_perm (List.Perm.of_eq (by simp only [List.set_set, List.length_set])))⟩, ⟨Nat.le_refl _, by omega⟩, (by simp only []; rw [e9]; have q_ := hH1.row; rw [List.length_set] at q_; exact q_), (by simp only []; rw [e9]; exact (show Gs.ok 1 (x.elems).length x.es (x.elems.map encU) from (HeapV.ok.at (x := (ObjL.chg x)) hH1 (Qd hx)).es))⟩ ?_
 rintro ⟨m_, g⟩ ρ_ σ_ ⟨hfit, hi0, hi1, hi2⟩
 refine SW_fits hfit ?_
 clear hfit
 simp only [] at hi0 hi1 hi2 ⊢
 have hll := setLenL_len x.elems m_
 refine SW_seq ?_
 refine sr ?_
 refine os 3 ?_
 refine L (ld ?_ (hc := Gs.cell hi1 (fun e he => (Qa (Qa (Qa (Qa (Qa (Qc (mem_h he)))))))) (Qh ObjL.len (Qd hx) (j := 6) (by decide) rfl)) (v := Gs.val g ((setLenL x.elems m_).length)))
 refine os 3 ?_
 refine kp [47, 0, 7, 2] ?_
 refine nt ?_
 refine cdp (fun hc4 : ((((setLenL x.elems m_).length : Nat)) : Int) < (m : Int) => ?_) (fun hc4 => ?_)
 ·refine Ql (Qj ?_)
  refine SW_block ?_
  refine Qn ?_
  refine os 4 ?_
  refine L (ld ?_ (hc := Gs.cell hi1 (fun e he => (Qa (Qa (Qa (Qa (Qa (Qc (mem_h he)))))))) (Qh ObjL.len (Qd hx) (j := 6) (by decide) rfl)) (v := Gs.val g ((setLenL x.elems m_).length)))
  refine L (nws 33 1 1 [.int .u64 18445336698825998340] ?_)
  intro b5
  refine SL_perm _ (perm_cc (perm_ca (perm_ca perm_cz))) ?_
  refine L (O_append (size := 1) (bytes := 8) (z := .int .u64 0) g ((setLenL x.elems m_).length) 1 (some ⟨b5, 0, none⟩) 1 ((setLenL x.elems m_).map encU) ([.int .u64 18445336698825998340]) (((setLenL x.elems m_) ++ [18445336698825998340]).map encU) (map_snoc _ 18445336698825998340 rfl) (fun _ => rfl) (fun _ => rfl) Tryz.underlying100 (by kernel_rfl) rfl (by decide) hi2 rfl (.inr ⟨b5, 0, rfl, Cells.own (Qa Qe) rfl⟩) rfl (by omega) (by decide) rfl ?_)
  intro s6 hks6 hfs6
  rw [show (setLenL x.elems m_).length + 1 = ((setLenL x.elems m_) ++ [18445336698825998340]).length from by simp]
  rw [show (setLenL x.elems m_).length + 1 = ((setLenL x.elems m_) ++ [18445336698825998340]).length from by simp] at hks6
  have hls6 : ((setLenL x.elems m_) ++ [18445336698825998340]).length = (setLenL x.elems m_).length + 1 := by simp
  refine os 2 ?_
  refine kp [56, 54, 47, 0, 7, 2] ?_
  have hok1 := Gs.ok.relen (ys := ((H.objs.set n (ObjL.mk x.kind x.proto x.shut x.shape x.ns x.names x.vs x.vals s6 ((setLenL x.elems m_) ++ [18445336698825998340]) x.is x.inner (if 0 ≤ x.cell then -1 else x.cell))).flatMap ObjL.cells)) hi1 (by simp [flat_len ObjL.len])
  refine SL_perm _ (perm_ca (perm_cc (perm_ca (perm_ca (perm_ca (perm_ca (perm_cc perm_cz))))))) ?_
  refine L (O_storeG (ys := ((H.objs.set n (ObjL.mk x.kind x.proto x.shut x.shape x.ns x.names x.vs x.vals s6 ((setLenL x.elems m_) ++ [18445336698825998340]) x.is x.inner (if 0 ≤ x.cell then -1 else x.cell))).flatMap ObjL.cells)) H.s (n * 9 + 6) (Gs.val s6 (((setLenL x.elems m_) ++ [18445336698825998340]).length)) [Gs.val s6 (((setLenL x.elems m_) ++ [18445336698825998340]).length)] (Gs.ok.ne hi1 (by first | omega | (simp; omega))) (fun _ => rfl) (fun _ => rfl) rfl (by kernel_rfl) rfl (by rw [flat_len ObjL.len]; simp; omega) ((row_lay (j := 6) ObjL.len (ObjL.mk x.kind x.proto x.shut x.shape x.ns x.names x.vs x.vals s6 ((setLenL x.elems m_) ++ [18445336698825998340]) x.is x.inner (if 0 ≤ x.cell then -1 else x.cell)) (Qd hx) (Nat.le_of_ble_eq_true rfl) rfl).trans (by rw [List.set_set])) rfl ?_)
  refine SL_nil (n_in (Qj ?_))
  have hsn := setLenL_snoc (l := x.elems) (n := m_) (by omega)
  refine ⟨(m_ + 1, s6), by simp only []; omega, ?_⟩
  simp only []
  rw [← hsn]
  exact ⟨⟨fun _ => rfl, ow⟩, by omega, hok1, hks6⟩
 refine SW_exit (x_then (x_then (x_in (Qj ?_))))
 refine sr ?_
 refine os 1 ?_
 refine nt ?_
 refine Qi ?_
 refine Qg (.bool true) (fun _ => rfl) ?_
 obtain rfl : m_ = m := by omega
 refine ⟨(g, cl1, br1), ?_, rfl, ?_, hchcl1⟩
 · refine Own.trans (ow (S := ((F.p, .cells 75 6 [Gs.val H.s H.objs.length, Gs.val H.ts H.texts.length, .map (some F.kb), pt F.T.p 0, pt F.cp 0, .int .i64 br1]) :: ((Gs.ent 102 9 H.s ((H.objs.set n (ObjL.mk x.kind x.proto x.shut x.shape x.ns x.names x.vs x.vals g (setLenL x.elems m_) x.is x.inner (if 0 ≤ x.cell then -1 else x.cell))).flatMap ObjL.cells)) ++ ((Gs.ent 9 1 x.ns (x.names.map encS)) ++ ((Gs.ent 45 3 x.vs (x.vals.flatMap Qk)) ++ ((Gs.ent 33 1 g ((setLenL x.elems m_).map encU)) ++ ((Gs.ent 33 1 x.is (x.inner.map encU)) ++ (((List.eraseIdx (H.objs.set n (ObjL.chg x)) n).flatMap ObjL.ent) ++ ((Gs.ent 9 1 H.ts (H.texts.map encS)) ++ ((F.kb, .map (kvs encS encU H.known)) :: ((TreeV.ent H.V F.T) ++ ((CellsL.ent (CellsL.mk F.cp H.cs cl1)) ++ ([])))))))))))))) (Own.of_perm ?_)
   have hb_ := HeapV.back (H := (HeapV.mk H.s (H.objs.set n (ObjL.chg x)) H.ts H.texts H.known H.V H.cs cl1 br1)) F (Qd hx) (ObjL.mk x.kind x.proto x.shut x.shape x.ns x.names x.vs x.vals g (setLenL x.elems m_) x.is x.inner (if 0 ≤ x.cell then -1 else x.cell))
   simp only [HeapV.head, HeapV.put, List.set_set, List.length_set] at hb_ ⊢
   exact hb_
 · simpa only [HeapV.put, List.set_set, List.length_set] using HeapV.ok.put hH1 (Qd hx) (x' := (ObjL.mk x.kind x.proto x.shut x.shape x.ns x.names x.vs x.vals g (setLenL x.elems m_) x.is x.inner (if 0 ≤ x.cell then -1 else x.cell))) ⟨(by first | exact (show Gs.ok 1 (x.names).length x.ns (x.names.map encS) from (HeapV.ok.at (x := (ObjL.chg x)) hH1 (Qd hx)).ns) | (simp only [List.length_set]; exact (show Gs.ok 1 (x.names).length x.ns (x.names.map encS) from (HeapV.ok.at (x := (ObjL.chg x)) hH1 (Qd hx)).ns))), (by first | exact (show Gs.ok 3 (x.vals).length x.vs (x.vals.flatMap Qk) from (HeapV.ok.at (x := (ObjL.chg x)) hH1 (Qd hx)).vs) | (simp only [List.length_set]; exact (show Gs.ok 3 (x.vals).length x.vs (x.vals.flatMap Qk) from (HeapV.ok.at (x := (ObjL.chg x)) hH1 (Qd hx)).vs))), (by first | exact hi2 | (simp only [List.length_set]; exact hi2)), (by first | exact (show Gs.ok 1 (x.inner).length x.is (x.inner.map encU) from (HeapV.ok.at (x := (ObjL.chg x)) hH1 (Qd hx)).is) | (simp only [List.length_set]; exact (show Gs.ok 1 (x.inner).length x.is (x.inner.map encU) from (HeapV.ok.at (x := (ObjL.chg x)) hH1 (Qd hx)).is)))⟩ (by simp [setLenL_len]; omega)

end Go.Proofs.YthflblophelioaaGreatDoor
namespace Go.Proofs.YthflblophelioaaGreatDoor
open Go.Sl

theorem oneS (a : ByteArray) : ((fun a => [encS a]) a : List Value).length = 1 := rfl
theorem delete_texts0 {W0 : World} {l : List ByteArray} {i : Nat} {s : Gs} (hs : s.ok 1 l.length (l.flatMap (fun a => [encS a]))) (hi : i < l.length) : SC Tryz.prog W0 104 #[s.val l.length, .int .i64 i, .int .i64 ((i : Int) + 1)] (s.ent 9 1 (l.flatMap (fun a => [encS a]))) (Ret (fun _ : Unit => s.ent 9 1 ((l.eraseIdx i).flatMap (fun a => [encS a]))) (fun v _ => v = s.val (l.eraseIdx i).length ∧ s.ok 1 (l.eraseIdx i).length ((l.eraseIdx i).flatMap (fun a => [encS a])))) := by
 cases s with
 | nil => exact absurd hs.1 (by omega)
 | «at» g c =>
   have hcap : l.length ≤ c := hs.1
   have hcm := hs.2.1
   unfold maxLen at hcm
   refine SC_body (fn := Tryz.f104) (n := 33) Tryz.func104 rfl (by kernel_rfl) (ρ := [(0, .slice (some ⟨g, 0, none⟩) l.length c), (1, .int .i64 (i : Int)), (2, .int .i64 ((i : Int) + 1))]) rfl ?_
   obtain ⟨tl, htl, hlay⟩ := lay_erase oneS hi
   refine sr ?_
   refine os 1 ?_
   refine nsr ?_
   refine os 5 ?_
   refine L (O_val (.slice (tailA g l.length i 1) ((i + 1) - i) (l.length - i)) rfl (fun δ w _ => run_slice_three g l.length c i (i + 1) l.length 1 .i64 .i64 .i64 Tryz.underlying26 (by kernel_rfl) rfl rfl rfl rfl (by omega) (by omega) hcap) ?_)
   refine nq ?_
   refine sr ?_
   refine os 3 ?_
   refine kp [16, 6, 0, 1, 2] ?_
   refine nt ?_
   refine SW_false (fun _ => (congrArg Value.bool (show ((i : Int) == ((i : Int) + 1)) = false from (by simp; omega)))) ?_
   refine Ql (Qj ?_)
   refine sr ?_
   refine os 3 ?_
   refine nq ?_
   refine SW_draw [] [] (by kernel_rfl) rd_nil ?_
   refine aS 0 ?_
   refine aS 1 ?_
   refine tk 2 (.slice (some ⟨g, 0, none⟩) ((i : Int)).toNat c) ?_ (hy := fun δ w => run_slice_to (i : Int) (some ⟨g, 0, none⟩) l.length c .i64 Tryz.underlying26 (by kernel_rfl) rfl rfl (by omega) (by omega))
   rw [show ((i : Int)).toNat = i from by omega]
   refine aS 3 ?_
   refine aS 4 ?_
   refine tk 5 (.slice (tailA g c (i + 1) 1) (l.length - (i + 1)) (c - (i + 1))) ?_ (hy := fun δ w => run_slice_from g l.length c (i + 1) 1 .i64 Tryz.underlying26 (by kernel_rfl) rfl rfl (by omega))
   refine sa1 false 6 (h := O_append_in g c i (l.length - (i + 1)) (tailA g c (i + 1) 1) (c - (i + 1)) (l.flatMap (fun a => [encS a])) ((l.drop (i + 1)).flatMap (fun a => [encS a])) (((l.eraseIdx i).flatMap (fun a => [encS a])) ++ tl) (fun _ => rfl) (fun _ => rfl) Tryz.underlying26 (by kernel_rfl) (by rw [flat_len oneS, List.length_drop]) (del_src oneS hi hcap) (flat_one (fun _ => rfl) _) (by omega) (del_fit oneS hi) hlay rfl ?_)
   rw [show i + (l.length - (i + 1)) = l.length - 1 from by omega]
   refine ⟨fun hnd => (by cases hnd), ?_⟩
   refine kpA [26, 7, 16, 6, 0, 1, 2] ?_
   refine aS 7 ?_
   refine SA_done (by kernel_rfl) (Qj ?_)
   refine sr ?_
   refine os 4 ?_
   refine L (O_val (.slice (tailA g c (l.length - 1) 1) (l.length - (l.length - 1)) (c - (l.length - 1))) rfl (fun δ w _ => run_slice_mid g (l.length - 1) c (l.length - 1) l.length 1 .i64 .i64 Tryz.underlying26 (by kernel_rfl) rfl rfl rfl (by omega) hcap) ?_)
   rw [show Value.slice (tailA g c (l.length - 1) 1) (l.length - (l.length - 1)) (c - (l.length - 1)) = Value.slice (some ⟨g, (l.length - 1) * 1, none⟩) (0 + 1) (c - (l.length - 1)) from by unfold tailA; rw [if_neg (by omega), show l.length - (l.length - 1) = 0 + 1 from by omega]]
   refine L (O_clear g (c * 1) ((l.length - 1) * 1) 0 (c - (l.length - 1)) (.string ByteArray.empty) (((l.eraseIdx i).flatMap (fun a => [encS a])) ++ tl) [.string ByteArray.empty] (((l.eraseIdx i).flatMap (fun a => [encS a])) ++ [.string ByteArray.empty]) (fun _ => rfl) Tryz.underlying26 (by kernel_rfl) (by kernel_rfl) (by kernel_rfl) (by simp only [List.length_append, erase_len oneS hi, htl]; exact Nat.le_refl _) (lay_tail (zs := [.string ByteArray.empty]) (erase_len oneS hi) htl.symm) rfl ?_)
   refine nq ?_
   refine SW_weakG (s := Gs.at g c) (e := 9) (size := 1) (cs := ((l.eraseIdx i).flatMap (fun a => [encS a]))) (ds := [.string ByteArray.empty]) (τ := []) ?_
   refine Qn ?_
   refine os 2 ?_
   refine kp [6, 0, 7, 16, 1, 2] ?_
   refine nt ?_
   refine Qi ?_
   refine Qg (.slice (some ⟨g, 0, none⟩) (l.length - 1) c) (fun _ => rfl) ?_
   refine ⟨(), Own.of_perm (List.Perm.refl _), ?_, ?_⟩
   · rw [List.length_eraseIdx, if_pos hi]; rfl
   · refine ⟨by rw [List.length_eraseIdx, if_pos hi]; omega, hs.2.1, ?_⟩
     rw [erase_len oneS hi, List.length_eraseIdx, if_pos hi]

theorem delete_texts {W0 : World} {l : List ByteArray} {i : Nat} {s : Gs} (hs : s.ok 1 l.length (l.map encS)) (hi : i < l.length) : SC Tryz.prog W0 104 #[s.val l.length, .int .i64 i, .int .i64 ((i : Int) + 1)] (s.ent 9 1 (l.map encS)) (Ret (fun _ : Unit => s.ent 9 1 ((l.eraseIdx i).map encS)) (fun v _ => v = s.val (l.eraseIdx i).length ∧ s.ok 1 (l.eraseIdx i).length ((l.eraseIdx i).map encS))) := by
 rw [List.map_eq_flatMap, List.map_eq_flatMap]
 rw [List.map_eq_flatMap] at hs
 exact delete_texts0 hs hi

theorem delete_descs {W0 : World} {l : List DescP} {i : Nat} {s : Gs} (hs : s.ok 3 l.length (l.flatMap Qk)) (hi : i < l.length) : SC Tryz.prog W0 105 #[s.val l.length, .int .i64 i, .int .i64 ((i : Int) + 1)] (s.ent 45 3 (l.flatMap Qk)) (Ret (fun _ : Unit => s.ent 45 3 ((l.eraseIdx i).flatMap Qk)) (fun v _ => v = s.val (l.eraseIdx i).length ∧ s.ok 3 (l.eraseIdx i).length ((l.eraseIdx i).flatMap Qk))) := by
 cases s with
 | nil => exact absurd hs.1 (by omega)
 | «at» g c =>
   have hcap : l.length ≤ c := hs.1
   have hcm := hs.2.1
   unfold maxLen at hcm
   refine SC_body (fn := Tryz.f105) (n := 33) Tryz.func105 rfl (by kernel_rfl) (ρ := [(0, .slice (some ⟨g, 0, none⟩) l.length c), (1, .int .i64 (i : Int)), (2, .int .i64 ((i : Int) + 1))]) rfl ?_
   obtain ⟨tl, htl, hlay⟩ := lay_erase descCells_len hi
   refine sr ?_
   refine os 1 ?_
   refine nsr ?_
   refine os 5 ?_
   refine L (O_val (.slice (tailA g l.length i 3) ((i + 1) - i) (l.length - i)) rfl (fun δ w _ => run_slice_three g l.length c i (i + 1) l.length 3 .i64 .i64 .i64 Tryz.underlying99 (by kernel_rfl) rfl rfl rfl rfl (by omega) (by omega) hcap) ?_)
   refine nq ?_
   refine sr ?_
   refine os 3 ?_
   refine kp [16, 6, 0, 1, 2] ?_
   refine nt ?_
   refine SW_false (fun _ => (congrArg Value.bool (show ((i : Int) == ((i : Int) + 1)) = false from (by simp; omega)))) ?_
   refine Ql (Qj ?_)
   refine sr ?_
   refine os 3 ?_
   refine nq ?_
   refine SW_draw [] [] (by kernel_rfl) rd_nil ?_
   refine aS 0 ?_
   refine aS 1 ?_
   refine tk 2 (.slice (some ⟨g, 0, none⟩) ((i : Int)).toNat c) ?_ (hy := fun δ w => run_slice_to (i : Int) (some ⟨g, 0, none⟩) l.length c .i64 Tryz.underlying99 (by kernel_rfl) rfl rfl (by omega) (by omega))
   rw [show ((i : Int)).toNat = i from by omega]
   refine aS 3 ?_
   refine aS 4 ?_
   refine tk 5 (.slice (tailA g c (i + 1) 3) (l.length - (i + 1)) (c - (i + 1))) ?_ (hy := fun δ w => run_slice_from g l.length c (i + 1) 3 .i64 Tryz.underlying99 (by kernel_rfl) rfl rfl (by omega))
   refine sa1 false 6 (h := O_append_in g c i (l.length - (i + 1)) (tailA g c (i + 1) 3) (c - (i + 1)) (l.flatMap Qk) ((l.drop (i + 1)).flatMap Qk) (((l.eraseIdx i).flatMap Qk) ++ tl) (fun _ => rfl) (fun _ => rfl) Tryz.underlying99 (by kernel_rfl) (by rw [flat_len descCells_len, List.length_drop]) (del_src descCells_len hi hcap) (flat_one (fun _ => rfl) _) (by omega) (del_fit descCells_len hi) hlay rfl ?_)
   rw [show i + (l.length - (i + 1)) = l.length - 1 from by omega]
   refine ⟨fun hnd => (by cases hnd), ?_⟩
   refine kpA [26, 7, 16, 6, 0, 1, 2] ?_
   refine aS 7 ?_
   refine SA_done (by kernel_rfl) (Qj ?_)
   refine sr ?_
   refine os 4 ?_
   refine L (O_val (.slice (tailA g c (l.length - 1) 3) (l.length - (l.length - 1)) (c - (l.length - 1))) rfl (fun δ w _ => run_slice_mid g (l.length - 1) c (l.length - 1) l.length 3 .i64 .i64 Tryz.underlying99 (by kernel_rfl) rfl rfl rfl (by omega) hcap) ?_)
   rw [show Value.slice (tailA g c (l.length - 1) 3) (l.length - (l.length - 1)) (c - (l.length - 1)) = Value.slice (some ⟨g, (l.length - 1) * 3, none⟩) (0 + 1) (c - (l.length - 1)) from by unfold tailA; rw [if_neg (by omega), show l.length - (l.length - 1) = 0 + 1 from by omega]]
   refine L (O_clear g (c * 3) ((l.length - 1) * 3) 0 (c - (l.length - 1)) (.agg #[.int .u64 0, .int .u64 0, .int .i64 0]) (((l.eraseIdx i).flatMap Qk) ++ tl) [.int .u64 0, .int .u64 0, .int .i64 0] (((l.eraseIdx i).flatMap Qk) ++ [.int .u64 0, .int .u64 0, .int .i64 0]) (fun _ => rfl) Tryz.underlying99 (by kernel_rfl) (by kernel_rfl) (by kernel_rfl) (by simp only [List.length_append, erase_len descCells_len hi, htl]; exact Nat.le_refl _) (lay_tail (zs := [.int .u64 0, .int .u64 0, .int .i64 0]) (erase_len descCells_len hi) htl.symm) rfl ?_)
   refine nq ?_
   refine SW_weakG (s := Gs.at g c) (e := 45) (size := 3) (cs := ((l.eraseIdx i).flatMap Qk)) (ds := [.int .u64 0, .int .u64 0, .int .i64 0]) (τ := []) ?_
   refine Qn ?_
   refine os 2 ?_
   refine kp [6, 0, 7, 16, 1, 2] ?_
   refine nt ?_
   refine Qi ?_
   refine Qg (.slice (some ⟨g, 0, none⟩) (l.length - 1) c) (fun _ => rfl) ?_
   refine ⟨(), Own.of_perm (List.Perm.refl _), ?_, ?_⟩
   · rw [List.length_eraseIdx, if_pos hi]; rfl
   · refine ⟨by rw [List.length_eraseIdx, if_pos hi]; omega, hs.2.1, ?_⟩
     rw [erase_len descCells_len hi, List.length_eraseIdx, if_pos hi]

theorem heap_Drop_no {W0 : World} {F : HeapF} {H : HeapV} (hH : H.ok F) {w : Int} {n : Nat} {x : ObjL} (h0 : objAt w H.objs.length = some n) (hx : H.objs[n]? = some x) {key : ByteArray} (hno : placeO (H.V.abs F.T) x.shape x.names key < 0) : SC Tryz.prog W0 75 #[.pointer (some ⟨F.p, 0, none⟩), .int .u64 w, .string key] (HeapV.ent H F) (Ret (fun _ : Unit => H.ent F) (fun v _ => v = .bool false)) := by
 refine SC_body (fn := Tryz.f75) (n := 48) Tryz.func75 rfl (by kernel_rfl) (ρ := [(0, pt F.p 0), (1, .int .u64 w), (2, .string key)]) rfl ?_
 refine SW_sig _ HeapV.eq0 ?_
 refine sr ?_
 refine os 1 ?_
 refine nsr ?_
 refine os 2 ?_
 refine L (cl (heap_at hH w) ?_ (hp := HeapV.pm))
 rintro v1 _ hv1
 obtain rfl : v1 = pt (Gs.blk H.s) (n * 9) := hv1.trans (by rw [h0])
 refine SL_sig _ HeapV.eq ?_
 refine os 1 ?_
 refine kp [7, 6, 0, 1, 2] ?_
 refine nq ?_
 refine sr ?_
 refine os 1 ?_
 refine oV (.bool false) ?_
 refine nt ?_
 refine cf ?_
 refine Ql (Qj ?_)
 refine sr ?_
 refine os 3 ?_
 refine L (cl (heap_place hH (n := n) hx key) ?_ (hp := HeapV.pm))
 rintro _ _ rfl
 refine SL_sig _ HeapV.eq ?_
 refine os 1 ?_
 refine kp [8, 13, 7, 6, 0, 1, 2] ?_
 refine nq ?_
 refine sr ?_
 refine os 2 ?_
 refine nt ?_
 refine SW_true (fun _ => (congrArg Value.bool (show (decide ((placeO (TreeV.abs H.V F.T) x.shape x.names key) < 0)) = true from (by simp; omega)))) ?_
 refine sr ?_
 refine os 1 ?_
 refine nt ?_
 refine Qi (Qm ?_)
 refine Qg (.bool false) (fun _ => rfl) ?_
 exact ⟨(), HeapV.own, rfl⟩

theorem heap_Drop_yes {W0 : World} {F : HeapF} {H : HeapV} (hH : H.ok F) {w : Int} {n : Nat} {x : ObjL} (h0 : objAt w H.objs.length = some n) (hx : H.objs[n]? = some x) (hI : OInv (H.V.abs F.T) x) {k : Nat} (hB : H.bud k) (hk : k ≤ 8000000) {key : ByteArray} {q_ : Nat} (hq : placeO (H.V.abs F.T) x.shape x.names key = q_) : SC Tryz.prog W0 75 #[.pointer (some ⟨F.p, 0, none⟩), .int .u64 w, .string key] (HeapV.ent H F) (Ret (fun r : ObjL × List CellL × Int => (H.upd n r.1 H.V r.2.1 r.2.2).ent F) (fun v r => v = .bool true ∧ (H.upd n r.1 H.V r.2.1 r.2.2).ok F ∧ Same x r.1 ∧ r.1.ps = ⟨if 0 ≤ x.shape then -1 else x.shape, (keysOf (H.V.abs F.T) x).eraseIdx q_, x.vals.eraseIdx q_⟩ ∧ Chg x.cell H.cl r.2.1)) := by
 have hnl := (List.getElem?_eq_some_iff.1 hx).1
 refine SC_body (fn := Tryz.f75) (n := 48) Tryz.func75 rfl (by kernel_rfl) (ρ := [(0, pt F.p 0), (1, .int .u64 w), (2, .string key)]) rfl ?_
 refine SW_sig _ HeapV.eq0 ?_
 have hvl := hB.vals x (List.mem_of_getElem? hx)
 have hqv : q_ < x.vals.length := by have q1 := placeO_lt hI (key := key) (by omega); omega
 refine sr ?_
 refine os 1 ?_
 refine nsr ?_
 refine os 2 ?_
 refine L (cl (heap_at hH w) ?_ (hp := HeapV.pm))
 rintro v1 _ hv1
 obtain rfl : v1 = pt (Gs.blk H.s) (n * 9) := hv1.trans (by rw [h0])
 refine SL_sig _ HeapV.eq ?_
 refine os 1 ?_
 refine kp [7, 6, 0, 1, 2] ?_
 refine nq ?_
 refine sr ?_
 refine os 1 ?_
 refine oV (.bool false) ?_
 refine nt ?_
 refine cf ?_
 refine Ql (Qj ?_)
 refine sr ?_
 refine os 3 ?_
 refine L (cl (heap_place hH (n := n) hx key) ?_ (hp := HeapV.pm))
 rintro v2 _ hv2
 obtain rfl : v2 = .int .i64 (q_ : Int) := hv2.trans (congrArg (Value.int .i64) hq)
 refine SL_sig _ HeapV.eq ?_
 refine os 1 ?_
 refine kp [8, 13, 7, 6, 0, 1, 2] ?_
 refine nq ?_
 refine sr ?_
 refine os 2 ?_
 refine nt ?_
 refine SW_false (fun _ => (congrArg Value.bool (show (decide ((q_ : Int) < 0)) = false from (by simp)))) ?_
 refine Ql (Qj ?_)
 refine sr ?_
 refine os 2 ?_
 refine L (cl (heap_changed hH (n := n) hx hB hk) ?_ (hp := HeapV.pm))
 rintro _ ⟨cl1, br1⟩ ⟨rfl, hccl1, hchcl1⟩
 refine SL_sig _ HeapV.eq ?_
 have hH1 : HeapV.ok (HeapV.mk H.s (H.objs.set n (ObjL.chg x)) H.ts H.texts H.known H.V H.cs cl1 br1) F := hH.chg hx hccl1 br1
 refine nsr ?_
 refine os 2 ?_
 by_cases hp1 : 0 ≤ x.shape
 ·refine L (cl (heap_loose_yes hH1 (n := n) (Qd hx) hp1) ?_ (hp := HeapV.pm))
  rintro _ kg1 ⟨rfl, hkg1⟩
  refine SL_sig _ (by simp only [HeapV.ent, HeapV.put, List.set_set, List.cons_append, List.append_assoc, List.nil_append]; rfl) ?_
  have hH2 : HeapV.ok (HeapV.mk H.s (H.objs.set n (ObjL.loosed (ObjL.chg x) kg1 (keysP (TreeV.abs H.V F.T) x.shape))) H.ts H.texts H.known H.V H.cs cl1 br1) F := by simpa only [HeapV.put, List.set_set] using HeapV.ok.put hH1 (Qd hx) (x' := (ObjL.loosed (ObjL.chg x) kg1 (keysP (TreeV.abs H.V F.T) x.shape))) ⟨hkg1, (HeapV.ok.at hH1 (Qd hx)).vs, (HeapV.ok.at hH1 (Qd hx)).es, (HeapV.ok.at hH1 (Qd hx)).is⟩ (HeapV.ok.small hH1 (ObjL.chg x) (List.mem_of_getElem? (Qd hx)))
  refine nq ?_
  have hqn : q_ < (keysP (TreeV.abs H.V F.T) x.shape).length := by have q1 := hI.len; have q2 := hqv; unfold keysOf at q1; rw [if_neg (by omega)] at q1; omega
  refine SW_perm _ (perm_cc (perm_ca perm_cz)) ?_
  refine SW_perm ((Gs.ent 9 1 kg1 ((keysP (TreeV.abs H.V F.T) x.shape).map encS)) ++ ((Gs.ent 45 3 x.vs (x.vals.flatMap Qk)) ++ ((Gs.ent 33 1 x.es (x.elems.map encU)) ++ ((Gs.ent 33 1 x.is (x.inner.map encU)) ++ (((List.eraseIdx (H.objs.set n (ObjL.loosed (ObjL.chg x) kg1 (keysP (TreeV.abs H.V F.T) x.shape))) n).flatMap ObjL.ent) ++ ((F.p, .cells 75 6 [Gs.val H.s ((H.objs.set n (ObjL.loosed (ObjL.chg x) kg1 (keysP (TreeV.abs H.V F.T) x.shape))).length), Gs.val H.ts H.texts.length, .map (some F.kb), pt F.T.p 0, pt F.cp 0, .int .i64 br1]) :: ((Gs.ent 102 9 H.s ((H.objs.set n (ObjL.loosed (ObjL.chg x) kg1 (keysP (TreeV.abs H.V F.T) x.shape))).flatMap ObjL.cells)) ++ ((Gs.ent 9 1 H.ts (H.texts.map encS)) ++ ((F.kb, .map (kvs encS encU H.known)) :: ((TreeV.ent H.V F.T) ++ ((CellsL.ent (CellsL.mk F.cp H.cs cl1)) ++ ([])))))))))))) (obj_focus (Qd hx) _) ?_
  refine SW_draw [((Gs.blk H.s), n * 9 + 4, Gs.val kg1 ((keysP (TreeV.abs H.V F.T) x.shape).length)), ((Gs.blk H.s), n * 9 + 5, Gs.val x.vs x.vals.length)] [0, 1, 2, 3, 4, 5, 6, 7, 8, 9, 10, 11, 12, 13, 14, 15, 16] (by kernel_rfl) (Qf (Gs.cell hH2.row (fun e he => (Qa (Qa (Qa (Qa (Qa (Qc (mem_h he)))))))) (Qh ObjL.len (Qd hx) (j := 4) (by decide) rfl)) (Qf (Gs.cell hH2.row (fun e he => (Qa (Qa (Qa (Qa (Qa (Qc (mem_h he)))))))) (Qh ObjL.len (Qd hx) (j := 5) (by decide) rfl)) rd_nil)) ?_
  refine aS 0 ?_
  refine aS 1 ?_
  refine aS 2 ?_
  refine aS 3 ?_
  refine kpA [29, 27, 26, 19, 8, 13, 7, 6, 0, 1, 2] ?_
  refine aF 4 ?_
  refine aL 5 ?_
  refine aS 6 ?_
  refine aS 7 ?_
  refine tk 8 (.int .i64 (IntKind.wrap .i64 ((q_ : Int) + 1))) ?_
  rw [show IntKind.wrap .i64 ((q_ : Int) + 1) = (q_ : Int) + 1 from IntWalk.i64_in _ (by omega)]
  refine aS 10 ?_
  refine aS 11 ?_
  refine aF 12 ?_
  refine aL 13 ?_
  refine aS 14 ?_
  refine aS 15 ?_
  refine tk 16 (.int .i64 (IntKind.wrap .i64 ((q_ : Int) + 1))) ?_
  rw [show IntKind.wrap .i64 ((q_ : Int) + 1) = (q_ : Int) + 1 from IntWalk.i64_in _ (by omega)]
  refine sa1 true 9 (h := cl (delete_texts (i := q_) (show Gs.ok 1 ((keysP (TreeV.abs H.V F.T) x.shape)).length kg1 ((keysP (TreeV.abs H.V F.T) x.shape).map encS) from (HeapV.ok.at (x := (ObjL.loosed (ObjL.chg x) kg1 (keysP (TreeV.abs H.V F.T) x.shape))) hH2 (Qd hx)).ns) hqn) ?_)
  rintro _ _ ⟨rfl, hdl1⟩
  refine ⟨fun hnd => (Qf (Gs.cell hH2.row (fun e he => (Qa (Qa (Qa (Qa (Qa (Qc (mem_h he)))))))) (Qh ObjL.len (Qd hx) (j := 4) (by decide) rfl)) (Qf (Gs.cell hH2.row (fun e he => (Qa (Qa (Qa (Qa (Qa (Qc (mem_h he)))))))) (Qh ObjL.len (Qd hx) (j := 5) (by decide) rfl)) rd_nil)), ?_⟩
  refine kpA [35, 42, 40, 39, 27, 26, 19, 8, 13, 7, 6, 0, 1, 2] ?_
  refine sa1 false 17 (h := cl (delete_descs (i := q_) (show Gs.ok 3 (x.vals).length x.vs (x.vals.flatMap Qk) from (HeapV.ok.at (x := (ObjL.loosed (ObjL.chg x) kg1 (keysP (TreeV.abs H.V F.T) x.shape))) hH2 (Qd hx)).vs) hqv) ?_)
  rintro _ _ ⟨rfl, hdl2⟩
  refine ⟨fun hnd => (by cases hnd), ?_⟩
  refine aS 18 ?_
  refine aF 19 ?_
  have hok3 := Gs.ok.relen (ys := ((H.objs.set n (ObjL.mk x.kind x.proto x.shut (-1) kg1 ((keysP (TreeV.abs H.V F.T) x.shape).eraseIdx q_) x.vs x.vals x.es x.elems x.is x.inner (if 0 ≤ x.cell then -1 else x.cell))).flatMap ObjL.cells)) hH2.row (by simp [flat_len ObjL.len])
  refine SA_perm _ (perm_ca (perm_ca (perm_ca (perm_ca (perm_ca (perm_cc perm_cz)))))) ?_
  refine sa1 false 20 (h := O_storeG (ys := ((H.objs.set n (ObjL.mk x.kind x.proto x.shut (-1) kg1 ((keysP (TreeV.abs H.V F.T) x.shape).eraseIdx q_) x.vs x.vals x.es x.elems x.is x.inner (if 0 ≤ x.cell then -1 else x.cell))).flatMap ObjL.cells)) H.s (n * 9 + 4) (Gs.val kg1 (((keysP (TreeV.abs H.V F.T) x.shape).eraseIdx q_).length)) [Gs.val kg1 (((keysP (TreeV.abs H.V F.T) x.shape).eraseIdx q_).length)] (Gs.ok.ne hH2.row (by first | omega | (simp; omega))) (fun _ => rfl) (fun _ => rfl) rfl (by kernel_rfl) rfl (by rw [flat_len ObjL.len]; simp; omega) ((row_lay (j := 4) ObjL.len (ObjL.mk x.kind x.proto x.shut (-1) kg1 ((keysP (TreeV.abs H.V F.T) x.shape).eraseIdx q_) x.vs x.vals x.es x.elems x.is x.inner (if 0 ≤ x.cell then -1 else x.cell)) (Qd hx) (Nat.le_of_ble_eq_true rfl) rfl).trans (by rw [List.set_set])) rfl ?_)
  refine ⟨fun hnd => (by cases hnd), ?_⟩
  refine aS 21 ?_
  refine kpA [46, 43, 19, 8, 13, 7, 6, 0, 1, 2] ?_
  refine aF 22 ?_
  have hok4 := Gs.ok.relen (ys := ((H.objs.set n (ObjL.mk x.kind x.proto x.shut (-1) kg1 ((keysP (TreeV.abs H.V F.T) x.shape).eraseIdx q_) x.vs (x.vals.eraseIdx q_) x.es x.elems x.is x.inner (if 0 ≤ x.cell then -1 else x.cell))).flatMap ObjL.cells)) hok3 (by simp [flat_len ObjL.len])
  refine sa1 false 23 (h := O_storeG (ys := ((H.objs.set n (ObjL.mk x.kind x.proto x.shut (-1) kg1 ((keysP (TreeV.abs H.V F.T) x.shape).eraseIdx q_) x.vs (x.vals.eraseIdx q_) x.es x.elems x.is x.inner (if 0 ≤ x.cell then -1 else x.cell))).flatMap ObjL.cells)) H.s (n * 9 + 5) (Gs.val x.vs ((x.vals.eraseIdx q_).length)) [Gs.val x.vs ((x.vals.eraseIdx q_).length)] (Gs.ok.ne hok3 (by first | omega | (simp; omega))) (fun _ => rfl) (fun _ => rfl) rfl (by kernel_rfl) rfl (by rw [flat_len ObjL.len]; simp; omega) ((row_lay (j := 5) ObjL.len (ObjL.mk x.kind x.proto x.shut (-1) kg1 ((keysP (TreeV.abs H.V F.T) x.shape).eraseIdx q_) x.vs (x.vals.eraseIdx q_) x.es x.elems x.is x.inner (if 0 ≤ x.cell then -1 else x.cell)) (Qd hx) (Nat.le_of_ble_eq_true rfl) rfl).trans (by rw [List.set_set])) rfl ?_)
  refine ⟨fun hnd => (by cases hnd), ?_⟩
  refine SA_done (by kernel_rfl) (Qj ?_)
  refine sr ?_
  refine os 1 ?_
  refine kp [6, 19, 8, 13, 7, 0, 1, 2] ?_
  refine nt ?_
  refine Qi ?_
  refine Qg (.bool true) (fun _ => rfl) ?_
  refine ⟨((ObjL.mk x.kind x.proto x.shut (-1) kg1 ((keysP (TreeV.abs H.V F.T) x.shape).eraseIdx q_) x.vs (x.vals.eraseIdx q_) x.es x.elems x.is x.inner (if 0 ≤ x.cell then -1 else x.cell)), cl1, br1), ?_, rfl, ?_, ⟨rfl, rfl, rfl, rfl, rfl, rfl, rfl, rfl⟩, ?_, hchcl1⟩
  · refine Own.trans (ow (S := ((F.p, .cells 75 6 [Gs.val H.s ((H.objs.set n (ObjL.loosed (ObjL.chg x) kg1 (keysP (TreeV.abs H.V F.T) x.shape))).length), Gs.val H.ts H.texts.length, .map (some F.kb), pt F.T.p 0, pt F.cp 0, .int .i64 br1]) :: ((Gs.ent 102 9 H.s ((H.objs.set n (ObjL.mk x.kind x.proto x.shut (-1) kg1 ((keysP (TreeV.abs H.V F.T) x.shape).eraseIdx q_) x.vs (x.vals.eraseIdx q_) x.es x.elems x.is x.inner (if 0 ≤ x.cell then -1 else x.cell))).flatMap ObjL.cells)) ++ ((Gs.ent 9 1 kg1 (((keysP (TreeV.abs H.V F.T) x.shape).eraseIdx q_).map encS)) ++ ((Gs.ent 45 3 x.vs ((x.vals.eraseIdx q_).flatMap Qk)) ++ ((Gs.ent 33 1 x.es (x.elems.map encU)) ++ ((Gs.ent 33 1 x.is (x.inner.map encU)) ++ (((List.eraseIdx (H.objs.set n (ObjL.loosed (ObjL.chg x) kg1 (keysP (TreeV.abs H.V F.T) x.shape))) n).flatMap ObjL.ent) ++ ((Gs.ent 9 1 H.ts (H.texts.map encS)) ++ ((F.kb, .map (kvs encS encU H.known)) :: ((TreeV.ent H.V F.T) ++ ((CellsL.ent (CellsL.mk F.cp H.cs cl1)) ++ ([])))))))))))))) (Own.of_perm ?_)
    have hb_ := HeapV.back (H := (HeapV.mk H.s (H.objs.set n (ObjL.loosed (ObjL.chg x) kg1 (keysP (TreeV.abs H.V F.T) x.shape))) H.ts H.texts H.known H.V H.cs cl1 br1)) F (Qd hx) (ObjL.mk x.kind x.proto x.shut (-1) kg1 ((keysP (TreeV.abs H.V F.T) x.shape).eraseIdx q_) x.vs (x.vals.eraseIdx q_) x.es x.elems x.is x.inner (if 0 ≤ x.cell then -1 else x.cell))
    simp only [HeapV.head, HeapV.put, List.set_set, List.length_set] at hb_ ⊢
    exact hb_
  · simpa only [HeapV.put, List.set_set, List.length_set] using HeapV.ok.put hH2 (Qd hx) (x' := (ObjL.mk x.kind x.proto x.shut (-1) kg1 ((keysP (TreeV.abs H.V F.T) x.shape).eraseIdx q_) x.vs (x.vals.eraseIdx q_) x.es x.elems x.is x.inner (if 0 ≤ x.cell then -1 else x.cell))) ⟨(by first | exact hdl1 | (simp only [List.length_set]; exact hdl1)), (by first | exact hdl2 | (simp only [List.length_set]; exact hdl2)), (by first | exact (show Gs.ok 1 (x.elems).length x.es (x.elems.map encU) from (HeapV.ok.at (x := (ObjL.loosed (ObjL.chg x) kg1 (keysP (TreeV.abs H.V F.T) x.shape))) hH2 (Qd hx)).es) | (simp only [List.length_set]; exact (show Gs.ok 1 (x.elems).length x.es (x.elems.map encU) from (HeapV.ok.at (x := (ObjL.loosed (ObjL.chg x) kg1 (keysP (TreeV.abs H.V F.T) x.shape))) hH2 (Qd hx)).es))), (by first | exact (show Gs.ok 1 (x.inner).length x.is (x.inner.map encU) from (HeapV.ok.at (x := (ObjL.loosed (ObjL.chg x) kg1 (keysP (TreeV.abs H.V F.T) x.shape))) hH2 (Qd hx)).is) | (simp only [List.length_set]; exact (show Gs.ok 1 (x.inner).length x.is (x.inner.map encU) from (HeapV.ok.at (x := (ObjL.loosed (ObjL.chg x) kg1 (keysP (TreeV.abs H.V F.T) x.shape))) hH2 (Qd hx)).is)))⟩ (by first | omega | exact hH.small x (List.mem_of_getElem? hx))
  · show PS.mk _ _ _ = PS.mk _ _ _
    unfold keysOf; rw [if_pos hp1, if_neg (show ¬ x.shape < 0 from by omega)]
 refine L (cl (heap_loose_no hH1 (n := n) (Qd hx) (by simpa using hp1)) ?_ (hp := HeapV.pm))
 rintro v9 _ hv9
 obtain rfl : v9 = .tuple #[] := hv9.trans (rfl)
 refine SL_sig _ HeapV.eq ?_
 refine nq ?_
 have hqn : q_ < x.names.length := by have q1 := hI.len; have q2 := hqv; unfold keysOf at q1; rw [if_pos (by omega)] at q1; omega
 refine SW_perm _ (perm_cc (perm_ca perm_cz)) ?_
 refine SW_perm ((Gs.ent 9 1 x.ns (x.names.map encS)) ++ ((Gs.ent 45 3 x.vs (x.vals.flatMap Qk)) ++ ((Gs.ent 33 1 x.es (x.elems.map encU)) ++ ((Gs.ent 33 1 x.is (x.inner.map encU)) ++ (((List.eraseIdx (H.objs.set n (ObjL.chg x)) n).flatMap ObjL.ent) ++ ((F.p, .cells 75 6 [Gs.val H.s ((H.objs.set n (ObjL.chg x)).length), Gs.val H.ts H.texts.length, .map (some F.kb), pt F.T.p 0, pt F.cp 0, .int .i64 br1]) :: ((Gs.ent 102 9 H.s ((H.objs.set n (ObjL.chg x)).flatMap ObjL.cells)) ++ ((Gs.ent 9 1 H.ts (H.texts.map encS)) ++ ((F.kb, .map (kvs encS encU H.known)) :: ((TreeV.ent H.V F.T) ++ ((CellsL.ent (CellsL.mk F.cp H.cs cl1)) ++ ([])))))))))))) (obj_focus (Qd hx) _) ?_
 refine SW_draw [((Gs.blk H.s), n * 9 + 4, Gs.val x.ns x.names.length), ((Gs.blk H.s), n * 9 + 5, Gs.val x.vs x.vals.length)] [0, 1, 2, 3, 4, 5, 6, 7, 8, 9, 10, 11, 12, 13, 14, 15, 16] (by kernel_rfl) (Qf (Gs.cell hH1.row (fun e he => (Qa (Qa (Qa (Qa (Qa (Qc (mem_h he)))))))) (Qh ObjL.len (Qd hx) (j := 4) (by decide) rfl)) (Qf (Gs.cell hH1.row (fun e he => (Qa (Qa (Qa (Qa (Qa (Qc (mem_h he)))))))) (Qh ObjL.len (Qd hx) (j := 5) (by decide) rfl)) rd_nil)) ?_
 refine aS 0 ?_
 refine aS 1 ?_
 refine aS 2 ?_
 refine aS 3 ?_
 refine kpA [29, 27, 26, 19, 8, 13, 7, 6, 0, 1, 2] ?_
 refine aF 4 ?_
 refine aL 5 ?_
 refine aS 6 ?_
 refine aS 7 ?_
 refine tk 8 (.int .i64 (IntKind.wrap .i64 ((q_ : Int) + 1))) ?_
 rw [show IntKind.wrap .i64 ((q_ : Int) + 1) = (q_ : Int) + 1 from IntWalk.i64_in _ (by omega)]
 refine aS 10 ?_
 refine aS 11 ?_
 refine aF 12 ?_
 refine aL 13 ?_
 refine aS 14 ?_
 refine aS 15 ?_
 refine tk 16 (.int .i64 (IntKind.wrap .i64 ((q_ : Int) + 1))) ?_
 rw [show IntKind.wrap .i64 ((q_ : Int) + 1) = (q_ : Int) + 1 from IntWalk.i64_in _ (by omega)]
 refine sa1 true 9 (h := cl (delete_texts (i := q_) (show Gs.ok 1 (x.names).length x.ns (x.names.map encS) from (HeapV.ok.at (x := (ObjL.chg x)) hH1 (Qd hx)).ns) hqn) ?_)
 rintro _ _ ⟨rfl, hdl1⟩
 refine ⟨fun hnd => (Qf (Gs.cell hH1.row (fun e he => (Qa (Qa (Qa (Qa (Qa (Qc (mem_h he)))))))) (Qh ObjL.len (Qd hx) (j := 4) (by decide) rfl)) (Qf (Gs.cell hH1.row (fun e he => (Qa (Qa (Qa (Qa (Qa (Qc (mem_h he)))))))) (Qh ObjL.len (Qd hx) (j := 5) (by decide) rfl)) rd_nil)), ?_⟩
 refine kpA [35, 42, 40, 39, 27, 26, 19, 8, 13, 7, 6, 0, 1, 2] ?_
 refine sa1 false 17 (h := cl (delete_descs (i := q_) (show Gs.ok 3 (x.vals).length x.vs (x.vals.flatMap Qk) from (HeapV.ok.at (x := (ObjL.chg x)) hH1 (Qd hx)).vs) hqv) ?_)
 rintro _ _ ⟨rfl, hdl2⟩
 refine ⟨fun hnd => (by cases hnd), ?_⟩
 refine aS 18 ?_
 refine aF 19 ?_
 have hok7 := Gs.ok.relen (ys := ((H.objs.set n (ObjL.mk x.kind x.proto x.shut x.shape x.ns (x.names.eraseIdx q_) x.vs x.vals x.es x.elems x.is x.inner (if 0 ≤ x.cell then -1 else x.cell))).flatMap ObjL.cells)) hH1.row (by simp [flat_len ObjL.len])
 refine SA_perm _ (perm_ca (perm_ca (perm_ca (perm_ca (perm_ca (perm_cc perm_cz)))))) ?_
 refine sa1 false 20 (h := O_storeG (ys := ((H.objs.set n (ObjL.mk x.kind x.proto x.shut x.shape x.ns (x.names.eraseIdx q_) x.vs x.vals x.es x.elems x.is x.inner (if 0 ≤ x.cell then -1 else x.cell))).flatMap ObjL.cells)) H.s (n * 9 + 4) (Gs.val x.ns ((x.names.eraseIdx q_).length)) [Gs.val x.ns ((x.names.eraseIdx q_).length)] (Gs.ok.ne hH1.row (by first | omega | (simp; omega))) (fun _ => rfl) (fun _ => rfl) rfl (by kernel_rfl) rfl (by rw [flat_len ObjL.len]; simp; omega) ((row_lay (j := 4) ObjL.len (ObjL.mk x.kind x.proto x.shut x.shape x.ns (x.names.eraseIdx q_) x.vs x.vals x.es x.elems x.is x.inner (if 0 ≤ x.cell then -1 else x.cell)) (Qd hx) (Nat.le_of_ble_eq_true rfl) rfl).trans (by rw [List.set_set])) rfl ?_)
 refine ⟨fun hnd => (by cases hnd), ?_⟩
 refine aS 21 ?_
 refine kpA [46, 43, 19, 8, 13, 7, 6, 0, 1, 2] ?_
 refine aF 22 ?_
 have hok8 := Gs.ok.relen (ys := ((H.objs.set n (ObjL.mk x.kind x.proto x.shut x.shape x.ns (x.names.eraseIdx q_) x.vs (x.vals.eraseIdx q_) x.es x.elems x.is x.inner (if 0 ≤ x.cell then -1 else x.cell))).flatMap ObjL.cells)) hok7 (by simp [flat_len ObjL.len])
 refine sa1 false 23 (h := O_storeG (ys := ((H.objs.set n (ObjL.mk x.kind x.proto x.shut x.shape x.ns (x.names.eraseIdx q_) x.vs (x.vals.eraseIdx q_) x.es x.elems x.is x.inner (if 0 ≤ x.cell then -1 else x.cell))).flatMap ObjL.cells)) H.s (n * 9 + 5) (Gs.val x.vs ((x.vals.eraseIdx q_).length)) [Gs.val x.vs ((x.vals.eraseIdx q_).length)] (Gs.ok.ne hok7 (by first | omega | (simp; omega))) (fun _ => rfl) (fun _ => rfl) rfl (by kernel_rfl) rfl (by rw [flat_len ObjL.len]; simp; omega) ((row_lay (j := 5) ObjL.len (ObjL.mk x.kind x.proto x.shut x.shape x.ns (x.names.eraseIdx q_) x.vs (x.vals.eraseIdx q_) x.es x.elems x.is x.inner (if 0 ≤ x.cell then -1 else x.cell)) (Qd hx) (Nat.le_of_ble_eq_true rfl) rfl).trans (by rw [List.set_set])) rfl ?_)
 refine ⟨fun hnd => (by cases hnd), ?_⟩
 refine SA_done (by kernel_rfl) (Qj ?_)
 refine sr ?_
 refine os 1 ?_
 refine kp [6, 19, 8, 13, 7, 0, 1, 2] ?_
 refine nt ?_
 refine Qi ?_
 refine Qg (.bool true) (fun _ => rfl) ?_
 refine ⟨((ObjL.mk x.kind x.proto x.shut x.shape x.ns (x.names.eraseIdx q_) x.vs (x.vals.eraseIdx q_) x.es x.elems x.is x.inner (if 0 ≤ x.cell then -1 else x.cell)), cl1, br1), ?_, rfl, ?_, ⟨rfl, rfl, rfl, rfl, rfl, rfl, rfl, rfl⟩, ?_, hchcl1⟩
 · refine Own.trans (ow (S := ((F.p, .cells 75 6 [Gs.val H.s ((H.objs.set n (ObjL.chg x)).length), Gs.val H.ts H.texts.length, .map (some F.kb), pt F.T.p 0, pt F.cp 0, .int .i64 br1]) :: ((Gs.ent 102 9 H.s ((H.objs.set n (ObjL.mk x.kind x.proto x.shut x.shape x.ns (x.names.eraseIdx q_) x.vs (x.vals.eraseIdx q_) x.es x.elems x.is x.inner (if 0 ≤ x.cell then -1 else x.cell))).flatMap ObjL.cells)) ++ ((Gs.ent 9 1 x.ns ((x.names.eraseIdx q_).map encS)) ++ ((Gs.ent 45 3 x.vs ((x.vals.eraseIdx q_).flatMap Qk)) ++ ((Gs.ent 33 1 x.es (x.elems.map encU)) ++ ((Gs.ent 33 1 x.is (x.inner.map encU)) ++ (((List.eraseIdx (H.objs.set n (ObjL.chg x)) n).flatMap ObjL.ent) ++ ((Gs.ent 9 1 H.ts (H.texts.map encS)) ++ ((F.kb, .map (kvs encS encU H.known)) :: ((TreeV.ent H.V F.T) ++ ((CellsL.ent (CellsL.mk F.cp H.cs cl1)) ++ ([])))))))))))))) (Own.of_perm ?_)
   have hb_ := HeapV.back (H := (HeapV.mk H.s (H.objs.set n (ObjL.chg x)) H.ts H.texts H.known H.V H.cs cl1 br1)) F (Qd hx) (ObjL.mk x.kind x.proto x.shut x.shape x.ns (x.names.eraseIdx q_) x.vs (x.vals.eraseIdx q_) x.es x.elems x.is x.inner (if 0 ≤ x.cell then -1 else x.cell))
   simp only [HeapV.head, HeapV.put, List.set_set, List.length_set] at hb_ ⊢
   exact hb_
 · simpa only [HeapV.put, List.set_set, List.length_set] using HeapV.ok.put hH1 (Qd hx) (x' := (ObjL.mk x.kind x.proto x.shut x.shape x.ns (x.names.eraseIdx q_) x.vs (x.vals.eraseIdx q_) x.es x.elems x.is x.inner (if 0 ≤ x.cell then -1 else x.cell))) ⟨(by first | exact hdl1 | (simp only [List.length_set]; exact hdl1)), (by first | exact hdl2 | (simp only [List.length_set]; exact hdl2)), (by first | exact (show Gs.ok 1 (x.elems).length x.es (x.elems.map encU) from (HeapV.ok.at (x := (ObjL.chg x)) hH1 (Qd hx)).es) | (simp only [List.length_set]; exact (show Gs.ok 1 (x.elems).length x.es (x.elems.map encU) from (HeapV.ok.at (x := (ObjL.chg x)) hH1 (Qd hx)).es))), (by first | exact (show Gs.ok 1 (x.inner).length x.is (x.inner.map encU) from (HeapV.ok.at (x := (ObjL.chg x)) hH1 (Qd hx)).is) | (simp only [List.length_set]; exact (show Gs.ok 1 (x.inner).length x.is (x.inner.map encU) from (HeapV.ok.at (x := (ObjL.chg x)) hH1 (Qd hx)).is)))⟩ (by first | omega | exact hH.small x (List.mem_of_getElem? hx))
 · show PS.mk _ _ _ = PS.mk _ _ _
   unfold keysOf; rw [if_neg hp1, if_pos (show x.shape < 0 from by omega)]

theorem texts_Clone {W0 : World} {σ : Qp} {l : List ByteArray} {A : Option Addr} {c : Nat} (hs : Src W0 σ A (l.map encS)) (hr : l.length ≤ 1099511627776) : SC Tryz.prog W0 90 #[.slice A l.length c] σ (Ret (fun s : Gs => s.ent 9 1 (l.map encS) ++ (σ ++ [])) (fun v s => v = s.val l.length ∧ s.ok 1 l.length (l.map encS))) := by
 cases A with
 | none =>
   obtain rfl : l = [] := by
     rcases hs with h | ⟨b, o, e, _⟩
     · exact List.eq_nil_of_length_eq_zero (by simpa using h)
     · cases e
   refine SC_body (fn := Tryz.f90) (n := 8) Tryz.func90 rfl (by kernel_rfl) (ρ := [(0, .slice none (([] : List ByteArray).length) c)]) rfl ?_
   refine SW_sig (σ ++ ([])) (by simp only [List.append_nil, List.append_assoc]) ?_
   refine sr ?_
   refine os 1 ?_
   refine nq ?_
   refine sr ?_
   refine os 1 ?_
   refine oV (.bool true) ?_
   refine nt ?_
   refine ct ?_
   refine sr ?_
   refine os 1 ?_
   refine nt ?_
   refine Qi (Qm ?_)
   refine Qg (.slice none 0 0) (fun _ => rfl) ?_
   exact ⟨.nil, Own.of_perm (by simp [Gs.ent]), rfl, ⟨rfl, rfl⟩⟩
 | some a =>
   refine SC_body (fn := Tryz.f90) (n := 8) Tryz.func90 rfl (by kernel_rfl) (ρ := [(0, .slice (some a) l.length c)]) rfl ?_
   refine SW_sig (σ ++ ([])) (by simp only [List.append_nil, List.append_assoc]) ?_
   refine sr ?_
   refine os 1 ?_
   refine nq ?_
   refine sr ?_
   refine os 1 ?_
   refine oV (.bool false) ?_
   refine nt ?_
   refine cf ?_
   refine Ql (Qj ?_)
   refine sr ?_
   refine L (nws 9 0 0 [] ?_)
   intro b1
   refine os 1 ?_
   refine SL_sig ((Gs.ent 9 1 (Gs.at b1 0) (([] : List ByteArray).map encS)) ++ (σ ++ ([]))) rfl ?_
   refine L (O_append (size := 1) (bytes := 16) (z := .string ByteArray.empty) (Gs.at b1 0) 0 l.length (some a) c (([] : List ByteArray).map encS) (l.map encS) ((([] : List ByteArray) ++ l).map encS) (map_app _ _) (fun _ => rfl) (fun _ => rfl) Tryz.underlying26 (by kernel_rfl) rfl (by decide) ⟨Nat.le_refl _, by unfold maxLen; omega, rfl⟩ (by simp) (Src.elems (hs.mono (fun e he => (Qa (mem_h he)))) (by simp)) (map_one (fun _ => rfl) _) (by omega) (by decide) rfl ?_)
   intro s2 hks2 hfs2
   rw [show 0 + l.length = (([] : List ByteArray) ++ l).length from by simp]
   rw [show 0 + l.length = (([] : List ByteArray) ++ l).length from by simp] at hks2
   have hls2 : (([] : List ByteArray) ++ l).length = ([] : List ByteArray).length + l.length := by simp
   refine os 1 ?_
   refine kp [2, 4, 0] ?_
   refine nt ?_
   refine Qi ?_
   refine Qg (Gs.val s2 ((([] : List ByteArray) ++ l).length)) (fun _ => rfl) ?_
   exact ⟨s2, (ow (S := ((Gs.ent 9 1 s2 ((([] : List ByteArray) ++ l).map encS)) ++ (σ ++ ([]))))), rfl, hks2⟩

theorem heap_Keys_none {W0 : World} {F : HeapF} {H : HeapV} (hH : H.ok F) {w : Int} (h0 : objAt w H.objs.length = none) : SC Tryz.prog W0 57 #[.pointer (some ⟨F.p, 0, none⟩), .int .u64 w] (HeapV.ent H F) (Ret (fun _ : Unit => H.ent F) (fun v _ => v = .slice none 0 0)) := by
 refine SC_body (fn := Tryz.f57) (n := 32) Tryz.func57 rfl (by kernel_rfl) (ρ := [(0, pt F.p 0), (1, .int .u64 w)]) rfl ?_
 refine SW_sig _ HeapV.eq0 ?_
 refine sr ?_
 refine os 1 ?_
 refine nsr ?_
 refine os 2 ?_
 refine L (cl (heap_at hH w) ?_ (hp := HeapV.pm))
 rintro v1 _ hv1
 obtain rfl : v1 = .pointer none := hv1.trans (by rw [h0])
 refine SL_sig _ HeapV.eq ?_
 refine os 1 ?_
 refine kp [5, 4, 0, 1] ?_
 refine nq ?_
 refine SW_block ?_
 refine sr ?_
 refine os 1 ?_
 refine oV (.bool true) ?_
 refine os 1 ?_
 refine nt ?_
 refine ct ?_
 refine sr ?_
 refine os 1 ?_
 refine nt ?_
 refine Qi (r_in (Qm ?_))
 refine Qg (.slice none 0 0) (fun _ => rfl) ?_
 exact ⟨(), HeapV.own, rfl⟩

theorem heap_Keys_slow {W0 : World} {F : HeapF} {H : HeapV} (hH : H.ok F) {w : Int} {n : Nat} {x : ObjL} (h0 : objAt w H.objs.length = some n) (hx : H.objs[n]? = some x) (hsh : x.shape < 0) (hnm : x.names.length ≤ 1099511627776) : SC Tryz.prog W0 57 #[.pointer (some ⟨F.p, 0, none⟩), .int .u64 w] (HeapV.ent H F) (Ret (fun g : Gs => g.ent 9 1 ((keysOf (H.V.abs F.T) x).map encS) ++ H.ent F) (fun v g => v = g.val (keysOf (H.V.abs F.T) x).length ∧ g.ok 1 (keysOf (H.V.abs F.T) x).length ((keysOf (H.V.abs F.T) x).map encS))) := by
 refine SC_body (fn := Tryz.f57) (n := 32) Tryz.func57 rfl (by kernel_rfl) (ρ := [(0, pt F.p 0), (1, .int .u64 w)]) rfl ?_
 refine SW_sig _ HeapV.eq0 ?_
 refine sr ?_
 refine os 1 ?_
 refine nsr ?_
 refine os 2 ?_
 refine L (cl (heap_at hH w) ?_ (hp := HeapV.pm))
 rintro v1 _ hv1
 obtain rfl : v1 = pt (Gs.blk H.s) (n * 9) := hv1.trans (by rw [h0])
 refine SL_sig _ HeapV.eq ?_
 refine os 1 ?_
 refine kp [5, 4, 0, 1] ?_
 refine nq ?_
 refine SW_block ?_
 refine sr ?_
 refine os 1 ?_
 refine oV (.bool false) ?_
 refine os 1 ?_
 refine nt ?_
 refine cf ?_
 refine sr ?_
 refine os 3 ?_
 refine L (ld ?_ (hc := Gs.cell hH.row (fun e he => (Qc (mem_h he))) (Qh ObjL.len hx (j := 3) (by decide) rfl)))
 refine os 2 ?_
 refine kp [12, 9, 5, 4, 0, 1] ?_
 refine nt ?_
 refine SW_true (fun _ => (congrArg Value.bool (show (decide (x.shape < 0)) = true from (by simp; omega)))) ?_
 refine sr ?_
 refine os 3 ?_
 refine L (ld ?_ (hc := Gs.cell hH.row (fun e he => (Qc (mem_h he))) (Qh ObjL.len hx (j := 4) (by decide) rfl)))
 refine L (clA (texts_Clone (σ := _) (l := x.names) (Gs.src0 (HeapV.ok.at hH hx).ns (fun e he => (Qc (Qa (mem_h ((ObjL.mns hx) _ he)))))) (by omega)) ?_)
 rintro _ cg1 ⟨rfl, hcg1⟩
 refine un ?_
 refine os 1 ?_
 refine kp [4, 12, 9, 5, 0, 1] ?_
 refine nt ?_
 refine Qi (r_in (Qm ?_))
 refine Qg (Gs.val cg1 x.names.length) (fun _ => rfl) ?_
 rw [show keysOf (H.V.abs F.T) x = x.names from by unfold keysOf; rw [if_pos hsh]]
 exact ⟨cg1, (by rw [HeapV.eq0]; exact ow), rfl, hcg1⟩

theorem heap_Keys_fast {W0 : World} {F : HeapF} {H : HeapV} (hH : H.ok F) {w : Int} {n : Nat} {x : ObjL} (h0 : objAt w H.objs.length = some n) (hx : H.objs[n]? = some x) (hsh : ¬ x.shape < 0) : SC Tryz.prog W0 57 #[.pointer (some ⟨F.p, 0, none⟩), .int .u64 w] (HeapV.ent H F) (Ret (fun g : Gs => g.ent 9 1 ((keysOf (H.V.abs F.T) x).map encS) ++ H.ent F) (fun v g => v = g.val (keysOf (H.V.abs F.T) x).length ∧ g.ok 1 (keysOf (H.V.abs F.T) x).length ((keysOf (H.V.abs F.T) x).map encS))) := by
 refine SC_body (fn := Tryz.f57) (n := 32) Tryz.func57 rfl (by kernel_rfl) (ρ := [(0, pt F.p 0), (1, .int .u64 w)]) rfl ?_
 refine SW_sig _ HeapV.eq0 ?_
 refine sr ?_
 refine os 1 ?_
 refine nsr ?_
 refine os 2 ?_
 refine L (cl (heap_at hH w) ?_ (hp := HeapV.pm))
 rintro v1 _ hv1
 obtain rfl : v1 = pt (Gs.blk H.s) (n * 9) := hv1.trans (by rw [h0])
 refine SL_sig _ HeapV.eq ?_
 refine os 1 ?_
 refine kp [5, 4, 0, 1] ?_
 refine nq ?_
 refine SW_block ?_
 refine sr ?_
 refine os 1 ?_
 refine oV (.bool false) ?_
 refine os 1 ?_
 refine nt ?_
 refine cf ?_
 refine sr ?_
 refine os 3 ?_
 refine L (ld ?_ (hc := Gs.cell hH.row (fun e he => (Qc (mem_h he))) (Qh ObjL.len hx (j := 3) (by decide) rfl)))
 refine os 2 ?_
 refine kp [12, 9, 5, 4, 0, 1] ?_
 refine nt ?_
 refine SW_false (fun _ => (congrArg Value.bool (show (decide (x.shape < 0)) = false from (by simp; omega)))) ?_
 refine Ql (n_in (Qj ?_))
 refine SW_seq ?_
 refine SW_draw [(F.p, 3, pt F.T.p 0), ((Gs.blk H.s), n * 9 + 3, .int .i64 x.shape)] [0, 1, 2, 3, 4, 5, 6, 7] (by kernel_rfl) (Qf (Cell.own Qe rfl) (Qf (Gs.cell hH.row (fun e he => (Qc (mem_h he))) (Qh ObjL.len hx (j := 3) (by decide) rfl)) rd_nil)) ?_
 refine aS 0 ?_
 refine aS 1 ?_
 refine aF 2 ?_
 refine aL 3 ?_
 refine aS 4 ?_
 refine aS 5 ?_
 refine aF 6 ?_
 refine aL 7 ?_
 refine sa1 false 8 (h := cl (shapes_Keys hH.tree x.shape) ?_)
 rintro _ kg1 ⟨rfl, hkg1⟩
 try simp only [List.cons_append, List.append_assoc, List.nil_append]
 refine ⟨fun hnd => (by cases hnd), ?_⟩
 refine kpA [31, 12, 9, 5, 4, 0, 1] ?_
 refine aS 9 ?_
 refine SA_done (by kernel_rfl) (Qj ?_)
 refine Qi ?_
 refine Qg (Gs.val kg1 ((keysP (TreeV.abs H.V F.T) x.shape).length)) (fun _ => rfl) ?_
 rw [show keysOf (H.V.abs F.T) x = (keysP (TreeV.abs H.V F.T) x.shape) from by unfold keysOf; rw [if_neg hsh]]
 exact ⟨kg1, (by rw [HeapV.eq0]; exact ow), rfl, hkg1⟩

end Go.Proofs.YthflblophelioaaGreatDoor
namespace Go.Proofs.YthflblophelioaaGreatDoor
open Go.Sl
variable {k : Nat} {H : HeapV} {F : HeapF} {n : Nat} {x : ObjL} {W0 : World}
def putNm (names : List ByteArray) (key : ByteArray) : List ByteArray := if ixS names key < 0 then names ++ [key] else names
def putDs (names : List ByteArray) (descs : List DescP) (key : ByteArray) (d : DescP) : List DescP := if ixS names key < 0 then descs ++ [d] else descs.set (ixS names key).toNat d
def normD (d : DescP) : DescP := (d.1, d.2.1, normF d.2.2)
def getP (names : List ByteArray) (descs : List DescP) (key : ByteArray) : Option DescP := if ixS names key < 0 then none else descs[(ixS names key).toNat]?
theorem putDs_len (names : List ByteArray) (descs : List DescP) (key : ByteArray) (d : DescP) : (putDs names descs key d).length ≤ descs.length + 1 := by unfold putDs; split <;> simp
theorem getO_pub {t : TreeP} (h : OInv t x) (key : ByteArray) : getO t x key = getP (keysOf t x) x.vals key := by
 have e : placeO t x.shape x.names key = if ixS (keysOf t x) key < 0 then -1 else ixS (keysOf t x) key := placePS h.ps key
 unfold getO getP
 rw [e]
 by_cases hk : ixS (keysOf t x) key < 0
 · rw [if_pos hk, if_pos hk, if_pos (by decide)]
 · rw [if_neg hk, if_neg hk]
theorem Same.pub {t : TreeP} {x x' : ObjL} (h : Same x x') : pubO t x' = ⟨x.kind, x.proto, x.shut, keysOf t x', x'.vals, x.elems, x.inner⟩ := by
 unfold pubO
 rw [h.kind, h.proto, h.shut, h.elems, h.inner]
structure PutR (H H' : HeapV) (F : HeapF) (n : Nat) (key : ByteArray) (d : DescP) (x x' : ObjL) : Prop where
  was : H.objs[n]? = some x
  now : H'.objs = H.objs.set n x'
  put : putS (H.V.abs F.T) x.ps key (normD d) = (H'.V.abs F.T, x'.ps)
  same : Same x x'
theorem hp_Get (h : HInv k H F) {w : Int} {o : ObjS} (h0 : objAt w (H.pub F).length = some n) (ho : (H.pub F)[n]? = some o) (key : ByteArray) :
   SC Tryz.prog W0 55 #[.pointer (some ⟨F.p, 0, none⟩), .int .u64 w, .string key] (H.ent F) (Ret (fun _ : Unit => H.ent F) (fun v _ => v = descR (getP o.names o.descs key))) := by
 rw [HeapV.pub_len] at h0
 obtain ⟨x, hx, rfl⟩ := pub_obj ho
 have := heap_Get_some (W0 := W0) h.ok h0 hx (h.obj hx) key
 rw [getO_pub (h.obj hx)] at this
 exact this
def dropNm (names : List ByteArray) (key : ByteArray) : List ByteArray := if ixS names key < 0 then names else names.eraseIdx (ixS names key).toNat
def dropDs (names : List ByteArray) (descs : List DescP) (key : ByteArray) : List DescP := if ixS names key < 0 then descs else descs.eraseIdx (ixS names key).toNat
theorem drop_inv {t : TreeP} {x x' : ObjL} {q : Nat} (ho : OInv t x) (hs : Same x x') (hq : q < x.vals.length) (hp : x'.ps = ⟨if 0 ≤ x.shape then -1 else x.shape, (keysOf t x).eraseIdx q, x.vals.eraseIdx q⟩) : OInv t x' ∧ keysOf t x' = (keysOf t x).eraseIdx q ∧ x'.shape < 0 := by
 have e1 : x'.shape = if 0 ≤ x.shape then -1 else x.shape := congrArg PS.shape hp
 have e2 : x'.names = (keysOf t x).eraseIdx q := congrArg PS.names hp
 have e3 : x'.vals = x.vals.eraseIdx q := congrArg PS.vals hp
 have hneg : x'.shape < 0 := by rw [e1]; split <;> omega
 have hk : keysOf t x' = (keysOf t x).eraseIdx q := by unfold keysOf at e2 ⊢; rw [if_pos hneg]; exact e2
 have hl := ho.len
 refine ⟨⟨fun h => by omega, ?_, ?_, fun h => by omega⟩, hk, hneg⟩
 · rw [hk, e3, List.length_eraseIdx, List.length_eraseIdx, hl]
 · rw [hk]; exact ho.nodup.sublist (List.eraseIdx_sublist _ _)
theorem hp_Keys (hk : k ≤ 8000000) (h : HInv k H F) {w : Int} {o : ObjS} (h0 : objAt w (H.pub F).length = some n) (ho : (H.pub F)[n]? = some o) :
   SC Tryz.prog W0 57 #[.pointer (some ⟨F.p, 0, none⟩), .int .u64 w] (H.ent F)
   (Ret (fun g : Gs => g.ent 9 1 (o.names.map encS) ++ H.ent F) (fun v g => v = g.val o.names.length ∧ g.ok 1 o.names.length (o.names.map encS))) := by
 rw [HeapV.pub_len] at h0
 obtain ⟨x, hx, rfl⟩ := pub_obj ho
 by_cases hs : x.shape < 0
 · have := (h.obj hx).names hs
   have := h.bud.vals x (List.mem_of_getElem? hx)
   exact heap_Keys_slow h.ok h0 hx hs (by omega)
 · exact heap_Keys_fast h.ok h0 hx hs
end Go.Proofs.YthflblophelioaaGreatDoor
namespace Go.Proofs.YthflblophelioaaGreatDoor
open Go.Sl

theorem rf_Proto_none {W0 : World} {R : RSt} (hR : R.ok) {w : Int} (hw : wordOk w) (h0 : objAt w R.objs.length = none)  : SC Tryz.prog W0 44 #[R.val, .int .u64 w] R.ent (Ret (fun _ : Unit => R.ent) (fun v _ => v = .int .u64 18445336698825998337)) := by
 refine SC_body (fn := Tryz.f44) (n := 17) Tryz.func44 rfl (by kernel_rfl) (ρ := [(0, .agg #[Gs.val R.s R.objs.length, Gs.val R.ts R.texts.length]), (1, .int .u64 w)]) rfl ?_
 refine SW_sig _ RSt.eq0 ?_
 refine sr ?_
 refine L (nw 28 2 [Gs.val R.s R.objs.length, Gs.val R.ts R.texts.length] ?_)
 intro b1
 refine os 1 ?_
 refine nsr ?_
 refine L (lds 2 ?_)
 refine os 1 ?_
 refine L (cl (rf_At (R := RSt.mk R.s R.objs R.ts R.texts) hw (w := w)) ?_)
 rintro v1 _ hv1
 obtain rfl : v1 = .int .i64 (-1) := hv1.trans (by simp only []; unfold atI; rw [h0])
 refine un ?_
 refine os 1 ?_
 refine kp [5, 4, 2, 0, 1] ?_
 refine nq ?_
 refine sr ?_
 refine os 1 ?_
 refine oV (.bool true) ?_
 refine nt ?_
 refine ct ?_
 refine sr ?_
 refine os 1 ?_
 refine nt ?_
 refine Qi (Qm ?_)
 refine Qg (.int .u64 18445336698825998337) (fun _ => rfl) ?_
 exact ⟨(), RSt.own, rfl⟩

theorem rf_Proto_some {W0 : World} {R : RSt} (hR : R.ok) {w : Int} (hw : wordOk w) {n : Nat} {x : RObj} (h0 : objAt w R.objs.length = some n) (hx : R.objs[n]? = some x)  : SC Tryz.prog W0 44 #[R.val, .int .u64 w] R.ent (Ret (fun _ : Unit => R.ent) (fun v _ => v = .int .u64 x.proto)) := by
 have hnl := (List.getElem?_eq_some_iff.1 hx).1
 refine SC_body (fn := Tryz.f44) (n := 17) Tryz.func44 rfl (by kernel_rfl) (ρ := [(0, .agg #[Gs.val R.s R.objs.length, Gs.val R.ts R.texts.length]), (1, .int .u64 w)]) rfl ?_
 refine SW_sig _ RSt.eq0 ?_
 refine sr ?_
 refine L (nw 28 2 [Gs.val R.s R.objs.length, Gs.val R.ts R.texts.length] ?_)
 intro b1
 refine os 1 ?_
 refine nsr ?_
 refine L (lds 2 ?_)
 refine os 1 ?_
 refine L (cl (rf_At (R := RSt.mk R.s R.objs R.ts R.texts) hw (w := w)) ?_)
 rintro v1 _ hv1
 obtain rfl : v1 = .int .i64 (n : Int) := hv1.trans (by simp only []; unfold atI; rw [h0])
 refine un ?_
 refine os 1 ?_
 refine kp [5, 4, 2, 0, 1] ?_
 refine nq ?_
 refine sr ?_
 refine os 2 ?_
 refine nt ?_
 refine SW_false (fun _ => (congrArg Value.bool (show (decide ((n : Int) < 0)) = false from (by simp)))) ?_
 refine Ql (Qj ?_)
 refine sr ?_
 refine os 1 ?_
 refine L (ld ?_)
 refine os 1 ?_
 refine L (ixg (n : Int) (n * 7) hR.row Tryz.underlying25 ?_)
 refine os 1 ?_
 refine L (ld ?_ (hc := Gs.cell hR.row (fun e he => (Qc (mem_h he))) (Qh RObj.len hx (j := 1) (by decide) rfl)))
 refine os 1 ?_
 refine kp [4, 10, 5, 2, 0, 1] ?_
 refine nt ?_
 refine Qi ?_
 refine Qg (.int .u64 x.proto) (fun _ => rfl) ?_
 exact ⟨(), RSt.own, rfl⟩

theorem rf_Len_none {W0 : World} {R : RSt} (hR : R.ok) {w : Int} (hw : wordOk w) (h0 : objAt w R.objs.length = none)  : SC Tryz.prog W0 79 #[R.val, .int .u64 w] R.ent (Ret (fun _ : Unit => R.ent) (fun v _ => v = .int .i64 0)) := by
 refine SC_body (fn := Tryz.f79) (n := 18) Tryz.func79 rfl (by kernel_rfl) (ρ := [(0, .agg #[Gs.val R.s R.objs.length, Gs.val R.ts R.texts.length]), (1, .int .u64 w)]) rfl ?_
 refine SW_sig _ RSt.eq0 ?_
 refine sr ?_
 refine L (nw 28 2 [Gs.val R.s R.objs.length, Gs.val R.ts R.texts.length] ?_)
 intro b1
 refine os 1 ?_
 refine nsr ?_
 refine L (lds 2 ?_)
 refine os 1 ?_
 refine L (cl (rf_At (R := RSt.mk R.s R.objs R.ts R.texts) hw (w := w)) ?_)
 rintro v1 _ hv1
 obtain rfl : v1 = .int .i64 (-1) := hv1.trans (by simp only []; unfold atI; rw [h0])
 refine un ?_
 refine os 1 ?_
 refine kp [5, 4, 2, 0, 1] ?_
 refine nq ?_
 refine sr ?_
 refine os 1 ?_
 refine oV (.bool true) ?_
 refine nt ?_
 refine ct ?_
 refine sr ?_
 refine os 1 ?_
 refine nt ?_
 refine Qi (Qm ?_)
 refine Qg (.int .i64 0) (fun _ => rfl) ?_
 exact ⟨(), RSt.own, rfl⟩

theorem rf_Len_some {W0 : World} {R : RSt} (hR : R.ok) {w : Int} (hw : wordOk w) {n : Nat} {x : RObj} (h0 : objAt w R.objs.length = some n) (hx : R.objs[n]? = some x)  : SC Tryz.prog W0 79 #[R.val, .int .u64 w] R.ent (Ret (fun _ : Unit => R.ent) (fun v _ => v = .int .i64 x.elems.length)) := by
 have hnl := (List.getElem?_eq_some_iff.1 hx).1
 refine SC_body (fn := Tryz.f79) (n := 18) Tryz.func79 rfl (by kernel_rfl) (ρ := [(0, .agg #[Gs.val R.s R.objs.length, Gs.val R.ts R.texts.length]), (1, .int .u64 w)]) rfl ?_
 refine SW_sig _ RSt.eq0 ?_
 refine sr ?_
 refine L (nw 28 2 [Gs.val R.s R.objs.length, Gs.val R.ts R.texts.length] ?_)
 intro b1
 refine os 1 ?_
 refine nsr ?_
 refine L (lds 2 ?_)
 refine os 1 ?_
 refine L (cl (rf_At (R := RSt.mk R.s R.objs R.ts R.texts) hw (w := w)) ?_)
 rintro v1 _ hv1
 obtain rfl : v1 = .int .i64 (n : Int) := hv1.trans (by simp only []; unfold atI; rw [h0])
 refine un ?_
 refine os 1 ?_
 refine kp [5, 4, 2, 0, 1] ?_
 refine nq ?_
 refine sr ?_
 refine os 2 ?_
 refine nt ?_
 refine SW_false (fun _ => (congrArg Value.bool (show (decide ((n : Int) < 0)) = false from (by simp)))) ?_
 refine Ql (Qj ?_)
 refine sr ?_
 refine os 1 ?_
 refine L (ld ?_)
 refine os 1 ?_
 refine L (ixg (n : Int) (n * 7) hR.row Tryz.underlying25 ?_)
 refine os 1 ?_
 refine L (ld ?_ (hc := Gs.cell hR.row (fun e he => (Qc (mem_h he))) (Qh RObj.len hx (j := 5) (by decide) rfl)))
 refine os 2 ?_
 refine kp [4, 10, 5, 2, 0, 1] ?_
 refine nt ?_
 refine Qi ?_
 refine Qg (.int .i64 (x.elems.length : Int)) (fun _ => rfl) ?_
 exact ⟨(), RSt.own, rfl⟩

theorem rf_Shut_none {W0 : World} {R : RSt} (hR : R.ok) {w : Int} (hw : wordOk w) (h0 : objAt w R.objs.length = none)  : SC Tryz.prog W0 17 #[R.val, .int .u64 w] R.ent (Ret (fun _ : Unit => R.ent) (fun v _ => v = R.val)) := by
 refine SC_body (fn := Tryz.f17) (n := 23) Tryz.func17 rfl (by kernel_rfl) (ρ := [(0, .agg #[Gs.val R.s R.objs.length, Gs.val R.ts R.texts.length]), (1, .int .u64 w)]) rfl ?_
 refine SW_sig _ RSt.eq0 ?_
 refine sr ?_
 refine L (nw 28 2 [Gs.val R.s R.objs.length, Gs.val R.ts R.texts.length] ?_)
 intro b1
 refine L (nw 28 2 [.slice none 0 0, .slice none 0 0] ?_)
 intro b2
 refine nsr ?_
 refine L (lds 2 ?_)
 refine os 1 ?_
 refine L (cl (rf_At (R := RSt.mk R.s R.objs R.ts R.texts) hw (w := w)) ?_)
 rintro v1 _ hv1
 obtain rfl : v1 = .int .i64 (-1) := hv1.trans (by simp only []; unfold atI; rw [h0])
 refine un ?_
 refine os 1 ?_
 refine kp [5, 4, 2, 0, 1] ?_
 refine nq ?_
 refine sr ?_
 refine os 1 ?_
 refine oV (.bool true) ?_
 refine nt ?_
 refine ct ?_
 refine sr ?_
 refine L (lds 2 ?_)
 refine L (st [Gs.val R.s R.objs.length, Gs.val R.ts R.texts.length] ?_)
 refine nt ?_
 refine Qi (Qm ?_)
 refine body_endC [.agg #[Gs.val R.s R.objs.length, Gs.val R.ts R.texts.length]] (fun _ => (.cons ⟨b2, 0, rfl, .inl ⟨[Gs.val R.s R.objs.length, Gs.val R.ts R.texts.length], by kernel_rfl, (Qb (Cell.own Qe rfl) (Qb (Cell.own Qe rfl) Qo)), rfl⟩⟩ .nil)) ?_
 exact ⟨(), RSt.own, rfl⟩

theorem rf_Shut_some {W0 : World} {R : RSt} (hR : R.ok) {w : Int} (hw : wordOk w) {n : Nat} {x : RObj} (h0 : objAt w R.objs.length = some n) (hx : R.objs[n]? = some x)  : SC Tryz.prog W0 17 #[R.val, .int .u64 w] R.ent (Ret (fun r : RObj => (R.put n r).ent) (fun v r => v = R.val ∧ (R.put n r).ok ∧ r.pub = ⟨x.kind, x.proto, true, x.names, x.descs, x.elems, x.inner⟩)) := by
 have hnl := (List.getElem?_eq_some_iff.1 hx).1
 refine SC_body (fn := Tryz.f17) (n := 23) Tryz.func17 rfl (by kernel_rfl) (ρ := [(0, .agg #[Gs.val R.s R.objs.length, Gs.val R.ts R.texts.length]), (1, .int .u64 w)]) rfl ?_
 refine SW_sig _ RSt.eq0 ?_
 refine SW_perm _ (perm_ca perm_cz) ?_
 refine SW_perm ((Gs.ent 9 1 x.ns (x.names.map encS)) ++ ((Gs.ent 45 3 x.ds (x.descs.flatMap Qk)) ++ ((Gs.ent 33 1 x.es (x.elems.map encU)) ++ ((Gs.ent 33 1 x.is (x.inner.map encU)) ++ (((List.eraseIdx R.objs n).flatMap RObj.ent) ++ ((Gs.ent 104 7 R.s (R.objs.flatMap RObj.cells)) ++ ((Gs.ent 9 1 R.ts (R.texts.map encS)) ++ ([])))))))) (robj_focus hx _) ?_
 refine sr ?_
 refine L (nw 28 2 [Gs.val R.s R.objs.length, Gs.val R.ts R.texts.length] ?_)
 intro b1
 refine L (nw 28 2 [.slice none 0 0, .slice none 0 0] ?_)
 intro b2
 refine nsr ?_
 refine L (lds 2 ?_)
 refine os 1 ?_
 refine L (cl (rf_At (R := RSt.mk R.s R.objs R.ts R.texts) hw (w := w)) ?_)
 rintro v1 _ hv1
 obtain rfl : v1 = .int .i64 (n : Int) := hv1.trans (by simp only []; unfold atI; rw [h0])
 refine un ?_
 refine os 1 ?_
 refine kp [5, 4, 2, 0, 1] ?_
 refine nq ?_
 refine sr ?_
 refine os 2 ?_
 refine nt ?_
 refine SW_false (fun _ => (congrArg Value.bool (show (decide ((n : Int) < 0)) = false from (by simp)))) ?_
 refine Ql (Qj ?_)
 refine sr ?_
 refine os 1 ?_
 refine L (ld ?_)
 refine os 1 ?_
 refine L (ixg (n : Int) (n * 7) hR.row Tryz.underlying25 ?_)
 refine L (ldr [.int .i64 x.kind, .int .u64 x.proto, .bool x.shut, Gs.val x.ns x.names.length, Gs.val x.ds x.descs.length, Gs.val x.es x.elems.length, Gs.val x.is x.inner.length] (Qb (Gs.cell hR.row (fun e he => (Qc (Qc (Qa (Qa (Qa (Qa (Qa (mem_h he))))))))) (Qh RObj.len hx (j := 0) (by decide) rfl)) (Qb (Gs.cell hR.row (fun e he => (Qc (Qc (Qa (Qa (Qa (Qa (Qa (mem_h he))))))))) (Qh RObj.len hx (j := 1) (by decide) rfl)) (Qb (Gs.cell hR.row (fun e he => (Qc (Qc (Qa (Qa (Qa (Qa (Qa (mem_h he))))))))) (Qh RObj.len hx (j := 2) (by decide) rfl)) (Qb (Gs.cell hR.row (fun e he => (Qc (Qc (Qa (Qa (Qa (Qa (Qa (mem_h he))))))))) (Qh RObj.len hx (j := 3) (by decide) rfl)) (Qb (Gs.cell hR.row (fun e he => (Qc (Qc (Qa (Qa (Qa (Qa (Qa (mem_h he))))))))) (Qh RObj.len hx (j := 4) (by decide) rfl)) (Qb (Gs.cell hR.row (fun e he => (Qc (Qc (Qa (Qa (Qa (Qa (Qa (mem_h he))))))))) (Qh RObj.len hx (j := 5) (by decide) rfl)) (Qb (Gs.cell hR.row (fun e he => (Qc (Qc (Qa (Qa (Qa (Qa (Qa (mem_h he))))))))) (Qh RObj.len hx (j := 6) (by decide) rfl)) Qo))))))) ?_)
 refine L (nw 104 7 [.int .i64 0, .int .u64 0, .bool false, .slice none 0 0, .slice none 0 0, .slice none 0 0, .slice none 0 0] ?_)
 intro b3
 refine L (st [.int .i64 x.kind, .int .u64 x.proto, .bool x.shut, Gs.val x.ns x.names.length, Gs.val x.ds x.descs.length, Gs.val x.es x.elems.length, Gs.val x.is x.inner.length] ?_)
 refine nsr ?_
 refine os 1 ?_
 refine kp [18, 6, 11, 5, 4, 2, 0, 1] ?_
 refine L (st [.int .i64 x.kind, .int .u64 x.proto, .bool true, Gs.val x.ns x.names.length, Gs.val x.ds x.descs.length, Gs.val x.es x.elems.length, Gs.val x.is x.inner.length] ?_)
 refine nsr ?_
 refine L (lds 2 ?_)
 refine os 1 ?_
 refine L (lds 7 ?_)
 refine L (cl (rf_with (RObj.mk x.kind x.proto true x.ns x.names x.ds x.descs x.es x.elems x.is x.inner) hR.row hx) ?_)
 rintro _ _ rfl
 refine L (st [Gs.val R.s R.objs.length, Gs.val R.ts R.texts.length] ?_)
 refine nt ?_
 refine Qi ?_
 refine body_endC [.agg #[Gs.val R.s R.objs.length, Gs.val R.ts R.texts.length]] (fun _ => (.cons ⟨b2, 0, rfl, .inl ⟨[Gs.val R.s R.objs.length, Gs.val R.ts R.texts.length], by kernel_rfl, (Qb (Cell.own Qe rfl) (Qb (Cell.own Qe rfl) Qo)), rfl⟩⟩ .nil)) ?_
 refine ⟨(RObj.mk x.kind x.proto true x.ns x.names x.ds x.descs x.es x.elems x.is x.inner), ?_, rfl, hR.put hx ⟨(show Gs.ok 1 (x.names).length x.ns (x.names.map encS) from (RSt.ok.at (x := x) hR hx).ns), (show Gs.ok 3 (x.descs).length x.ds (x.descs.flatMap Qk) from (RSt.ok.at (x := x) hR hx).ds), (show Gs.ok 1 (x.elems).length x.es (x.elems.map encU) from (RSt.ok.at (x := x) hR hx).es), (show Gs.ok 1 (x.inner).length x.is (x.inner.map encU) from (RSt.ok.at (x := x) hR hx).is)⟩, rfl⟩
 exact Own.trans (ow (S := ((Gs.ent 104 7 R.s ((List.set R.objs n (RObj.mk x.kind x.proto true x.ns x.names x.ds x.descs x.es x.elems x.is x.inner)).flatMap RObj.cells)) ++ ((Gs.ent 9 1 x.ns (x.names.map encS)) ++ ((Gs.ent 45 3 x.ds (x.descs.flatMap Qk)) ++ ((Gs.ent 33 1 x.es (x.elems.map encU)) ++ ((Gs.ent 33 1 x.is (x.inner.map encU)) ++ (((List.eraseIdx R.objs n).flatMap RObj.ent) ++ ((Gs.ent 9 1 R.ts (R.texts.map encS)) ++ ([])))))))))) (Own.of_perm (RSt.back hx (RObj.mk x.kind x.proto true x.ns x.names x.ds x.descs x.es x.elems x.is x.inner)))

end Go.Proofs.YthflblophelioaaGreatDoor
namespace Go.Proofs.YthflblophelioaaGreatDoor
open Go.Sl
theorem fl15_lt (f : Int) : ∃ k : Nat, k < 16 ∧ fl15 f = k := by
 unfold fl15
 have h : (BitVec.ofInt 64 f &&& BitVec.ofInt 64 15).toNat ≤ 15 := by
   rw [BitVec.toNat_and]
   exact Nat.and_le_right
 refine ⟨(BitVec.ofInt 64 f &&& BitVec.ofInt 64 15).toNat, by omega, ?_⟩
 exact IntWalk.i64_in _ (by omega)
def refF (f : Int) : Int := if fl15 f ≥ 8 then IntKind.wrap .i64 ((BitVec.ofInt 64 (fl15 f) &&& BitVec.ofInt 64 14).toNat) else fl15 f
theorem refF_norm (f : Int) : normF f = refF f := by
 obtain ⟨k, hk, e⟩ := fl15_lt f
 unfold normF refF
 rw [e]
 have : ∀ k : Fin 16, (if (IntKind.wrap .i64 ((BitVec.ofInt 64 ((k.val : Nat) : Int) &&& BitVec.ofInt 64 8).toNat) != 0) = true then IntKind.wrap .i64 ((BitVec.ofInt 64 ((k.val : Nat) : Int) &&& ~~~BitVec.ofInt 64 1).toNat) else ((k.val : Nat) : Int)) =
     if ((k.val : Nat) : Int) ≥ 8 then IntKind.wrap .i64 ((BitVec.ofInt 64 ((k.val : Nat) : Int) &&& BitVec.ofInt 64 14).toNat) else ((k.val : Nat) : Int) := by decide
 exact this ⟨k, hk⟩
abbrev newR (kind proto : Int) : RObj := ⟨kind, proto, false, .nil, [], .nil, [], .nil, [], .nil, []⟩
theorem newR_ent (kind proto : Int) : (newR kind proto).ent = [] := rfl
theorem newR_ok (kind proto : Int) : (newR kind proto).ok := ⟨⟨rfl, rfl⟩, ⟨rfl, rfl⟩, ⟨rfl, rfl⟩, ⟨rfl, rfl⟩⟩
theorem erase_step {α : Type} {l : List α} {i k : Nat} {e : α} (he : l[i]? = some e) (hk : k < l.length) : (l.take (i + 1)).eraseIdx k = if i = k then (l.take i).eraseIdx k else (l.take i).eraseIdx k ++ [e] := by
 have hi := (List.getElem?_eq_some_iff.1 he).1
 rw [List.take_add_one, he]
 simp only [Option.toList_some]
 have hl : (l.take i).length = i := by simp; omega
 by_cases h : i = k
 · rw [if_pos h, List.eraseIdx_append_of_length_le (by omega), hl, show k - i = 0 by omega, List.eraseIdx_of_length_le (l := l.take i) (by omega)]
   simp
 · rw [if_neg h]
   by_cases h2 : k < i
   · rw [List.eraseIdx_append_of_lt_length (by omega)]
   · rw [List.eraseIdx_of_length_le (l := l.take i ++ [e]) (by simp; omega), List.eraseIdx_of_length_le (l := l.take i) (by omega)]
theorem setLen_step {l : List Int} {i m : Nat} (hi : i < m) : (setLenL l m).take (i + 1) = (setLenL l m).take i ++ [if h : i < l.length then l[i] else 18445336698825998340] := by
 rw [List.take_add_one]
 congr 1
 unfold setLenL
 by_cases h : i < l.length
 · rw [dif_pos h, List.getElem?_append_left (by simp; omega), List.getElem?_take_of_lt hi, List.getElem?_eq_getElem h]; rfl
 · rw [dif_neg h, List.getElem?_append_right (by simp; omega), List.getElem?_replicate, if_pos (by simp; omega)]; rfl
end Go.Proofs.YthflblophelioaaGreatDoor
