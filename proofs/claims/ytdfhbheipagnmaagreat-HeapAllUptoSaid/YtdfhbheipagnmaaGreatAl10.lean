/-
  What functions of heap and word do to the memory they own, step by step: each theorem is one function's contract. Conditions: those that each theorem names.
-/
import Derived.Test.YtdfhbheipagnmaaGreatAl7
import Derived.Test.YtdfhbheipagnmaaGreatAl9
import Derived.Test.YtdfhbheipagnmaaGreatAl4
import Derived.Test.YtdfhbheipagnmaaGreatAl6
import Derived.Test.YtdfhbheipagnmaaGreatAl8
set_option linter.unusedVariables false
set_option linter.unusedSimpArgs false
set_option maxRecDepth 100000
set_option maxHeartbeats 4000000
namespace Go.Proofs.YtdfhbheipagnmaaGreat
open Go.Sl

theorem heap_above {W0 : World} {F : HeapF} {H : HeapV} (hH : H.ok F) {w p : Int} {n K : Nat} (h0 : objAt w H.objs.length = some n) (hK : objAt (upN (H.pub F) p K) H.objs.length = none) (hKl : K ≤ H.objs.length) : SC Tryz.prog W0 64 #[.pointer (some ⟨F.p, 0, none⟩), .int .u64 p, .int .u64 w] (HeapV.ent H F) (Ret (fun _ : Unit => H.ent F) (fun v _ => v = .bool (hitP (H.pub F) p w))) := by
 refine SC_body (fn := Tryz.f64) (n := 20) Tryz.func64 rfl (by kernel_rfl) (ρ := [(0, pt F.p 0), (1, .int .u64 p), (2, .int .u64 w)]) rfl ?_
 refine SW_sig _ HeapV.eq0 ?_
 refine sr ?_
 refine os 1 ?_
 refine nq ?_
 refine SW_block ?_
 refine SW_loop (α := Nat) (fun z_ ρ_ σ_ => Fits ρ_ σ_ [(0, pt F.p 0), (1, .int .u64 (upN (HeapV.pub H F) p z_)), (2, .int .u64 w), (6, .bool false)] ((F.p, .cells 48 6 [Gs.val H.s H.objs.length, Gs.val H.ts H.texts.length, .map (some F.kb), pt F.T.p 0, pt F.cp 0, .int .i64 H.br]) :: ((Gs.ent 105 9 H.s (H.objs.flatMap ObjL.cells)) ++ ((H.objs.flatMap ObjL.ent) ++ ((Gs.ent 9 1 H.ts (H.texts.map encS)) ++ ((F.kb, .map (kvs encS encU H.known)) :: ((TreeV.ent H.V F.T) ++ ((CellsL.ent (CellsL.mk F.cp H.cs H.cl)) ++ ([])))))))) ∧ z_ ≤ K ∧ (∀ j, j < z_ → upN (HeapV.pub H F) p j ≠ w)) (fun z_ => K - z_) 0 ⟨⟨fun _ => rfl, ow⟩, Nat.zero_le _, fun j hj => absurd hj (Nat.not_lt_zero j)⟩ ?_
 rintro i ρ_ σ_ ⟨hfit, hi0, hi1⟩
 refine SW_fits hfit ?_
 clear hfit
 refine SW_seq ?_
 refine sr ?_
 refine os 3 ?_
 refine nt ?_
 refine cd (fun hc1 : ((upN (HeapV.pub H F) p i) != w) = true => ?_) (fun hc1 => ?_)
 ·skip
  simp only [bne_iff_ne, ne_eq, bne_eq_false_iff_eq] at hc1
  refine SW_skip (n_then ?_)
  refine SW_block ?_
  refine sr ?_
  refine os 2 ?_
  rcases hm1 : objAt (upN (HeapV.pub H F) p i) H.objs.length with _ | m1
  ·skip
   refine L (cl (heap_at hH (upN (HeapV.pub H F) p i)) ?_ (hp := HeapV.pm))
   rintro v1 _ hv1
   obtain rfl : v1 = .pointer none := hv1.trans (by rw [hm1])
   refine SL_sig _ HeapV.eq ?_
   refine os 1 ?_
   refine kp [7, 10, 0, 1, 2, 6] ?_
   refine nq ?_
   refine sr ?_
   refine os 1 ?_
   refine oV (.bool true) ?_
   refine nt ?_
   refine ct ?_
   refine sr ?_
   refine os 1 ?_
   refine nt ?_
   refine SW_ret (r_then (r_in (r_then (r_in (r_then ?_)))))
   refine body_end (.bool false) (fun _ => rfl) ?_
   rw [hitP_no (by rw [HeapV.pub_len]; exact h0) (by rw [HeapV.pub_len]; exact hm1) hi1]
   exact ⟨(), HeapV.own, rfl⟩
  ·skip
   have hlt_ := (objAt_tag hm1).2
   refine L (cl (heap_at hH (upN (HeapV.pub H F) p i)) ?_ (hp := HeapV.pm))
   rintro v2 _ hv2
   obtain rfl : v2 = pt (Gs.blk H.s) (m1 * 9) := hv2.trans (by rw [hm1])
   refine SL_sig _ HeapV.eq ?_
   refine os 1 ?_
   refine kp [7, 10, 0, 1, 2, 6] ?_
   refine nq ?_
   refine sr ?_
   refine os 1 ?_
   refine oV (.bool false) ?_
   refine nt ?_
   refine cf ?_
   refine SW_skip (n_then ?_)
   refine SW_region ?_
   refine os 3 ?_
   obtain ⟨e2, he2⟩ : ∃ y_, H.objs[m1]? = some y_ := ⟨_, List.getElem?_eq_getElem (by omega)⟩
   refine L (ld ?_ (hc := Gs.cell hH.row (fun e he => (mem_c (mem_h he))) (flat_cell ObjL.len he2 (j := 1) (by decide) rfl)))
   refine os 1 ?_
   refine kp [1, 15, 7, 10, 0, 2, 6] ?_
   refine SL_nil (n_in (n_then ?_))
   have hne : i ≠ K := fun q => by rw [q, hK] at hm1; cases hm1
   have hup : upN (HeapV.pub H F) p (i + 1) = e2.proto := protoW_some (by rw [HeapV.pub_len]; exact hm1) (HeapV.pub_at F he2)
   refine ⟨i + 1, by omega, ?_⟩
   rw [hup]
   exact ⟨⟨fun _ => rfl, ow⟩, by omega, fun j hj => by by_cases q_ : j = i; (subst q_; exact hc1); exact hi1 j (by omega)⟩
 ·skip
  simp only [bne_iff_ne, ne_eq, bne_eq_false_iff_eq] at hc1
  refine SW_exit (x_then (x_then (x_in (n_then ?_))))
  refine sr ?_
  refine os 1 ?_
  refine nt ?_
  refine SW_ret ?_
  refine body_end (.bool true) (fun _ => rfl) ?_
  rw [show hitP (HeapV.pub H F) p w = true from hitP_iff.2 ⟨i, by rw [HeapV.pub_len]; omega, hc1⟩]
  exact ⟨(), HeapV.own, rfl⟩

theorem heap_SetProto_none {W0 : World} {F : HeapF} {H : HeapV} (hH : H.ok F) {w : Int} (h0 : objAt w H.objs.length = none) (p : Int) : SC Tryz.prog W0 21 #[.pointer (some ⟨F.p, 0, none⟩), .int .u64 w, .int .u64 p] (HeapV.ent H F) (Ret (fun _ : Unit => H.ent F) (fun v _ => v = .tuple #[])) := by
 refine SC_body (fn := Tryz.f21) (n := 79) Tryz.func21 rfl (by kernel_rfl) (ρ := [(0, pt F.p 0), (1, .int .u64 w), (2, .int .u64 p)]) rfl ?_
 refine SW_sig _ HeapV.eq0 ?_
 refine sr ?_
 refine os 2 ?_
 refine L (cl (heap_at hH w) ?_ (hp := HeapV.pm))
 rintro v1 _ hv1
 obtain rfl : v1 = .pointer none := hv1.trans (by rw [h0])
 refine SL_sig _ HeapV.eq ?_
 refine os 1 ?_
 refine kp [6, 0, 1, 2] ?_
 refine nq ?_
 refine sr ?_
 refine os 1 ?_
 refine oV (.bool true) ?_
 refine os 24 ?_
 refine kp [37, 6, 0, 1, 2] ?_
 refine nt ?_
 refine ct ?_
 refine SW_ret (r_then ?_)
 refine body_end (.tuple #[]) (fun _ => rfl) ?_
 exact ⟨(), HeapV.own, rfl⟩

theorem heap_SetProto_same {W0 : World} {F : HeapF} {H : HeapV} (hH : H.ok F) {w : Int} {n : Nat} {x : ObjL} (h0 : objAt w H.objs.length = some n) (hx : H.objs[n]? = some x) {p : Int} {K : Nat} (hK : objAt (upN (H.pub F) p K) H.objs.length = none) (hKl : K ≤ H.objs.length) (hsame : (p ≠ 18445336698825998337 ∧ objAt p H.objs.length = none) ∨ x.proto = p ∨ hitP (H.pub F) p w = true) : SC Tryz.prog W0 21 #[.pointer (some ⟨F.p, 0, none⟩), .int .u64 w, .int .u64 p] (HeapV.ent H F) (Ret (fun _ : Unit => H.ent F) (fun v _ => v = .tuple #[])) := by
 refine SC_body (fn := Tryz.f21) (n := 79) Tryz.func21 rfl (by kernel_rfl) (ρ := [(0, pt F.p 0), (1, .int .u64 w), (2, .int .u64 p)]) rfl ?_
 refine SW_sig _ HeapV.eq0 ?_
 refine sr ?_
 refine os 2 ?_
 refine L (cl (heap_at hH w) ?_ (hp := HeapV.pm))
 rintro v1 _ hv1
 obtain rfl : v1 = pt (Gs.blk H.s) (n * 9) := hv1.trans (by rw [h0])
 refine SL_sig _ HeapV.eq ?_
 refine os 1 ?_
 refine kp [6, 0, 1, 2] ?_
 refine nq ?_
 refine sr ?_
 refine os 1 ?_
 refine oV (.bool false) ?_
 refine os 4 ?_
 refine tb 17 (fun hg1 => ?_) (fun hg1 => ?_)
 ·skip
  replace hg1 : (p != 18445336698825998337) = true := hg1
  simp only [beq_iff_eq, bne_iff_ne, ne_eq, beq_eq_false_iff_ne, bne_eq_false_iff_eq] at hg1
  refine os 2 ?_
  rcases hm1 : objAt p H.objs.length with _ | m1
  ·skip
   refine L (cl (heap_at hH p) ?_ (hp := HeapV.pm))
   rintro v2 _ hv2
   obtain rfl : v2 = .pointer none := hv2.trans (by rw [hm1])
   refine SL_sig _ HeapV.eq ?_
   refine oV (.bool true) ?_
   refine os 16 ?_
   refine kp [37, 6, 0, 1, 2] ?_
   refine nt ?_
   refine ct ?_
   refine SW_ret (r_then ?_)
   refine body_end (.tuple #[]) (fun _ => rfl) ?_
   exact ⟨(), HeapV.own, rfl⟩
  ·skip
   refine L (cl (heap_at hH p) ?_ (hp := HeapV.pm))
   rintro v3 _ hv3
   obtain rfl : v3 = pt (Gs.blk H.s) (m1 * 9) := hv3.trans (by rw [hm1])
   refine SL_sig _ HeapV.eq ?_
   refine oV (.bool false) ?_
   refine os 6 ?_
   refine kp [27, 24, 6, 0, 1, 2] ?_
   refine L (ld ?_ (hc := Gs.cell hH.row (fun e he => (mem_c (mem_h he))) (flat_cell ObjL.len hx (j := 1) (by decide) rfl)))
   refine os 4 ?_
   refine kp [32, 6, 0, 1, 2] ?_
   refine tb 32 (fun hg2 => ?_) (fun hg2 => ?_)
   ·skip
    replace hg2 : (x.proto == p) = true := hg2
    simp only [beq_iff_eq, bne_iff_ne, ne_eq, beq_eq_false_iff_ne, bne_eq_false_iff_eq] at hg2
    refine os 5 ?_
    refine kp [37, 6, 0, 1, 2] ?_
    refine nt ?_
    refine ct ?_
    refine SW_ret (r_then ?_)
    refine body_end (.tuple #[]) (fun _ => rfl) ?_
    exact ⟨(), HeapV.own, rfl⟩
   ·skip
    replace hg2 : (x.proto == p) = false := hg2
    simp only [beq_iff_eq, bne_iff_ne, ne_eq, beq_eq_false_iff_ne, bne_eq_false_iff_eq] at hg2
    refine os 3 ?_
    refine L (cl (heap_above hH (p := p) h0 hK hKl) ?_ (hp := HeapV.pm))
    rintro _ _ rfl
    refine SL_sig _ HeapV.eq ?_
    refine os 1 ?_
    refine kp [37, 6, 0, 1, 2] ?_
    refine nt ?_
    refine cd (fun hc3 : ((hitP (HeapV.pub H F) p w)) = true => ?_) (fun hc3 => ?_)
    ·skip
     refine SW_ret (r_then ?_)
     refine body_end (.tuple #[]) (fun _ => rfl) ?_
     exact ⟨(), HeapV.own, rfl⟩
    ·skip
     exact absurd hsame (by rintro (⟨q1, q2⟩ | q | q); (first | exact absurd q1 (by assumption) | simp_all); (first | exact absurd q (by assumption) | simp_all); simp_all)
 ·skip
  replace hg1 : (p != 18445336698825998337) = false := hg1
  simp only [beq_iff_eq, bne_iff_ne, ne_eq, beq_eq_false_iff_ne, bne_eq_false_iff_eq] at hg1
  refine os 10 ?_
  refine kp [27, 24, 6, 0, 1, 2] ?_
  refine L (ld ?_ (hc := Gs.cell hH.row (fun e he => (mem_c (mem_h he))) (flat_cell ObjL.len hx (j := 1) (by decide) rfl)))
  refine os 4 ?_
  refine kp [32, 6, 0, 1, 2] ?_
  refine tb 32 (fun hg4 => ?_) (fun hg4 => ?_)
  ·skip
   replace hg4 : (x.proto == p) = true := hg4
   simp only [beq_iff_eq, bne_iff_ne, ne_eq, beq_eq_false_iff_ne, bne_eq_false_iff_eq] at hg4
   refine os 5 ?_
   refine kp [37, 6, 0, 1, 2] ?_
   refine nt ?_
   refine ct ?_
   refine SW_ret (r_then ?_)
   refine body_end (.tuple #[]) (fun _ => rfl) ?_
   exact ⟨(), HeapV.own, rfl⟩
  ·skip
   replace hg4 : (x.proto == p) = false := hg4
   simp only [beq_iff_eq, bne_iff_ne, ne_eq, beq_eq_false_iff_ne, bne_eq_false_iff_eq] at hg4
   refine os 3 ?_
   refine L (cl (heap_above hH (p := p) h0 hK hKl) ?_ (hp := HeapV.pm))
   rintro _ _ rfl
   refine SL_sig _ HeapV.eq ?_
   refine os 1 ?_
   refine kp [37, 6, 0, 1, 2] ?_
   refine nt ?_
   refine cd (fun hc5 : ((hitP (HeapV.pub H F) p w)) = true => ?_) (fun hc5 => ?_)
   ·skip
    refine SW_ret (r_then ?_)
    refine body_end (.tuple #[]) (fun _ => rfl) ?_
    exact ⟨(), HeapV.own, rfl⟩
   ·skip
    exact absurd hsame (by rintro (⟨q1, q2⟩ | q | q); (first | exact absurd q1 (by assumption) | simp_all); (first | exact absurd q (by assumption) | simp_all); simp_all)

theorem heap_SetProto_move {W0 : World} {F : HeapF} {H : HeapV} (hH : H.ok F) {w : Int} {n : Nat} {x : ObjL} (h0 : objAt w H.objs.length = some n) (hx : H.objs[n]? = some x) {p : Int} {K : Nat} (hK : objAt (upN (H.pub F) p K) H.objs.length = none) (hKl : K ≤ H.objs.length) {k : Nat} (hB : H.bud k) (hk : k ≤ 8000000) (hmove : ¬ ((p ≠ 18445336698825998337 ∧ objAt p H.objs.length = none) ∨ x.proto = p ∨ hitP (H.pub F) p w = true)) : SC Tryz.prog W0 21 #[.pointer (some ⟨F.p, 0, none⟩), .int .u64 w, .int .u64 p] (HeapV.ent H F) (Ret (fun r : ObjL × TreeV × List CellL × Int => (H.upd n r.1 r.2.1 r.2.2.1 r.2.2.2).ent F) (fun v r => v = .tuple #[] ∧ (H.upd n r.1 r.2.1 r.2.2.1 r.2.2.2).ok F ∧ SameM x r.1 p ∧ moveS (H.V.abs F.T) x.ps (rootKey p x.kind) = (r.2.1.abs F.T, r.1.ps) ∧ Chg x.cell H.cl r.2.2.1)) := by
 refine SC_body (fn := Tryz.f21) (n := 79) Tryz.func21 rfl (by kernel_rfl) (ρ := [(0, pt F.p 0), (1, .int .u64 w), (2, .int .u64 p)]) rfl ?_
 refine SW_sig _ HeapV.eq0 ?_
 have hnl := (List.getElem?_eq_some_iff.1 hx).1
 refine sr ?_
 refine os 2 ?_
 refine L (cl (heap_at hH w) ?_ (hp := HeapV.pm))
 rintro v1 _ hv1
 obtain rfl : v1 = pt (Gs.blk H.s) (n * 9) := hv1.trans (by rw [h0])
 refine SL_sig _ HeapV.eq ?_
 refine os 1 ?_
 refine kp [6, 0, 1, 2] ?_
 refine nq ?_
 refine sr ?_
 refine os 1 ?_
 refine oV (.bool false) ?_
 refine os 4 ?_
 refine tb 17 (fun hg1 => ?_) (fun hg1 => ?_)
 ·skip
  replace hg1 : (p != 18445336698825998337) = true := hg1
  simp only [beq_iff_eq, bne_iff_ne, ne_eq, beq_eq_false_iff_ne, bne_eq_false_iff_eq] at hg1
  refine os 2 ?_
  rcases hm1 : objAt p H.objs.length with _ | m1
  ·skip
   refine L (cl (heap_at hH p) ?_ (hp := HeapV.pm))
   rintro v2 _ hv2
   obtain rfl : v2 = .pointer none := hv2.trans (by rw [hm1])
   refine SL_sig _ HeapV.eq ?_
   refine oV (.bool true) ?_
   refine os 16 ?_
   refine kp [37, 6, 0, 1, 2] ?_
   refine nt ?_
   refine ct ?_
   refine SW_ret (r_then ?_)
   refine body_end (.tuple #[]) (fun _ => rfl) ?_
   exact absurd (by first | (left; exact ⟨by assumption, by assumption⟩) | (right; left; assumption) | (right; right; assumption)) hmove
  ·skip
   refine L (cl (heap_at hH p) ?_ (hp := HeapV.pm))
   rintro v3 _ hv3
   obtain rfl : v3 = pt (Gs.blk H.s) (m1 * 9) := hv3.trans (by rw [hm1])
   refine SL_sig _ HeapV.eq ?_
   refine oV (.bool false) ?_
   refine os 6 ?_
   refine kp [27, 24, 6, 0, 1, 2] ?_
   refine L (ld ?_ (hc := Gs.cell hH.row (fun e he => (mem_c (mem_h he))) (flat_cell ObjL.len hx (j := 1) (by decide) rfl)))
   refine os 4 ?_
   refine kp [32, 6, 0, 1, 2] ?_
   refine pn 32 (show (x.proto == p) = false from (by have q_ := hmove; simp only [not_or] at q_; simp [q_])) ?_
   refine os 3 ?_
   refine L (cl (heap_above hH (p := p) h0 hK hKl) ?_ (hp := HeapV.pm))
   rintro _ _ rfl
   refine SL_sig _ HeapV.eq ?_
   refine os 1 ?_
   refine kp [37, 6, 0, 1, 2] ?_
   refine nt ?_
   refine SW_false (fun _ => (congrArg Value.bool (show (hitP (HeapV.pub H F) p w) = false from (by have q_ := hmove; simp only [not_or] at q_; simp [q_])))) ?_
   refine SW_skip (n_then ?_)
   refine sr ?_
   refine os 2 ?_
   refine L (cl (heap_changed hH (n := n) hx hB hk) ?_ (hp := HeapV.pm))
   rintro _ ⟨cl1, br1⟩ ⟨rfl, hccl1, hchcl1⟩
   refine SL_sig _ HeapV.eq ?_
   have hH1 : HeapV.ok (HeapV.mk H.s (H.objs.set n (ObjL.chg x)) H.ts H.texts H.known H.V H.cs cl1 br1) F := hH.chg hx hccl1 br1
   refine nsr ?_
   refine os 4 ?_
   have hok1 := Gs.ok.relen (ys := ((H.objs.set n (ObjL.mk x.kind p x.shut x.shape x.ns x.names x.vs x.vals x.es x.elems x.is x.inner (if 0 ≤ x.cell then -1 else x.cell))).flatMap ObjL.cells)) hH1.row (by simp [flat_len ObjL.len])
   refine SL_perm _ (perm_cc perm_cz) ?_
   refine L (O_storeG (ys := ((H.objs.set n (ObjL.mk x.kind p x.shut x.shape x.ns x.names x.vs x.vals x.es x.elems x.is x.inner (if 0 ≤ x.cell then -1 else x.cell))).flatMap ObjL.cells)) H.s (n * 9 + 1) (.int .u64 p) [.int .u64 p] (Gs.ok.ne hH1.row (by first | omega | (simp; omega))) (fun _ => rfl) (fun _ => rfl) rfl (by kernel_rfl) rfl (by rw [flat_len ObjL.len]; simp; omega) ((row_lay (j := 1) ObjL.len (ObjL.mk x.kind p x.shut x.shape x.ns x.names x.vs x.vals x.es x.elems x.is x.inner (if 0 ≤ x.cell then -1 else x.cell)) (get_set hx) (Nat.le_of_ble_eq_true rfl) rfl).trans (by rw [List.set_set])) rfl ?_)
   refine nq ?_
   refine SW_seq ?_
   have hH2 : HeapV.ok (HeapV.mk H.s (H.objs.set n (ObjL.mk x.kind p x.shut x.shape x.ns x.names x.vs x.vals x.es x.elems x.is x.inner (if 0 ≤ x.cell then -1 else x.cell))) H.ts H.texts H.known H.V H.cs cl1 br1) F := by simpa only [HeapV.put, List.set_set] using HeapV.ok.put hH1 (get_set hx) (x' := (ObjL.mk x.kind p x.shut x.shape x.ns x.names x.vs x.vals x.es x.elems x.is x.inner (if 0 ≤ x.cell then -1 else x.cell))) ⟨(HeapV.ok.at hH1 (get_set hx)).ns, (HeapV.ok.at hH1 (get_set hx)).vs, (HeapV.ok.at hH1 (get_set hx)).es, (HeapV.ok.at hH1 (get_set hx)).is⟩ (HeapV.ok.small hH1 (ObjL.chg x) (List.mem_of_getElem? (get_set hx)))
   refine SW_sig ((Gs.ent 105 9 H.s ((H.objs.set n (ObjL.mk x.kind p x.shut x.shape x.ns x.names x.vs x.vals x.es x.elems x.is x.inner (if 0 ≤ x.cell then -1 else x.cell))).flatMap ObjL.cells)) ++ ((F.p, .cells 48 6 [Gs.val H.s ((H.objs.set n (ObjL.mk x.kind p x.shut x.shape x.ns x.names x.vs x.vals x.es x.elems x.is x.inner (if 0 ≤ x.cell then -1 else x.cell))).length), Gs.val H.ts H.texts.length, .map (some F.kb), pt F.T.p 0, pt F.cp 0, .int .i64 br1]) :: (((H.objs.set n (ObjL.mk x.kind p x.shut x.shape x.ns x.names x.vs x.vals x.es x.elems x.is x.inner (if 0 ≤ x.cell then -1 else x.cell))).flatMap ObjL.ent) ++ ((Gs.ent 9 1 H.ts (H.texts.map encS)) ++ ((F.kb, .map (kvs encS encU H.known)) :: ((TreeV.ent H.V F.T) ++ ((CellsL.ent (CellsL.mk F.cp H.cs cl1)) ++ ([])))))))) (by simp only [List.length_set, flat_same (f := ObjL.ent) (x' := (ObjL.chg x)) hx rfl, flat_same (f := ObjL.ent) (x' := (ObjL.mk x.kind p x.shut x.shape x.ns x.names x.vs x.vals x.es x.elems x.is x.inner (if 0 ≤ x.cell then -1 else x.cell))) hx rfl]) ?_
   refine SW_region ?_
   refine os 3 ?_
   refine kp [47, 37, 6, 0, 1, 2] ?_
   refine L (ld ?_ (hc := Gs.cell hH2.row (fun e he => (mem_h he)) (flat_cell ObjL.len (get_set hx) (j := 3) (by decide) rfl)) (v := .int .i64 x.shape))
   refine os 1 ?_
   refine nt ?_
   refine cdp (fun hc3 : x.shape < 0 => ?_) (fun hc3 => ?_)
   ·skip
    refine SW_ret (r_then ?_)
    refine body_end (.tuple #[]) (fun _ => rfl) ?_
    refine ⟨((ObjL.mk x.kind p x.shut x.shape x.ns x.names x.vs x.vals x.es x.elems x.is x.inner (if 0 ≤ x.cell then -1 else x.cell)), H.V, cl1, br1), ?_, rfl, ?_, ⟨rfl, rfl, rfl, rfl, rfl, rfl⟩, ?_, hchcl1⟩
    · exact HeapV.own
    · exact hH2
    · unfold moveS; rw [if_pos (show x.ps.shape < 0 from by show x.shape < 0; omega)]
   ·skip
    refine SW_skip (n_then ?_)
    refine SW_seq ?_
    refine SW_draw [(F.p, 3, pt F.T.p 0), ((Gs.blk H.s), n * 9 + 3, .int .i64 x.shape), ((Gs.blk H.s), n * 9, .int .i64 x.kind)] [0, 1, 2, 3, 4, 5, 6, 7, 8, 9, 10, 11, 12, 13, 14, 15] (by kernel_rfl) (rd_cons (Cell.own (mem_a mem_z) rfl) (rd_cons (Gs.cell hH2.row (fun e he => (mem_h he)) (flat_cell ObjL.len (get_set hx) (j := 3) (by decide) rfl)) (rd_cons (Gs.cell hH2.row (fun e he => (mem_h he)) (flat_cell ObjL.len (get_set hx) (j := 0) (by decide) rfl)) rd_nil))) ?_
    refine aS 0 ?_
    refine aS 1 ?_
    refine aF 2 ?_
    refine aL 3 ?_
    refine aS 4 ?_
    refine aS 5 ?_
    refine aF 6 ?_
    refine aL 7 ?_
    refine kpA [58, 54, 49, 37, 6, 0, 1, 2] ?_
    refine aS 8 ?_
    refine tk 9 (.int .u64 (IntKind.wrap .u64 (p * 8))) ?_
    refine aS 10 ?_
    refine aS 11 ?_
    refine aF 12 ?_
    refine aL 13 ?_
    refine tk 14 (.int .u64 (IntKind.wrap .u64 (x.kind))) ?_
    refine tk 15 (.int .u64 (IntKind.wrap .u64 ((BitVec.ofInt 64 (IntKind.wrap .u64 (p * 8)) ||| BitVec.ofInt 64 (IntKind.wrap .u64 (x.kind))).toNat))) ?_
    rw [show IntKind.wrap .u64 ((BitVec.ofInt 64 (IntKind.wrap .u64 (p * 8)) ||| BitVec.ofInt 64 (IntKind.wrap .u64 (x.kind))).toNat) = rootKey p x.kind from rfl]
    refine sa1 false 16 (h := cl (shapes_Move hH2.tree x.shape (rootKey p x.kind)) ?_)
    rintro _ TV1 ⟨hTV1, hkTV1, rTV1, okTV1, rfl, hrTV1⟩
    refine ⟨fun hnd => (by cases hnd), ?_⟩
    have hH3 : HeapV.ok (HeapV.mk H.s (H.objs.set n (ObjL.mk x.kind p x.shut x.shape x.ns x.names x.vs x.vals x.es x.elems x.is x.inner (if 0 ≤ x.cell then -1 else x.cell))) H.ts H.texts H.known TV1 H.cs cl1 br1) F := HeapV.ok.withTree hH2 hTV1
    refine kpA [67, 49, 37, 6, 0, 1, 2] ?_
    refine aS 17 ?_
    refine aS 18 ?_
    refine aS 19 ?_
    refine aS 20 ?_
    refine aS 21 ?_
    refine SA_done (by kernel_rfl) (n_then ?_)
    refine SW_seq ?_
    refine sr ?_
    refine os 2 ?_
    refine kp [71, 8, 7, 49, 37, 6, 0, 1, 2] ?_
    refine nt ?_
    refine cd (fun hc4 : (!okTV1) = true => ?_) (fun hc4 => ?_)
    ·skip
     replace hc4 := bnot_t hc4
     refine sr ?_
     refine os 2 ?_
     refine L (cl (heap_loose_yes hH3 (n := n) (get_set hx) (show 0 ≤ x.shape from by omega)) ?_ (hp := HeapV.pm))
     rintro _ kg1 ⟨rfl, hkg1⟩
     refine SL_sig _ (by simp only [HeapV.ent, HeapV.put, List.set_set, List.cons_append, List.append_assoc, List.nil_append]; rfl) ?_
     have hH4 : HeapV.ok (HeapV.mk H.s (H.objs.set n (ObjL.loosed (ObjL.mk x.kind p x.shut x.shape x.ns x.names x.vs x.vals x.es x.elems x.is x.inner (if 0 ≤ x.cell then -1 else x.cell)) kg1 (keysP (TreeV.abs TV1 F.T) x.shape))) H.ts H.texts H.known TV1 H.cs cl1 br1) F := by simpa only [HeapV.put, List.set_set] using HeapV.ok.put hH3 (get_set hx) (x' := (ObjL.loosed (ObjL.mk x.kind p x.shut x.shape x.ns x.names x.vs x.vals x.es x.elems x.is x.inner (if 0 ≤ x.cell then -1 else x.cell)) kg1 (keysP (TreeV.abs TV1 F.T) x.shape))) ⟨hkg1, (HeapV.ok.at hH3 (get_set hx)).vs, (HeapV.ok.at hH3 (get_set hx)).es, (HeapV.ok.at hH3 (get_set hx)).is⟩ (HeapV.ok.small hH3 (ObjL.mk x.kind p x.shut x.shape x.ns x.names x.vs x.vals x.es x.elems x.is x.inner (if 0 ≤ x.cell then -1 else x.cell)) (List.mem_of_getElem? (get_set hx)))
     refine nt ?_
     refine SW_ret (r_then ?_)
     refine body_end (.tuple #[]) (fun _ => rfl) ?_
     refine ⟨((ObjL.loosed (ObjL.mk x.kind p x.shut x.shape x.ns x.names x.vs x.vals x.es x.elems x.is x.inner (if 0 ≤ x.cell then -1 else x.cell)) kg1 (keysP (TreeV.abs TV1 F.T) x.shape)), TV1, cl1, br1), ?_, rfl, ?_, ⟨rfl, rfl, rfl, rfl, rfl, rfl⟩, ?_, hchcl1⟩
     · exact HeapV.own
     · exact hH4
     · unfold moveS stepS looseS; rw [if_neg (show ¬ x.ps.shape < 0 from by show ¬ x.shape < 0; omega), show moveP (H.V.abs F.T) x.ps.shape (rootKey p x.kind) = _ from hrTV1]; simp only []; rw [if_neg (by simp [hc4]), if_pos (show (0 : Int) ≤ x.shape from by omega)]
    ·skip
     replace hc4 := bnot_f hc4
     refine SW_skip (n_then ?_)
     refine SW_perm _ (perm_ca (perm_ca (perm_cc perm_cz))) ?_
     refine SW_perm ((Gs.ent 9 1 x.ns (x.names.map encS)) ++ ((Gs.ent 35 3 x.vs (x.vals.flatMap descCells)) ++ ((Gs.ent 33 1 x.es (x.elems.map encU)) ++ ((Gs.ent 33 1 x.is (x.inner.map encU)) ++ (((List.eraseIdx (H.objs.set n (ObjL.mk x.kind p x.shut x.shape x.ns x.names x.vs x.vals x.es x.elems x.is x.inner (if 0 ≤ x.cell then -1 else x.cell))) n).flatMap ObjL.ent) ++ ((TreeV.ent TV1 F.T) ++ ((Gs.ent 105 9 H.s ((H.objs.set n (ObjL.mk x.kind p x.shut x.shape x.ns x.names x.vs x.vals x.es x.elems x.is x.inner (if 0 ≤ x.cell then -1 else x.cell))).flatMap ObjL.cells)) ++ ((F.p, .cells 48 6 [Gs.val H.s ((H.objs.set n (ObjL.mk x.kind p x.shut x.shape x.ns x.names x.vs x.vals x.es x.elems x.is x.inner (if 0 ≤ x.cell then -1 else x.cell))).length), Gs.val H.ts H.texts.length, .map (some F.kb), pt F.T.p 0, pt F.cp 0, .int .i64 br1]) :: ((Gs.ent 9 1 H.ts (H.texts.map encS)) ++ ((F.kb, .map (kvs encS encU H.known)) :: ((CellsL.ent (CellsL.mk F.cp H.cs cl1)) ++ ([])))))))))))) (obj_focus (get_set hx) _) ?_
     refine SW_region ?_
     refine os 4 ?_
     have hok2 := Gs.ok.relen (ys := ((H.objs.set n (ObjL.mk x.kind p x.shut rTV1 x.ns x.names x.vs x.vals x.es x.elems x.is x.inner (if 0 ≤ x.cell then -1 else x.cell))).flatMap ObjL.cells)) hH3.row (by simp [flat_len ObjL.len])
     refine SL_perm _ (perm_ca (perm_ca (perm_ca (perm_ca (perm_ca (perm_ca perm_cz)))))) ?_
     refine L (O_storeG (ys := ((H.objs.set n (ObjL.mk x.kind p x.shut rTV1 x.ns x.names x.vs x.vals x.es x.elems x.is x.inner (if 0 ≤ x.cell then -1 else x.cell))).flatMap ObjL.cells)) H.s (n * 9 + 3) (.int .i64 rTV1) [.int .i64 rTV1] (Gs.ok.ne hH3.row (by first | omega | (simp; omega))) (fun _ => rfl) (fun _ => rfl) rfl (by kernel_rfl) rfl (by rw [flat_len ObjL.len]; simp; omega) ((row_lay (j := 3) ObjL.len (ObjL.mk x.kind p x.shut rTV1 x.ns x.names x.vs x.vals x.es x.elems x.is x.inner (if 0 ≤ x.cell then -1 else x.cell)) (get_set hx) (Nat.le_of_ble_eq_true rfl) rfl).trans (by rw [List.set_set])) rfl ?_)
     refine SL_nil ?_
     refine body_end' (.tuple #[]) (fun _ => rfl) ?_
     refine ⟨((ObjL.mk x.kind p x.shut rTV1 x.ns x.names x.vs x.vals x.es x.elems x.is x.inner (if 0 ≤ x.cell then -1 else x.cell)), TV1, cl1, br1), ?_, rfl, ?_, ⟨rfl, rfl, rfl, rfl, rfl, rfl⟩, ?_, hchcl1⟩
     · refine Own.trans (ow (S := ((F.p, .cells 48 6 [Gs.val H.s ((H.objs.set n (ObjL.mk x.kind p x.shut x.shape x.ns x.names x.vs x.vals x.es x.elems x.is x.inner (if 0 ≤ x.cell then -1 else x.cell))).length), Gs.val H.ts H.texts.length, .map (some F.kb), pt F.T.p 0, pt F.cp 0, .int .i64 br1]) :: ((Gs.ent 105 9 H.s ((H.objs.set n (ObjL.mk x.kind p x.shut rTV1 x.ns x.names x.vs x.vals x.es x.elems x.is x.inner (if 0 ≤ x.cell then -1 else x.cell))).flatMap ObjL.cells)) ++ ((Gs.ent 9 1 x.ns (x.names.map encS)) ++ ((Gs.ent 35 3 x.vs (x.vals.flatMap descCells)) ++ ((Gs.ent 33 1 x.es (x.elems.map encU)) ++ ((Gs.ent 33 1 x.is (x.inner.map encU)) ++ (((List.eraseIdx (H.objs.set n (ObjL.mk x.kind p x.shut x.shape x.ns x.names x.vs x.vals x.es x.elems x.is x.inner (if 0 ≤ x.cell then -1 else x.cell))) n).flatMap ObjL.ent) ++ ((Gs.ent 9 1 H.ts (H.texts.map encS)) ++ ((F.kb, .map (kvs encS encU H.known)) :: ((TreeV.ent TV1 F.T) ++ ((CellsL.ent (CellsL.mk F.cp H.cs cl1)) ++ ([])))))))))))))) (Own.of_perm ?_)
       have hb_ := HeapV.back (H := (HeapV.mk H.s (H.objs.set n (ObjL.mk x.kind p x.shut x.shape x.ns x.names x.vs x.vals x.es x.elems x.is x.inner (if 0 ≤ x.cell then -1 else x.cell))) H.ts H.texts H.known TV1 H.cs cl1 br1)) F (get_set hx) (ObjL.mk x.kind p x.shut rTV1 x.ns x.names x.vs x.vals x.es x.elems x.is x.inner (if 0 ≤ x.cell then -1 else x.cell))
       simp only [HeapV.head, HeapV.put, List.set_set, List.length_set] at hb_ ⊢
       exact hb_
     · simpa only [HeapV.put, List.set_set] using HeapV.ok.put hH3 (get_set hx) (x' := (ObjL.mk x.kind p x.shut rTV1 x.ns x.names x.vs x.vals x.es x.elems x.is x.inner (if 0 ≤ x.cell then -1 else x.cell))) ⟨(by first | exact (show Gs.ok 1 (x.names).length x.ns (x.names.map encS) from (HeapV.ok.at (x := (ObjL.mk x.kind p x.shut x.shape x.ns x.names x.vs x.vals x.es x.elems x.is x.inner (if 0 ≤ x.cell then -1 else x.cell))) hH3 (get_set hx)).ns) | (simp only [List.length_set]; exact (show Gs.ok 1 (x.names).length x.ns (x.names.map encS) from (HeapV.ok.at (x := (ObjL.mk x.kind p x.shut x.shape x.ns x.names x.vs x.vals x.es x.elems x.is x.inner (if 0 ≤ x.cell then -1 else x.cell))) hH3 (get_set hx)).ns))), (by first | exact (show Gs.ok 3 (x.vals).length x.vs (x.vals.flatMap descCells) from (HeapV.ok.at (x := (ObjL.mk x.kind p x.shut x.shape x.ns x.names x.vs x.vals x.es x.elems x.is x.inner (if 0 ≤ x.cell then -1 else x.cell))) hH3 (get_set hx)).vs) | (simp only [List.length_set]; exact (show Gs.ok 3 (x.vals).length x.vs (x.vals.flatMap descCells) from (HeapV.ok.at (x := (ObjL.mk x.kind p x.shut x.shape x.ns x.names x.vs x.vals x.es x.elems x.is x.inner (if 0 ≤ x.cell then -1 else x.cell))) hH3 (get_set hx)).vs))), (by first | exact (show Gs.ok 1 (x.elems).length x.es (x.elems.map encU) from (HeapV.ok.at (x := (ObjL.mk x.kind p x.shut x.shape x.ns x.names x.vs x.vals x.es x.elems x.is x.inner (if 0 ≤ x.cell then -1 else x.cell))) hH3 (get_set hx)).es) | (simp only [List.length_set]; exact (show Gs.ok 1 (x.elems).length x.es (x.elems.map encU) from (HeapV.ok.at (x := (ObjL.mk x.kind p x.shut x.shape x.ns x.names x.vs x.vals x.es x.elems x.is x.inner (if 0 ≤ x.cell then -1 else x.cell))) hH3 (get_set hx)).es))), (by first | exact (show Gs.ok 1 (x.inner).length x.is (x.inner.map encU) from (HeapV.ok.at (x := (ObjL.mk x.kind p x.shut x.shape x.ns x.names x.vs x.vals x.es x.elems x.is x.inner (if 0 ≤ x.cell then -1 else x.cell))) hH3 (get_set hx)).is) | (simp only [List.length_set]; exact (show Gs.ok 1 (x.inner).length x.is (x.inner.map encU) from (HeapV.ok.at (x := (ObjL.mk x.kind p x.shut x.shape x.ns x.names x.vs x.vals x.es x.elems x.is x.inner (if 0 ≤ x.cell then -1 else x.cell))) hH3 (get_set hx)).is)))⟩ (HeapV.ok.small hH3 (ObjL.mk x.kind p x.shut x.shape x.ns x.names x.vs x.vals x.es x.elems x.is x.inner (if 0 ≤ x.cell then -1 else x.cell)) (List.mem_of_getElem? (get_set hx)))
     · unfold moveS stepS; rw [if_neg (show ¬ x.ps.shape < 0 from by show ¬ x.shape < 0; omega), show moveP (H.V.abs F.T) x.ps.shape (rootKey p x.kind) = _ from hrTV1]; simp only []; rw [if_pos (by simpa using hc4)]
 ·skip
  replace hg1 : (p != 18445336698825998337) = false := hg1
  simp only [beq_iff_eq, bne_iff_ne, ne_eq, beq_eq_false_iff_ne, bne_eq_false_iff_eq] at hg1
  refine os 10 ?_
  refine kp [27, 24, 6, 0, 1, 2] ?_
  refine L (ld ?_ (hc := Gs.cell hH.row (fun e he => (mem_c (mem_h he))) (flat_cell ObjL.len hx (j := 1) (by decide) rfl)))
  refine os 4 ?_
  refine kp [32, 6, 0, 1, 2] ?_
  refine pn 32 (show (x.proto == p) = false from (by have q_ := hmove; simp only [not_or] at q_; simp [q_])) ?_
  refine os 3 ?_
  refine L (cl (heap_above hH (p := p) h0 hK hKl) ?_ (hp := HeapV.pm))
  rintro _ _ rfl
  refine SL_sig _ HeapV.eq ?_
  refine os 1 ?_
  refine kp [37, 6, 0, 1, 2] ?_
  refine nt ?_
  refine SW_false (fun _ => (congrArg Value.bool (show (hitP (HeapV.pub H F) p w) = false from (by have q_ := hmove; simp only [not_or] at q_; simp [q_])))) ?_
  refine SW_skip (n_then ?_)
  refine sr ?_
  refine os 2 ?_
  refine L (cl (heap_changed hH (n := n) hx hB hk) ?_ (hp := HeapV.pm))
  rintro _ ⟨cl1, br1⟩ ⟨rfl, hccl1, hchcl1⟩
  refine SL_sig _ HeapV.eq ?_
  have hH1 : HeapV.ok (HeapV.mk H.s (H.objs.set n (ObjL.chg x)) H.ts H.texts H.known H.V H.cs cl1 br1) F := hH.chg hx hccl1 br1
  refine nsr ?_
  refine os 4 ?_
  have hok3 := Gs.ok.relen (ys := ((H.objs.set n (ObjL.mk x.kind p x.shut x.shape x.ns x.names x.vs x.vals x.es x.elems x.is x.inner (if 0 ≤ x.cell then -1 else x.cell))).flatMap ObjL.cells)) hH1.row (by simp [flat_len ObjL.len])
  refine SL_perm _ (perm_cc perm_cz) ?_
  refine L (O_storeG (ys := ((H.objs.set n (ObjL.mk x.kind p x.shut x.shape x.ns x.names x.vs x.vals x.es x.elems x.is x.inner (if 0 ≤ x.cell then -1 else x.cell))).flatMap ObjL.cells)) H.s (n * 9 + 1) (.int .u64 p) [.int .u64 p] (Gs.ok.ne hH1.row (by first | omega | (simp; omega))) (fun _ => rfl) (fun _ => rfl) rfl (by kernel_rfl) rfl (by rw [flat_len ObjL.len]; simp; omega) ((row_lay (j := 1) ObjL.len (ObjL.mk x.kind p x.shut x.shape x.ns x.names x.vs x.vals x.es x.elems x.is x.inner (if 0 ≤ x.cell then -1 else x.cell)) (get_set hx) (Nat.le_of_ble_eq_true rfl) rfl).trans (by rw [List.set_set])) rfl ?_)
  refine nq ?_
  refine SW_seq ?_
  have hH2 : HeapV.ok (HeapV.mk H.s (H.objs.set n (ObjL.mk x.kind p x.shut x.shape x.ns x.names x.vs x.vals x.es x.elems x.is x.inner (if 0 ≤ x.cell then -1 else x.cell))) H.ts H.texts H.known H.V H.cs cl1 br1) F := by simpa only [HeapV.put, List.set_set] using HeapV.ok.put hH1 (get_set hx) (x' := (ObjL.mk x.kind p x.shut x.shape x.ns x.names x.vs x.vals x.es x.elems x.is x.inner (if 0 ≤ x.cell then -1 else x.cell))) ⟨(HeapV.ok.at hH1 (get_set hx)).ns, (HeapV.ok.at hH1 (get_set hx)).vs, (HeapV.ok.at hH1 (get_set hx)).es, (HeapV.ok.at hH1 (get_set hx)).is⟩ (HeapV.ok.small hH1 (ObjL.chg x) (List.mem_of_getElem? (get_set hx)))
  refine SW_sig ((Gs.ent 105 9 H.s ((H.objs.set n (ObjL.mk x.kind p x.shut x.shape x.ns x.names x.vs x.vals x.es x.elems x.is x.inner (if 0 ≤ x.cell then -1 else x.cell))).flatMap ObjL.cells)) ++ ((F.p, .cells 48 6 [Gs.val H.s ((H.objs.set n (ObjL.mk x.kind p x.shut x.shape x.ns x.names x.vs x.vals x.es x.elems x.is x.inner (if 0 ≤ x.cell then -1 else x.cell))).length), Gs.val H.ts H.texts.length, .map (some F.kb), pt F.T.p 0, pt F.cp 0, .int .i64 br1]) :: (((H.objs.set n (ObjL.mk x.kind p x.shut x.shape x.ns x.names x.vs x.vals x.es x.elems x.is x.inner (if 0 ≤ x.cell then -1 else x.cell))).flatMap ObjL.ent) ++ ((Gs.ent 9 1 H.ts (H.texts.map encS)) ++ ((F.kb, .map (kvs encS encU H.known)) :: ((TreeV.ent H.V F.T) ++ ((CellsL.ent (CellsL.mk F.cp H.cs cl1)) ++ ([])))))))) (by simp only [List.length_set, flat_same (f := ObjL.ent) (x' := (ObjL.chg x)) hx rfl, flat_same (f := ObjL.ent) (x' := (ObjL.mk x.kind p x.shut x.shape x.ns x.names x.vs x.vals x.es x.elems x.is x.inner (if 0 ≤ x.cell then -1 else x.cell))) hx rfl]) ?_
  refine SW_region ?_
  refine os 3 ?_
  refine kp [47, 37, 6, 0, 1, 2] ?_
  refine L (ld ?_ (hc := Gs.cell hH2.row (fun e he => (mem_h he)) (flat_cell ObjL.len (get_set hx) (j := 3) (by decide) rfl)) (v := .int .i64 x.shape))
  refine os 1 ?_
  refine nt ?_
  refine cdp (fun hc6 : x.shape < 0 => ?_) (fun hc6 => ?_)
  ·skip
   refine SW_ret (r_then ?_)
   refine body_end (.tuple #[]) (fun _ => rfl) ?_
   refine ⟨((ObjL.mk x.kind p x.shut x.shape x.ns x.names x.vs x.vals x.es x.elems x.is x.inner (if 0 ≤ x.cell then -1 else x.cell)), H.V, cl1, br1), ?_, rfl, ?_, ⟨rfl, rfl, rfl, rfl, rfl, rfl⟩, ?_, hchcl1⟩
   · exact HeapV.own
   · exact hH2
   · unfold moveS; rw [if_pos (show x.ps.shape < 0 from by show x.shape < 0; omega)]
  ·skip
   refine SW_skip (n_then ?_)
   refine SW_seq ?_
   refine SW_draw [(F.p, 3, pt F.T.p 0), ((Gs.blk H.s), n * 9 + 3, .int .i64 x.shape), ((Gs.blk H.s), n * 9, .int .i64 x.kind)] [0, 1, 2, 3, 4, 5, 6, 7, 8, 9, 10, 11, 12, 13, 14, 15] (by kernel_rfl) (rd_cons (Cell.own (mem_a mem_z) rfl) (rd_cons (Gs.cell hH2.row (fun e he => (mem_h he)) (flat_cell ObjL.len (get_set hx) (j := 3) (by decide) rfl)) (rd_cons (Gs.cell hH2.row (fun e he => (mem_h he)) (flat_cell ObjL.len (get_set hx) (j := 0) (by decide) rfl)) rd_nil))) ?_
   refine aS 0 ?_
   refine aS 1 ?_
   refine aF 2 ?_
   refine aL 3 ?_
   refine aS 4 ?_
   refine aS 5 ?_
   refine aF 6 ?_
   refine aL 7 ?_
   refine kpA [58, 54, 49, 37, 6, 0, 1, 2] ?_
   refine aS 8 ?_
   refine tk 9 (.int .u64 (IntKind.wrap .u64 (p * 8))) ?_
   refine aS 10 ?_
   refine aS 11 ?_
   refine aF 12 ?_
   refine aL 13 ?_
   refine tk 14 (.int .u64 (IntKind.wrap .u64 (x.kind))) ?_
   refine tk 15 (.int .u64 (IntKind.wrap .u64 ((BitVec.ofInt 64 (IntKind.wrap .u64 (p * 8)) ||| BitVec.ofInt 64 (IntKind.wrap .u64 (x.kind))).toNat))) ?_
   rw [show IntKind.wrap .u64 ((BitVec.ofInt 64 (IntKind.wrap .u64 (p * 8)) ||| BitVec.ofInt 64 (IntKind.wrap .u64 (x.kind))).toNat) = rootKey p x.kind from rfl]
   refine sa1 false 16 (h := cl (shapes_Move hH2.tree x.shape (rootKey p x.kind)) ?_)
   rintro _ TV1 ⟨hTV1, hkTV1, rTV1, okTV1, rfl, hrTV1⟩
   refine ⟨fun hnd => (by cases hnd), ?_⟩
   have hH3 : HeapV.ok (HeapV.mk H.s (H.objs.set n (ObjL.mk x.kind p x.shut x.shape x.ns x.names x.vs x.vals x.es x.elems x.is x.inner (if 0 ≤ x.cell then -1 else x.cell))) H.ts H.texts H.known TV1 H.cs cl1 br1) F := HeapV.ok.withTree hH2 hTV1
   refine kpA [67, 49, 37, 6, 0, 1, 2] ?_
   refine aS 17 ?_
   refine aS 18 ?_
   refine aS 19 ?_
   refine aS 20 ?_
   refine aS 21 ?_
   refine SA_done (by kernel_rfl) (n_then ?_)
   refine SW_seq ?_
   refine sr ?_
   refine os 2 ?_
   refine kp [71, 8, 7, 49, 37, 6, 0, 1, 2] ?_
   refine nt ?_
   refine cd (fun hc7 : (!okTV1) = true => ?_) (fun hc7 => ?_)
   ·skip
    replace hc7 := bnot_t hc7
    refine sr ?_
    refine os 2 ?_
    refine L (cl (heap_loose_yes hH3 (n := n) (get_set hx) (show 0 ≤ x.shape from by omega)) ?_ (hp := HeapV.pm))
    rintro _ kg1 ⟨rfl, hkg1⟩
    refine SL_sig _ (by simp only [HeapV.ent, HeapV.put, List.set_set, List.cons_append, List.append_assoc, List.nil_append]; rfl) ?_
    have hH4 : HeapV.ok (HeapV.mk H.s (H.objs.set n (ObjL.loosed (ObjL.mk x.kind p x.shut x.shape x.ns x.names x.vs x.vals x.es x.elems x.is x.inner (if 0 ≤ x.cell then -1 else x.cell)) kg1 (keysP (TreeV.abs TV1 F.T) x.shape))) H.ts H.texts H.known TV1 H.cs cl1 br1) F := by simpa only [HeapV.put, List.set_set] using HeapV.ok.put hH3 (get_set hx) (x' := (ObjL.loosed (ObjL.mk x.kind p x.shut x.shape x.ns x.names x.vs x.vals x.es x.elems x.is x.inner (if 0 ≤ x.cell then -1 else x.cell)) kg1 (keysP (TreeV.abs TV1 F.T) x.shape))) ⟨hkg1, (HeapV.ok.at hH3 (get_set hx)).vs, (HeapV.ok.at hH3 (get_set hx)).es, (HeapV.ok.at hH3 (get_set hx)).is⟩ (HeapV.ok.small hH3 (ObjL.mk x.kind p x.shut x.shape x.ns x.names x.vs x.vals x.es x.elems x.is x.inner (if 0 ≤ x.cell then -1 else x.cell)) (List.mem_of_getElem? (get_set hx)))
    refine nt ?_
    refine SW_ret (r_then ?_)
    refine body_end (.tuple #[]) (fun _ => rfl) ?_
    refine ⟨((ObjL.loosed (ObjL.mk x.kind p x.shut x.shape x.ns x.names x.vs x.vals x.es x.elems x.is x.inner (if 0 ≤ x.cell then -1 else x.cell)) kg1 (keysP (TreeV.abs TV1 F.T) x.shape)), TV1, cl1, br1), ?_, rfl, ?_, ⟨rfl, rfl, rfl, rfl, rfl, rfl⟩, ?_, hchcl1⟩
    · exact HeapV.own
    · exact hH4
    · unfold moveS stepS looseS; rw [if_neg (show ¬ x.ps.shape < 0 from by show ¬ x.shape < 0; omega), show moveP (H.V.abs F.T) x.ps.shape (rootKey p x.kind) = _ from hrTV1]; simp only []; rw [if_neg (by simp [hc7]), if_pos (show (0 : Int) ≤ x.shape from by omega)]
   ·skip
    replace hc7 := bnot_f hc7
    refine SW_skip (n_then ?_)
    refine SW_perm _ (perm_ca (perm_ca (perm_cc perm_cz))) ?_
    refine SW_perm ((Gs.ent 9 1 x.ns (x.names.map encS)) ++ ((Gs.ent 35 3 x.vs (x.vals.flatMap descCells)) ++ ((Gs.ent 33 1 x.es (x.elems.map encU)) ++ ((Gs.ent 33 1 x.is (x.inner.map encU)) ++ (((List.eraseIdx (H.objs.set n (ObjL.mk x.kind p x.shut x.shape x.ns x.names x.vs x.vals x.es x.elems x.is x.inner (if 0 ≤ x.cell then -1 else x.cell))) n).flatMap ObjL.ent) ++ ((TreeV.ent TV1 F.T) ++ ((Gs.ent 105 9 H.s ((H.objs.set n (ObjL.mk x.kind p x.shut x.shape x.ns x.names x.vs x.vals x.es x.elems x.is x.inner (if 0 ≤ x.cell then -1 else x.cell))).flatMap ObjL.cells)) ++ ((F.p, .cells 48 6 [Gs.val H.s ((H.objs.set n (ObjL.mk x.kind p x.shut x.shape x.ns x.names x.vs x.vals x.es x.elems x.is x.inner (if 0 ≤ x.cell then -1 else x.cell))).length), Gs.val H.ts H.texts.length, .map (some F.kb), pt F.T.p 0, pt F.cp 0, .int .i64 br1]) :: ((Gs.ent 9 1 H.ts (H.texts.map encS)) ++ ((F.kb, .map (kvs encS encU H.known)) :: ((CellsL.ent (CellsL.mk F.cp H.cs cl1)) ++ ([])))))))))))) (obj_focus (get_set hx) _) ?_
    refine SW_region ?_
    refine os 4 ?_
    have hok4 := Gs.ok.relen (ys := ((H.objs.set n (ObjL.mk x.kind p x.shut rTV1 x.ns x.names x.vs x.vals x.es x.elems x.is x.inner (if 0 ≤ x.cell then -1 else x.cell))).flatMap ObjL.cells)) hH3.row (by simp [flat_len ObjL.len])
    refine SL_perm _ (perm_ca (perm_ca (perm_ca (perm_ca (perm_ca (perm_ca perm_cz)))))) ?_
    refine L (O_storeG (ys := ((H.objs.set n (ObjL.mk x.kind p x.shut rTV1 x.ns x.names x.vs x.vals x.es x.elems x.is x.inner (if 0 ≤ x.cell then -1 else x.cell))).flatMap ObjL.cells)) H.s (n * 9 + 3) (.int .i64 rTV1) [.int .i64 rTV1] (Gs.ok.ne hH3.row (by first | omega | (simp; omega))) (fun _ => rfl) (fun _ => rfl) rfl (by kernel_rfl) rfl (by rw [flat_len ObjL.len]; simp; omega) ((row_lay (j := 3) ObjL.len (ObjL.mk x.kind p x.shut rTV1 x.ns x.names x.vs x.vals x.es x.elems x.is x.inner (if 0 ≤ x.cell then -1 else x.cell)) (get_set hx) (Nat.le_of_ble_eq_true rfl) rfl).trans (by rw [List.set_set])) rfl ?_)
    refine SL_nil ?_
    refine body_end' (.tuple #[]) (fun _ => rfl) ?_
    refine ⟨((ObjL.mk x.kind p x.shut rTV1 x.ns x.names x.vs x.vals x.es x.elems x.is x.inner (if 0 ≤ x.cell then -1 else x.cell)), TV1, cl1, br1), ?_, rfl, ?_, ⟨rfl, rfl, rfl, rfl, rfl, rfl⟩, ?_, hchcl1⟩
    · refine Own.trans (ow (S := ((F.p, .cells 48 6 [Gs.val H.s ((H.objs.set n (ObjL.mk x.kind p x.shut x.shape x.ns x.names x.vs x.vals x.es x.elems x.is x.inner (if 0 ≤ x.cell then -1 else x.cell))).length), Gs.val H.ts H.texts.length, .map (some F.kb), pt F.T.p 0, pt F.cp 0, .int .i64 br1]) :: ((Gs.ent 105 9 H.s ((H.objs.set n (ObjL.mk x.kind p x.shut rTV1 x.ns x.names x.vs x.vals x.es x.elems x.is x.inner (if 0 ≤ x.cell then -1 else x.cell))).flatMap ObjL.cells)) ++ ((Gs.ent 9 1 x.ns (x.names.map encS)) ++ ((Gs.ent 35 3 x.vs (x.vals.flatMap descCells)) ++ ((Gs.ent 33 1 x.es (x.elems.map encU)) ++ ((Gs.ent 33 1 x.is (x.inner.map encU)) ++ (((List.eraseIdx (H.objs.set n (ObjL.mk x.kind p x.shut x.shape x.ns x.names x.vs x.vals x.es x.elems x.is x.inner (if 0 ≤ x.cell then -1 else x.cell))) n).flatMap ObjL.ent) ++ ((Gs.ent 9 1 H.ts (H.texts.map encS)) ++ ((F.kb, .map (kvs encS encU H.known)) :: ((TreeV.ent TV1 F.T) ++ ((CellsL.ent (CellsL.mk F.cp H.cs cl1)) ++ ([])))))))))))))) (Own.of_perm ?_)
      have hb_ := HeapV.back (H := (HeapV.mk H.s (H.objs.set n (ObjL.mk x.kind p x.shut x.shape x.ns x.names x.vs x.vals x.es x.elems x.is x.inner (if 0 ≤ x.cell then -1 else x.cell))) H.ts H.texts H.known TV1 H.cs cl1 br1)) F (get_set hx) (ObjL.mk x.kind p x.shut rTV1 x.ns x.names x.vs x.vals x.es x.elems x.is x.inner (if 0 ≤ x.cell then -1 else x.cell))
      simp only [HeapV.head, HeapV.put, List.set_set, List.length_set] at hb_ ⊢
      exact hb_
    · simpa only [HeapV.put, List.set_set] using HeapV.ok.put hH3 (get_set hx) (x' := (ObjL.mk x.kind p x.shut rTV1 x.ns x.names x.vs x.vals x.es x.elems x.is x.inner (if 0 ≤ x.cell then -1 else x.cell))) ⟨(by first | exact (show Gs.ok 1 (x.names).length x.ns (x.names.map encS) from (HeapV.ok.at (x := (ObjL.mk x.kind p x.shut x.shape x.ns x.names x.vs x.vals x.es x.elems x.is x.inner (if 0 ≤ x.cell then -1 else x.cell))) hH3 (get_set hx)).ns) | (simp only [List.length_set]; exact (show Gs.ok 1 (x.names).length x.ns (x.names.map encS) from (HeapV.ok.at (x := (ObjL.mk x.kind p x.shut x.shape x.ns x.names x.vs x.vals x.es x.elems x.is x.inner (if 0 ≤ x.cell then -1 else x.cell))) hH3 (get_set hx)).ns))), (by first | exact (show Gs.ok 3 (x.vals).length x.vs (x.vals.flatMap descCells) from (HeapV.ok.at (x := (ObjL.mk x.kind p x.shut x.shape x.ns x.names x.vs x.vals x.es x.elems x.is x.inner (if 0 ≤ x.cell then -1 else x.cell))) hH3 (get_set hx)).vs) | (simp only [List.length_set]; exact (show Gs.ok 3 (x.vals).length x.vs (x.vals.flatMap descCells) from (HeapV.ok.at (x := (ObjL.mk x.kind p x.shut x.shape x.ns x.names x.vs x.vals x.es x.elems x.is x.inner (if 0 ≤ x.cell then -1 else x.cell))) hH3 (get_set hx)).vs))), (by first | exact (show Gs.ok 1 (x.elems).length x.es (x.elems.map encU) from (HeapV.ok.at (x := (ObjL.mk x.kind p x.shut x.shape x.ns x.names x.vs x.vals x.es x.elems x.is x.inner (if 0 ≤ x.cell then -1 else x.cell))) hH3 (get_set hx)).es) | (simp only [List.length_set]; exact (show Gs.ok 1 (x.elems).length x.es (x.elems.map encU) from (HeapV.ok.at (x := (ObjL.mk x.kind p x.shut x.shape x.ns x.names x.vs x.vals x.es x.elems x.is x.inner (if 0 ≤ x.cell then -1 else x.cell))) hH3 (get_set hx)).es))), (by first | exact (show Gs.ok 1 (x.inner).length x.is (x.inner.map encU) from (HeapV.ok.at (x := (ObjL.mk x.kind p x.shut x.shape x.ns x.names x.vs x.vals x.es x.elems x.is x.inner (if 0 ≤ x.cell then -1 else x.cell))) hH3 (get_set hx)).is) | (simp only [List.length_set]; exact (show Gs.ok 1 (x.inner).length x.is (x.inner.map encU) from (HeapV.ok.at (x := (ObjL.mk x.kind p x.shut x.shape x.ns x.names x.vs x.vals x.es x.elems x.is x.inner (if 0 ≤ x.cell then -1 else x.cell))) hH3 (get_set hx)).is)))⟩ (HeapV.ok.small hH3 (ObjL.mk x.kind p x.shut x.shape x.ns x.names x.vs x.vals x.es x.elems x.is x.inner (if 0 ≤ x.cell then -1 else x.cell)) (List.mem_of_getElem? (get_set hx)))
    · unfold moveS stepS; rw [if_neg (show ¬ x.ps.shape < 0 from by show ¬ x.shape < 0; omega), show moveP (H.V.abs F.T) x.ps.shape (rootKey p x.kind) = _ from hrTV1]; simp only []; rw [if_pos (by simpa using hc7)]

end Go.Proofs.YtdfhbheipagnmaaGreat
namespace Go.Proofs.YtdfhbheipagnmaaGreat
open Go.Sl

theorem heap_Close_none {W0 : World} {F : HeapF} {H : HeapV} (hH : H.ok F) {w : Int} (h0 : objAt w H.objs.length = none) : SC Tryz.prog W0 28 #[.pointer (some ⟨F.p, 0, none⟩), .int .u64 w] (HeapV.ent H F) (Ret (fun _ : Unit => H.ent F) (fun v _ => v = .tuple #[])) := by
 refine SC_body (fn := Tryz.f28) (n := 13) Tryz.func28 rfl (by kernel_rfl) (ρ := [(0, pt F.p 0), (1, .int .u64 w)]) rfl ?_
 refine SW_sig _ HeapV.eq0 ?_
 refine sr ?_
 refine os 2 ?_
 refine L (cl (heap_at hH w) ?_ (hp := HeapV.pm))
 rintro v1 _ hv1
 obtain rfl : v1 = .pointer none := hv1.trans (by rw [h0])
 refine SL_sig _ HeapV.eq ?_
 refine os 1 ?_
 refine kp [4, 0, 1] ?_
 refine nsr ?_
 refine os 1 ?_
 refine oV (.bool false) ?_
 refine nt ?_
 refine cf ?_
 refine SW_skip ?_
 refine body_end' (.tuple #[]) (fun _ => rfl) ?_
 exact ⟨(), HeapV.own, rfl⟩

theorem heap_Close_some {W0 : World} {F : HeapF} {H : HeapV} (hH : H.ok F) {w : Int} {n : Nat} {x : ObjL} (h0 : objAt w H.objs.length = some n) (hx : H.objs[n]? = some x) : SC Tryz.prog W0 28 #[.pointer (some ⟨F.p, 0, none⟩), .int .u64 w] (HeapV.ent H F) (Ret (fun _ : Unit => (H.put n (ObjL.mk x.kind x.proto true x.shape x.ns x.names x.vs x.vals x.es x.elems x.is x.inner x.cell)).ent F) (fun v _ => v = .tuple #[])) := by
 have hnl := (List.getElem?_eq_some_iff.1 hx).1
 refine SC_body (fn := Tryz.f28) (n := 13) Tryz.func28 rfl (by kernel_rfl) (ρ := [(0, pt F.p 0), (1, .int .u64 w)]) rfl ?_
 refine SW_sig _ HeapV.eq0 ?_
 refine sr ?_
 refine os 2 ?_
 refine L (cl (heap_at hH w) ?_ (hp := HeapV.pm))
 rintro v1 _ hv1
 obtain rfl : v1 = pt (Gs.blk H.s) (n * 9) := hv1.trans (by rw [h0])
 refine SL_sig _ HeapV.eq ?_
 refine os 1 ?_
 refine kp [4, 0, 1] ?_
 refine nsr ?_
 refine os 1 ?_
 refine oV (.bool true) ?_
 refine nt ?_
 refine ct ?_
 refine SW_region ?_
 refine os 3 ?_
 have hok1 := Gs.ok.relen (ys := ((H.objs.set n (ObjL.mk x.kind x.proto true x.shape x.ns x.names x.vs x.vals x.es x.elems x.is x.inner x.cell)).flatMap ObjL.cells)) hH.row (by simp [flat_len ObjL.len])
 refine SL_perm _ (perm_cc perm_cz) ?_
 refine L (O_storeG (ys := ((H.objs.set n (ObjL.mk x.kind x.proto true x.shape x.ns x.names x.vs x.vals x.es x.elems x.is x.inner x.cell)).flatMap ObjL.cells)) H.s (n * 9 + 2) (.bool true) [.bool true] (Gs.ok.ne hH.row (by first | omega | (simp; omega))) (fun _ => rfl) (fun _ => rfl) rfl (by kernel_rfl) rfl (by rw [flat_len ObjL.len]; simp; omega) (row_lay (j := 2) ObjL.len (ObjL.mk x.kind x.proto true x.shape x.ns x.names x.vs x.vals x.es x.elems x.is x.inner x.cell) hx (Nat.le_of_ble_eq_true rfl) rfl) rfl ?_)
 refine SL_nil ?_
 refine body_end' (.tuple #[]) (fun _ => rfl) ?_
 refine ⟨(), Own.trans (ow (S := ((F.p, .cells 48 6 [Gs.val H.s H.objs.length, Gs.val H.ts H.texts.length, .map (some F.kb), pt F.T.p 0, pt F.cp 0, .int .i64 H.br]) :: ((Gs.ent 105 9 H.s ((H.objs.set n (ObjL.mk x.kind x.proto true x.shape x.ns x.names x.vs x.vals x.es x.elems x.is x.inner x.cell)).flatMap ObjL.cells)) ++ ((H.objs.flatMap ObjL.ent) ++ ((Gs.ent 9 1 H.ts (H.texts.map encS)) ++ ((F.kb, .map (kvs encS encU H.known)) :: ((TreeV.ent H.V F.T) ++ ((CellsL.ent (CellsL.mk F.cp H.cs H.cl)) ++ ([])))))))))) ?_, rfl⟩
 exact Own.of_perm (List.Perm.of_eq (by simp only [HeapV.ent, HeapV.head, HeapV.row, List.length_set, flat_same (f := ObjL.ent) (x' := (ObjL.mk x.kind x.proto true x.shape x.ns x.names x.vs x.vals x.es x.elems x.is x.inner x.cell)) hx rfl]))

theorem heap_Write_none {W0 : World} {F : HeapF} {H : HeapV} (hH : H.ok F) {w : Int} (h0 : objAt w H.objs.length = none) (m wd : Int) : SC Tryz.prog W0 73 #[.pointer (some ⟨F.p, 0, none⟩), .int .u64 w, .int .i64 m, .int .u64 wd] (HeapV.ent H F) (Ret (fun _ : Unit => H.ent F) (fun v _ => v = .bool false)) := by
 refine SC_body (fn := Tryz.f73) (n := 39) Tryz.func73 rfl (by kernel_rfl) (ρ := [(0, pt F.p 0), (1, .int .u64 w), (2, .int .i64 m), (3, .int .u64 wd)]) rfl ?_
 refine SW_sig _ HeapV.eq0 ?_
 refine sr ?_
 refine os 1 ?_
 refine nsr ?_
 refine os 2 ?_
 refine L (cl (heap_at hH w) ?_ (hp := HeapV.pm))
 rintro v1 _ hv1
 obtain rfl : v1 = .pointer none := hv1.trans (by rw [h0])
 refine SL_sig _ HeapV.eq ?_
 refine os 1 ?_
 refine kp [9, 8, 0, 1, 2, 3] ?_
 refine nq ?_
 refine sr ?_
 refine os 1 ?_
 refine oV (.bool true) ?_
 refine os 13 ?_
 refine kp [27, 9, 8, 0, 1, 2, 3] ?_
 refine nt ?_
 refine ct ?_
 refine sr ?_
 refine os 1 ?_
 refine nt ?_
 refine SW_ret (r_then ?_)
 refine body_end (.bool false) (fun _ => rfl) ?_
 exact ⟨(), HeapV.own, rfl⟩

theorem heap_Write_bad {W0 : World} {F : HeapF} {H : HeapV} (hH : H.ok F) {w : Int} {n : Nat} {x : ObjL} (h0 : objAt w H.objs.length = some n) (hx : H.objs[n]? = some x) {m : Int} (wd : Int) (hbad : ¬ (0 ≤ m ∧ m < x.vals.length)) : SC Tryz.prog W0 73 #[.pointer (some ⟨F.p, 0, none⟩), .int .u64 w, .int .i64 m, .int .u64 wd] (HeapV.ent H F) (Ret (fun _ : Unit => H.ent F) (fun v _ => v = .bool false)) := by
 have hnl := (List.getElem?_eq_some_iff.1 hx).1
 refine SC_body (fn := Tryz.f73) (n := 39) Tryz.func73 rfl (by kernel_rfl) (ρ := [(0, pt F.p 0), (1, .int .u64 w), (2, .int .i64 m), (3, .int .u64 wd)]) rfl ?_
 refine SW_sig _ HeapV.eq0 ?_
 refine sr ?_
 refine os 1 ?_
 refine nsr ?_
 refine os 2 ?_
 refine L (cl (heap_at hH w) ?_ (hp := HeapV.pm))
 rintro v1 _ hv1
 obtain rfl : v1 = pt (Gs.blk H.s) (n * 9) := hv1.trans (by rw [h0])
 refine SL_sig _ HeapV.eq ?_
 refine os 1 ?_
 refine kp [9, 8, 0, 1, 2, 3] ?_
 refine nq ?_
 refine sr ?_
 refine os 1 ?_
 refine oV (.bool false) ?_
 refine os 5 ?_
 refine kp [19, 9, 8, 0, 1, 2, 3] ?_
 refine tbp 19 (fun hg1 => ?_) (fun hg1 => ?_)
 ·skip
  replace hg1 : m < 0 := hg1
  refine os 8 ?_
  refine kp [27, 9, 8, 0, 1, 2, 3] ?_
  refine nt ?_
  refine ct ?_
  refine sr ?_
  refine os 1 ?_
  refine nt ?_
  refine SW_ret (r_then ?_)
  refine body_end (.bool false) (fun _ => rfl) ?_
  exact ⟨(), HeapV.own, rfl⟩
 ·skip
  replace hg1 : ¬ (m < 0) := hg1
  refine os 4 ?_
  refine L (ld ?_ (hc := Gs.cell hH.row (fun e he => (mem_c (mem_h he))) (flat_cell ObjL.len hx (j := 5) (by decide) rfl)))
  refine os 3 ?_
  refine kp [27, 9, 8, 0, 1, 2, 3] ?_
  refine nt ?_
  refine cdp (fun hc2 : m ≥ (x.vals.length : Int) => ?_) (fun hc2 => ?_)
  ·skip
   refine sr ?_
   refine os 1 ?_
   refine nt ?_
   refine SW_ret (r_then ?_)
   refine body_end (.bool false) (fun _ => rfl) ?_
   exact ⟨(), HeapV.own, rfl⟩
  ·skip
   exact absurd (by omega) hbad

theorem heap_Write_ok {W0 : World} {F : HeapF} {H : HeapV} (hH : H.ok F) {w : Int} {n : Nat} {x : ObjL} (h0 : objAt w H.objs.length = some n) (hx : H.objs[n]? = some x) {k : Nat} (hB : H.bud k) (hk : k ≤ 8000000) {m : Nat} {d : DescP} (hd : x.vals[m]? = some d) (wd : Int) : SC Tryz.prog W0 73 #[.pointer (some ⟨F.p, 0, none⟩), .int .u64 w, .int .i64 (m : Int), .int .u64 wd] (HeapV.ent H F) (Ret (fun r : ObjL × List CellL × Int => (H.upd n r.1 H.V r.2.1 r.2.2).ent F) (fun v r => v = .bool true ∧ (H.upd n r.1 H.V r.2.1 r.2.2).ok F ∧ Same x r.1 ∧ r.1.ps = ⟨x.shape, x.names, x.vals.set m (wd, d.2.1, d.2.2)⟩ ∧ Chg x.cell H.cl r.2.1)) := by
 have hnl := (List.getElem?_eq_some_iff.1 hx).1
 have hml := (List.getElem?_eq_some_iff.1 hd).1
 have hvl := hB.vals x (List.mem_of_getElem? hx)
 refine SC_body (fn := Tryz.f73) (n := 39) Tryz.func73 rfl (by kernel_rfl) (ρ := [(0, pt F.p 0), (1, .int .u64 w), (2, .int .i64 (m : Int)), (3, .int .u64 wd)]) rfl ?_
 refine SW_sig _ HeapV.eq0 ?_
 refine sr ?_
 refine os 1 ?_
 refine nsr ?_
 refine os 2 ?_
 refine L (cl (heap_at hH w) ?_ (hp := HeapV.pm))
 rintro v1 _ hv1
 obtain rfl : v1 = pt (Gs.blk H.s) (n * 9) := hv1.trans (by rw [h0])
 refine SL_sig _ HeapV.eq ?_
 refine os 1 ?_
 refine kp [9, 8, 0, 1, 2, 3] ?_
 refine nq ?_
 refine sr ?_
 refine os 1 ?_
 refine oV (.bool false) ?_
 refine os 5 ?_
 refine kp [19, 9, 8, 0, 1, 2, 3] ?_
 refine pn 19 (show (decide ((m : Int) < 0)) = false from (by simp <;> omega)) ?_
 refine os 4 ?_
 refine L (ld ?_ (hc := Gs.cell hH.row (fun e he => (mem_c (mem_h he))) (flat_cell ObjL.len hx (j := 5) (by decide) rfl)))
 refine os 3 ?_
 refine kp [27, 9, 8, 0, 1, 2, 3] ?_
 refine nt ?_
 refine SW_false (fun _ => (congrArg Value.bool (show (decide ((m : Int) ≥ (x.vals.length : Int))) = false from (by simp <;> omega)))) ?_
 refine SW_skip (n_then ?_)
 refine sr ?_
 refine os 2 ?_
 refine L (cl (heap_changed hH (n := n) hx hB hk) ?_ (hp := HeapV.pm))
 rintro _ ⟨cl1, br1⟩ ⟨rfl, hccl1, hchcl1⟩
 refine SL_sig _ HeapV.eq ?_
 have hH1 : HeapV.ok (HeapV.mk H.s (H.objs.set n (ObjL.chg x)) H.ts H.texts H.known H.V H.cs cl1 br1) F := hH.chg hx hccl1 br1
 refine nq ?_
 refine SW_perm _ (perm_cc (perm_ca perm_cz)) ?_
 refine SW_perm ((Gs.ent 9 1 x.ns (x.names.map encS)) ++ ((Gs.ent 35 3 x.vs (x.vals.flatMap descCells)) ++ ((Gs.ent 33 1 x.es (x.elems.map encU)) ++ ((Gs.ent 33 1 x.is (x.inner.map encU)) ++ (((List.eraseIdx (H.objs.set n (ObjL.chg x)) n).flatMap ObjL.ent) ++ ((F.p, .cells 48 6 [Gs.val H.s ((H.objs.set n (ObjL.chg x)).length), Gs.val H.ts H.texts.length, .map (some F.kb), pt F.T.p 0, pt F.cp 0, .int .i64 br1]) :: ((Gs.ent 105 9 H.s ((H.objs.set n (ObjL.chg x)).flatMap ObjL.cells)) ++ ((Gs.ent 9 1 H.ts (H.texts.map encS)) ++ ((F.kb, .map (kvs encS encU H.known)) :: ((TreeV.ent H.V F.T) ++ ((CellsL.ent (CellsL.mk F.cp H.cs cl1)) ++ ([])))))))))))) (obj_focus (get_set hx) _) ?_
 refine SW_region ?_
 refine os 3 ?_
 refine L (ld ?_ (hc := Gs.cell hH1.row (fun e he => (mem_a (mem_a (mem_a (mem_a (mem_a (mem_c (mem_h he)))))))) (flat_cell ObjL.len (get_set hx) (j := 5) (by decide) rfl)) (v := Gs.val x.vs x.vals.length))
 refine os 2 ?_
 refine kp [36, 35, 34, 27, 9, 8, 0, 1, 2, 3] ?_
 refine L (ixg (m : Int) (m * 3) (show Gs.ok 3 (x.vals).length x.vs (x.vals.flatMap descCells) from (HeapV.ok.at (x := (ObjL.chg x)) hH1 (get_set hx)).vs) Tryz.underlying81 ?_)
 refine os 1 ?_
 have hok1 := Gs.ok.relen (ys := ((x.vals.set m (wd, d.2.1, d.2.2)).flatMap descCells)) (show Gs.ok 3 (x.vals).length x.vs (x.vals.flatMap descCells) from (HeapV.ok.at (x := (ObjL.chg x)) hH1 (get_set hx)).vs) (by simp [flat_len descCells_len])
 refine SL_perm _ (perm_ca perm_cz) ?_
 refine L (O_storeG (ys := ((x.vals.set m (wd, d.2.1, d.2.2)).flatMap descCells)) x.vs (m * 3) (.int .u64 wd) [.int .u64 wd] (Gs.ok.ne (show Gs.ok 3 (x.vals).length x.vs (x.vals.flatMap descCells) from (HeapV.ok.at (x := (ObjL.chg x)) hH1 (get_set hx)).vs) (by first | omega | (simp; omega))) (fun _ => rfl) (fun _ => rfl) rfl (by kernel_rfl) rfl (by rw [flat_len descCells_len]; simp; omega) (row_lay (j := 0) descCells_len (wd, d.2.1, d.2.2) hd (Nat.le_of_ble_eq_true rfl) rfl) rfl ?_)
 refine nsr ?_
 refine os 1 ?_
 refine kp [8, 27, 9, 0, 1, 2, 3] ?_
 refine nt ?_
 have er : (H.objs.set n (ObjL.mk x.kind x.proto x.shut x.shape x.ns x.names x.vs (x.vals.set m (wd, d.2.1, d.2.2)) x.es x.elems x.is x.inner (if 0 ≤ x.cell then -1 else x.cell))).flatMap ObjL.cells = (H.objs.set n (ObjL.chg x)).flatMap ObjL.cells := set_cells (by simp [ObjL.cells])
 refine SW_sig ((Gs.ent 35 3 x.vs ((x.vals.set m (wd, d.2.1, d.2.2)).flatMap descCells)) ++ ((Gs.ent 9 1 x.ns (x.names.map encS)) ++ ((Gs.ent 33 1 x.es (x.elems.map encU)) ++ ((Gs.ent 33 1 x.is (x.inner.map encU)) ++ (((List.eraseIdx (H.objs.set n (ObjL.chg x)) n).flatMap ObjL.ent) ++ ((F.p, .cells 48 6 [Gs.val H.s ((H.objs.set n (ObjL.chg x)).length), Gs.val H.ts H.texts.length, .map (some F.kb), pt F.T.p 0, pt F.cp 0, .int .i64 br1]) :: ((Gs.ent 105 9 H.s ((H.objs.set n (ObjL.mk x.kind x.proto x.shut x.shape x.ns x.names x.vs (x.vals.set m (wd, d.2.1, d.2.2)) x.es x.elems x.is x.inner (if 0 ≤ x.cell then -1 else x.cell))).flatMap ObjL.cells)) ++ ((Gs.ent 9 1 H.ts (H.texts.map encS)) ++ ((F.kb, .map (kvs encS encU H.known)) :: ((TreeV.ent H.V F.T) ++ ((CellsL.ent (CellsL.mk F.cp H.cs cl1)) ++ ([])))))))))))) (by rw [er]) ?_
 refine SW_ret ?_
 refine body_end (.bool true) (fun _ => rfl) ?_
 refine ⟨((ObjL.mk x.kind x.proto x.shut x.shape x.ns x.names x.vs (x.vals.set m (wd, d.2.1, d.2.2)) x.es x.elems x.is x.inner (if 0 ≤ x.cell then -1 else x.cell)), cl1, br1), ?_, rfl, ?_, ⟨rfl, rfl, rfl, rfl, rfl, rfl, rfl, rfl⟩, rfl, hchcl1⟩
 · refine Own.trans (ow (S := ((F.p, .cells 48 6 [Gs.val H.s ((H.objs.set n (ObjL.chg x)).length), Gs.val H.ts H.texts.length, .map (some F.kb), pt F.T.p 0, pt F.cp 0, .int .i64 br1]) :: ((Gs.ent 105 9 H.s ((H.objs.set n (ObjL.mk x.kind x.proto x.shut x.shape x.ns x.names x.vs (x.vals.set m (wd, d.2.1, d.2.2)) x.es x.elems x.is x.inner (if 0 ≤ x.cell then -1 else x.cell))).flatMap ObjL.cells)) ++ ((Gs.ent 9 1 x.ns (x.names.map encS)) ++ ((Gs.ent 35 3 x.vs ((x.vals.set m (wd, d.2.1, d.2.2)).flatMap descCells)) ++ ((Gs.ent 33 1 x.es (x.elems.map encU)) ++ ((Gs.ent 33 1 x.is (x.inner.map encU)) ++ (((List.eraseIdx (H.objs.set n (ObjL.chg x)) n).flatMap ObjL.ent) ++ ((Gs.ent 9 1 H.ts (H.texts.map encS)) ++ ((F.kb, .map (kvs encS encU H.known)) :: ((TreeV.ent H.V F.T) ++ ((CellsL.ent (CellsL.mk F.cp H.cs cl1)) ++ ([])))))))))))))) (Own.of_perm ?_)
   have hb_ := HeapV.back (H := (HeapV.mk H.s (H.objs.set n (ObjL.chg x)) H.ts H.texts H.known H.V H.cs cl1 br1)) F (get_set hx) (ObjL.mk x.kind x.proto x.shut x.shape x.ns x.names x.vs (x.vals.set m (wd, d.2.1, d.2.2)) x.es x.elems x.is x.inner (if 0 ≤ x.cell then -1 else x.cell))
   simp only [HeapV.head, HeapV.put, List.set_set, List.length_set] at hb_ ⊢
   exact hb_
 · simpa only [HeapV.put, List.set_set, List.length_set] using HeapV.ok.put hH1 (get_set hx) (x' := (ObjL.mk x.kind x.proto x.shut x.shape x.ns x.names x.vs (x.vals.set m (wd, d.2.1, d.2.2)) x.es x.elems x.is x.inner (if 0 ≤ x.cell then -1 else x.cell))) ⟨(by first | exact (show Gs.ok 1 (x.names).length x.ns (x.names.map encS) from (HeapV.ok.at (x := (ObjL.chg x)) hH1 (get_set hx)).ns) | (simp only [List.length_set]; exact (show Gs.ok 1 (x.names).length x.ns (x.names.map encS) from (HeapV.ok.at (x := (ObjL.chg x)) hH1 (get_set hx)).ns))), (by first | exact hok1 | (simp only [List.length_set]; exact hok1)), (by first | exact (show Gs.ok 1 (x.elems).length x.es (x.elems.map encU) from (HeapV.ok.at (x := (ObjL.chg x)) hH1 (get_set hx)).es) | (simp only [List.length_set]; exact (show Gs.ok 1 (x.elems).length x.es (x.elems.map encU) from (HeapV.ok.at (x := (ObjL.chg x)) hH1 (get_set hx)).es))), (by first | exact (show Gs.ok 1 (x.inner).length x.is (x.inner.map encU) from (HeapV.ok.at (x := (ObjL.chg x)) hH1 (get_set hx)).is) | (simp only [List.length_set]; exact (show Gs.ok 1 (x.inner).length x.is (x.inner.map encU) from (HeapV.ok.at (x := (ObjL.chg x)) hH1 (get_set hx)).is)))⟩ (by first | omega | exact hH.small x (List.mem_of_getElem? hx))

theorem heap_Valid {W0 : World} {F : HeapF} {H : HeapV} (hH : H.ok F) (m : Int) : SC Tryz.prog W0 36 #[.pointer (some ⟨F.p, 0, none⟩), .int .i64 m] (HeapV.ent H F) (Ret (fun _ : Unit => H.ent F) (fun v _ => v = .bool (valP H.gd.2 m))) := by
 refine SC_body (fn := Tryz.f36) (n := 11) Tryz.func36 rfl (by kernel_rfl) (ρ := [(0, pt F.p 0), (1, .int .i64 m)]) rfl ?_
 refine SW_sig _ HeapV.eq0 ?_
 refine sr ?_
 refine os 1 ?_
 refine nsr ?_
 refine os 3 ?_
 refine L (ld ?_)
 refine os 1 ?_
 refine L (cl (cells_valid hH.cells m) ?_)
 rintro _ _ rfl
 refine os 1 ?_
 refine kp [4, 0, 1] ?_
 refine nt ?_
 refine SW_ret ?_
 refine body_end (.bool (CellsL.isV (CellsL.mk F.cp H.cs H.cl) m)) (fun _ => rfl) ?_
 exact ⟨(), HeapV.own, congrArg Value.bool (isV_valP _ m)⟩

end Go.Proofs.YtdfhbheipagnmaaGreat
namespace Go.Proofs.YtdfhbheipagnmaaGreat
open Go.Sl

theorem heap_Guard_none {W0 : World} {F : HeapF} {H : HeapV} (hH : H.ok F) {w : Int} (h0 : objAt w H.objs.length = none) : SC Tryz.prog W0 34 #[.pointer (some ⟨F.p, 0, none⟩), .int .u64 w] (HeapV.ent H F) (Ret (fun _ : Unit => H.ent F) (fun v _ => v = .int .i64 (-1))) := by
 refine SC_body (fn := Tryz.f34) (n := 48) Tryz.func34 rfl (by kernel_rfl) (ρ := [(0, pt F.p 0), (1, .int .u64 w)]) rfl ?_
 refine SW_sig _ HeapV.eq0 ?_
 refine sr ?_
 refine os 1 ?_
 refine nsr ?_
 refine os 2 ?_
 refine L (cl (heap_at hH w) ?_ (hp := HeapV.pm))
 rintro v1 _ hv1
 obtain rfl : v1 = .pointer none := hv1.trans (by rw [h0])
 refine SL_sig _ HeapV.eq ?_
 refine os 1 ?_
 refine kp [5, 4, 0, 1] ?_
 refine nq ?_
 refine sr ?_
 refine os 1 ?_
 refine oV (.bool true) ?_
 refine nt ?_
 refine ct ?_
 refine sr ?_
 refine os 1 ?_
 refine nt ?_
 refine SW_ret (r_then ?_)
 refine body_end (.int .i64 (-1)) (fun _ => rfl) ?_
 exact ⟨(), HeapV.own, rfl⟩

theorem heap_Guard_step {W0 : World} {F : HeapF} {H : HeapV} (hH : H.ok F) {w : Int} {n : Nat} {x : ObjL} (h0 : objAt w H.objs.length = some n) (hx : H.objs[n]? = some x) {k j : Nat} (hB : H.bud j) (hj : j ≤ 8000000) (hkl : k ≤ 65537) (ih : SC Tryz.prog W0 34 #[.pointer (some ⟨F.p, 0, none⟩), .int .u64 x.proto] (H.ent F) (Ret (fun r : List ObjL × Gs × List CellL => (H.reg r.1 r.2.1 r.2.2).ent F) (fun v r => v = .int .i64 (guardF (H.pub F) k x.proto H.gd).2 ∧ GuardR F H k x.proto r))) : SC Tryz.prog W0 34 #[.pointer (some ⟨F.p, 0, none⟩), .int .u64 w] (HeapV.ent H F) (Ret (fun r : List ObjL × Gs × List CellL => (H.reg r.1 r.2.1 r.2.2).ent F) (fun v r => v = .int .i64 (guardF (H.pub F) (k + 1) w H.gd).2 ∧ GuardR F H (k + 1) w r)) := by
 refine SC_body (fn := Tryz.f34) (n := 48) Tryz.func34 rfl (by kernel_rfl) (ρ := [(0, pt F.p 0), (1, .int .u64 w)]) rfl ?_
 refine SW_sig _ HeapV.eq0 ?_
 have hnl := (List.getElem?_eq_some_iff.1 hx).1
 have hbc := hB.cl
 refine sr ?_
 refine os 1 ?_
 refine nsr ?_
 refine os 2 ?_
 refine L (cl (heap_at hH w) ?_ (hp := HeapV.pm))
 rintro v1 _ hv1
 obtain rfl : v1 = pt (Gs.blk H.s) (n * 9) := hv1.trans (by rw [h0])
 refine SL_sig _ HeapV.eq ?_
 refine os 1 ?_
 refine kp [5, 4, 0, 1] ?_
 refine nq ?_
 refine sr ?_
 refine os 1 ?_
 refine oV (.bool false) ?_
 refine nt ?_
 refine cf ?_
 refine SW_skip (n_then ?_)
 refine SW_seq ?_
 refine SW_seq ?_
 refine SW_draw [((Gs.blk H.s), n * 9 + 8, .int .i64 x.cell), (F.p, 4, pt F.cp 0), ((Gs.blk H.s), n * 9 + 8, .int .i64 x.cell)] [0, 1, 2, 3, 4, 5, 6, 7, 8, 9, 10, 11, 12, 13] (by kernel_rfl) (rd_cons (Gs.cell hH.row (fun e he => (mem_c (mem_h he))) (flat_cell ObjL.len hx (j := 8) (by decide) rfl)) (rd_cons (Cell.own mem_z rfl) (rd_cons (Gs.cell hH.row (fun e he => (mem_c (mem_h he))) (flat_cell ObjL.len hx (j := 8) (by decide) rfl)) rd_nil))) ?_
 refine aS 0 ?_
 refine aS 1 ?_
 refine aF 2 ?_
 refine aL 3 ?_
 refine aS 4 ?_
 refine aS 5 ?_
 refine tbpA 17 (fun hg1 => ?_) (fun hg1 => ?_)
 ·skip
  replace hg1 : x.cell < 0 := hg1
  refine tn 6 ?_
  refine tn 7 ?_
  refine tn 8 ?_
  refine tn 9 ?_
  refine tn 10 ?_
  refine tn 11 ?_
  refine tn 12 ?_
  refine tn 13 ?_
  refine tn 14 ?_
  refine tn 15 ?_
  refine aS 16 ?_
  refine kpA [28, 11, 5, 4, 0, 1] ?_
  refine SA_done (by kernel_rfl) (n_then ?_)
  refine ct ?_
  refine sr ?_
  refine os 4 ?_
  refine L (ld ?_ (hc := Gs.cell hH.row (fun e he => (mem_c (mem_h he))) (flat_cell ObjL.len hx (j := 1) (by decide) rfl)))
  refine L (cl (ih) ?_ (hp := HeapV.pm))
  rintro _ ⟨go, gcs, gcl⟩ ⟨rfl, hG⟩
  refine SL_sig _ HeapV.eq ?_
  obtain ⟨z, hz, hzx⟩ := hG.at hx
  simp only [] at hz
  have hzn := (List.getElem?_eq_some_iff.1 hz).1
  have hgl2 : gcl.length ≤ H.cl.length + k := hG.len
  refine os 1 ?_
  refine kp [6, 28, 11, 5, 4, 0, 1] ?_
  refine nr ?_
  refine os 4 ?_
  refine L (ld ?_)
  refine os 1 ?_
  refine L (cl (cells_make hG.ok.cells (Nat.le_trans hG.len (by omega)) hG.cb.at ((guardF (H.pub F) k x.proto H.gd).2)) ?_)
  rintro _ ⟨ncs, ncl⟩ ⟨rfl, hnk, hnm⟩
  refine os 2 ?_
  refine kp [43, 41, 6, 28, 11, 5, 4, 0, 1] ?_
  have hok1 := Gs.ok.relen (ys := ((go.set n (ObjL.mk z.kind z.proto z.shut z.shape z.ns z.names z.vs z.vals z.es z.elems z.is z.inner (gcl.length : Int))).flatMap ObjL.cells)) hG.ok.row (by simp [flat_len ObjL.len])
  refine SL_perm _ (perm_ca (perm_cc perm_cz)) ?_
  refine L (O_storeG (ys := ((go.set n (ObjL.mk z.kind z.proto z.shut z.shape z.ns z.names z.vs z.vals z.es z.elems z.is z.inner (gcl.length : Int))).flatMap ObjL.cells)) H.s (n * 9 + 8) (.int .i64 (gcl.length : Int)) [.int .i64 (gcl.length : Int)] (Gs.ok.ne hG.ok.row (by first | omega | (simp; omega))) (fun _ => rfl) (fun _ => rfl) rfl (by kernel_rfl) rfl (by rw [flat_len ObjL.len]; simp; omega) (row_lay (j := 8) ObjL.len (ObjL.mk z.kind z.proto z.shut z.shape z.ns z.names z.vs z.vals z.es z.elems z.is z.inner (gcl.length : Int)) hz (Nat.le_of_ble_eq_true rfl) rfl) rfl ?_)
  refine nsr ?_
  refine os 3 ?_
  refine L (ld ?_ (hc := Gs.cell hok1 (fun e he => (mem_h he)) (flat_cell ObjL.len (get_set hz) (j := 8) (by decide) rfl)) (v := .int .i64 (gcl.length : Int)))
  refine os 1 ?_
  refine kp [4, 6, 28, 11, 5, 0, 1] ?_
  refine nt ?_
  refine SW_ret ?_
  refine body_end (.int .i64 (gcl.length : Int)) (fun _ => rfl) ?_
  have hv_ : ¬ (0 ≤ x.cell ∧ valP H.gd.2 x.cell = true) := by rintro ⟨q1, q2⟩; rw [← show CellsL.isV (CellsL.mk F.cp H.cs H.cl) x.cell = valP H.gd.2 x.cell from isV_valP _ _] at q2; first | omega | simp_all
  have e := guardF_new (g := H.gd) (k := k) (by rw [HeapV.pub_len]; exact h0) (HeapV.pub_at F hx) (HeapV.gd_at hx) hv_
  have hgo := hG.out
  have g1 := congrArg Prod.fst hgo
  have g2 := congrArg Prod.snd hgo
  simp only [] at g1 g2
  have hgl : (guardF (H.pub F) k x.proto H.gd).1.2.length = gcl.length := by rw [← g2, List.length_map]
  refine ⟨((go.set n (ObjL.mk z.kind z.proto z.shut z.shape z.ns z.names z.vs z.vals z.es z.elems z.is z.inner (gcl.length : Int))), ncs, ncl), ?_, ?_⟩
  · refine Own.trans (ow (S := ((F.p, .cells 48 6 [Gs.val H.s go.length, Gs.val H.ts H.texts.length, .map (some F.kb), pt F.T.p 0, pt F.cp 0, .int .i64 H.br]) :: ((Gs.ent 105 9 H.s ((go.set n (ObjL.mk z.kind z.proto z.shut z.shape z.ns z.names z.vs z.vals z.es z.elems z.is z.inner (gcl.length : Int))).flatMap ObjL.cells)) ++ ((go.flatMap ObjL.ent) ++ ((Gs.ent 9 1 H.ts (H.texts.map encS)) ++ ((F.kb, .map (kvs encS encU H.known)) :: ((TreeV.ent H.V F.T) ++ ((CellsL.ent (CellsL.mk F.cp ncs ncl)) ++ ([])))))))))) (Own.of_perm (List.Perm.of_eq ?_))
    simp only [HeapV.ent, HeapV.head, HeapV.row, List.length_set, flat_same (f := ObjL.ent) (x' := (ObjL.mk z.kind z.proto z.shut z.shape z.ns z.names z.vs z.vals z.es z.elems z.is z.inner (gcl.length : Int))) hz rfl]
  have e' : guardF (H.pub F) (k + 1) w H.gd = _ := e
  refine ⟨?_, ?_, ?_, ?_, ?_, ?_⟩
  · rw [e]; simp only [pubO]; rw [hgl]
  · have hp := HeapV.ok.put (x' := z.withC gcl.length) hG.ok hz ⟨(hG.ok.at hz).ns, (hG.ok.at hz).vs, (hG.ok.at hz).es, (hG.ok.at hz).is⟩ (hG.ok.small z (List.mem_of_getElem? hz))
    exact ⟨hp.row, hp.each, hp.ts, hp.tree, hnk, hp.objs, hp.texts, hp.small⟩
  · have hs := hG.same; simp only [] at hs ⊢; rw [List.map_set, hs]; exact set_same (by simp only [List.getElem?_map, hx, Option.map_some]; exact congrArg some hzx.symm)
  · rw [e]; simp only [pubO, List.map_set]; rw [g1, hgl, hnm, g2]
  · have hq : ncl.length = gcl.length + 1 := by have q_ := congrArg List.length hnm; rw [mkP_len, List.length_map, List.length_map] at q_; exact q_
    simp only []; omega
  · simp only []; rw [hnm]; exact hG.cb.mk' _
 ·skip
  replace hg1 : ¬ (x.cell < 0) := hg1
  refine aS 6 ?_
  refine aS 7 ?_
  refine aF 8 ?_
  refine kpA [20, 17, 11, 5, 4, 0, 1] ?_
  refine aL 9 ?_
  refine aS 10 ?_
  refine aS 11 ?_
  refine aF 12 ?_
  refine aL 13 ?_
  refine sa1 false 14 (h := cl (cells_valid hH.cells x.cell) ?_)
  rintro _ _ rfl
  refine ⟨fun hnd => (by cases hnd), ?_⟩
  refine aS 15 ?_
  refine aS 16 ?_
  refine kpA [28, 11, 5, 4, 0, 1] ?_
  refine SA_done (by kernel_rfl) (n_then ?_)
  refine cd (fun hc2 : (!(CellsL.isV (CellsL.mk F.cp H.cs H.cl) x.cell)) = true => ?_) (fun hc2 => ?_)
  ·skip
   replace hc2 := bnot_t hc2
   refine sr ?_
   refine os 4 ?_
   refine L (ld ?_ (hc := Gs.cell hH.row (fun e he => (mem_a (mem_c (mem_h he)))) (flat_cell ObjL.len hx (j := 1) (by decide) rfl)))
   refine L (cl (ih) ?_ (hp := HeapV.pm))
   rintro _ ⟨go, gcs, gcl⟩ ⟨rfl, hG⟩
   refine SL_sig _ HeapV.eq ?_
   obtain ⟨z, hz, hzx⟩ := hG.at hx
   simp only [] at hz
   have hzn := (List.getElem?_eq_some_iff.1 hz).1
   have hgl2 : gcl.length ≤ H.cl.length + k := hG.len
   refine os 1 ?_
   refine kp [6, 28, 11, 5, 4, 0, 1] ?_
   refine nr ?_
   refine os 4 ?_
   refine L (ld ?_)
   refine os 1 ?_
   refine L (cl (cells_make hG.ok.cells (Nat.le_trans hG.len (by omega)) hG.cb.at ((guardF (H.pub F) k x.proto H.gd).2)) ?_)
   rintro _ ⟨ncs, ncl⟩ ⟨rfl, hnk, hnm⟩
   refine os 2 ?_
   refine kp [43, 41, 6, 28, 11, 5, 4, 0, 1] ?_
   have hok2 := Gs.ok.relen (ys := ((go.set n (ObjL.mk z.kind z.proto z.shut z.shape z.ns z.names z.vs z.vals z.es z.elems z.is z.inner (gcl.length : Int))).flatMap ObjL.cells)) hG.ok.row (by simp [flat_len ObjL.len])
   refine SL_perm _ (perm_ca (perm_cc perm_cz)) ?_
   refine L (O_storeG (ys := ((go.set n (ObjL.mk z.kind z.proto z.shut z.shape z.ns z.names z.vs z.vals z.es z.elems z.is z.inner (gcl.length : Int))).flatMap ObjL.cells)) H.s (n * 9 + 8) (.int .i64 (gcl.length : Int)) [.int .i64 (gcl.length : Int)] (Gs.ok.ne hG.ok.row (by first | omega | (simp; omega))) (fun _ => rfl) (fun _ => rfl) rfl (by kernel_rfl) rfl (by rw [flat_len ObjL.len]; simp; omega) (row_lay (j := 8) ObjL.len (ObjL.mk z.kind z.proto z.shut z.shape z.ns z.names z.vs z.vals z.es z.elems z.is z.inner (gcl.length : Int)) hz (Nat.le_of_ble_eq_true rfl) rfl) rfl ?_)
   refine nsr ?_
   refine os 3 ?_
   refine L (ld ?_ (hc := Gs.cell hok2 (fun e he => (mem_h he)) (flat_cell ObjL.len (get_set hz) (j := 8) (by decide) rfl)) (v := .int .i64 (gcl.length : Int)))
   refine os 1 ?_
   refine kp [4, 6, 28, 11, 5, 0, 1] ?_
   refine nt ?_
   refine SW_ret ?_
   refine body_end (.int .i64 (gcl.length : Int)) (fun _ => rfl) ?_
   have hv_ : ¬ (0 ≤ x.cell ∧ valP H.gd.2 x.cell = true) := by rintro ⟨q1, q2⟩; rw [← show CellsL.isV (CellsL.mk F.cp H.cs H.cl) x.cell = valP H.gd.2 x.cell from isV_valP _ _] at q2; first | omega | simp_all
   have e := guardF_new (g := H.gd) (k := k) (by rw [HeapV.pub_len]; exact h0) (HeapV.pub_at F hx) (HeapV.gd_at hx) hv_
   have hgo := hG.out
   have g1 := congrArg Prod.fst hgo
   have g2 := congrArg Prod.snd hgo
   simp only [] at g1 g2
   have hgl : (guardF (H.pub F) k x.proto H.gd).1.2.length = gcl.length := by rw [← g2, List.length_map]
   refine ⟨((go.set n (ObjL.mk z.kind z.proto z.shut z.shape z.ns z.names z.vs z.vals z.es z.elems z.is z.inner (gcl.length : Int))), ncs, ncl), ?_, ?_⟩
   · refine Own.trans (ow (S := ((F.p, .cells 48 6 [Gs.val H.s go.length, Gs.val H.ts H.texts.length, .map (some F.kb), pt F.T.p 0, pt F.cp 0, .int .i64 H.br]) :: ((Gs.ent 105 9 H.s ((go.set n (ObjL.mk z.kind z.proto z.shut z.shape z.ns z.names z.vs z.vals z.es z.elems z.is z.inner (gcl.length : Int))).flatMap ObjL.cells)) ++ ((go.flatMap ObjL.ent) ++ ((Gs.ent 9 1 H.ts (H.texts.map encS)) ++ ((F.kb, .map (kvs encS encU H.known)) :: ((TreeV.ent H.V F.T) ++ ((CellsL.ent (CellsL.mk F.cp ncs ncl)) ++ ([])))))))))) (Own.of_perm (List.Perm.of_eq ?_))
     simp only [HeapV.ent, HeapV.head, HeapV.row, List.length_set, flat_same (f := ObjL.ent) (x' := (ObjL.mk z.kind z.proto z.shut z.shape z.ns z.names z.vs z.vals z.es z.elems z.is z.inner (gcl.length : Int))) hz rfl]
   have e' : guardF (H.pub F) (k + 1) w H.gd = _ := e
   refine ⟨?_, ?_, ?_, ?_, ?_, ?_⟩
   · rw [e]; simp only [pubO]; rw [hgl]
   · have hp := HeapV.ok.put (x' := z.withC gcl.length) hG.ok hz ⟨(hG.ok.at hz).ns, (hG.ok.at hz).vs, (hG.ok.at hz).es, (hG.ok.at hz).is⟩ (hG.ok.small z (List.mem_of_getElem? hz))
     exact ⟨hp.row, hp.each, hp.ts, hp.tree, hnk, hp.objs, hp.texts, hp.small⟩
   · have hs := hG.same; simp only [] at hs ⊢; rw [List.map_set, hs]; exact set_same (by simp only [List.getElem?_map, hx, Option.map_some]; exact congrArg some hzx.symm)
   · rw [e]; simp only [pubO, List.map_set]; rw [g1, hgl, hnm, g2]
   · have hq : ncl.length = gcl.length + 1 := by have q_ := congrArg List.length hnm; rw [mkP_len, List.length_map, List.length_map] at q_; exact q_
     simp only []; omega
   · simp only []; rw [hnm]; exact hG.cb.mk' _
  ·skip
   replace hc2 := bnot_f hc2
   refine SW_skip (n_then ?_)
   refine sr ?_
   refine os 3 ?_
   refine L (ld ?_ (hc := Gs.cell hH.row (fun e he => (mem_a (mem_c (mem_h he)))) (flat_cell ObjL.len hx (j := 8) (by decide) rfl)))
   refine os 1 ?_
   refine kp [4, 28, 11, 5, 0, 1] ?_
   refine nt ?_
   refine SW_ret ?_
   refine body_end (.int .i64 x.cell) (fun _ => rfl) ?_
   have hv_ : 0 ≤ x.cell ∧ valP H.gd.2 x.cell = true := ⟨by omega, by rw [← show CellsL.isV (CellsL.mk F.cp H.cs H.cl) x.cell = valP H.gd.2 x.cell from isV_valP _ _]; assumption⟩
   have e := guardF_old (g := H.gd) (k := k) (by rw [HeapV.pub_len]; exact h0) (HeapV.pub_at F hx) (HeapV.gd_at hx) hv_
   refine ⟨(H.objs, H.cs, H.cl), HeapV.own, ?_⟩
   exact ⟨by rw [e], hH, rfl, by rw [e]; rfl, by simp only []; omega, hB.cb⟩

theorem heap_Drop_none {W0 : World} {F : HeapF} {H : HeapV} (hH : H.ok F) {w : Int} (h0 : objAt w H.objs.length = none) (key : ByteArray) : SC Tryz.prog W0 19 #[.pointer (some ⟨F.p, 0, none⟩), .int .u64 w, .string key] (HeapV.ent H F) (Ret (fun _ : Unit => H.ent F) (fun v _ => v = .bool false)) := by
 refine SC_body (fn := Tryz.f19) (n := 48) Tryz.func19 rfl (by kernel_rfl) (ρ := [(0, pt F.p 0), (1, .int .u64 w), (2, .string key)]) rfl ?_
 refine SW_sig _ HeapV.eq0 ?_
 refine sr ?_
 refine os 1 ?_
 refine nsr ?_
 refine os 2 ?_
 refine L (cl (heap_at hH w) ?_ (hp := HeapV.pm))
 rintro v1 _ hv1
 obtain rfl : v1 = .pointer none := hv1.trans (by rw [h0])
 refine SL_sig _ HeapV.eq ?_
 refine os 1 ?_
 refine kp [7, 6, 0, 1, 2] ?_
 refine nq ?_
 refine sr ?_
 refine os 1 ?_
 refine oV (.bool true) ?_
 refine nt ?_
 refine ct ?_
 refine sr ?_
 refine os 1 ?_
 refine nt ?_
 refine SW_ret (r_then ?_)
 refine body_end (.bool false) (fun _ => rfl) ?_
 exact ⟨(), HeapV.own, rfl⟩

theorem heap_SetElem_none {W0 : World} {F : HeapF} {H : HeapV} (hH : H.ok F) {w : Int} (h0 : objAt w H.objs.length = none) (m wd : Int) : SC Tryz.prog W0 23 #[.pointer (some ⟨F.p, 0, none⟩), .int .u64 w, .int .i64 m, .int .u64 wd] (HeapV.ent H F) (Ret (fun _ : Unit => H.ent F) (fun v _ => v = .bool false)) := by
 refine SC_body (fn := Tryz.f23) (n := 44) Tryz.func23 rfl (by kernel_rfl) (ρ := [(0, pt F.p 0), (1, .int .u64 w), (2, .int .i64 m), (3, .int .u64 wd)]) rfl ?_
 refine SW_sig _ HeapV.eq0 ?_
 refine sr ?_
 refine os 1 ?_
 refine nq ?_
 refine sr ?_
 refine os 3 ?_
 refine tbp 12 (fun hg1 => ?_) (fun hg1 => ?_)
 ·skip
  replace hg1 : m < 0 := hg1
  refine os 18 ?_
  refine kp [30, 8, 0, 1, 2, 3] ?_
  refine nt ?_
  refine ct ?_
  refine sr ?_
  refine os 1 ?_
  refine nt ?_
  refine SW_ret (r_then ?_)
  refine body_end (.bool false) (fun _ => rfl) ?_
  exact ⟨(), HeapV.own, rfl⟩
 ·skip
  replace hg1 : ¬ (m < 0) := hg1
  refine os 4 ?_
  refine kp [16, 8, 0, 1, 2, 3] ?_
  refine tbp 16 (fun hg2 => ?_) (fun hg2 => ?_)
  ·skip
   replace hg2 : m ≥ 4096 := hg2
   refine os 14 ?_
   refine kp [30, 8, 0, 1, 2, 3] ?_
   refine nt ?_
   refine ct ?_
   refine sr ?_
   refine os 1 ?_
   refine nt ?_
   refine SW_ret (r_then ?_)
   refine body_end (.bool false) (fun _ => rfl) ?_
   exact ⟨(), HeapV.own, rfl⟩
  ·skip
   replace hg2 : ¬ (m ≥ 4096) := hg2
   refine os 3 ?_
   refine L (cl (heap_Len_none hH h0) ?_ (hp := HeapV.pm))
   rintro _ _ rfl
   refine SL_sig _ HeapV.eq ?_
   refine os 2 ?_
   refine pn 22 (show (decide (m ≥ 0)) = true from (by simp; omega)) ?_
   refine os 4 ?_
   refine kp [26, 24, 23, 22, 16, 8, 0, 1, 2, 3] ?_
   refine L (cl (heap_SetLen_none hH h0 (m + 1)) ?_ (hp := HeapV.pm))
   rintro _ _ rfl
   refine SL_sig _ HeapV.eq ?_
   refine oV (.bool true) ?_
   refine os 2 ?_
   refine kp [30, 8, 0, 1, 2, 3] ?_
   refine nt ?_
   refine ct ?_
   refine sr ?_
   refine os 1 ?_
   refine nt ?_
   refine SW_ret (r_then ?_)
   refine body_end (.bool false) (fun _ => rfl) ?_
   exact ⟨(), HeapV.own, rfl⟩

end Go.Proofs.YtdfhbheipagnmaaGreat
namespace Go.Proofs.YtdfhbheipagnmaaGreat
open Go.Sl

theorem heap_SetElem_bad {W0 : World} {F : HeapF} {H : HeapV} (hH : H.ok F) {w wd : Int} {m : Int} (hbad : ¬ (0 ≤ m ∧ m < 4096)) : SC Tryz.prog W0 23 #[.pointer (some ⟨F.p, 0, none⟩), .int .u64 w, .int .i64 m, .int .u64 wd] (HeapV.ent H F) (Ret (fun _ : Unit => H.ent F) (fun v _ => v = .bool false)) := by
 refine SC_body (fn := Tryz.f23) (n := 44) Tryz.func23 rfl (by kernel_rfl) (ρ := [(0, pt F.p 0), (1, .int .u64 w), (2, .int .i64 m), (3, .int .u64 wd)]) rfl ?_
 refine SW_sig _ HeapV.eq0 ?_
 refine sr ?_
 refine os 1 ?_
 refine nq ?_
 refine sr ?_
 refine os 3 ?_
 refine tbp 12 (fun hg1 => ?_) (fun hg1 => ?_)
 ·skip
  replace hg1 : m < 0 := hg1
  refine os 18 ?_
  refine kp [30, 8, 0, 1, 2, 3] ?_
  refine nt ?_
  refine ct ?_
  refine sr ?_
  refine os 1 ?_
  refine nt ?_
  refine SW_ret (r_then ?_)
  refine body_end (.bool false) (fun _ => rfl) ?_
  exact ⟨(), HeapV.own, rfl⟩
 ·skip
  replace hg1 : ¬ (m < 0) := hg1
  refine os 4 ?_
  refine kp [16, 8, 0, 1, 2, 3] ?_
  refine tbp 16 (fun hg2 => ?_) (fun hg2 => ?_)
  ·skip
   replace hg2 : m ≥ 4096 := hg2
   refine os 14 ?_
   refine kp [30, 8, 0, 1, 2, 3] ?_
   refine nt ?_
   refine ct ?_
   refine sr ?_
   refine os 1 ?_
   refine nt ?_
   refine SW_ret (r_then ?_)
   refine body_end (.bool false) (fun _ => rfl) ?_
   exact ⟨(), HeapV.own, rfl⟩
  ·skip
   replace hg2 : ¬ (m ≥ 4096) := hg2
   exact absurd (by omega) hbad

theorem heap_SetElem_fast {W0 : World} {F : HeapF} {H : HeapV} (hH : H.ok F) {w wd : Int} {n : Nat} {x : ObjL} (h0 : objAt w H.objs.length = some n) (hx : H.objs[n]? = some x) {k : Nat} (hB : H.bud k) (hk : k ≤ 8000000) {m : Nat} (hm4 : m < 4096) (hmx : m < x.elems.length) : SC Tryz.prog W0 23 #[.pointer (some ⟨F.p, 0, none⟩), .int .u64 w, .int .i64 (m : Int), .int .u64 wd] (HeapV.ent H F) (Ret (fun r : ObjL × List CellL × Int => (H.upd n r.1 H.V r.2.1 r.2.2).ent F) (fun v r => v = .bool true ∧ (H.upd n r.1 H.V r.2.1 r.2.2).ok F ∧ SameE x r.1 ((x.elems).set m wd) ∧ Chg x.cell H.cl r.2.1)) := by
 have hnl := (List.getElem?_eq_some_iff.1 hx).1
 refine SC_body (fn := Tryz.f23) (n := 44) Tryz.func23 rfl (by kernel_rfl) (ρ := [(0, pt F.p 0), (1, .int .u64 w), (2, .int .i64 (m : Int)), (3, .int .u64 wd)]) rfl ?_
 refine SW_sig _ HeapV.eq0 ?_
 refine sr ?_
 refine os 1 ?_
 refine nq ?_
 refine sr ?_
 refine os 3 ?_
 refine pn 12 (show (decide ((m : Int) < 0)) = false from (by simp <;> omega)) ?_
 refine os 4 ?_
 refine kp [16, 8, 0, 1, 2, 3] ?_
 refine pn 16 (show (decide ((m : Int) ≥ 4096)) = false from (by simp <;> omega)) ?_
 refine os 3 ?_
 refine L (cl (heap_Len_some hH h0 hx) ?_ (hp := HeapV.pm))
 rintro _ _ rfl
 refine SL_sig _ HeapV.eq ?_
 refine os 2 ?_
 refine pn 22 (show (decide ((m : Int) ≥ (x.elems.length : Int))) = false from (by simp <;> omega)) ?_
 refine os 8 ?_
 refine kp [30, 8, 0, 1, 2, 3] ?_
 refine nt ?_
 refine cf ?_
 refine SW_skip (n_then ?_)
 refine sr ?_
 refine os 2 ?_
 refine L (cl (heap_at hH w) ?_ (hp := HeapV.pm))
 rintro v2 _ hv2
 obtain rfl : v2 = pt (Gs.blk H.s) (n * 9) := hv2.trans (by rw [h0])
 refine SL_sig _ HeapV.eq ?_
 refine os 1 ?_
 refine kp [9, 30, 8, 0, 1, 2, 3] ?_
 refine nsr ?_
 refine os 2 ?_
 refine L (cl (heap_changed hH (n := n) hx hB hk) ?_ (hp := HeapV.pm))
 rintro _ ⟨cl1, br1⟩ ⟨rfl, hccl1, hchcl1⟩
 refine SL_sig _ HeapV.eq ?_
 have hH1 : HeapV.ok (HeapV.mk H.s (H.objs.set n (ObjL.chg x)) H.ts H.texts H.known H.V H.cs cl1 br1) F := hH.chg hx hccl1 br1
 refine nq ?_
 refine SW_perm _ (perm_cc (perm_ca perm_cz)) ?_
 refine SW_perm ((Gs.ent 9 1 x.ns (x.names.map encS)) ++ ((Gs.ent 35 3 x.vs (x.vals.flatMap descCells)) ++ ((Gs.ent 33 1 x.es (x.elems.map encU)) ++ ((Gs.ent 33 1 x.is (x.inner.map encU)) ++ (((List.eraseIdx (H.objs.set n (ObjL.chg x)) n).flatMap ObjL.ent) ++ ((F.p, .cells 48 6 [Gs.val H.s ((H.objs.set n (ObjL.chg x)).length), Gs.val H.ts H.texts.length, .map (some F.kb), pt F.T.p 0, pt F.cp 0, .int .i64 br1]) :: ((Gs.ent 105 9 H.s ((H.objs.set n (ObjL.chg x)).flatMap ObjL.cells)) ++ ((Gs.ent 9 1 H.ts (H.texts.map encS)) ++ ((F.kb, .map (kvs encS encU H.known)) :: ((TreeV.ent H.V F.T) ++ ((CellsL.ent (CellsL.mk F.cp H.cs cl1)) ++ ([])))))))))))) (obj_focus (get_set hx) _) ?_
 refine SW_region ?_
 refine os 3 ?_
 refine L (ld ?_ (hc := Gs.cell hH1.row (fun e he => (mem_a (mem_a (mem_a (mem_a (mem_a (mem_c (mem_h he)))))))) (flat_cell ObjL.len (get_set hx) (j := 6) (by decide) rfl)) (v := Gs.val x.es x.elems.length))
 refine os 2 ?_
 refine kp [42, 41, 40, 9, 30, 8, 0, 1, 2, 3] ?_
 refine L (ixg (m : Int) (m) (show Gs.ok 1 (x.elems).length x.es (x.elems.map encU) from (HeapV.ok.at (x := (ObjL.chg x)) hH1 (get_set hx)).es) Tryz.underlying36 ?_)
 obtain ⟨e1, he1⟩ : ∃ y_, x.elems[m]? = some y_ := ⟨_, List.getElem?_eq_getElem (by omega)⟩
 have hok1 := Gs.ok.relen (ys := ((x.elems.set m wd).map encU)) (show Gs.ok 1 (x.elems).length x.es (x.elems.map encU) from (HeapV.ok.at (x := (ObjL.chg x)) hH1 (get_set hx)).es) (by simp)
 refine SL_perm _ (perm_ca (perm_ca perm_cz)) ?_
 refine L (O_storeG (ys := ((x.elems.set m wd).map encU)) x.es (m) (.int .u64 wd) [.int .u64 wd] (Gs.ok.ne (show Gs.ok 1 (x.elems).length x.es (x.elems.map encU) from (HeapV.ok.at (x := (ObjL.chg x)) hH1 (get_set hx)).es) (by first | omega | (simp; omega))) (fun _ => rfl) (fun _ => rfl) rfl (by kernel_rfl) rfl (by simp; omega) (row_lay_map wd (by omega)) rfl ?_)
 refine nsr ?_
 refine os 1 ?_
 refine kp [8, 9, 30, 0, 1, 2, 3] ?_
 refine nt ?_
 have er : (H.objs.set n (ObjL.mk x.kind x.proto x.shut x.shape x.ns x.names x.vs x.vals x.es (x.elems.set m wd) x.is x.inner (if 0 ≤ x.cell then -1 else x.cell))).flatMap ObjL.cells = (H.objs.set n (ObjL.chg x)).flatMap ObjL.cells := set_cells (by simp [ObjL.cells])
 refine SW_sig ((Gs.ent 33 1 x.es ((x.elems.set m wd).map encU)) ++ ((Gs.ent 9 1 x.ns (x.names.map encS)) ++ ((Gs.ent 35 3 x.vs (x.vals.flatMap descCells)) ++ ((Gs.ent 33 1 x.is (x.inner.map encU)) ++ (((List.eraseIdx (H.objs.set n (ObjL.chg x)) n).flatMap ObjL.ent) ++ ((F.p, .cells 48 6 [Gs.val H.s ((H.objs.set n (ObjL.chg x)).length), Gs.val H.ts H.texts.length, .map (some F.kb), pt F.T.p 0, pt F.cp 0, .int .i64 br1]) :: ((Gs.ent 105 9 H.s ((H.objs.set n (ObjL.mk x.kind x.proto x.shut x.shape x.ns x.names x.vs x.vals x.es (x.elems.set m wd) x.is x.inner (if 0 ≤ x.cell then -1 else x.cell))).flatMap ObjL.cells)) ++ ((Gs.ent 9 1 H.ts (H.texts.map encS)) ++ ((F.kb, .map (kvs encS encU H.known)) :: ((TreeV.ent H.V F.T) ++ ((CellsL.ent (CellsL.mk F.cp H.cs cl1)) ++ ([])))))))))))) (by rw [er]) ?_
 refine SW_ret ?_
 refine body_end (.bool true) (fun _ => rfl) ?_
 refine ⟨((ObjL.mk x.kind x.proto x.shut x.shape x.ns x.names x.vs x.vals x.es (x.elems.set m wd) x.is x.inner (if 0 ≤ x.cell then -1 else x.cell)), cl1, br1), ?_, rfl, ?_, ⟨rfl, rfl, rfl, rfl, rfl, rfl, rfl, rfl, ?_, rfl, rfl, ?_⟩, hchcl1⟩
 · refine Own.trans (ow (S := ((F.p, .cells 48 6 [Gs.val H.s ((H.objs.set n (ObjL.chg x)).length), Gs.val H.ts H.texts.length, .map (some F.kb), pt F.T.p 0, pt F.cp 0, .int .i64 br1]) :: ((Gs.ent 105 9 H.s ((H.objs.set n (ObjL.mk x.kind x.proto x.shut x.shape x.ns x.names x.vs x.vals x.es (x.elems.set m wd) x.is x.inner (if 0 ≤ x.cell then -1 else x.cell))).flatMap ObjL.cells)) ++ ((Gs.ent 9 1 x.ns (x.names.map encS)) ++ ((Gs.ent 35 3 x.vs (x.vals.flatMap descCells)) ++ ((Gs.ent 33 1 x.es ((x.elems.set m wd).map encU)) ++ ((Gs.ent 33 1 x.is (x.inner.map encU)) ++ (((List.eraseIdx (H.objs.set n (ObjL.chg x)) n).flatMap ObjL.ent) ++ ((Gs.ent 9 1 H.ts (H.texts.map encS)) ++ ((F.kb, .map (kvs encS encU H.known)) :: ((TreeV.ent H.V F.T) ++ ((CellsL.ent (CellsL.mk F.cp H.cs cl1)) ++ ([])))))))))))))) (Own.of_perm ?_)
   have hb_ := HeapV.back (H := (HeapV.mk H.s (H.objs.set n (ObjL.chg x)) H.ts H.texts H.known H.V H.cs cl1 br1)) F (get_set hx) (ObjL.mk x.kind x.proto x.shut x.shape x.ns x.names x.vs x.vals x.es (x.elems.set m wd) x.is x.inner (if 0 ≤ x.cell then -1 else x.cell))
   simp only [HeapV.head, HeapV.put, List.set_set, List.length_set] at hb_ ⊢
   exact hb_
 · simpa only [HeapV.put, List.set_set, List.length_set] using HeapV.ok.put hH1 (get_set hx) (x' := (ObjL.mk x.kind x.proto x.shut x.shape x.ns x.names x.vs x.vals x.es (x.elems.set m wd) x.is x.inner (if 0 ≤ x.cell then -1 else x.cell))) ⟨(by first | exact (show Gs.ok 1 (x.names).length x.ns (x.names.map encS) from (HeapV.ok.at (x := (ObjL.chg x)) hH1 (get_set hx)).ns) | (simp only [List.length_set]; exact (show Gs.ok 1 (x.names).length x.ns (x.names.map encS) from (HeapV.ok.at (x := (ObjL.chg x)) hH1 (get_set hx)).ns))), (by first | exact (show Gs.ok 3 (x.vals).length x.vs (x.vals.flatMap descCells) from (HeapV.ok.at (x := (ObjL.chg x)) hH1 (get_set hx)).vs) | (simp only [List.length_set]; exact (show Gs.ok 3 (x.vals).length x.vs (x.vals.flatMap descCells) from (HeapV.ok.at (x := (ObjL.chg x)) hH1 (get_set hx)).vs))), (by first | exact hok1 | (simp only [List.length_set]; exact hok1)), (by first | exact (show Gs.ok 1 (x.inner).length x.is (x.inner.map encU) from (HeapV.ok.at (x := (ObjL.chg x)) hH1 (get_set hx)).is) | (simp only [List.length_set]; exact (show Gs.ok 1 (x.inner).length x.is (x.inner.map encU) from (HeapV.ok.at (x := (ObjL.chg x)) hH1 (get_set hx)).is)))⟩ (by simp only [List.length_set]; first | omega | exact hH.small x (List.mem_of_getElem? hx))
 · rfl
 · rfl

theorem heap_SetElem_slow {W0 : World} {F : HeapF} {H : HeapV} (hH : H.ok F) {w wd : Int} {n : Nat} {x : ObjL} (h0 : objAt w H.objs.length = some n) (hx : H.objs[n]? = some x) {k : Nat} (hB : H.bud k) (hk : k ≤ 8000000) {m : Nat} (hm4 : m < 4096) (hmx : x.elems.length ≤ m) : SC Tryz.prog W0 23 #[.pointer (some ⟨F.p, 0, none⟩), .int .u64 w, .int .i64 (m : Int), .int .u64 wd] (HeapV.ent H F) (Ret (fun r : ObjL × List CellL × Int => (H.upd n r.1 H.V r.2.1 r.2.2).ent F) (fun v r => v = .bool true ∧ (H.upd n r.1 H.V r.2.1 r.2.2).ok F ∧ SameE x r.1 ((setLenL x.elems (max x.elems.length (m + 1))).set m wd) ∧ Chg x.cell H.cl r.2.1)) := by
 have hnl := (List.getElem?_eq_some_iff.1 hx).1
 refine SC_body (fn := Tryz.f23) (n := 44) Tryz.func23 rfl (by kernel_rfl) (ρ := [(0, pt F.p 0), (1, .int .u64 w), (2, .int .i64 (m : Int)), (3, .int .u64 wd)]) rfl ?_
 refine SW_sig _ HeapV.eq0 ?_
 refine sr ?_
 refine os 1 ?_
 refine nq ?_
 refine sr ?_
 refine os 3 ?_
 refine pn 12 (show (decide ((m : Int) < 0)) = false from (by simp <;> omega)) ?_
 refine os 4 ?_
 refine kp [16, 8, 0, 1, 2, 3] ?_
 refine pn 16 (show (decide ((m : Int) ≥ 4096)) = false from (by simp <;> omega)) ?_
 refine os 3 ?_
 refine L (cl (heap_Len_some hH h0 hx) ?_ (hp := HeapV.pm))
 rintro _ _ rfl
 refine SL_sig _ HeapV.eq ?_
 refine os 2 ?_
 refine pn 22 (show (decide ((m : Int) ≥ (x.elems.length : Int))) = true from (by simp <;> omega)) ?_
 refine os 4 ?_
 refine kp [26, 24, 23, 22, 16, 8, 0, 1, 2, 3] ?_
 refine L (cl (heap_SetLen_long hH h0 hx hB hk (m := m + 1) (by omega) (by omega)) ?_ (hp := HeapV.pm))
 rintro _ ⟨eg1, cl1, br1⟩ ⟨rfl, hH1, hchcl1⟩
 refine SL_sig _ HeapV.eq ?_
 simp only [] at hH1 hchcl1
 have hB2 : HeapV.bud (HeapV.mk H.s (H.objs.set n ((ObjL.chg x).withElems eg1 (setLenL x.elems (m + 1)))) H.ts H.texts H.known H.V H.cs cl1 br1) k := by obtain ⟨b1, b2, b3⟩ := Chg.bud hchcl1 hB; exact ⟨fun y hy => by rcases List.mem_or_eq_of_mem_set hy with q | q; exact hB.vals y q; (subst q; exact hB.vals x (List.mem_of_getElem? hx)), b1, b2, b3⟩
 have h02 : objAt w (H.objs.set n ((ObjL.chg x).withElems eg1 (setLenL x.elems (m + 1)))).length = some n := by rw [List.length_set]; exact h0
 have hll := setLenL_len x.elems (m + 1)
 refine oV (.bool false) ?_
 refine os 2 ?_
 refine kp [30, 8, 0, 1, 2, 3] ?_
 refine nt ?_
 refine cf ?_
 refine SW_skip (n_then ?_)
 refine sr ?_
 refine os 2 ?_
 refine L (cl (heap_at hH1 w) ?_ (hp := HeapV.pm))
 rintro v3 _ hv3
 obtain rfl : v3 = pt (Gs.blk H.s) (n * 9) := hv3.trans (by rw [h02])
 refine SL_sig _ HeapV.eq ?_
 refine os 1 ?_
 refine kp [9, 30, 8, 0, 1, 2, 3] ?_
 refine nsr ?_
 refine os 2 ?_
 refine L (cl (heap_changed hH1 (n := n) (get_set hx) hB2 hk) ?_ (hp := HeapV.pm))
 rintro _ ⟨cl2, br2⟩ ⟨rfl, hccl2, hchcl2⟩
 refine SL_sig _ HeapV.eq ?_
 have hH2 : HeapV.ok (HeapV.mk H.s ((H.objs.set n ((ObjL.chg x).withElems eg1 (setLenL x.elems (m + 1)))).set n (ObjL.chg ((ObjL.chg x).withElems eg1 (setLenL x.elems (m + 1))))) H.ts H.texts H.known H.V H.cs cl2 br2) F := hH1.chg (get_set hx) hccl2 br2
 refine nq ?_
 refine SW_perm _ (perm_cc (perm_ca perm_cz)) ?_
 refine SW_perm ((Gs.ent 9 1 x.ns (x.names.map encS)) ++ ((Gs.ent 35 3 x.vs (x.vals.flatMap descCells)) ++ ((Gs.ent 33 1 eg1 ((setLenL x.elems (m + 1)).map encU)) ++ ((Gs.ent 33 1 x.is (x.inner.map encU)) ++ (((List.eraseIdx ((H.objs.set n ((ObjL.chg x).withElems eg1 (setLenL x.elems (m + 1)))).set n (ObjL.chg ((ObjL.chg x).withElems eg1 (setLenL x.elems (m + 1))))) n).flatMap ObjL.ent) ++ ((F.p, .cells 48 6 [Gs.val H.s (((H.objs.set n ((ObjL.chg x).withElems eg1 (setLenL x.elems (m + 1)))).set n (ObjL.chg ((ObjL.chg x).withElems eg1 (setLenL x.elems (m + 1))))).length), Gs.val H.ts H.texts.length, .map (some F.kb), pt F.T.p 0, pt F.cp 0, .int .i64 br2]) :: ((Gs.ent 105 9 H.s (((H.objs.set n ((ObjL.chg x).withElems eg1 (setLenL x.elems (m + 1)))).set n (ObjL.chg ((ObjL.chg x).withElems eg1 (setLenL x.elems (m + 1))))).flatMap ObjL.cells)) ++ ((Gs.ent 9 1 H.ts (H.texts.map encS)) ++ ((F.kb, .map (kvs encS encU H.known)) :: ((TreeV.ent H.V F.T) ++ ((CellsL.ent (CellsL.mk F.cp H.cs cl2)) ++ ([])))))))))))) (obj_focus (get_set (get_set hx)) _) ?_
 refine SW_region ?_
 refine os 3 ?_
 refine L (ld ?_ (hc := Gs.cell hH2.row (fun e he => (mem_a (mem_a (mem_a (mem_a (mem_a (mem_c (mem_h he)))))))) (flat_cell ObjL.len (get_set (get_set hx)) (j := 6) (by decide) rfl)) (v := Gs.val eg1 ((setLenL x.elems (m + 1)).length)))
 refine os 2 ?_
 refine kp [42, 41, 40, 9, 30, 8, 0, 1, 2, 3] ?_
 refine L (ixg (m : Int) (m) (show Gs.ok 1 ((setLenL x.elems (m + 1))).length eg1 ((setLenL x.elems (m + 1)).map encU) from (HeapV.ok.at (x := (ObjL.chg ((ObjL.chg x).withElems eg1 (setLenL x.elems (m + 1))))) hH2 (get_set (get_set hx))).es) Tryz.underlying36 ?_)
 obtain ⟨e1, he1⟩ : ∃ y_, (setLenL x.elems (m + 1))[m]? = some y_ := ⟨_, List.getElem?_eq_getElem (by omega)⟩
 have hok1 := Gs.ok.relen (ys := (((setLenL x.elems (m + 1)).set m wd).map encU)) (show Gs.ok 1 ((setLenL x.elems (m + 1))).length eg1 ((setLenL x.elems (m + 1)).map encU) from (HeapV.ok.at (x := (ObjL.chg ((ObjL.chg x).withElems eg1 (setLenL x.elems (m + 1))))) hH2 (get_set (get_set hx))).es) (by simp)
 refine SL_perm _ (perm_ca (perm_ca perm_cz)) ?_
 refine L (O_storeG (ys := (((setLenL x.elems (m + 1)).set m wd).map encU)) eg1 (m) (.int .u64 wd) [.int .u64 wd] (Gs.ok.ne (show Gs.ok 1 ((setLenL x.elems (m + 1))).length eg1 ((setLenL x.elems (m + 1)).map encU) from (HeapV.ok.at (x := (ObjL.chg ((ObjL.chg x).withElems eg1 (setLenL x.elems (m + 1))))) hH2 (get_set (get_set hx))).es) (by first | omega | (simp; omega))) (fun _ => rfl) (fun _ => rfl) rfl (by kernel_rfl) rfl (by simp; omega) (row_lay_map wd (by omega)) rfl ?_)
 refine nsr ?_
 refine os 1 ?_
 refine kp [8, 9, 30, 0, 1, 2, 3] ?_
 refine nt ?_
 have er : ((H.objs.set n ((ObjL.chg x).withElems eg1 (setLenL x.elems (m + 1)))).set n (ObjL.mk x.kind x.proto x.shut x.shape x.ns x.names x.vs x.vals eg1 ((setLenL x.elems (m + 1)).set m wd) x.is x.inner (if 0 ≤ ((ObjL.chg x).withElems eg1 (setLenL x.elems (m + 1))).cell then -1 else ((ObjL.chg x).withElems eg1 (setLenL x.elems (m + 1))).cell))).flatMap ObjL.cells = ((H.objs.set n ((ObjL.chg x).withElems eg1 (setLenL x.elems (m + 1)))).set n (ObjL.chg ((ObjL.chg x).withElems eg1 (setLenL x.elems (m + 1))))).flatMap ObjL.cells := set_cells (by simp [ObjL.cells])
 refine SW_sig ((Gs.ent 33 1 eg1 (((setLenL x.elems (m + 1)).set m wd).map encU)) ++ ((Gs.ent 9 1 x.ns (x.names.map encS)) ++ ((Gs.ent 35 3 x.vs (x.vals.flatMap descCells)) ++ ((Gs.ent 33 1 x.is (x.inner.map encU)) ++ (((List.eraseIdx ((H.objs.set n ((ObjL.chg x).withElems eg1 (setLenL x.elems (m + 1)))).set n (ObjL.chg ((ObjL.chg x).withElems eg1 (setLenL x.elems (m + 1))))) n).flatMap ObjL.ent) ++ ((F.p, .cells 48 6 [Gs.val H.s (((H.objs.set n ((ObjL.chg x).withElems eg1 (setLenL x.elems (m + 1)))).set n (ObjL.chg ((ObjL.chg x).withElems eg1 (setLenL x.elems (m + 1))))).length), Gs.val H.ts H.texts.length, .map (some F.kb), pt F.T.p 0, pt F.cp 0, .int .i64 br2]) :: ((Gs.ent 105 9 H.s (((H.objs.set n ((ObjL.chg x).withElems eg1 (setLenL x.elems (m + 1)))).set n (ObjL.mk x.kind x.proto x.shut x.shape x.ns x.names x.vs x.vals eg1 ((setLenL x.elems (m + 1)).set m wd) x.is x.inner (if 0 ≤ ((ObjL.chg x).withElems eg1 (setLenL x.elems (m + 1))).cell then -1 else ((ObjL.chg x).withElems eg1 (setLenL x.elems (m + 1))).cell))).flatMap ObjL.cells)) ++ ((Gs.ent 9 1 H.ts (H.texts.map encS)) ++ ((F.kb, .map (kvs encS encU H.known)) :: ((TreeV.ent H.V F.T) ++ ((CellsL.ent (CellsL.mk F.cp H.cs cl2)) ++ ([])))))))))))) (by rw [er]) ?_
 refine SW_ret ?_
 refine body_end (.bool true) (fun _ => rfl) ?_
 refine ⟨((ObjL.mk x.kind x.proto x.shut x.shape x.ns x.names x.vs x.vals eg1 ((setLenL x.elems (m + 1)).set m wd) x.is x.inner (if 0 ≤ ((ObjL.chg x).withElems eg1 (setLenL x.elems (m + 1))).cell then -1 else ((ObjL.chg x).withElems eg1 (setLenL x.elems (m + 1))).cell)), cl2, br2), ?_, rfl, ?_, ⟨rfl, rfl, rfl, rfl, rfl, rfl, rfl, rfl, ?_, rfl, rfl, ?_⟩, (by have q_ := hchcl2; unfold Chg at q_; rw [if_neg (show ¬ (0 : Int) ≤ (ObjL.cell _) from by show ¬ (0 : Int) ≤ (if 0 ≤ x.cell then -1 else x.cell); split <;> omega)] at q_; simp only [] at q_ ⊢; rw [q_]; exact hchcl1)⟩
 · refine Own.trans (ow (S := ((F.p, .cells 48 6 [Gs.val H.s (((H.objs.set n ((ObjL.chg x).withElems eg1 (setLenL x.elems (m + 1)))).set n (ObjL.chg ((ObjL.chg x).withElems eg1 (setLenL x.elems (m + 1))))).length), Gs.val H.ts H.texts.length, .map (some F.kb), pt F.T.p 0, pt F.cp 0, .int .i64 br2]) :: ((Gs.ent 105 9 H.s (((H.objs.set n ((ObjL.chg x).withElems eg1 (setLenL x.elems (m + 1)))).set n (ObjL.mk x.kind x.proto x.shut x.shape x.ns x.names x.vs x.vals eg1 ((setLenL x.elems (m + 1)).set m wd) x.is x.inner (if 0 ≤ ((ObjL.chg x).withElems eg1 (setLenL x.elems (m + 1))).cell then -1 else ((ObjL.chg x).withElems eg1 (setLenL x.elems (m + 1))).cell))).flatMap ObjL.cells)) ++ ((Gs.ent 9 1 x.ns (x.names.map encS)) ++ ((Gs.ent 35 3 x.vs (x.vals.flatMap descCells)) ++ ((Gs.ent 33 1 eg1 (((setLenL x.elems (m + 1)).set m wd).map encU)) ++ ((Gs.ent 33 1 x.is (x.inner.map encU)) ++ (((List.eraseIdx ((H.objs.set n ((ObjL.chg x).withElems eg1 (setLenL x.elems (m + 1)))).set n (ObjL.chg ((ObjL.chg x).withElems eg1 (setLenL x.elems (m + 1))))) n).flatMap ObjL.ent) ++ ((Gs.ent 9 1 H.ts (H.texts.map encS)) ++ ((F.kb, .map (kvs encS encU H.known)) :: ((TreeV.ent H.V F.T) ++ ((CellsL.ent (CellsL.mk F.cp H.cs cl2)) ++ ([])))))))))))))) (Own.of_perm ?_)
   have hb_ := HeapV.back (H := (HeapV.mk H.s ((H.objs.set n ((ObjL.chg x).withElems eg1 (setLenL x.elems (m + 1)))).set n (ObjL.chg ((ObjL.chg x).withElems eg1 (setLenL x.elems (m + 1))))) H.ts H.texts H.known H.V H.cs cl2 br2)) F (get_set (get_set hx)) (ObjL.mk x.kind x.proto x.shut x.shape x.ns x.names x.vs x.vals eg1 ((setLenL x.elems (m + 1)).set m wd) x.is x.inner (if 0 ≤ ((ObjL.chg x).withElems eg1 (setLenL x.elems (m + 1))).cell then -1 else ((ObjL.chg x).withElems eg1 (setLenL x.elems (m + 1))).cell))
   simp only [HeapV.head, HeapV.put, List.set_set, List.length_set] at hb_ ⊢
   exact hb_
 · simpa only [HeapV.put, List.set_set, List.length_set] using HeapV.ok.put hH2 (get_set (get_set hx)) (x' := (ObjL.mk x.kind x.proto x.shut x.shape x.ns x.names x.vs x.vals eg1 ((setLenL x.elems (m + 1)).set m wd) x.is x.inner (if 0 ≤ ((ObjL.chg x).withElems eg1 (setLenL x.elems (m + 1))).cell then -1 else ((ObjL.chg x).withElems eg1 (setLenL x.elems (m + 1))).cell))) ⟨(by first | exact (show Gs.ok 1 (x.names).length x.ns (x.names.map encS) from (HeapV.ok.at (x := (ObjL.chg ((ObjL.chg x).withElems eg1 (setLenL x.elems (m + 1))))) hH2 (get_set (get_set hx))).ns) | (simp only [List.length_set]; exact (show Gs.ok 1 (x.names).length x.ns (x.names.map encS) from (HeapV.ok.at (x := (ObjL.chg ((ObjL.chg x).withElems eg1 (setLenL x.elems (m + 1))))) hH2 (get_set (get_set hx))).ns))), (by first | exact (show Gs.ok 3 (x.vals).length x.vs (x.vals.flatMap descCells) from (HeapV.ok.at (x := (ObjL.chg ((ObjL.chg x).withElems eg1 (setLenL x.elems (m + 1))))) hH2 (get_set (get_set hx))).vs) | (simp only [List.length_set]; exact (show Gs.ok 3 (x.vals).length x.vs (x.vals.flatMap descCells) from (HeapV.ok.at (x := (ObjL.chg ((ObjL.chg x).withElems eg1 (setLenL x.elems (m + 1))))) hH2 (get_set (get_set hx))).vs))), (by first | exact hok1 | (simp only [List.length_set]; exact hok1)), (by first | exact (show Gs.ok 1 (x.inner).length x.is (x.inner.map encU) from (HeapV.ok.at (x := (ObjL.chg ((ObjL.chg x).withElems eg1 (setLenL x.elems (m + 1))))) hH2 (get_set (get_set hx))).is) | (simp only [List.length_set]; exact (show Gs.ok 1 (x.inner).length x.is (x.inner.map encU) from (HeapV.ok.at (x := (ObjL.chg ((ObjL.chg x).withElems eg1 (setLenL x.elems (m + 1))))) hH2 (get_set (get_set hx))).is)))⟩ (by simp only [List.length_set, setLenL_len]; first | omega | exact hH.small x (List.mem_of_getElem? hx))
 · rw [show max x.elems.length (m + 1) = m + 1 by omega]
 · show (if 0 ≤ (if 0 ≤ x.cell then -1 else x.cell) then -1 else (if 0 ≤ x.cell then -1 else x.cell)) = _; by_cases q_ : (0 : Int) ≤ x.cell <;> simp [q_]

end Go.Proofs.YtdfhbheipagnmaaGreat
namespace Go.Proofs.YtdfhbheipagnmaaGreat
open Go.Sl
variable {k : Nat} {H : HeapV} {F : HeapF} {n : Nat} {x : ObjL} {W0 : World}
def setElemL (l : List Int) (m : Int) (w : Int) : List Int := if 0 ≤ m ∧ m < 4096 then (setLenL l (max l.length (m.toNat + 1))).set m.toNat w else l
def setLenQ (l : List Int) (m : Int) : List Int := if 0 ≤ m ∧ m ≤ 4096 then setLenL l m.toNat else l
theorem SameE.inv {t : TreeP} {x x' : ObjL} {l : List Int} (h : SameE x x' l) (ho : OInv t x) : OInv t x' ∧ pubO t x' = ⟨x.kind, x.proto, x.shut, keysOf t x, x.vals, l, x.inner⟩ := by
  obtain ⟨kind, proto, shut, shape, ns, names, vs, vals, es, elems, is, inner, cell⟩ := x'
  obtain ⟨rfl, rfl, rfl, rfl, rfl, rfl, rfl, rfl, rfl, rfl, rfl, rfl⟩ := h
  exact ⟨⟨ho.fast, ho.len, ho.nodup, ho.stale⟩, rfl⟩
theorem hp_SetElem (hk : k ≤ 8000000) (h : HInv k H F) {w : Int} {o : ObjS} (h0 : objAt w (H.pub F).length = some n) (ho : (H.pub F)[n]? = some o) (m wd : Int) :
    SC Tryz.prog W0 23 #[.pointer (some ⟨F.p, 0, none⟩), .int .u64 w, .int .i64 m, .int .u64 wd] (H.ent F)
    (Ret (fun H' : HeapV => H'.ent F) (fun v H' => v = .bool (decide (0 ≤ m ∧ m < 4096)) ∧ HInv k H' F ∧ H'.pub F = (H.pub F).set n ⟨o.kind, o.proto, o.shut, o.names, o.descs, setElemL o.elems m wd, o.inner⟩ ∧ H'.texts = H.texts)) := by
  rw [HeapV.pub_len] at h0
  obtain ⟨x, hx, rfl⟩ := pub_obj ho
  have ho' := h.obj hx
  by_cases hm : 0 ≤ m ∧ m < 4096
  · obtain ⟨q, rfl⟩ := Int.eq_ofNat_of_zero_le hm.1
    have e1 : setElemL (pubO (H.V.abs F.T) x).elems (q : Int) wd = (setLenL x.elems (max x.elems.length (q + 1))).set q wd := by unfold setElemL; rw [if_pos hm]; rfl
    rw [e1, decide_eq_true hm]
    have hr : SC Tryz.prog W0 23 #[.pointer (some ⟨F.p, 0, none⟩), .int .u64 w, .int .i64 (q : Int), .int .u64 wd] (H.ent F) (Ret (fun r : ObjL × List CellL × Int => (H.upd n r.1 H.V r.2.1 r.2.2).ent F) (fun v r => v = .bool true ∧ (H.upd n r.1 H.V r.2.1 r.2.2).ok F ∧ SameE x r.1 ((setLenL x.elems (max x.elems.length (q + 1))).set q wd) ∧ Chg x.cell H.cl r.2.1)) := by
      by_cases hl : q < x.elems.length
      · have e2 : setLenL x.elems (max x.elems.length (q + 1)) = x.elems := by rw [show max x.elems.length (q + 1) = x.elems.length by omega]; exact setLenL_self _
        rw [e2]
        exact heap_SetElem_fast h.ok h0 hx h.bud hk (by omega) hl
      · exact heap_SetElem_slow h.ok h0 hx h.bud hk (by omega) (by omega)
    refine SC.ret hr fun v r ⟨h1, h2, h3, h4⟩ => ⟨_, rfl, h1, ?_⟩
    obtain ⟨i1, i2⟩ := h3.inv ho'
    obtain ⟨a, b⟩ := h.upd hx (Nat.le_refl k) h2 h.tree (Ext.refl _) i1 (by rw [h3.vals]; exact h.bud.vals x (List.mem_of_getElem? hx)) (by rw [h3.inner]; exact h.in' hx) h4
    exact ⟨a, by rw [b, i2]; rfl, rfl⟩
  · have e1 : setElemL (pubO (H.V.abs F.T) x).elems m wd = x.elems := by unfold setElemL; rw [if_neg hm]; rfl
    rw [e1, decide_eq_false hm]
    exact SC.ret (heap_SetElem_bad h.ok hm) fun v _ hv => ⟨H, rfl, hv, h, (set_same ho).symm, rfl⟩
theorem hp_SetLenQ (hk : k ≤ 8000000) (h : HInv k H F) {w : Int} {o : ObjS} (h0 : objAt w (H.pub F).length = some n) (ho : (H.pub F)[n]? = some o) (m : Int) :
    SC Tryz.prog W0 26 #[.pointer (some ⟨F.p, 0, none⟩), .int .u64 w, .int .i64 m] (H.ent F)
    (Ret (fun H' : HeapV => H'.ent F) (fun v H' => v = .bool (decide (0 ≤ m ∧ m ≤ 4096)) ∧ HInv k H' F ∧ H'.pub F = (H.pub F).set n ⟨o.kind, o.proto, o.shut, o.names, o.descs, setLenQ o.elems m, o.inner⟩ ∧ H'.texts = H.texts)) := by
  by_cases hm : 0 ≤ m ∧ m ≤ 4096
  · obtain ⟨q, rfl⟩ := Int.eq_ofNat_of_zero_le hm.1
    rw [decide_eq_true hm, show setLenQ o.elems (q : Int) = setLenL o.elems q from by unfold setLenQ; rw [if_pos hm]; rfl]
    exact hp_SetLen hk h h0 ho (by omega)
  · rw [decide_eq_false hm, show setLenQ o.elems m = o.elems from by unfold setLenQ; rw [if_neg hm]]
    exact SC.ret (hp_SetLen_bad h h0 ho hm) fun v _ hv => ⟨H, rfl, hv, h, (set_same ho).symm, rfl⟩
theorem setElemL_len (l : List Int) (m w : Int) (hl : l.length ≤ 4096) : (setElemL l m w).length = if 0 ≤ m ∧ m < 4096 then max l.length (m.toNat + 1) else l.length := by
  unfold setElemL
  split
  · rw [List.length_set, setLenL_len]
  · rfl
/-- Where the loop over the places stands. -/
structure ElI (l : List Int) (w : Int) (i : Nat) (E : List Int) : Prop where
  len : E.length ≤ 4096
  laid : ∀ j m, j < i → l[j]? = some m → 0 ≤ m → m < 4096 → E[m.toNat]? = some w
theorem ElI.start (l : List Int) (w : Int) : ElI l w 0 [] := ⟨Nat.zero_le _, fun j m h => by omega⟩
theorem ElI.step {l : List Int} {w m : Int} {i : Nat} {E : List Int} (h : ElI l w i E) (hm : l[i]? = some m) : ElI l w (i + 1) (setElemL E m w) := by
  have hl := h.len
  refine ⟨by rw [setElemL_len E m w hl]; split <;> omega, fun j q hj hq h0 h1 => ?_⟩
  have hold : ∀ q : Int, E[q.toNat]? = some w → (setElemL E m w)[q.toNat]? = some w := fun q hq => by
    unfold setElemL
    split
    · by_cases e : m.toNat = q.toNat
      · rw [e, List.getElem?_set_self]
        have := (List.getElem?_eq_some_iff.1 hq).1
        rw [setLenL_len]; omega
      · rw [List.getElem?_set_ne e]
        have h2 := (List.getElem?_eq_some_iff.1 hq).1
        unfold setLenL
        rw [List.take_of_length_le (by omega), List.getElem?_append_left h2]; exact hq
    · exact hq
  by_cases e : j = i
  · subst e
    rw [hm] at hq; cases hq
    unfold setElemL
    rw [if_pos ⟨h0, h1⟩, List.getElem?_set_self]
    rw [setLenL_len]; omega
  · exact hold q (h.laid j q (by omega) hq h0 h1)
/-- What is told of a place at the end. -/
theorem ElI.tells {l : List Int} {w m : Int} {i : Nat} {E : List Int} (h : ElI l w l.length E) (hm : l[i]? = some m) {many : Nat} (hmany : many ≤ 4096) :
    elemO (setLenL E many) m = if 0 ≤ m ∧ m < many ∧ w ≠ 18445336698825998340 then (w, true) else (18445336698825998336, false) := by
  have hi := (List.getElem?_eq_some_iff.1 hm).1
  unfold elemO
  rw [setLenL_len]
  by_cases h0 : 0 ≤ m ∧ m < many
  · rw [if_pos h0]
    have h1 := h.laid i m hi hm h0.1 (by omega)
    have h2 := (List.getElem?_eq_some_iff.1 h1).1
    have h3 : (setLenL E many)[m.toNat]? = some w := by
      unfold setLenL
      rw [List.getElem?_append_left (by rw [List.length_take]; omega), List.getElem?_take_of_lt (by omega)]
      exact h1
    rw [h3]
    simp only []
    by_cases hw : w = 18445336698825998340
    · rw [if_pos hw, if_neg (fun q => q.2.2 hw)]
    · rw [if_neg hw, if_pos ⟨h0.1, h0.2, hw⟩]
  · rw [if_neg h0, if_neg (fun q => h0 ⟨q.1, q.2.1⟩)]
end Go.Proofs.YtdfhbheipagnmaaGreat
