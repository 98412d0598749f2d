/-
  What functions of heap and word do to the memory they own, step by step: each theorem is one function's contract. Conditions: those that each theorem names.
-/
import Derived.Test.YthflblophelioaaDoorPi3
import Derived.Test.YthflblophelioaaDoorPi4
set_option linter.unusedVariables false
set_option linter.unusedSimpArgs false
set_option maxRecDepth 100000
set_option maxHeartbeats 4000000
namespace Go.Proofs.YthflblophelioaaDoor
open Go.Sl

theorem heap_Elem_none {W0 : World} {F : HeapF} {H : HeapV} (hH : H.ok F) {w : Int} (h0 : objAt w H.objs.length = none) (n_ : Int) : SC Tryd.prog W0 47 #[.pointer (some ⟨F.p, 0, none⟩), .int .u64 w, .int .i64 n_] (HeapV.ent H F) (Ret (fun _ : Unit => H.ent F) (fun v _ => v = .tuple #[.int .u64 18445336698825998336, .bool false])) := by
 refine SC_body (fn := Tryd.f47) (n := 44) Tryd.func47 rfl (by kernel_rfl) (ρ := [(0, pt F.p 0), (1, .int .u64 w), (2, .int .i64 n_)]) rfl ?_
 refine SW_sig _ HeapV.eq0 ?_
 refine sr ?_
 refine os 2 ?_
 refine nsr ?_
 refine os 2 ?_
 refine L (cl (heap_at hH w) ?_ (hp := HeapV.pm))
 rintro v1 _ hv1
 obtain rfl : v1 = .pointer none := hv1.trans (by rw [h0])
 refine SL_sig _ HeapV.eq ?_
 refine os 1 ?_
 refine kp [8, 7, 6, 0, 1, 2] ?_
 refine nq ?_
 refine sr ?_
 refine os 1 ?_
 refine oV (.bool true) ?_
 refine os 23 ?_
 refine kp [36, 8, 7, 6, 0, 1, 2] ?_
 refine nt ?_
 refine ct ?_
 refine sr ?_
 refine os 2 ?_
 refine nt ?_
 refine SW_ret (r_then ?_)
 refine body_end (.tuple #[.int .u64 18445336698825998336, .bool false]) (fun _ => rfl) ?_
 exact ⟨(), HeapV.own, rfl⟩

theorem heap_Elem_some {W0 : World} {F : HeapF} {H : HeapV} (hH : H.ok F) {w : Int} {n : Nat} {x : ObjL} (h0 : objAt w H.objs.length = some n) (hx : H.objs[n]? = some x) (n_ : Int) : SC Tryd.prog W0 47 #[.pointer (some ⟨F.p, 0, none⟩), .int .u64 w, .int .i64 n_] (HeapV.ent H F) (Ret (fun _ : Unit => H.ent F) (fun v _ => v = .tuple #[.int .u64 (elemO x.elems n_).1, .bool (elemO x.elems n_).2])) := by
 refine SC_body (fn := Tryd.f47) (n := 44) Tryd.func47 rfl (by kernel_rfl) (ρ := [(0, pt F.p 0), (1, .int .u64 w), (2, .int .i64 n_)]) rfl ?_
 refine SW_sig _ HeapV.eq0 ?_
 refine sr ?_
 refine os 2 ?_
 refine nsr ?_
 refine os 2 ?_
 refine L (cl (heap_at hH w) ?_ (hp := HeapV.pm))
 rintro v1 _ hv1
 obtain rfl : v1 = pt (Gs.blk H.s) (n * 9) := hv1.trans (by rw [h0])
 refine SL_sig _ HeapV.eq ?_
 refine os 1 ?_
 refine kp [8, 7, 6, 0, 1, 2] ?_
 refine nq ?_
 refine sr ?_
 refine os 1 ?_
 refine oV (.bool false) ?_
 refine os 5 ?_
 refine kp [18, 8, 7, 6, 0, 1, 2] ?_
 refine tbp 18 (fun hg1 => ?_) (fun hg1 => ?_)
 ·replace hg1 : n_ < 0 := hg1
  refine os 18 ?_
  refine kp [36, 8, 7, 6, 0, 1, 2] ?_
  refine nt ?_
  refine ct ?_
  refine sr ?_
  refine os 2 ?_
  refine nt ?_
  refine SW_ret (r_then ?_)
  refine body_end (.tuple #[.int .u64 18445336698825998336, .bool false]) (fun _ => rfl) ?_
  exact ⟨(), HeapV.own, by unfold elemO; rw [if_neg (by omega)]⟩
 replace hg1 : ¬ (n_ < 0) := hg1
 refine os 4 ?_
 refine L (ld ?_ (hc := Gs.cell hH.row (fun e he => (mem_c (mem_h he))) (flat_cell ObjL.len hx (j := 6) (by decide) rfl)))
 refine os 4 ?_
 refine kp [27, 8, 7, 6, 0, 1, 2] ?_
 refine tbp 27 (fun hg2 => ?_) (fun hg2 => ?_)
 ·replace hg2 : n_ ≥ (x.elems.length : Int) := hg2
  refine os 9 ?_
  refine kp [36, 8, 7, 6, 0, 1, 2] ?_
  refine nt ?_
  refine ct ?_
  refine sr ?_
  refine os 2 ?_
  refine nt ?_
  refine SW_ret (r_then ?_)
  refine body_end (.tuple #[.int .u64 18445336698825998336, .bool false]) (fun _ => rfl) ?_
  exact ⟨(), HeapV.own, by unfold elemO; rw [if_neg (by omega)]⟩
 replace hg2 : ¬ (n_ ≥ (x.elems.length : Int)) := hg2
 refine os 3 ?_
 refine L (ld ?_ (hc := Gs.cell hH.row (fun e he => (mem_c (mem_h he))) (flat_cell ObjL.len hx (j := 6) (by decide) rfl)))
 refine os 1 ?_
 refine L (ixg n_ (n_.toNat) ((HeapV.ok.at hH hx).es) Tryd.underlying59 ?_)
 obtain ⟨e1, he1⟩ : ∃ y_, x.elems[n_.toNat]? = some y_ := ⟨_, List.getElem?_eq_getElem (by omega)⟩
 refine L (ld ?_ (hc := Gs.cell (HeapV.ok.at hH hx).es (fun e he => (mem_c (mem_a (mem_h ((ObjL.mes hx) _ he))))) (map_cell he1 rfl)))
 refine os 2 ?_
 refine kp [36, 8, 7, 6, 0, 1, 2] ?_
 refine nt ?_
 refine cd (fun hc3 : (e1 == 18445336698825998340) = true => ?_) (fun hc3 => ?_)
 ·refine sr ?_
  refine os 2 ?_
  refine nt ?_
  refine SW_ret (r_then ?_)
  refine body_end (.tuple #[.int .u64 18445336698825998336, .bool false]) (fun _ => rfl) ?_
  exact ⟨(), HeapV.own, by unfold elemO; rw [if_pos (by omega), he1]; simp_all⟩
 refine SW_skip (n_then ?_)
 refine sr ?_
 refine os 3 ?_
 refine L (ld ?_ (hc := Gs.cell hH.row (fun e he => (mem_c (mem_h he))) (flat_cell ObjL.len hx (j := 6) (by decide) rfl)))
 refine os 1 ?_
 refine L (ixg n_ (n_.toNat) ((HeapV.ok.at hH hx).es) Tryd.underlying59 ?_)
 refine L (ld ?_ (hc := Gs.cell (HeapV.ok.at hH hx).es (fun e he => (mem_c (mem_a (mem_h ((ObjL.mes hx) _ he))))) (map_cell he1 rfl)))
 refine os 2 ?_
 refine kp [7, 6, 36, 8, 0, 1, 2] ?_
 refine nt ?_
 refine SW_ret ?_
 refine body_end (.tuple #[.int .u64 e1, .bool true]) (fun _ => rfl) ?_
 exact ⟨(), HeapV.own, by unfold elemO; rw [if_pos (by omega), he1]; simp_all⟩

theorem heap_SetLen_none {W0 : World} {F : HeapF} {H : HeapV} (hH : H.ok F) {w : Int} (h0 : objAt w H.objs.length = none) (m : Int) : SC Tryd.prog W0 59 #[.pointer (some ⟨F.p, 0, none⟩), .int .u64 w, .int .i64 m] (HeapV.ent H F) (Ret (fun _ : Unit => H.ent F) (fun v _ => v = .bool false)) := by
 refine SC_body (fn := Tryd.f59) (n := 57) Tryd.func59 rfl (by kernel_rfl) (ρ := [(0, pt F.p 0), (1, .int .u64 w), (2, .int .i64 m)]) rfl ?_
 refine SW_sig _ HeapV.eq0 ?_
 refine sr ?_
 refine os 1 ?_
 refine nsr ?_
 refine os 2 ?_
 refine L (cl (heap_at hH w) ?_ (hp := HeapV.pm))
 rintro v1 _ hv1
 obtain rfl : v1 = .pointer none := hv1.trans (by rw [h0])
 refine SL_sig _ HeapV.eq ?_
 refine os 1 ?_
 refine kp [7, 6, 0, 1, 2] ?_
 refine nq ?_
 refine sr ?_
 refine os 1 ?_
 refine oV (.bool true) ?_
 refine os 8 ?_
 refine kp [20, 7, 6, 0, 1, 2] ?_
 refine nt ?_
 refine ct ?_
 refine sr ?_
 refine os 1 ?_
 refine nt ?_
 refine SW_ret (r_then ?_)
 refine body_end (.bool false) (fun _ => rfl) ?_
 exact ⟨(), HeapV.own, rfl⟩

theorem heap_SetLen_bad {W0 : World} {F : HeapF} {H : HeapV} (hH : H.ok F) {w : Int} {n : Nat} {x : ObjL} (h0 : objAt w H.objs.length = some n) (hx : H.objs[n]? = some x) {m : Int} (hbad : ¬ (0 ≤ m ∧ m ≤ 4096)) : SC Tryd.prog W0 59 #[.pointer (some ⟨F.p, 0, none⟩), .int .u64 w, .int .i64 m] (HeapV.ent H F) (Ret (fun _ : Unit => H.ent F) (fun v _ => v = .bool false)) := by
 have hnl := (List.getElem?_eq_some_iff.1 hx).1
 have hec : x.elems.length ≤ x.es.cap := Gs.ok.cap_le (HeapV.ok.at hH hx).es
 refine SC_body (fn := Tryd.f59) (n := 57) Tryd.func59 rfl (by kernel_rfl) (ρ := [(0, pt F.p 0), (1, .int .u64 w), (2, .int .i64 m)]) rfl ?_
 refine SW_sig _ HeapV.eq0 ?_
 refine sr ?_
 refine os 1 ?_
 refine nsr ?_
 refine os 2 ?_
 refine L (cl (heap_at hH w) ?_ (hp := HeapV.pm))
 rintro v1 _ hv1
 obtain rfl : v1 = pt (Gs.blk H.s) (n * 9) := hv1.trans (by rw [h0])
 refine SL_sig _ HeapV.eq ?_
 refine os 1 ?_
 refine kp [7, 6, 0, 1, 2] ?_
 refine nq ?_
 refine sr ?_
 refine os 1 ?_
 refine oV (.bool false) ?_
 refine os 5 ?_
 refine kp [17, 7, 6, 0, 1, 2] ?_
 refine tbp 17 (fun hg1 => ?_) (fun hg1 => ?_)
 ·replace hg1 : m < 0 := hg1
  refine os 3 ?_
  refine kp [20, 7, 6, 0, 1, 2] ?_
  refine nt ?_
  refine ct ?_
  refine sr ?_
  refine os 1 ?_
  refine nt ?_
  refine SW_ret (r_then ?_)
  refine body_end (.bool false) (fun _ => rfl) ?_
  exact ⟨(), HeapV.own, rfl⟩
 replace hg1 : ¬ (m < 0) := hg1
 refine os 3 ?_
 refine kp [20, 7, 6, 0, 1, 2] ?_
 refine nt ?_
 refine cdp (fun hc2 : m > 4096 => ?_) (fun hc2 => ?_)
 ·refine sr ?_
  refine os 1 ?_
  refine nt ?_
  refine SW_ret (r_then ?_)
  refine body_end (.bool false) (fun _ => rfl) ?_
  exact ⟨(), HeapV.own, rfl⟩
 exact absurd (by omega) hbad

theorem heap_SetLen_short {W0 : World} {F : HeapF} {H : HeapV} (hH : H.ok F) {w : Int} {n : Nat} {x : ObjL} (h0 : objAt w H.objs.length = some n) (hx : H.objs[n]? = some x) {k : Nat} (hB : H.bud k) (hk : k ≤ 8000000) {m : Nat} (hm4 : m ≤ 4096) (hmx : m ≤ x.elems.length) : SC Tryd.prog W0 59 #[.pointer (some ⟨F.p, 0, none⟩), .int .u64 w, .int .i64 (m : Int)] (HeapV.ent H F) (Ret (fun r : Gs × List CellL × Int => (H.upd n ((ObjL.chg x).withElems r.1 (setLenL x.elems m)) H.V r.2.1 r.2.2).ent F) (fun v r => v = .bool true ∧ (H.upd n ((ObjL.chg x).withElems r.1 (setLenL x.elems m)) H.V r.2.1 r.2.2).ok F ∧ Chg x.cell H.cl r.2.1)) := by
 have hnl := (List.getElem?_eq_some_iff.1 hx).1
 have hec : x.elems.length ≤ x.es.cap := Gs.ok.cap_le (HeapV.ok.at hH hx).es
 refine SC_body (fn := Tryd.f59) (n := 57) Tryd.func59 rfl (by kernel_rfl) (ρ := [(0, pt F.p 0), (1, .int .u64 w), (2, .int .i64 (m : Int))]) rfl ?_
 refine SW_sig _ HeapV.eq0 ?_
 refine sr ?_
 refine os 1 ?_
 refine nsr ?_
 refine os 2 ?_
 refine L (cl (heap_at hH w) ?_ (hp := HeapV.pm))
 rintro v1 _ hv1
 obtain rfl : v1 = pt (Gs.blk H.s) (n * 9) := hv1.trans (by rw [h0])
 refine SL_sig _ HeapV.eq ?_
 refine os 1 ?_
 refine kp [7, 6, 0, 1, 2] ?_
 refine nq ?_
 refine sr ?_
 refine os 1 ?_
 refine oV (.bool false) ?_
 refine os 5 ?_
 refine kp [17, 7, 6, 0, 1, 2] ?_
 refine tbp 17 (fun hg1 => ?_) (fun hg1 => ?_)
 ·replace hg1 : (m : Int) < 0 := hg1
  refine os 3 ?_
  refine kp [20, 7, 6, 0, 1, 2] ?_
  refine nt ?_
  refine ct ?_
  refine sr ?_
  refine os 1 ?_
  refine nt ?_
  refine SW_ret (r_then ?_)
  refine body_end (.bool false) (fun _ => rfl) ?_
  exact absurd hm4 (by omega)
 replace hg1 : ¬ ((m : Int) < 0) := hg1
 refine os 3 ?_
 refine kp [20, 7, 6, 0, 1, 2] ?_
 refine nt ?_
 refine cdp (fun hc2 : (m : Int) > 4096 => ?_) (fun hc2 => ?_)
 ·exact absurd hm4 (by omega)
 refine SW_skip (n_then ?_)
 refine sr ?_
 refine os 2 ?_
 refine L (cl (heap_changed hH (n := n) hx hB hk) ?_ (hp := HeapV.pm))
 rintro _ ⟨cl1, br1⟩ ⟨rfl, hccl1, hchcl1⟩
 refine SL_sig _ HeapV.eq ?_
 have hH1 : HeapV.ok (HeapV.mk H.s (H.objs.set n (ObjL.chg x)) H.ts H.texts H.known H.V H.cs cl1 br1) F := hH.chg hx hccl1 br1
 refine nq ?_
 refine sr ?_
 refine os 4 ?_
 refine L (ld ?_ (hc := Gs.cell hH1.row (fun e he => (mem_c (mem_h he))) (flat_cell ObjL.len (get_set hx) (j := 6) (by decide) rfl)) (v := Gs.val x.es x.elems.length))
 refine os 2 ?_
 refine kp [30, 20, 7, 6, 0, 1, 2] ?_
 refine nt ?_
 refine cdp (fun hc3 : (m : Int) ≤ (x.elems.length : Int) => ?_) (fun hc3 => ?_)
 ·refine SW_seq ?_
  refine SW_perm _ (perm_cc (perm_ca perm_cz)) ?_
  refine SW_perm ((Gs.ent 9 1 x.ns (x.names.map encS)) ++ ((Gs.ent 41 3 x.vs (x.vals.flatMap descCells)) ++ ((Gs.ent 34 1 x.es (x.elems.map encU)) ++ ((Gs.ent 34 1 x.is (x.inner.map encU)) ++ (((List.eraseIdx (H.objs.set n (ObjL.chg x)) n).flatMap ObjL.ent) ++ ((F.p, .cells 54 6 [Gs.val H.s ((H.objs.set n (ObjL.chg x)).length), Gs.val H.ts H.texts.length, .map (some F.kb), pt F.T.p 0, pt F.cp 0, .int .i64 br1]) :: ((Gs.ent 61 9 H.s ((H.objs.set n (ObjL.chg x)).flatMap ObjL.cells)) ++ ((Gs.ent 9 1 H.ts (H.texts.map encS)) ++ ((F.kb, .map (kvs encS encU H.known)) :: ((TreeV.ent H.V F.T) ++ ((CellsL.ent (CellsL.mk F.cp H.cs cl1)) ++ ([])))))))))))) (obj_focus (get_set hx) _) ?_
  refine SW_region ?_
  refine os 4 ?_
  refine L (ld ?_ (hc := Gs.cell hH1.row (fun e he => (mem_a (mem_a (mem_a (mem_a (mem_a (mem_c (mem_h he)))))))) (flat_cell ObjL.len (get_set hx) (j := 6) (by decide) rfl)) (v := Gs.val x.es x.elems.length))
  refine os 1 ?_
  refine L (O_val (.slice (Gs.addr x.es) ((m : Int)).toNat (Gs.cap x.es)) rfl (fun δ w _ => run_slice_to (m : Int) (Gs.addr x.es) x.elems.length (Gs.cap x.es) .i64 Tryd.underlying59 (by kernel_rfl) rfl rfl (by omega) (by omega)) ?_)
  rw [show Value.slice (Gs.addr x.es) ((m : Int)).toNat (Gs.cap x.es) = Gs.val x.es ((x.elems.take m).length) from congrArg (fun q_ => Value.slice (Gs.addr x.es) q_ (Gs.cap x.es)) (show ((m : Int)).toNat = (x.elems.take m).length from by simp; omega)]
  refine L (clA (words_Clone (σ := _) (l := x.elems.take m) (Src.take (Gs.src0 (show Gs.ok 1 (x.elems).length x.es (x.elems.map encU) from (HeapV.ok.at (x := (ObjL.chg x)) hH1 (get_set hx)).es) (fun e he => (mem_a (mem_a (mem_h he))))) m) (by simp; omega)) ?_)
  rintro _ cg1 ⟨rfl, hcg1⟩
  refine un ?_
  refine os 2 ?_
  refine kp [40, 38, 30, 20, 7, 6, 0, 1, 2] ?_
  have hok1 := Gs.ok.relen (ys := ((H.objs.set n (ObjL.mk x.kind x.proto x.shut x.shape x.ns x.names x.vs x.vals cg1 (x.elems.take m) x.is x.inner (if 0 ≤ x.cell then -1 else x.cell))).flatMap ObjL.cells)) hH1.row (by simp [flat_len ObjL.len])
  refine SL_perm _ (perm_ca (perm_ca (perm_ca (perm_ca (perm_ca (perm_ca (perm_cc perm_cz))))))) ?_
  refine L (O_storeG (ys := ((H.objs.set n (ObjL.mk x.kind x.proto x.shut x.shape x.ns x.names x.vs x.vals cg1 (x.elems.take m) x.is x.inner (if 0 ≤ x.cell then -1 else x.cell))).flatMap ObjL.cells)) H.s (n * 9 + 6) (Gs.val cg1 ((x.elems.take m).length)) [Gs.val cg1 ((x.elems.take m).length)] (Gs.ok.ne hH1.row (by first | omega | (simp; omega))) (fun _ => rfl) (fun _ => rfl) rfl (by kernel_rfl) rfl (by rw [flat_len ObjL.len]; simp; omega) ((row_lay (j := 6) ObjL.len (ObjL.mk x.kind x.proto x.shut x.shape x.ns x.names x.vs x.vals cg1 (x.elems.take m) x.is x.inner (if 0 ≤ x.cell then -1 else x.cell)) (get_set hx) (Nat.le_of_ble_eq_true rfl) rfl).trans (by rw [List.set_set])) rfl ?_)
  refine nsr ?_
  refine os 1 ?_
  refine nt ?_
  refine SW_ret (r_then ?_)
  refine body_end (.bool true) (fun _ => rfl) ?_
  rw [show setLenL x.elems m = x.elems.take m from setLenL_le (by omega)]
  refine ⟨(cg1, cl1, br1), ?_, rfl, ?_, hchcl1⟩
  · refine Own.trans (ow (S := ((F.p, .cells 54 6 [Gs.val H.s ((H.objs.set n (ObjL.chg x)).length), Gs.val H.ts H.texts.length, .map (some F.kb), pt F.T.p 0, pt F.cp 0, .int .i64 br1]) :: ((Gs.ent 61 9 H.s ((H.objs.set n (ObjL.mk x.kind x.proto x.shut x.shape x.ns x.names x.vs x.vals cg1 (x.elems.take m) x.is x.inner (if 0 ≤ x.cell then -1 else x.cell))).flatMap ObjL.cells)) ++ ((Gs.ent 9 1 x.ns (x.names.map encS)) ++ ((Gs.ent 41 3 x.vs (x.vals.flatMap descCells)) ++ ((Gs.ent 34 1 cg1 ((x.elems.take m).map encU)) ++ ((Gs.ent 34 1 x.is (x.inner.map encU)) ++ (((List.eraseIdx (H.objs.set n (ObjL.chg x)) n).flatMap ObjL.ent) ++ ((Gs.ent 9 1 H.ts (H.texts.map encS)) ++ ((F.kb, .map (kvs encS encU H.known)) :: ((TreeV.ent H.V F.T) ++ ((CellsL.ent (CellsL.mk F.cp H.cs cl1)) ++ ([])))))))))))))) (Own.of_perm ?_)
    have hb_ := HeapV.back (H := (HeapV.mk H.s (H.objs.set n (ObjL.chg x)) H.ts H.texts H.known H.V H.cs cl1 br1)) F (get_set hx) (ObjL.mk x.kind x.proto x.shut x.shape x.ns x.names x.vs x.vals cg1 (x.elems.take m) x.is x.inner (if 0 ≤ x.cell then -1 else x.cell))
    simp only [HeapV.head, HeapV.put, List.set_set, List.length_set] at hb_ ⊢
    exact hb_
  · simpa only [HeapV.put, List.set_set, List.length_set] using HeapV.ok.put hH1 (get_set hx) (x' := (ObjL.mk x.kind x.proto x.shut x.shape x.ns x.names x.vs x.vals cg1 (x.elems.take m) x.is x.inner (if 0 ≤ x.cell then -1 else x.cell))) ⟨(by first | exact (show Gs.ok 1 (x.names).length x.ns (x.names.map encS) from (HeapV.ok.at (x := (ObjL.chg x)) hH1 (get_set hx)).ns) | (simp only [List.length_set]; exact (show Gs.ok 1 (x.names).length x.ns (x.names.map encS) from (HeapV.ok.at (x := (ObjL.chg x)) hH1 (get_set hx)).ns))), (by first | exact (show Gs.ok 3 (x.vals).length x.vs (x.vals.flatMap descCells) from (HeapV.ok.at (x := (ObjL.chg x)) hH1 (get_set hx)).vs) | (simp only [List.length_set]; exact (show Gs.ok 3 (x.vals).length x.vs (x.vals.flatMap descCells) from (HeapV.ok.at (x := (ObjL.chg x)) hH1 (get_set hx)).vs))), (by first | exact hcg1 | (simp only [List.length_set]; exact hcg1)), (by first | exact (show Gs.ok 1 (x.inner).length x.is (x.inner.map encU) from (HeapV.ok.at (x := (ObjL.chg x)) hH1 (get_set hx)).is) | (simp only [List.length_set]; exact (show Gs.ok 1 (x.inner).length x.is (x.inner.map encU) from (HeapV.ok.at (x := (ObjL.chg x)) hH1 (get_set hx)).is)))⟩ (by simp [setLenL_len]; omega)
 omega

theorem heap_SetLen_long {W0 : World} {F : HeapF} {H : HeapV} (hH : H.ok F) {w : Int} {n : Nat} {x : ObjL} (h0 : objAt w H.objs.length = some n) (hx : H.objs[n]? = some x) {k : Nat} (hB : H.bud k) (hk : k ≤ 8000000) {m : Nat} (hm4 : m ≤ 4096) (hmx : x.elems.length < m) : SC Tryd.prog W0 59 #[.pointer (some ⟨F.p, 0, none⟩), .int .u64 w, .int .i64 (m : Int)] (HeapV.ent H F) (Ret (fun r : Gs × List CellL × Int => (H.upd n ((ObjL.chg x).withElems r.1 (setLenL x.elems m)) H.V r.2.1 r.2.2).ent F) (fun v r => v = .bool true ∧ (H.upd n ((ObjL.chg x).withElems r.1 (setLenL x.elems m)) H.V r.2.1 r.2.2).ok F ∧ Chg x.cell H.cl r.2.1)) := by
 have hnl := (List.getElem?_eq_some_iff.1 hx).1
 have hec : x.elems.length ≤ x.es.cap := Gs.ok.cap_le (HeapV.ok.at hH hx).es
 refine SC_body (fn := Tryd.f59) (n := 57) Tryd.func59 rfl (by kernel_rfl) (ρ := [(0, pt F.p 0), (1, .int .u64 w), (2, .int .i64 (m : Int))]) rfl ?_
 refine SW_sig _ HeapV.eq0 ?_
 refine sr ?_
 refine os 1 ?_
 refine nsr ?_
 refine os 2 ?_
 refine L (cl (heap_at hH w) ?_ (hp := HeapV.pm))
 rintro v1 _ hv1
 obtain rfl : v1 = pt (Gs.blk H.s) (n * 9) := hv1.trans (by rw [h0])
 refine SL_sig _ HeapV.eq ?_
 refine os 1 ?_
 refine kp [7, 6, 0, 1, 2] ?_
 refine nq ?_
 refine sr ?_
 refine os 1 ?_
 refine oV (.bool false) ?_
 refine os 5 ?_
 refine kp [17, 7, 6, 0, 1, 2] ?_
 refine tbp 17 (fun hg1 => ?_) (fun hg1 => ?_)
 ·replace hg1 : (m : Int) < 0 := hg1
  refine os 3 ?_
  refine kp [20, 7, 6, 0, 1, 2] ?_
  refine nt ?_
  refine ct ?_
  refine sr ?_
  refine os 1 ?_
  refine nt ?_
  refine SW_ret (r_then ?_)
  refine body_end (.bool false) (fun _ => rfl) ?_
  exact absurd hm4 (by omega)
 replace hg1 : ¬ ((m : Int) < 0) := hg1
 refine os 3 ?_
 refine kp [20, 7, 6, 0, 1, 2] ?_
 refine nt ?_
 refine cdp (fun hc2 : (m : Int) > 4096 => ?_) (fun hc2 => ?_)
 ·exact absurd hm4 (by omega)
 refine SW_skip (n_then ?_)
 refine sr ?_
 refine os 2 ?_
 refine L (cl (heap_changed hH (n := n) hx hB hk) ?_ (hp := HeapV.pm))
 rintro _ ⟨cl1, br1⟩ ⟨rfl, hccl1, hchcl1⟩
 refine SL_sig _ HeapV.eq ?_
 have hH1 : HeapV.ok (HeapV.mk H.s (H.objs.set n (ObjL.chg x)) H.ts H.texts H.known H.V H.cs cl1 br1) F := hH.chg hx hccl1 br1
 refine nq ?_
 refine sr ?_
 refine os 4 ?_
 refine L (ld ?_ (hc := Gs.cell hH1.row (fun e he => (mem_c (mem_h he))) (flat_cell ObjL.len (get_set hx) (j := 6) (by decide) rfl)) (v := Gs.val x.es x.elems.length))
 refine os 2 ?_
 refine kp [30, 20, 7, 6, 0, 1, 2] ?_
 refine nt ?_
 refine cdp (fun hc3 : (m : Int) ≤ (x.elems.length : Int) => ?_) (fun hc3 => ?_)
 ·omega
 refine SW_skip (n_then ?_)
 refine SW_seq ?_
 refine SW_block ?_
 refine SW_perm _ (perm_cc (perm_ca perm_cz)) ?_
 refine SW_perm ((Gs.ent 9 1 x.ns (x.names.map encS)) ++ ((Gs.ent 41 3 x.vs (x.vals.flatMap descCells)) ++ ((Gs.ent 34 1 x.es (x.elems.map encU)) ++ ((Gs.ent 34 1 x.is (x.inner.map encU)) ++ (((List.eraseIdx (H.objs.set n (ObjL.chg x)) n).flatMap ObjL.ent) ++ ((F.p, .cells 54 6 [Gs.val H.s ((H.objs.set n (ObjL.chg x)).length), Gs.val H.ts H.texts.length, .map (some F.kb), pt F.T.p 0, pt F.cp 0, .int .i64 br1]) :: ((Gs.ent 61 9 H.s ((H.objs.set n (ObjL.chg x)).flatMap ObjL.cells)) ++ ((Gs.ent 9 1 H.ts (H.texts.map encS)) ++ ((F.kb, .map (kvs encS encU H.known)) :: ((TreeV.ent H.V F.T) ++ ((CellsL.ent (CellsL.mk F.cp H.cs cl1)) ++ ([])))))))))))) (obj_focus (get_set hx) _) ?_
 have e9 : setLenL x.elems x.elems.length = x.elems := setLenL_self _
 refine SW_loop (α := Nat × Gs) (fun z_ ρ_ σ_ => Fits ρ_ σ_ [(0, pt F.p 0), (7, pt (Gs.blk H.s) (n * 9)), (2, .int .i64 (m : Int))] ((Gs.ent 9 1 x.ns (x.names.map encS)) ++ ((Gs.ent 41 3 x.vs (x.vals.flatMap descCells)) ++ ((Gs.ent 34 1 z_.2 ((setLenL x.elems z_.1).map encU)) ++ ((Gs.ent 34 1 x.is (x.inner.map encU)) ++ (((List.eraseIdx (H.objs.set n (ObjL.chg x)) n).flatMap ObjL.ent) ++ ((F.p, .cells 54 6 [Gs.val H.s H.objs.length, Gs.val H.ts H.texts.length, .map (some F.kb), pt F.T.p 0, pt F.cp 0, .int .i64 br1]) :: ((Gs.ent 61 9 H.s ((H.objs.set n (ObjL.mk x.kind x.proto x.shut x.shape x.ns x.names x.vs x.vals z_.2 (setLenL x.elems z_.1) x.is x.inner (if 0 ≤ x.cell then -1 else x.cell))).flatMap ObjL.cells)) ++ ((Gs.ent 9 1 H.ts (H.texts.map encS)) ++ ((F.kb, .map (kvs encS encU H.known)) :: ((TreeV.ent H.V F.T) ++ ((CellsL.ent (CellsL.mk F.cp H.cs cl1)) ++ ([])))))))))))) ∧ (x.elems.length ≤ z_.1 ∧ z_.1 ≤ m) ∧ Gs.ok 9 H.objs.length H.s ((H.objs.set n (ObjL.mk x.kind x.proto x.shut x.shape x.ns x.names x.vs x.vals z_.2 (setLenL x.elems z_.1) x.is x.inner (if 0 ≤ x.cell then -1 else x.cell))).flatMap ObjL.cells) ∧ Gs.ok 1 (setLenL x.elems z_.1).length z_.2 ((setLenL x.elems z_.1).map encU)) (fun z_ => m - z_.1) (x.elems.length, x.es) ⟨⟨fun _ => rfl, (by simp only []; rw [e9]; exact Own.of_perm (List.Perm.of_eq (by simp only [List.set_set, List.length_set])))⟩, ⟨Nat.le_refl _, by omega⟩, (by simp only []; rw [e9]; have q_ := hH1.row; rw [List.length_set] at q_; exact q_), (by simp only []; rw [e9]; exact (show Gs.ok 1 (x.elems).length x.es (x.elems.map encU) from (HeapV.ok.at (x := (ObjL.chg x)) hH1 (get_set hx)).es))⟩ ?_
 rintro ⟨m_, g⟩ ρ_ σ_ ⟨hfit, hi0, hi1, hi2⟩
 refine SW_fits hfit ?_
 clear hfit
 simp only [] at hi0 hi1 hi2 ⊢
 have hll := setLenL_len x.elems m_
 refine SW_seq ?_
 refine sr ?_
 refine os 3 ?_
 refine L (ld ?_ (hc := Gs.cell hi1 (fun e he => (mem_a (mem_a (mem_a (mem_a (mem_a (mem_c (mem_h he)))))))) (flat_cell ObjL.len (get_set hx) (j := 6) (by decide) rfl)) (v := Gs.val g ((setLenL x.elems m_).length)))
 refine os 3 ?_
 refine kp [47, 0, 7, 2] ?_
 refine nt ?_
 refine cdp (fun hc4 : ((((setLenL x.elems m_).length : Nat)) : Int) < (m : Int) => ?_) (fun hc4 => ?_)
 ·refine SW_skip (n_then ?_)
  refine SW_block ?_
  refine SW_region ?_
  refine os 4 ?_
  refine L (ld ?_ (hc := Gs.cell hi1 (fun e he => (mem_a (mem_a (mem_a (mem_a (mem_a (mem_c (mem_h he)))))))) (flat_cell ObjL.len (get_set hx) (j := 6) (by decide) rfl)) (v := Gs.val g ((setLenL x.elems m_).length)))
  refine L (nws 34 1 1 [.int .u64 18445336698825998340] ?_)
  intro b5
  refine SL_perm _ (perm_cc (perm_ca (perm_ca perm_cz))) ?_
  refine L (O_append (size := 1) (bytes := 8) (z := .int .u64 0) g ((setLenL x.elems m_).length) 1 (some ⟨b5, 0, none⟩) 1 ((setLenL x.elems m_).map encU) ([.int .u64 18445336698825998340]) (((setLenL x.elems m_) ++ [18445336698825998340]).map encU) (map_snoc _ 18445336698825998340 rfl) (fun _ => rfl) (fun _ => rfl) Tryd.underlying59 (by kernel_rfl) rfl (by decide) hi2 rfl (.inr ⟨b5, 0, rfl, Cells.own (mem_a mem_z) rfl⟩) rfl (by omega) (by decide) rfl ?_)
  intro s6 hks6 hfs6
  rw [show (setLenL x.elems m_).length + 1 = ((setLenL x.elems m_) ++ [18445336698825998340]).length from by simp]
  rw [show (setLenL x.elems m_).length + 1 = ((setLenL x.elems m_) ++ [18445336698825998340]).length from by simp] at hks6
  have hls6 : ((setLenL x.elems m_) ++ [18445336698825998340]).length = (setLenL x.elems m_).length + 1 := by simp
  refine os 2 ?_
  refine kp [56, 54, 47, 0, 7, 2] ?_
  have hok1 := Gs.ok.relen (ys := ((H.objs.set n (ObjL.mk x.kind x.proto x.shut x.shape x.ns x.names x.vs x.vals s6 ((setLenL x.elems m_) ++ [18445336698825998340]) x.is x.inner (if 0 ≤ x.cell then -1 else x.cell))).flatMap ObjL.cells)) hi1 (by simp [flat_len ObjL.len])
  refine SL_perm _ (perm_ca (perm_cc (perm_ca (perm_ca (perm_ca (perm_ca (perm_cc perm_cz))))))) ?_
  refine L (O_storeG (ys := ((H.objs.set n (ObjL.mk x.kind x.proto x.shut x.shape x.ns x.names x.vs x.vals s6 ((setLenL x.elems m_) ++ [18445336698825998340]) x.is x.inner (if 0 ≤ x.cell then -1 else x.cell))).flatMap ObjL.cells)) H.s (n * 9 + 6) (Gs.val s6 (((setLenL x.elems m_) ++ [18445336698825998340]).length)) [Gs.val s6 (((setLenL x.elems m_) ++ [18445336698825998340]).length)] (Gs.ok.ne hi1 (by first | omega | (simp; omega))) (fun _ => rfl) (fun _ => rfl) rfl (by kernel_rfl) rfl (by rw [flat_len ObjL.len]; simp; omega) ((row_lay (j := 6) ObjL.len (ObjL.mk x.kind x.proto x.shut x.shape x.ns x.names x.vs x.vals s6 ((setLenL x.elems m_) ++ [18445336698825998340]) x.is x.inner (if 0 ≤ x.cell then -1 else x.cell)) (get_set hx) (Nat.le_of_ble_eq_true rfl) rfl).trans (by rw [List.set_set])) rfl ?_)
  refine SL_nil (n_in (n_then ?_))
  have hsn := setLenL_snoc (l := x.elems) (n := m_) (by omega)
  refine ⟨(m_ + 1, s6), by simp only []; omega, ?_⟩
  simp only []
  rw [← hsn]
  exact ⟨⟨fun _ => rfl, ow⟩, by omega, hok1, hks6⟩
 refine SW_exit (x_then (x_then (x_in (n_then ?_))))
 refine sr ?_
 refine os 1 ?_
 refine nt ?_
 refine SW_ret ?_
 refine body_end (.bool true) (fun _ => rfl) ?_
 obtain rfl : m_ = m := by omega
 refine ⟨(g, cl1, br1), ?_, rfl, ?_, hchcl1⟩
 · refine Own.trans (ow (S := ((F.p, .cells 54 6 [Gs.val H.s H.objs.length, Gs.val H.ts H.texts.length, .map (some F.kb), pt F.T.p 0, pt F.cp 0, .int .i64 br1]) :: ((Gs.ent 61 9 H.s ((H.objs.set n (ObjL.mk x.kind x.proto x.shut x.shape x.ns x.names x.vs x.vals g (setLenL x.elems m_) x.is x.inner (if 0 ≤ x.cell then -1 else x.cell))).flatMap ObjL.cells)) ++ ((Gs.ent 9 1 x.ns (x.names.map encS)) ++ ((Gs.ent 41 3 x.vs (x.vals.flatMap descCells)) ++ ((Gs.ent 34 1 g ((setLenL x.elems m_).map encU)) ++ ((Gs.ent 34 1 x.is (x.inner.map encU)) ++ (((List.eraseIdx (H.objs.set n (ObjL.chg x)) n).flatMap ObjL.ent) ++ ((Gs.ent 9 1 H.ts (H.texts.map encS)) ++ ((F.kb, .map (kvs encS encU H.known)) :: ((TreeV.ent H.V F.T) ++ ((CellsL.ent (CellsL.mk F.cp H.cs cl1)) ++ ([])))))))))))))) (Own.of_perm ?_)
   have hb_ := HeapV.back (H := (HeapV.mk H.s (H.objs.set n (ObjL.chg x)) H.ts H.texts H.known H.V H.cs cl1 br1)) F (get_set hx) (ObjL.mk x.kind x.proto x.shut x.shape x.ns x.names x.vs x.vals g (setLenL x.elems m_) x.is x.inner (if 0 ≤ x.cell then -1 else x.cell))
   simp only [HeapV.head, HeapV.put, List.set_set, List.length_set] at hb_ ⊢
   exact hb_
 · simpa only [HeapV.put, List.set_set, List.length_set] using HeapV.ok.put hH1 (get_set hx) (x' := (ObjL.mk x.kind x.proto x.shut x.shape x.ns x.names x.vs x.vals g (setLenL x.elems m_) x.is x.inner (if 0 ≤ x.cell then -1 else x.cell))) ⟨(by first | exact (show Gs.ok 1 (x.names).length x.ns (x.names.map encS) from (HeapV.ok.at (x := (ObjL.chg x)) hH1 (get_set hx)).ns) | (simp only [List.length_set]; exact (show Gs.ok 1 (x.names).length x.ns (x.names.map encS) from (HeapV.ok.at (x := (ObjL.chg x)) hH1 (get_set hx)).ns))), (by first | exact (show Gs.ok 3 (x.vals).length x.vs (x.vals.flatMap descCells) from (HeapV.ok.at (x := (ObjL.chg x)) hH1 (get_set hx)).vs) | (simp only [List.length_set]; exact (show Gs.ok 3 (x.vals).length x.vs (x.vals.flatMap descCells) from (HeapV.ok.at (x := (ObjL.chg x)) hH1 (get_set hx)).vs))), (by first | exact hi2 | (simp only [List.length_set]; exact hi2)), (by first | exact (show Gs.ok 1 (x.inner).length x.is (x.inner.map encU) from (HeapV.ok.at (x := (ObjL.chg x)) hH1 (get_set hx)).is) | (simp only [List.length_set]; exact (show Gs.ok 1 (x.inner).length x.is (x.inner.map encU) from (HeapV.ok.at (x := (ObjL.chg x)) hH1 (get_set hx)).is)))⟩ (by simp [setLenL_len]; omega)

end Go.Proofs.YthflblophelioaaDoor
namespace Go.Proofs.YthflblophelioaaDoor
open Go.Sl

end Go.Proofs.YthflblophelioaaDoor
namespace Go.Proofs.YthflblophelioaaDoor
open Go.Sl
variable {k : Nat} {H : HeapV} {F : HeapF} {n : Nat} {x : ObjL} {W0 : World}
def putNm (names : List ByteArray) (key : ByteArray) : List ByteArray := if ixS names key < 0 then names ++ [key] else names
def putDs (names : List ByteArray) (descs : List DescP) (key : ByteArray) (d : DescP) : List DescP := if ixS names key < 0 then descs ++ [d] else descs.set (ixS names key).toNat d
def normD (d : DescP) : DescP := (d.1, d.2.1, normF d.2.2)
def getP (names : List ByteArray) (descs : List DescP) (key : ByteArray) : Option DescP := if ixS names key < 0 then none else descs[(ixS names key).toNat]?
theorem putDs_len (names : List ByteArray) (descs : List DescP) (key : ByteArray) (d : DescP) : (putDs names descs key d).length ≤ descs.length + 1 := by unfold putDs; split <;> simp
theorem getO_pub {t : TreeP} (h : OInv t x) (key : ByteArray) : getO t x key = getP (keysOf t x) x.vals key := by
 have e : placeO t x.shape x.names key = if ixS (keysOf t x) key < 0 then -1 else ixS (keysOf t x) key := placePS h.ps key
 unfold getO getP
 rw [e]
 by_cases hk : ixS (keysOf t x) key < 0
 · rw [if_pos hk, if_pos hk, if_pos (by decide)]
 · rw [if_neg hk, if_neg hk]
theorem Same.pub {t : TreeP} {x x' : ObjL} (h : Same x x') : pubO t x' = ⟨x.kind, x.proto, x.shut, keysOf t x', x'.vals, x.elems, x.inner⟩ := by
 unfold pubO
 rw [h.kind, h.proto, h.shut, h.elems, h.inner]
structure PutR (H H' : HeapV) (F : HeapF) (n : Nat) (key : ByteArray) (d : DescP) (x x' : ObjL) : Prop where
  was : H.objs[n]? = some x
  now : H'.objs = H.objs.set n x'
  put : putS (H.V.abs F.T) x.ps key (normD d) = (H'.V.abs F.T, x'.ps)
  same : Same x x'
theorem hp_Get (h : HInv k H F) {w : Int} {o : ObjS} (h0 : objAt w (H.pub F).length = some n) (ho : (H.pub F)[n]? = some o) (key : ByteArray) :
   SC Tryd.prog W0 48 #[.pointer (some ⟨F.p, 0, none⟩), .int .u64 w, .string key] (H.ent F) (Ret (fun _ : Unit => H.ent F) (fun v _ => v = descR (getP o.names o.descs key))) := by
 rw [HeapV.pub_len] at h0
 obtain ⟨x, hx, rfl⟩ := pub_obj ho
 have := heap_Get_some (W0 := W0) h.ok h0 hx (h.obj hx) key
 rw [getO_pub (h.obj hx)] at this
 exact this
def dropNm (names : List ByteArray) (key : ByteArray) : List ByteArray := if ixS names key < 0 then names else names.eraseIdx (ixS names key).toNat
def dropDs (names : List ByteArray) (descs : List DescP) (key : ByteArray) : List DescP := if ixS names key < 0 then descs else descs.eraseIdx (ixS names key).toNat
end Go.Proofs.YthflblophelioaaDoor
namespace Go.Proofs.YthflblophelioaaDoor
open Go.Sl

end Go.Proofs.YthflblophelioaaDoor
namespace Go.Proofs.YthflblophelioaaDoor
open Go.Sl
theorem fl15_lt (f : Int) : ∃ k : Nat, k < 16 ∧ fl15 f = k := by
 unfold fl15
 have h : (BitVec.ofInt 64 f &&& BitVec.ofInt 64 15).toNat ≤ 15 := by
   rw [BitVec.toNat_and]
   exact Nat.and_le_right
 refine ⟨(BitVec.ofInt 64 f &&& BitVec.ofInt 64 15).toNat, by omega, ?_⟩
 exact IntWalk.i64_in _ (by omega)
def refF (f : Int) : Int := if fl15 f ≥ 8 then IntKind.wrap .i64 ((BitVec.ofInt 64 (fl15 f) &&& BitVec.ofInt 64 14).toNat) else fl15 f
theorem refF_norm (f : Int) : normF f = refF f := by
 obtain ⟨k, hk, e⟩ := fl15_lt f
 unfold normF refF
 rw [e]
 have : ∀ k : Fin 16, (if (IntKind.wrap .i64 ((BitVec.ofInt 64 ((k.val : Nat) : Int) &&& BitVec.ofInt 64 8).toNat) != 0) = true then IntKind.wrap .i64 ((BitVec.ofInt 64 ((k.val : Nat) : Int) &&& ~~~BitVec.ofInt 64 1).toNat) else ((k.val : Nat) : Int)) =
     if ((k.val : Nat) : Int) ≥ 8 then IntKind.wrap .i64 ((BitVec.ofInt 64 ((k.val : Nat) : Int) &&& BitVec.ofInt 64 14).toNat) else ((k.val : Nat) : Int) := by decide
 exact this ⟨k, hk⟩
end Go.Proofs.YthflblophelioaaDoor
namespace Go.Proofs.YthflblophelioaaDoor
open Go.Sl

end Go.Proofs.YthflblophelioaaDoor
namespace Go.Proofs.YthflblophelioaaDoor
open Go.Sl
variable {k : Nat} {H : HeapV} {F : HeapF} {n : Nat} {x : ObjL} {W0 : World}
def textP (texts : List ByteArray) (key : ByteArray) : List ByteArray × Int × Bool :=
 if 0 ≤ ixS texts key then (texts, txtW (ixS texts key).toNat, true)
 else if 4096 < key.size ∨ 16384 ≤ texts.length then (texts, 18445336698825998336, false) else (texts ++ [key], txtW texts.length, true)
theorem Known.ix {texts : List ByteArray} {known : List (ByteArray × Int)} (h : Known texts known) {key : ByteArray} : (∀ w, mget known key = some w → 0 ≤ ixS texts key ∧ w = txtW (ixS texts key).toNat) ∧ (mget known key = none → ixS texts key < 0) := by
 refine ⟨fun w hw => ?_, fun hn => ?_⟩
 · obtain ⟨i, h1, h2⟩ := h.to key w hw
   have h0 : 0 ≤ ixS texts key := by
     by_cases q : ixS texts key < 0
     · exact absurd (List.mem_of_getElem? h1) (ixS_none.1 q)
     · omega
   refine ⟨h0, ?_⟩
   have := h.back _ _ (ixS_some h0)
   rw [hw] at this
   exact Option.some.inj this
 · refine ixS_none.2 fun hm => ?_
   obtain ⟨i, hi⟩ := List.getElem?_of_mem hm
   rw [h.back i key hi] at hn
   cases hn
theorem Known.more {texts : List ByteArray} {known : List (ByteArray × Int)} (h : Known texts known) {key : ByteArray} (hn : mget known key = none) : Known (texts ++ [key]) (mset known key (txtW texts.length)) := by
 have hk := ixS_none.1 (h.ix.2 hn)
 refine ⟨fun s w hw => ?_, fun i s hs => ?_⟩
 · rw [mget_mset] at hw
   by_cases e : key = s
   · rw [if_pos e] at hw; cases hw; subst e
     exact ⟨texts.length, by simp, rfl⟩
   · rw [if_neg e] at hw
     obtain ⟨i, h1, h2⟩ := h.to s w hw
     exact ⟨i, by rw [List.getElem?_append_left (List.getElem?_eq_some_iff.1 h1).1]; exact h1, h2⟩
 · rw [mget_mset]
   by_cases hi : i < texts.length
   · rw [List.getElem?_append_left hi] at hs
     rw [if_neg (fun e => hk (by rw [e]; exact List.mem_of_getElem? hs))]
     exact h.back i s hs
   · rw [List.getElem?_append_right (by omega)] at hs
     have h1 := (List.getElem?_eq_some_iff.1 hs).1
     simp at h1
     have e : i = texts.length := by omega
     subst e
     simp at hs
     rw [if_pos hs]
theorem HInv.elems (h : HInv k H F) {o : ObjS} (ho : (H.pub F)[n]? = some o) : o.elems.length ≤ 4096 := by
 obtain ⟨x, hx, rfl⟩ := pub_obj ho
 exact h.ok.small x (List.mem_of_getElem? hx)
end Go.Proofs.YthflblophelioaaDoor
namespace Go.Proofs.YthflblophelioaaDoor
open Go.Sl

end Go.Proofs.YthflblophelioaaDoor
namespace Go.Proofs.YthflblophelioaaDoor
open Go.Sl

end Go.Proofs.YthflblophelioaaDoor
namespace Go.Proofs.YthflblophelioaaDoor
open Go.Sl

end Go.Proofs.YthflblophelioaaDoor
namespace Go.Proofs.YthflblophelioaaDoor
open Go.Sl
def protoW (l : List ObjS) (w : Int) : Int := match objAt w l.length with | some n => (match l[n]? with | some o => o.proto | none => 18445336698825998337) | none => 18445336698825998337
theorem protoW_none {l : List ObjS} {w : Int} (h : objAt w l.length = none) : protoW l w = 18445336698825998337 := by unfold protoW; rw [h]
theorem protoW_some {l : List ObjS} {w : Int} {n : Nat} {o : ObjS} (h : objAt w l.length = some n) (ho : l[n]? = some o) : protoW l w = o.proto := by unfold protoW; rw [h]; simp only []; rw [ho]
def upN (l : List ObjS) (p : Int) : Nat → Int
 | 0 => p
 | i + 1 => protoW l (upN l p i)
def hitP (l : List ObjS) (p w : Int) : Bool := (List.range (l.length + 1)).any (fun i => decide (upN l p i = w))
theorem hitP_iff {l : List ObjS} {p w : Int} : hitP l p w = true ↔ ∃ i, i ≤ l.length ∧ upN l p i = w := by
 unfold hitP
 rw [List.any_eq_true]
 constructor
 · rintro ⟨i, h1, h2⟩
   exact ⟨i, by have := List.mem_range.1 h1; omega, of_decide_eq_true h2⟩
 · rintro ⟨i, h1, h2⟩
   exact ⟨i, List.mem_range.2 (by omega), decide_eq_true h2⟩
abbrev ObjS.under (o : ObjS) (p : Int) : ObjS := ⟨o.kind, p, o.shut, o.names, o.descs, o.elems, o.inner⟩
def reproP (l : List ObjS) (w p : Int) : List ObjS := match objAt w l.length with
 | none => l
 | some n => match l[n]? with
   | none => l
   | some o => if (p ≠ 18445336698825998337 ∧ objAt p l.length = none) ∨ hitP l p w = true then l else l.set n (o.under p)
theorem reproP_none {l : List ObjS} {w p : Int} (h : objAt w l.length = none) : reproP l w p = l := by unfold reproP; rw [h]
theorem reproP_no {l : List ObjS} {w p : Int} (h : (p ≠ 18445336698825998337 ∧ objAt p l.length = none) ∨ hitP l p w = true) : reproP l w p = l := by
 unfold reproP
 cases objAt w l.length with
 | none => rfl
 | some n =>
   simp only []
   cases l[n]? with
   | none => rfl
   | some o => exact if_pos h
theorem reproP_yes {l : List ObjS} {w p : Int} {n : Nat} {o : ObjS} (h0 : objAt w l.length = some n) (ho : l[n]? = some o) (h1 : ¬ (p ≠ 18445336698825998337 ∧ objAt p l.length = none)) (h2 : hitP l p w = false) : reproP l w p = l.set n (o.under p) := by
 unfold reproP
 rw [h0]
 simp only []
 rw [ho]
 simp only []
 exact if_neg (fun q => q.elim h1 (by rw [h2]; decide))
abbrev protosOk (l : List ObjS) : Prop := ∀ o ∈ l, wordOk o.proto
variable {W0 : World} {R : RSt}
end Go.Proofs.YthflblophelioaaDoor
namespace Go.Proofs.YthflblophelioaaDoor
open Go.Sl

end Go.Proofs.YthflblophelioaaDoor
namespace Go.Proofs.YthflblophelioaaDoor
open Go.Sl
variable {k : Nat} {H : HeapV} {F : HeapF} {n : Nat} {x : ObjL} {W0 : World}
theorem objAt_inj {w v : Int} {len n : Nat} (h : objAt w len = some n) (k : objAt v len = some n) : w = v := by
 obtain ⟨h1, -⟩ := objAt_tag h
 obtain ⟨k1, -⟩ := objAt_tag k
 unfold tagOf at h1 k1
 split at h1 <;> split at k1 <;> first | (cases h1; done) | (cases k1; done) | skip
 have a := Option.some.inj h1
 have b := Option.some.inj k1
 omega
theorem objAt_null (len : Nat) : objAt 18445336698825998337 len = none := by
 unfold objAt tagOf
 rw [if_neg (by decide)]
theorem upN_null {l : List ObjS} {p : Int} {i : Nat} (h : objAt (upN l p i) l.length = none) : ∀ j, objAt (upN l p (i + j)) l.length = none
 | 0 => h
 | j + 1 => by
   show objAt (protoW l (upN l p (i + j))) l.length = none
   rw [protoW_none (upN_null h j)]
   exact objAt_null _
theorem upN_add {l : List ObjS} {p : Int} (i : Nat) : ∀ j, upN l p (i + j) = upN l (upN l p i) j
 | 0 => rfl
 | j + 1 => congrArg (protoW l) (upN_add i j)
theorem pigeon : ∀ (n : Nat) (f : Nat → Nat), (∀ i, i ≤ n → f i < n) → ∃ a b, a < b ∧ b ≤ n ∧ f a = f b
 | 0, f, h => absurd (h 0 (Nat.le_refl 0)) (Nat.not_lt_zero _)
 | n + 1, f, h => by
   by_cases hq : ∃ i, i ≤ n ∧ f i = f (n + 1)
   · obtain ⟨i, h1, h2⟩ := hq
     exact ⟨i, n + 1, by omega, Nat.le_refl _, h2⟩
   · have hne : ∀ i, i ≤ n → f i ≠ f (n + 1) := fun i hi e => hq ⟨i, hi, e⟩
     have hl := h (n + 1) (Nat.le_refl _)
     obtain ⟨a, b, h1, h2, h3⟩ := pigeon n (fun i => if f i = n then f (n + 1) else f i) (fun i hi => by
       have := h i (by omega)
       have := hne i hi
       show (if f i = n then f (n + 1) else f i) < n
       split <;> omega)
     have ha := hne a (by omega)
     have hb := hne b h2
     refine ⟨a, b, h1, by omega, ?_⟩
     split at h3 <;> split at h3 <;> omega
def Ends (l : List ObjS) (p : Int) : Prop := ∃ i, objAt (upN l p i) l.length = none
theorem Ends.bound {l : List ObjS} {p : Int} (h : Ends l p) : objAt (upN l p l.length) l.length = none := by
 apply Classical.byContradiction
 intro hc
 have hall : ∀ i, i ≤ l.length → ∃ m, objAt (upN l p i) l.length = some m := fun i hi => by
   cases q : objAt (upN l p i) l.length with
   | some m => exact ⟨m, rfl⟩
   | none =>
     refine absurd ?_ hc
     have := upN_null q (l.length - i)
     rwa [show i + (l.length - i) = l.length by omega] at this
 have hf : ∀ i, i ≤ l.length → (objAt (upN l p i) l.length).getD 0 < l.length := fun i hi => by
   obtain ⟨m, hm⟩ := hall i hi
   rw [hm]
   exact (objAt_tag hm).2
 obtain ⟨a, b, h1, h2, h3⟩ := pigeon l.length (fun i => (objAt (upN l p i) l.length).getD 0) hf
 obtain ⟨ma, ha⟩ := hall a (by omega)
 obtain ⟨mb, hb⟩ := hall b h2
 simp only [ha, hb, Option.getD_some] at h3
 subst h3
 have e : upN l p a = upN l p b := objAt_inj ha hb
 have hno : ∀ K, objAt (upN l p K) l.length ≠ none := by
   intro K
   induction K using Nat.strongRecOn with
   | _ K ih =>
     intro hK
     by_cases hl : K ≤ l.length
     · obtain ⟨m, hm⟩ := hall K hl
       rw [hm] at hK; cases hK
     · refine ih (a + (K - b)) (by omega) ?_
       rw [upN_add, e, ← upN_add, show b + (K - b) = K by omega]
       exact hK
 obtain ⟨i, hi⟩ := h
 exact hno i hi
structure SameM (x x' : ObjL) (p : Int) : Prop where
  kind : x'.kind = x.kind
  proto : x'.proto = p
  shut : x'.shut = x.shut
  elems : x'.elems = x.elems
  inner : x'.inner = x.inner
  cell : x'.cell = if 0 ≤ x.cell then -1 else x.cell
abbrev ObjL.noC (x : ObjL) : ObjL := ⟨x.kind, x.proto, x.shut, x.shape, x.ns, x.names, x.vs, x.vals, x.es, x.elems, x.is, x.inner, 0⟩
abbrev HeapV.reg (H : HeapV) (objs : List ObjL) (cs : Gs) (cl : List CellL) : HeapV := ⟨H.s, objs, H.ts, H.texts, H.known, H.V, cs, cl, H.br⟩
abbrev GdP := List Int × List PCell
def HeapV.gd (H : HeapV) : GdP := (H.objs.map ObjL.cell, H.cl.map CellL.abs)
def valP (l : List PCell) (n : Int) : Bool := if 0 ≤ n ∧ n < l.length then (match l[n.toNat]? with | some c => c.1 | none => false) else false
def guardF (l : List ObjS) : Nat → Int → GdP → GdP × Int
 | 0, _, g => (g, -1)
 | k + 1, w, g => match objAt w l.length with
   | none => (g, -1)
   | some n => match l[n]?, g.1[n]? with
     | some o, some c => if 0 ≤ c ∧ valP g.2 c = true then (g, c) else
       let r := guardF l k o.proto g
       ((r.1.1.set n r.1.2.length, mkP r.1.2 r.2), (r.1.2.length : Int))
     | _, _ => (g, -1)
theorem guardF_none {l : List ObjS} {w : Int} (h : objAt w l.length = none) (k : Nat) (g : GdP) : guardF l k w g = (g, -1) := by
 cases k with
 | zero => rfl
 | succ k => unfold guardF; rw [h]
theorem guardF_old {l : List ObjS} {w : Int} {n : Nat} {o : ObjS} {c : Int} {g : GdP} (h : objAt w l.length = some n) (ho : l[n]? = some o) (hc : g.1[n]? = some c) (hv : 0 ≤ c ∧ valP g.2 c = true) (k : Nat) : guardF l (k + 1) w g = (g, c) := by
 rw [guardF, h]
 simp only [ho, hc]
 rw [if_pos hv]
theorem guardF_new {l : List ObjS} {w : Int} {n : Nat} {o : ObjS} {c : Int} {g : GdP} (h : objAt w l.length = some n) (ho : l[n]? = some o) (hc : g.1[n]? = some c) (hv : ¬ (0 ≤ c ∧ valP g.2 c = true)) (k : Nat) :
   guardF l (k + 1) w g = (((guardF l k o.proto g).1.1.set n (guardF l k o.proto g).1.2.length, mkP (guardF l k o.proto g).1.2 (guardF l k o.proto g).2), ((guardF l k o.proto g).1.2.length : Int)) := by
 rw [guardF, h]
 simp only [ho, hc]
 rw [if_neg hv]
theorem mkP_len (l : List PCell) (n : Int) : (mkP l n).length = l.length + 1 := by
 unfold mkP
 by_cases h : 0 ≤ n ∧ n < l.length
 · rw [if_pos h, List.getElem?_eq_getElem (show n.toNat < l.length by omega)]; simp
 · rw [if_neg h]; simp
structure CB (l : List PCell) : Prop where
  abv : abv l ≤ l.length
  each : ∀ c ∈ l, c.2.length ≤ l.length
structure GuardR (F : HeapF) (H : HeapV) (k : Nat) (w : Int) (r : List ObjL × Gs × List CellL) : Prop where
  ok : (H.reg r.1 r.2.1 r.2.2).ok F
  same : r.1.map ObjL.noC = H.objs.map ObjL.noC
  out : (r.1.map ObjL.cell, r.2.2.map CellL.abs) = (guardF (H.pub F) k w H.gd).1
  len : r.2.2.length ≤ H.cl.length + k
  cb : CB (r.2.2.map CellL.abs)
theorem CB.at {l : List CellL} (h : CB (l.map CellL.abs)) : ∀ c ∈ l, c.above.length ≤ l.length := fun c hc => by
 have := h.each _ (List.mem_map_of_mem hc)
 rwa [List.length_map] at this
theorem GuardR.at {w : Int} {r : List ObjL × Gs × List CellL} (h : GuardR F H k w r) {i : Nat} {y : ObjL} (hy : H.objs[i]? = some y) : ∃ z, r.1[i]? = some z ∧ z.noC = y.noC := by
 have e := congrArg (fun l => l[i]?) h.same
 simp only [List.getElem?_map, hy, Option.map_some] at e
 cases hz : r.1[i]? with
 | none => rw [hz] at e; cases e
 | some z => rw [hz] at e; exact ⟨z, rfl, by simpa using e⟩
theorem HeapV.gd_at (hx : H.objs[n]? = some x) : H.gd.1[n]? = some x.cell := by simp [HeapV.gd, hx]
end Go.Proofs.YthflblophelioaaDoor
namespace Go.Proofs.YthflblophelioaaDoor
open Go.Sl

end Go.Proofs.YthflblophelioaaDoor
namespace Go.Proofs.YthflblophelioaaDoor
open Go.Sl

end Go.Proofs.YthflblophelioaaDoor
namespace Go.Proofs.YthflblophelioaaDoor
open Go.Sl

theorem heap_SetElem_none {W0 : World} {F : HeapF} {H : HeapV} (hH : H.ok F) {w : Int} (h0 : objAt w H.objs.length = none) (m wd : Int) : SC Tryd.prog W0 43 #[.pointer (some ⟨F.p, 0, none⟩), .int .u64 w, .int .i64 m, .int .u64 wd] (HeapV.ent H F) (Ret (fun _ : Unit => H.ent F) (fun v _ => v = .bool false)) := by
 refine SC_body (fn := Tryd.f43) (n := 44) Tryd.func43 rfl (by kernel_rfl) (ρ := [(0, pt F.p 0), (1, .int .u64 w), (2, .int .i64 m), (3, .int .u64 wd)]) rfl ?_
 refine SW_sig _ HeapV.eq0 ?_
 refine sr ?_
 refine os 1 ?_
 refine nq ?_
 refine sr ?_
 refine os 3 ?_
 refine tbp 12 (fun hg1 => ?_) (fun hg1 => ?_)
 ·replace hg1 : m < 0 := hg1
  refine os 18 ?_
  refine kp [30, 8, 0, 1, 2, 3] ?_
  refine nt ?_
  refine ct ?_
  refine sr ?_
  refine os 1 ?_
  refine nt ?_
  refine SW_ret (r_then ?_)
  refine body_end (.bool false) (fun _ => rfl) ?_
  exact ⟨(), HeapV.own, rfl⟩
 replace hg1 : ¬ (m < 0) := hg1
 refine os 4 ?_
 refine kp [16, 8, 0, 1, 2, 3] ?_
 refine tbp 16 (fun hg2 => ?_) (fun hg2 => ?_)
 ·replace hg2 : m ≥ 4096 := hg2
  refine os 14 ?_
  refine kp [30, 8, 0, 1, 2, 3] ?_
  refine nt ?_
  refine ct ?_
  refine sr ?_
  refine os 1 ?_
  refine nt ?_
  refine SW_ret (r_then ?_)
  refine body_end (.bool false) (fun _ => rfl) ?_
  exact ⟨(), HeapV.own, rfl⟩
 replace hg2 : ¬ (m ≥ 4096) := hg2
 refine os 3 ?_
 refine L (cl (heap_Len_none hH h0) ?_ (hp := HeapV.pm))
 rintro _ _ rfl
 refine SL_sig _ HeapV.eq ?_
 refine os 2 ?_
 refine pn 22 (show (decide (m ≥ 0)) = true from (by simp; omega)) ?_
 refine os 4 ?_
 refine kp [26, 24, 23, 22, 16, 8, 0, 1, 2, 3] ?_
 refine L (cl (heap_SetLen_none hH h0 (m + 1)) ?_ (hp := HeapV.pm))
 rintro _ _ rfl
 refine SL_sig _ HeapV.eq ?_
 refine oV (.bool true) ?_
 refine os 2 ?_
 refine kp [30, 8, 0, 1, 2, 3] ?_
 refine nt ?_
 refine ct ?_
 refine sr ?_
 refine os 1 ?_
 refine nt ?_
 refine SW_ret (r_then ?_)
 refine body_end (.bool false) (fun _ => rfl) ?_
 exact ⟨(), HeapV.own, rfl⟩

end Go.Proofs.YthflblophelioaaDoor
namespace Go.Proofs.YthflblophelioaaDoor
open Go.Sl

theorem heap_SetElem_bad {W0 : World} {F : HeapF} {H : HeapV} (hH : H.ok F) {w wd : Int} {m : Int} (hbad : ¬ (0 ≤ m ∧ m < 4096)) : SC Tryd.prog W0 43 #[.pointer (some ⟨F.p, 0, none⟩), .int .u64 w, .int .i64 m, .int .u64 wd] (HeapV.ent H F) (Ret (fun _ : Unit => H.ent F) (fun v _ => v = .bool false)) := by
 refine SC_body (fn := Tryd.f43) (n := 44) Tryd.func43 rfl (by kernel_rfl) (ρ := [(0, pt F.p 0), (1, .int .u64 w), (2, .int .i64 m), (3, .int .u64 wd)]) rfl ?_
 refine SW_sig _ HeapV.eq0 ?_
 refine sr ?_
 refine os 1 ?_
 refine nq ?_
 refine sr ?_
 refine os 3 ?_
 refine tbp 12 (fun hg1 => ?_) (fun hg1 => ?_)
 ·replace hg1 : m < 0 := hg1
  refine os 18 ?_
  refine kp [30, 8, 0, 1, 2, 3] ?_
  refine nt ?_
  refine ct ?_
  refine sr ?_
  refine os 1 ?_
  refine nt ?_
  refine SW_ret (r_then ?_)
  refine body_end (.bool false) (fun _ => rfl) ?_
  exact ⟨(), HeapV.own, rfl⟩
 replace hg1 : ¬ (m < 0) := hg1
 refine os 4 ?_
 refine kp [16, 8, 0, 1, 2, 3] ?_
 refine tbp 16 (fun hg2 => ?_) (fun hg2 => ?_)
 ·replace hg2 : m ≥ 4096 := hg2
  refine os 14 ?_
  refine kp [30, 8, 0, 1, 2, 3] ?_
  refine nt ?_
  refine ct ?_
  refine sr ?_
  refine os 1 ?_
  refine nt ?_
  refine SW_ret (r_then ?_)
  refine body_end (.bool false) (fun _ => rfl) ?_
  exact ⟨(), HeapV.own, rfl⟩
 replace hg2 : ¬ (m ≥ 4096) := hg2
 exact absurd (by omega) hbad

theorem heap_SetElem_fast {W0 : World} {F : HeapF} {H : HeapV} (hH : H.ok F) {w wd : Int} {n : Nat} {x : ObjL} (h0 : objAt w H.objs.length = some n) (hx : H.objs[n]? = some x) {k : Nat} (hB : H.bud k) (hk : k ≤ 8000000) {m : Nat} (hm4 : m < 4096) (hmx : m < x.elems.length) : SC Tryd.prog W0 43 #[.pointer (some ⟨F.p, 0, none⟩), .int .u64 w, .int .i64 (m : Int), .int .u64 wd] (HeapV.ent H F) (Ret (fun r : ObjL × List CellL × Int => (H.upd n r.1 H.V r.2.1 r.2.2).ent F) (fun v r => v = .bool true ∧ (H.upd n r.1 H.V r.2.1 r.2.2).ok F ∧ SameE x r.1 ((x.elems).set m wd) ∧ Chg x.cell H.cl r.2.1)) := by
 have hnl := (List.getElem?_eq_some_iff.1 hx).1
 refine SC_body (fn := Tryd.f43) (n := 44) Tryd.func43 rfl (by kernel_rfl) (ρ := [(0, pt F.p 0), (1, .int .u64 w), (2, .int .i64 (m : Int)), (3, .int .u64 wd)]) rfl ?_
 refine SW_sig _ HeapV.eq0 ?_
 refine sr ?_
 refine os 1 ?_
 refine nq ?_
 refine sr ?_
 refine os 3 ?_
 refine pn 12 (show (decide ((m : Int) < 0)) = false from (by simp <;> omega)) ?_
 refine os 4 ?_
 refine kp [16, 8, 0, 1, 2, 3] ?_
 refine pn 16 (show (decide ((m : Int) ≥ 4096)) = false from (by simp <;> omega)) ?_
 refine os 3 ?_
 refine L (cl (heap_Len_some hH h0 hx) ?_ (hp := HeapV.pm))
 rintro _ _ rfl
 refine SL_sig _ HeapV.eq ?_
 refine os 2 ?_
 refine pn 22 (show (decide ((m : Int) ≥ (x.elems.length : Int))) = false from (by simp <;> omega)) ?_
 refine os 8 ?_
 refine kp [30, 8, 0, 1, 2, 3] ?_
 refine nt ?_
 refine cf ?_
 refine SW_skip (n_then ?_)
 refine sr ?_
 refine os 2 ?_
 refine L (cl (heap_at hH w) ?_ (hp := HeapV.pm))
 rintro v2 _ hv2
 obtain rfl : v2 = pt (Gs.blk H.s) (n * 9) := hv2.trans (by rw [h0])
 refine SL_sig _ HeapV.eq ?_
 refine os 1 ?_
 refine kp [9, 30, 8, 0, 1, 2, 3] ?_
 refine nsr ?_
 refine os 2 ?_
 refine L (cl (heap_changed hH (n := n) hx hB hk) ?_ (hp := HeapV.pm))
 rintro _ ⟨cl1, br1⟩ ⟨rfl, hccl1, hchcl1⟩
 refine SL_sig _ HeapV.eq ?_
 have hH1 : HeapV.ok (HeapV.mk H.s (H.objs.set n (ObjL.chg x)) H.ts H.texts H.known H.V H.cs cl1 br1) F := hH.chg hx hccl1 br1
 refine nq ?_
 refine SW_perm _ (perm_cc (perm_ca perm_cz)) ?_
 refine SW_perm ((Gs.ent 9 1 x.ns (x.names.map encS)) ++ ((Gs.ent 41 3 x.vs (x.vals.flatMap descCells)) ++ ((Gs.ent 34 1 x.es (x.elems.map encU)) ++ ((Gs.ent 34 1 x.is (x.inner.map encU)) ++ (((List.eraseIdx (H.objs.set n (ObjL.chg x)) n).flatMap ObjL.ent) ++ ((F.p, .cells 54 6 [Gs.val H.s ((H.objs.set n (ObjL.chg x)).length), Gs.val H.ts H.texts.length, .map (some F.kb), pt F.T.p 0, pt F.cp 0, .int .i64 br1]) :: ((Gs.ent 61 9 H.s ((H.objs.set n (ObjL.chg x)).flatMap ObjL.cells)) ++ ((Gs.ent 9 1 H.ts (H.texts.map encS)) ++ ((F.kb, .map (kvs encS encU H.known)) :: ((TreeV.ent H.V F.T) ++ ((CellsL.ent (CellsL.mk F.cp H.cs cl1)) ++ ([])))))))))))) (obj_focus (get_set hx) _) ?_
 refine SW_region ?_
 refine os 3 ?_
 refine L (ld ?_ (hc := Gs.cell hH1.row (fun e he => (mem_a (mem_a (mem_a (mem_a (mem_a (mem_c (mem_h he)))))))) (flat_cell ObjL.len (get_set hx) (j := 6) (by decide) rfl)) (v := Gs.val x.es x.elems.length))
 refine os 2 ?_
 refine kp [42, 41, 40, 9, 30, 8, 0, 1, 2, 3] ?_
 refine L (ixg (m : Int) (m) (show Gs.ok 1 (x.elems).length x.es (x.elems.map encU) from (HeapV.ok.at (x := (ObjL.chg x)) hH1 (get_set hx)).es) Tryd.underlying59 ?_)
 obtain ⟨e1, he1⟩ : ∃ y_, x.elems[m]? = some y_ := ⟨_, List.getElem?_eq_getElem (by omega)⟩
 have hok1 := Gs.ok.relen (ys := ((x.elems.set m wd).map encU)) (show Gs.ok 1 (x.elems).length x.es (x.elems.map encU) from (HeapV.ok.at (x := (ObjL.chg x)) hH1 (get_set hx)).es) (by simp)
 refine SL_perm _ (perm_ca (perm_ca perm_cz)) ?_
 refine L (O_storeG (ys := ((x.elems.set m wd).map encU)) x.es (m) (.int .u64 wd) [.int .u64 wd] (Gs.ok.ne (show Gs.ok 1 (x.elems).length x.es (x.elems.map encU) from (HeapV.ok.at (x := (ObjL.chg x)) hH1 (get_set hx)).es) (by first | omega | (simp; omega))) (fun _ => rfl) (fun _ => rfl) rfl (by kernel_rfl) rfl (by simp; omega) (row_lay_map wd (by omega)) rfl ?_)
 refine nsr ?_
 refine os 1 ?_
 refine kp [8, 9, 30, 0, 1, 2, 3] ?_
 refine nt ?_
 have er : (H.objs.set n (ObjL.mk x.kind x.proto x.shut x.shape x.ns x.names x.vs x.vals x.es (x.elems.set m wd) x.is x.inner (if 0 ≤ x.cell then -1 else x.cell))).flatMap ObjL.cells = (H.objs.set n (ObjL.chg x)).flatMap ObjL.cells := set_cells (by simp [ObjL.cells])
 refine SW_sig ((Gs.ent 34 1 x.es ((x.elems.set m wd).map encU)) ++ ((Gs.ent 9 1 x.ns (x.names.map encS)) ++ ((Gs.ent 41 3 x.vs (x.vals.flatMap descCells)) ++ ((Gs.ent 34 1 x.is (x.inner.map encU)) ++ (((List.eraseIdx (H.objs.set n (ObjL.chg x)) n).flatMap ObjL.ent) ++ ((F.p, .cells 54 6 [Gs.val H.s ((H.objs.set n (ObjL.chg x)).length), Gs.val H.ts H.texts.length, .map (some F.kb), pt F.T.p 0, pt F.cp 0, .int .i64 br1]) :: ((Gs.ent 61 9 H.s ((H.objs.set n (ObjL.mk x.kind x.proto x.shut x.shape x.ns x.names x.vs x.vals x.es (x.elems.set m wd) x.is x.inner (if 0 ≤ x.cell then -1 else x.cell))).flatMap ObjL.cells)) ++ ((Gs.ent 9 1 H.ts (H.texts.map encS)) ++ ((F.kb, .map (kvs encS encU H.known)) :: ((TreeV.ent H.V F.T) ++ ((CellsL.ent (CellsL.mk F.cp H.cs cl1)) ++ ([])))))))))))) (by rw [er]) ?_
 refine SW_ret ?_
 refine body_end (.bool true) (fun _ => rfl) ?_
 refine ⟨((ObjL.mk x.kind x.proto x.shut x.shape x.ns x.names x.vs x.vals x.es (x.elems.set m wd) x.is x.inner (if 0 ≤ x.cell then -1 else x.cell)), cl1, br1), ?_, rfl, ?_, ⟨rfl, rfl, rfl, rfl, rfl, rfl, rfl, rfl, ?_, rfl, rfl, ?_⟩, hchcl1⟩
 · refine Own.trans (ow (S := ((F.p, .cells 54 6 [Gs.val H.s ((H.objs.set n (ObjL.chg x)).length), Gs.val H.ts H.texts.length, .map (some F.kb), pt F.T.p 0, pt F.cp 0, .int .i64 br1]) :: ((Gs.ent 61 9 H.s ((H.objs.set n (ObjL.mk x.kind x.proto x.shut x.shape x.ns x.names x.vs x.vals x.es (x.elems.set m wd) x.is x.inner (if 0 ≤ x.cell then -1 else x.cell))).flatMap ObjL.cells)) ++ ((Gs.ent 9 1 x.ns (x.names.map encS)) ++ ((Gs.ent 41 3 x.vs (x.vals.flatMap descCells)) ++ ((Gs.ent 34 1 x.es ((x.elems.set m wd).map encU)) ++ ((Gs.ent 34 1 x.is (x.inner.map encU)) ++ (((List.eraseIdx (H.objs.set n (ObjL.chg x)) n).flatMap ObjL.ent) ++ ((Gs.ent 9 1 H.ts (H.texts.map encS)) ++ ((F.kb, .map (kvs encS encU H.known)) :: ((TreeV.ent H.V F.T) ++ ((CellsL.ent (CellsL.mk F.cp H.cs cl1)) ++ ([])))))))))))))) (Own.of_perm ?_)
   have hb_ := HeapV.back (H := (HeapV.mk H.s (H.objs.set n (ObjL.chg x)) H.ts H.texts H.known H.V H.cs cl1 br1)) F (get_set hx) (ObjL.mk x.kind x.proto x.shut x.shape x.ns x.names x.vs x.vals x.es (x.elems.set m wd) x.is x.inner (if 0 ≤ x.cell then -1 else x.cell))
   simp only [HeapV.head, HeapV.put, List.set_set, List.length_set] at hb_ ⊢
   exact hb_
 · simpa only [HeapV.put, List.set_set, List.length_set] using HeapV.ok.put hH1 (get_set hx) (x' := (ObjL.mk x.kind x.proto x.shut x.shape x.ns x.names x.vs x.vals x.es (x.elems.set m wd) x.is x.inner (if 0 ≤ x.cell then -1 else x.cell))) ⟨(by first | exact (show Gs.ok 1 (x.names).length x.ns (x.names.map encS) from (HeapV.ok.at (x := (ObjL.chg x)) hH1 (get_set hx)).ns) | (simp only [List.length_set]; exact (show Gs.ok 1 (x.names).length x.ns (x.names.map encS) from (HeapV.ok.at (x := (ObjL.chg x)) hH1 (get_set hx)).ns))), (by first | exact (show Gs.ok 3 (x.vals).length x.vs (x.vals.flatMap descCells) from (HeapV.ok.at (x := (ObjL.chg x)) hH1 (get_set hx)).vs) | (simp only [List.length_set]; exact (show Gs.ok 3 (x.vals).length x.vs (x.vals.flatMap descCells) from (HeapV.ok.at (x := (ObjL.chg x)) hH1 (get_set hx)).vs))), (by first | exact hok1 | (simp only [List.length_set]; exact hok1)), (by first | exact (show Gs.ok 1 (x.inner).length x.is (x.inner.map encU) from (HeapV.ok.at (x := (ObjL.chg x)) hH1 (get_set hx)).is) | (simp only [List.length_set]; exact (show Gs.ok 1 (x.inner).length x.is (x.inner.map encU) from (HeapV.ok.at (x := (ObjL.chg x)) hH1 (get_set hx)).is)))⟩ (by simp only [List.length_set]; first | omega | exact hH.small x (List.mem_of_getElem? hx))
 · rfl
 · rfl

theorem heap_SetElem_slow {W0 : World} {F : HeapF} {H : HeapV} (hH : H.ok F) {w wd : Int} {n : Nat} {x : ObjL} (h0 : objAt w H.objs.length = some n) (hx : H.objs[n]? = some x) {k : Nat} (hB : H.bud k) (hk : k ≤ 8000000) {m : Nat} (hm4 : m < 4096) (hmx : x.elems.length ≤ m) : SC Tryd.prog W0 43 #[.pointer (some ⟨F.p, 0, none⟩), .int .u64 w, .int .i64 (m : Int), .int .u64 wd] (HeapV.ent H F) (Ret (fun r : ObjL × List CellL × Int => (H.upd n r.1 H.V r.2.1 r.2.2).ent F) (fun v r => v = .bool true ∧ (H.upd n r.1 H.V r.2.1 r.2.2).ok F ∧ SameE x r.1 ((setLenL x.elems (max x.elems.length (m + 1))).set m wd) ∧ Chg x.cell H.cl r.2.1)) := by
 have hnl := (List.getElem?_eq_some_iff.1 hx).1
 refine SC_body (fn := Tryd.f43) (n := 44) Tryd.func43 rfl (by kernel_rfl) (ρ := [(0, pt F.p 0), (1, .int .u64 w), (2, .int .i64 (m : Int)), (3, .int .u64 wd)]) rfl ?_
 refine SW_sig _ HeapV.eq0 ?_
 refine sr ?_
 refine os 1 ?_
 refine nq ?_
 refine sr ?_
 refine os 3 ?_
 refine pn 12 (show (decide ((m : Int) < 0)) = false from (by simp <;> omega)) ?_
 refine os 4 ?_
 refine kp [16, 8, 0, 1, 2, 3] ?_
 refine pn 16 (show (decide ((m : Int) ≥ 4096)) = false from (by simp <;> omega)) ?_
 refine os 3 ?_
 refine L (cl (heap_Len_some hH h0 hx) ?_ (hp := HeapV.pm))
 rintro _ _ rfl
 refine SL_sig _ HeapV.eq ?_
 refine os 2 ?_
 refine pn 22 (show (decide ((m : Int) ≥ (x.elems.length : Int))) = true from (by simp <;> omega)) ?_
 refine os 4 ?_
 refine kp [26, 24, 23, 22, 16, 8, 0, 1, 2, 3] ?_
 refine L (cl (heap_SetLen_long hH h0 hx hB hk (m := m + 1) (by omega) (by omega)) ?_ (hp := HeapV.pm))
 rintro _ ⟨eg1, cl1, br1⟩ ⟨rfl, hH1, hchcl1⟩
 refine SL_sig _ HeapV.eq ?_
 simp only [] at hH1 hchcl1
 have hB2 : HeapV.bud (HeapV.mk H.s (H.objs.set n ((ObjL.chg x).withElems eg1 (setLenL x.elems (m + 1)))) H.ts H.texts H.known H.V H.cs cl1 br1) k := by obtain ⟨b1, b2, b3⟩ := Chg.bud hchcl1 hB; exact ⟨fun y hy => by rcases List.mem_or_eq_of_mem_set hy with q | q; exact hB.vals y q; (subst q; exact hB.vals x (List.mem_of_getElem? hx)), b1, b2, b3⟩
 have h02 : objAt w (H.objs.set n ((ObjL.chg x).withElems eg1 (setLenL x.elems (m + 1)))).length = some n := by rw [List.length_set]; exact h0
 have hll := setLenL_len x.elems (m + 1)
 refine oV (.bool false) ?_
 refine os 2 ?_
 refine kp [30, 8, 0, 1, 2, 3] ?_
 refine nt ?_
 refine cf ?_
 refine SW_skip (n_then ?_)
 refine sr ?_
 refine os 2 ?_
 refine L (cl (heap_at hH1 w) ?_ (hp := HeapV.pm))
 rintro v3 _ hv3
 obtain rfl : v3 = pt (Gs.blk H.s) (n * 9) := hv3.trans (by rw [h02])
 refine SL_sig _ HeapV.eq ?_
 refine os 1 ?_
 refine kp [9, 30, 8, 0, 1, 2, 3] ?_
 refine nsr ?_
 refine os 2 ?_
 refine L (cl (heap_changed hH1 (n := n) (get_set hx) hB2 hk) ?_ (hp := HeapV.pm))
 rintro _ ⟨cl2, br2⟩ ⟨rfl, hccl2, hchcl2⟩
 refine SL_sig _ HeapV.eq ?_
 have hH2 : HeapV.ok (HeapV.mk H.s ((H.objs.set n ((ObjL.chg x).withElems eg1 (setLenL x.elems (m + 1)))).set n (ObjL.chg ((ObjL.chg x).withElems eg1 (setLenL x.elems (m + 1))))) H.ts H.texts H.known H.V H.cs cl2 br2) F := hH1.chg (get_set hx) hccl2 br2
 refine nq ?_
 refine SW_perm _ (perm_cc (perm_ca perm_cz)) ?_
 refine SW_perm ((Gs.ent 9 1 x.ns (x.names.map encS)) ++ ((Gs.ent 41 3 x.vs (x.vals.flatMap descCells)) ++ ((Gs.ent 34 1 eg1 ((setLenL x.elems (m + 1)).map encU)) ++ ((Gs.ent 34 1 x.is (x.inner.map encU)) ++ (((List.eraseIdx ((H.objs.set n ((ObjL.chg x).withElems eg1 (setLenL x.elems (m + 1)))).set n (ObjL.chg ((ObjL.chg x).withElems eg1 (setLenL x.elems (m + 1))))) n).flatMap ObjL.ent) ++ ((F.p, .cells 54 6 [Gs.val H.s (((H.objs.set n ((ObjL.chg x).withElems eg1 (setLenL x.elems (m + 1)))).set n (ObjL.chg ((ObjL.chg x).withElems eg1 (setLenL x.elems (m + 1))))).length), Gs.val H.ts H.texts.length, .map (some F.kb), pt F.T.p 0, pt F.cp 0, .int .i64 br2]) :: ((Gs.ent 61 9 H.s (((H.objs.set n ((ObjL.chg x).withElems eg1 (setLenL x.elems (m + 1)))).set n (ObjL.chg ((ObjL.chg x).withElems eg1 (setLenL x.elems (m + 1))))).flatMap ObjL.cells)) ++ ((Gs.ent 9 1 H.ts (H.texts.map encS)) ++ ((F.kb, .map (kvs encS encU H.known)) :: ((TreeV.ent H.V F.T) ++ ((CellsL.ent (CellsL.mk F.cp H.cs cl2)) ++ ([])))))))))))) (obj_focus (get_set (get_set hx)) _) ?_
 refine SW_region ?_
 refine os 3 ?_
 refine L (ld ?_ (hc := Gs.cell hH2.row (fun e he => (mem_a (mem_a (mem_a (mem_a (mem_a (mem_c (mem_h he)))))))) (flat_cell ObjL.len (get_set (get_set hx)) (j := 6) (by decide) rfl)) (v := Gs.val eg1 ((setLenL x.elems (m + 1)).length)))
 refine os 2 ?_
 refine kp [42, 41, 40, 9, 30, 8, 0, 1, 2, 3] ?_
 refine L (ixg (m : Int) (m) (show Gs.ok 1 ((setLenL x.elems (m + 1))).length eg1 ((setLenL x.elems (m + 1)).map encU) from (HeapV.ok.at (x := (ObjL.chg ((ObjL.chg x).withElems eg1 (setLenL x.elems (m + 1))))) hH2 (get_set (get_set hx))).es) Tryd.underlying59 ?_)
 obtain ⟨e1, he1⟩ : ∃ y_, (setLenL x.elems (m + 1))[m]? = some y_ := ⟨_, List.getElem?_eq_getElem (by omega)⟩
 have hok1 := Gs.ok.relen (ys := (((setLenL x.elems (m + 1)).set m wd).map encU)) (show Gs.ok 1 ((setLenL x.elems (m + 1))).length eg1 ((setLenL x.elems (m + 1)).map encU) from (HeapV.ok.at (x := (ObjL.chg ((ObjL.chg x).withElems eg1 (setLenL x.elems (m + 1))))) hH2 (get_set (get_set hx))).es) (by simp)
 refine SL_perm _ (perm_ca (perm_ca perm_cz)) ?_
 refine L (O_storeG (ys := (((setLenL x.elems (m + 1)).set m wd).map encU)) eg1 (m) (.int .u64 wd) [.int .u64 wd] (Gs.ok.ne (show Gs.ok 1 ((setLenL x.elems (m + 1))).length eg1 ((setLenL x.elems (m + 1)).map encU) from (HeapV.ok.at (x := (ObjL.chg ((ObjL.chg x).withElems eg1 (setLenL x.elems (m + 1))))) hH2 (get_set (get_set hx))).es) (by first | omega | (simp; omega))) (fun _ => rfl) (fun _ => rfl) rfl (by kernel_rfl) rfl (by simp; omega) (row_lay_map wd (by omega)) rfl ?_)
 refine nsr ?_
 refine os 1 ?_
 refine kp [8, 9, 30, 0, 1, 2, 3] ?_
 refine nt ?_
 have er : ((H.objs.set n ((ObjL.chg x).withElems eg1 (setLenL x.elems (m + 1)))).set n (ObjL.mk x.kind x.proto x.shut x.shape x.ns x.names x.vs x.vals eg1 ((setLenL x.elems (m + 1)).set m wd) x.is x.inner (if 0 ≤ ((ObjL.chg x).withElems eg1 (setLenL x.elems (m + 1))).cell then -1 else ((ObjL.chg x).withElems eg1 (setLenL x.elems (m + 1))).cell))).flatMap ObjL.cells = ((H.objs.set n ((ObjL.chg x).withElems eg1 (setLenL x.elems (m + 1)))).set n (ObjL.chg ((ObjL.chg x).withElems eg1 (setLenL x.elems (m + 1))))).flatMap ObjL.cells := set_cells (by simp [ObjL.cells])
 refine SW_sig ((Gs.ent 34 1 eg1 (((setLenL x.elems (m + 1)).set m wd).map encU)) ++ ((Gs.ent 9 1 x.ns (x.names.map encS)) ++ ((Gs.ent 41 3 x.vs (x.vals.flatMap descCells)) ++ ((Gs.ent 34 1 x.is (x.inner.map encU)) ++ (((List.eraseIdx ((H.objs.set n ((ObjL.chg x).withElems eg1 (setLenL x.elems (m + 1)))).set n (ObjL.chg ((ObjL.chg x).withElems eg1 (setLenL x.elems (m + 1))))) n).flatMap ObjL.ent) ++ ((F.p, .cells 54 6 [Gs.val H.s (((H.objs.set n ((ObjL.chg x).withElems eg1 (setLenL x.elems (m + 1)))).set n (ObjL.chg ((ObjL.chg x).withElems eg1 (setLenL x.elems (m + 1))))).length), Gs.val H.ts H.texts.length, .map (some F.kb), pt F.T.p 0, pt F.cp 0, .int .i64 br2]) :: ((Gs.ent 61 9 H.s (((H.objs.set n ((ObjL.chg x).withElems eg1 (setLenL x.elems (m + 1)))).set n (ObjL.mk x.kind x.proto x.shut x.shape x.ns x.names x.vs x.vals eg1 ((setLenL x.elems (m + 1)).set m wd) x.is x.inner (if 0 ≤ ((ObjL.chg x).withElems eg1 (setLenL x.elems (m + 1))).cell then -1 else ((ObjL.chg x).withElems eg1 (setLenL x.elems (m + 1))).cell))).flatMap ObjL.cells)) ++ ((Gs.ent 9 1 H.ts (H.texts.map encS)) ++ ((F.kb, .map (kvs encS encU H.known)) :: ((TreeV.ent H.V F.T) ++ ((CellsL.ent (CellsL.mk F.cp H.cs cl2)) ++ ([])))))))))))) (by rw [er]) ?_
 refine SW_ret ?_
 refine body_end (.bool true) (fun _ => rfl) ?_
 refine ⟨((ObjL.mk x.kind x.proto x.shut x.shape x.ns x.names x.vs x.vals eg1 ((setLenL x.elems (m + 1)).set m wd) x.is x.inner (if 0 ≤ ((ObjL.chg x).withElems eg1 (setLenL x.elems (m + 1))).cell then -1 else ((ObjL.chg x).withElems eg1 (setLenL x.elems (m + 1))).cell)), cl2, br2), ?_, rfl, ?_, ⟨rfl, rfl, rfl, rfl, rfl, rfl, rfl, rfl, ?_, rfl, rfl, ?_⟩, (by have q_ := hchcl2; unfold Chg at q_; rw [if_neg (show ¬ (0 : Int) ≤ (ObjL.cell _) from by show ¬ (0 : Int) ≤ (if 0 ≤ x.cell then -1 else x.cell); split <;> omega)] at q_; simp only [] at q_ ⊢; rw [q_]; exact hchcl1)⟩
 · refine Own.trans (ow (S := ((F.p, .cells 54 6 [Gs.val H.s (((H.objs.set n ((ObjL.chg x).withElems eg1 (setLenL x.elems (m + 1)))).set n (ObjL.chg ((ObjL.chg x).withElems eg1 (setLenL x.elems (m + 1))))).length), Gs.val H.ts H.texts.length, .map (some F.kb), pt F.T.p 0, pt F.cp 0, .int .i64 br2]) :: ((Gs.ent 61 9 H.s (((H.objs.set n ((ObjL.chg x).withElems eg1 (setLenL x.elems (m + 1)))).set n (ObjL.mk x.kind x.proto x.shut x.shape x.ns x.names x.vs x.vals eg1 ((setLenL x.elems (m + 1)).set m wd) x.is x.inner (if 0 ≤ ((ObjL.chg x).withElems eg1 (setLenL x.elems (m + 1))).cell then -1 else ((ObjL.chg x).withElems eg1 (setLenL x.elems (m + 1))).cell))).flatMap ObjL.cells)) ++ ((Gs.ent 9 1 x.ns (x.names.map encS)) ++ ((Gs.ent 41 3 x.vs (x.vals.flatMap descCells)) ++ ((Gs.ent 34 1 eg1 (((setLenL x.elems (m + 1)).set m wd).map encU)) ++ ((Gs.ent 34 1 x.is (x.inner.map encU)) ++ (((List.eraseIdx ((H.objs.set n ((ObjL.chg x).withElems eg1 (setLenL x.elems (m + 1)))).set n (ObjL.chg ((ObjL.chg x).withElems eg1 (setLenL x.elems (m + 1))))) n).flatMap ObjL.ent) ++ ((Gs.ent 9 1 H.ts (H.texts.map encS)) ++ ((F.kb, .map (kvs encS encU H.known)) :: ((TreeV.ent H.V F.T) ++ ((CellsL.ent (CellsL.mk F.cp H.cs cl2)) ++ ([])))))))))))))) (Own.of_perm ?_)
   have hb_ := HeapV.back (H := (HeapV.mk H.s ((H.objs.set n ((ObjL.chg x).withElems eg1 (setLenL x.elems (m + 1)))).set n (ObjL.chg ((ObjL.chg x).withElems eg1 (setLenL x.elems (m + 1))))) H.ts H.texts H.known H.V H.cs cl2 br2)) F (get_set (get_set hx)) (ObjL.mk x.kind x.proto x.shut x.shape x.ns x.names x.vs x.vals eg1 ((setLenL x.elems (m + 1)).set m wd) x.is x.inner (if 0 ≤ ((ObjL.chg x).withElems eg1 (setLenL x.elems (m + 1))).cell then -1 else ((ObjL.chg x).withElems eg1 (setLenL x.elems (m + 1))).cell))
   simp only [HeapV.head, HeapV.put, List.set_set, List.length_set] at hb_ ⊢
   exact hb_
 · simpa only [HeapV.put, List.set_set, List.length_set] using HeapV.ok.put hH2 (get_set (get_set hx)) (x' := (ObjL.mk x.kind x.proto x.shut x.shape x.ns x.names x.vs x.vals eg1 ((setLenL x.elems (m + 1)).set m wd) x.is x.inner (if 0 ≤ ((ObjL.chg x).withElems eg1 (setLenL x.elems (m + 1))).cell then -1 else ((ObjL.chg x).withElems eg1 (setLenL x.elems (m + 1))).cell))) ⟨(by first | exact (show Gs.ok 1 (x.names).length x.ns (x.names.map encS) from (HeapV.ok.at (x := (ObjL.chg ((ObjL.chg x).withElems eg1 (setLenL x.elems (m + 1))))) hH2 (get_set (get_set hx))).ns) | (simp only [List.length_set]; exact (show Gs.ok 1 (x.names).length x.ns (x.names.map encS) from (HeapV.ok.at (x := (ObjL.chg ((ObjL.chg x).withElems eg1 (setLenL x.elems (m + 1))))) hH2 (get_set (get_set hx))).ns))), (by first | exact (show Gs.ok 3 (x.vals).length x.vs (x.vals.flatMap descCells) from (HeapV.ok.at (x := (ObjL.chg ((ObjL.chg x).withElems eg1 (setLenL x.elems (m + 1))))) hH2 (get_set (get_set hx))).vs) | (simp only [List.length_set]; exact (show Gs.ok 3 (x.vals).length x.vs (x.vals.flatMap descCells) from (HeapV.ok.at (x := (ObjL.chg ((ObjL.chg x).withElems eg1 (setLenL x.elems (m + 1))))) hH2 (get_set (get_set hx))).vs))), (by first | exact hok1 | (simp only [List.length_set]; exact hok1)), (by first | exact (show Gs.ok 1 (x.inner).length x.is (x.inner.map encU) from (HeapV.ok.at (x := (ObjL.chg ((ObjL.chg x).withElems eg1 (setLenL x.elems (m + 1))))) hH2 (get_set (get_set hx))).is) | (simp only [List.length_set]; exact (show Gs.ok 1 (x.inner).length x.is (x.inner.map encU) from (HeapV.ok.at (x := (ObjL.chg ((ObjL.chg x).withElems eg1 (setLenL x.elems (m + 1))))) hH2 (get_set (get_set hx))).is)))⟩ (by simp only [List.length_set, setLenL_len]; first | omega | exact hH.small x (List.mem_of_getElem? hx))
 · rw [show max x.elems.length (m + 1) = m + 1 by omega]
 · show (if 0 ≤ (if 0 ≤ x.cell then -1 else x.cell) then -1 else (if 0 ≤ x.cell then -1 else x.cell)) = _; by_cases q_ : (0 : Int) ≤ x.cell <;> simp [q_]

end Go.Proofs.YthflblophelioaaDoor
namespace Go.Proofs.YthflblophelioaaDoor
open Go.Sl
variable {k : Nat} {H : HeapV} {F : HeapF} {n : Nat} {x : ObjL} {W0 : World}
def setElemL (l : List Int) (m : Int) (w : Int) : List Int := if 0 ≤ m ∧ m < 4096 then (setLenL l (max l.length (m.toNat + 1))).set m.toNat w else l
def setLenQ (l : List Int) (m : Int) : List Int := if 0 ≤ m ∧ m ≤ 4096 then setLenL l m.toNat else l
theorem SameE.inv {t : TreeP} {x x' : ObjL} {l : List Int} (h : SameE x x' l) (ho : OInv t x) : OInv t x' ∧ pubO t x' = ⟨x.kind, x.proto, x.shut, keysOf t x, x.vals, l, x.inner⟩ := by
 obtain ⟨kind, proto, shut, shape, ns, names, vs, vals, es, elems, is, inner, cell⟩ := x'
 obtain ⟨rfl, rfl, rfl, rfl, rfl, rfl, rfl, rfl, rfl, rfl, rfl, rfl⟩ := h
 exact ⟨⟨ho.fast, ho.len, ho.nodup, ho.stale⟩, rfl⟩
theorem setElemL_len (l : List Int) (m w : Int) (hl : l.length ≤ 4096) : (setElemL l m w).length = if 0 ≤ m ∧ m < 4096 then max l.length (m.toNat + 1) else l.length := by
 unfold setElemL
 split
 · rw [List.length_set, setLenL_len]
 · rfl
structure ElI (l : List Int) (w : Int) (i : Nat) (E : List Int) : Prop where
  len : E.length ≤ 4096
  laid : ∀ j m, j < i → l[j]? = some m → 0 ≤ m → m < 4096 → E[m.toNat]? = some w
theorem ElI.start (l : List Int) (w : Int) : ElI l w 0 [] := ⟨Nat.zero_le _, fun j m h => by omega⟩
theorem ElI.step {l : List Int} {w m : Int} {i : Nat} {E : List Int} (h : ElI l w i E) (hm : l[i]? = some m) : ElI l w (i + 1) (setElemL E m w) := by
 have hl := h.len
 refine ⟨by rw [setElemL_len E m w hl]; split <;> omega, fun j q hj hq h0 h1 => ?_⟩
 have hold : ∀ q : Int, E[q.toNat]? = some w → (setElemL E m w)[q.toNat]? = some w := fun q hq => by
   unfold setElemL
   split
   · by_cases e : m.toNat = q.toNat
     · rw [e, List.getElem?_set_self]
       have := (List.getElem?_eq_some_iff.1 hq).1
       rw [setLenL_len]; omega
     · rw [List.getElem?_set_ne e]
       have h2 := (List.getElem?_eq_some_iff.1 hq).1
       unfold setLenL
       rw [List.take_of_length_le (by omega), List.getElem?_append_left h2]; exact hq
   · exact hq
 by_cases e : j = i
 · subst e
   rw [hm] at hq; cases hq
   unfold setElemL
   rw [if_pos ⟨h0, h1⟩, List.getElem?_set_self]
   rw [setLenL_len]; omega
 · exact hold q (h.laid j q (by omega) hq h0 h1)
end Go.Proofs.YthflblophelioaaDoor
namespace Go.Proofs.YthflblophelioaaDoor
open Go.Sl
variable {k : Nat} {H : HeapV} {F : HeapF} {n : Nat} {x : ObjL} {W0 : World}
def modP (l : List ObjS) (w : Int) (f : ObjS → ObjS) : List ObjS := match objAt w l.length with
 | none => l
 | some n => match l[n]? with
   | none => l
   | some o => l.set n (f o)
theorem modP_none {l : List ObjS} {w : Int} {f : ObjS → ObjS} (h : objAt w l.length = none) : modP l w f = l := by unfold modP; rw [h]
theorem modP_some {l : List ObjS} {w : Int} {f : ObjS → ObjS} {n : Nat} {o : ObjS} (h : objAt w l.length = some n) (ho : l[n]? = some o) : modP l w f = l.set n (f o) := by
 unfold modP; rw [h]; simp only []; rw [ho]
theorem modP_len (l : List ObjS) (w : Int) (f : ObjS → ObjS) : (modP l w f).length = l.length := by
 unfold modP
 split
 · rfl
 · split
   · rfl
   · exact List.length_set
theorem obj_of {l : List ObjS} {w : Int} {n : Nat} (h : objAt w l.length = some n) : ∃ o, l[n]? = some o := ⟨_, List.getElem?_eq_getElem (objAt_tag h).2⟩
abbrev putO (key : ByteArray) (d : DescP) (o : ObjS) : ObjS := ⟨o.kind, o.proto, o.shut, putNm o.names key, putDs o.names o.descs key (normD d), o.elems, o.inner⟩
abbrev dropO (key : ByteArray) (o : ObjS) : ObjS := ⟨o.kind, o.proto, o.shut, dropNm o.names key, dropDs o.names o.descs key, o.elems, o.inner⟩
abbrev setO (m wd : Int) (o : ObjS) : ObjS := ⟨o.kind, o.proto, o.shut, o.names, o.descs, setElemL o.elems m wd, o.inner⟩
abbrev lenO (m : Int) (o : ObjS) : ObjS := ⟨o.kind, o.proto, o.shut, o.names, o.descs, setLenQ o.elems m, o.inner⟩
abbrev shutO (o : ObjS) : ObjS := ⟨o.kind, o.proto, true, o.names, o.descs, o.elems, o.inner⟩
abbrev innerO (l : List Int) (o : ObjS) : ObjS := ⟨o.kind, o.proto, o.shut, o.names, o.descs, o.elems, l⟩
def writeD (l : List DescP) (m wd : Int) : List DescP := if 0 ≤ m then (match l[m.toNat]? with | some d => l.set m.toNat (wd, d.2.1, d.2.2) | none => l) else l
abbrev writeO (m wd : Int) (o : ObjS) : ObjS := ⟨o.kind, o.proto, o.shut, o.names, writeD o.descs m wd, o.elems, o.inner⟩
def hasQ (l : List ObjS) (w : Int) (key : ByteArray) : Bool := match objAt w l.length with | none => false | some n => match l[n]? with | none => false | some o => decide (0 ≤ ixS o.names key)
def Touch (g g' : GdP) (n : Nat) : Prop := ∃ c, g.1[n]? = some c ∧ g'.1 = g.1.set n (if 0 ≤ c then -1 else c) ∧ (if 0 ≤ c then Broke g.2 g'.2 c else g'.2 = g.2)
def GdC (g g' : GdP) (on : Option Nat) (must : Prop) : Prop := (¬ must ∧ g' = g) ∨ ∃ n, on = some n ∧ Touch g g' n
theorem touch_upd (hx : H.objs[n]? = some x) {x' : ObjL} {V : TreeV} {cl : List CellL} {br : Int} (hc : x'.cell = if 0 ≤ x.cell then -1 else x.cell) (hg : Chg x.cell H.cl cl) : Touch H.gd (H.upd n x' V cl br).gd n := by
 refine ⟨x.cell, HeapV.gd_at hx, ?_, ?_⟩
 · show (H.objs.set n x').map ObjL.cell = (H.objs.map ObjL.cell).set n _
   rw [List.map_set, hc]
 · unfold Chg at hg
   by_cases h : 0 ≤ x.cell
   · rw [if_pos h] at hg ⊢; exact hg
   · rw [if_neg h] at hg ⊢; show cl.map CellL.abs = _; rw [hg]; rfl
structure Stp (k : Nat) (H H' : HeapV) (F : HeapF) (l : List ObjS) (t : List ByteArray) (w : Int) (must : Prop) : Prop where
  inv : HInv k H' F
  pub : H'.pub F = l
  texts : H'.texts = t
  gd : GdC H.gd H'.gd (objAt w (H.pub F).length) must
theorem Stp.same (h : HInv k H F) {l : List ObjS} (hl : H.pub F = l) (w : Int) {must : Prop} (hm : ¬ must) : Stp k H H F l H.texts w must := ⟨h, hl, rfl, .inl ⟨hm, rfl⟩⟩
theorem hq_Put (hk : k ≤ 8000000) (h : HInv k H F) (w : Int) (key : ByteArray) (d : DescP) :
   SC Tryd.prog W0 44 #[.pointer (some ⟨F.p, 0, none⟩), .int .u64 w, .string key, descV d] (H.ent F)
   (Ret (fun H' : HeapV => H'.ent F) (fun v H' => v = .tuple #[] ∧ Stp (k + 1) H H' F (modP (H.pub F) w (putO key d)) H.texts w (objAt w (H.pub F).length ≠ none))) := by
 cases h0 : objAt w (H.pub F).length with
 | none =>
   rw [modP_none h0]
   refine SC.ret (heap_Put_none h.ok (by rw [← HeapV.pub_len H F]; exact h0) key d) fun v _ hv => ⟨H, rfl, hv, Stp.same (h.mono (by omega)) rfl w (by simp)⟩
 | some n =>
   obtain ⟨o, ho⟩ := obj_of h0
   rw [modP_some h0 ho]
   have h1 := h0
   rw [HeapV.pub_len] at h0
   obtain ⟨x, hx, rfl⟩ := pub_obj ho
   have ho' := h.obj hx
   refine SC.ret (heap_Put_some h.ok h0 hx ho' h.bud hk key d) fun v r ⟨g1, h2, h3, h4, h5⟩ => ⟨_, rfl, g1, ?_⟩
   have p := putS_put h.tree ho'.ps key (normD d)
   rw [show putS (H.V.abs F.T) x.ps key (normD d) = _ from h4] at p
   simp only [] at p
   have hi : OInv (r.2.1.abs F.T) r.1 := PInv.obj (by rw [h3.proto, h3.kind]; exact p.obj)
   have hvl : r.1.vals = putDs (keysOf (H.V.abs F.T) x) x.vals key (normD d) := p.vals
   have hkl : keysOf (r.2.1.abs F.T) r.1 = putNm (keysOf (H.V.abs F.T) x) key := p.keys
   obtain ⟨a, b⟩ := h.upd hx (Nat.le_succ k) h2 p.inv p.ext hi (by rw [hvl]; have := putDs_len (keysOf (H.V.abs F.T) x) x.vals key (normD d); have := h.bud.vals x (List.mem_of_getElem? hx); omega) (by rw [h3.inner]; exact h.in' hx) h5
   exact ⟨a, by rw [b, h3.pub, hkl, hvl]; rfl, rfl, .inr ⟨n, h1, touch_upd hx h3.cell h5⟩⟩
end Go.Proofs.YthflblophelioaaDoor
namespace Go.Proofs.YthflblophelioaaDoor
open Go.Sl
variable {k : Nat} {H : HeapV} {F : HeapF} {n : Nat} {x : ObjL} {W0 : World}
def setQ (l : List ObjS) (w m : Int) : Bool := decide (0 ≤ m ∧ m < 4096) && (objAt w l.length).isSome
def lenQ (l : List ObjS) (w m : Int) : Bool := decide (0 ≤ m ∧ m ≤ 4096) && (objAt w l.length).isSome
theorem hq_SetElem (hk : k ≤ 8000000) (h : HInv k H F) (w m wd : Int) :
   SC Tryd.prog W0 43 #[.pointer (some ⟨F.p, 0, none⟩), .int .u64 w, .int .i64 m, .int .u64 wd] (H.ent F)
   (Ret (fun H' : HeapV => H'.ent F) (fun v H' => v = .bool (setQ (H.pub F) w m) ∧ Stp k H H' F (modP (H.pub F) w (setO m wd)) H.texts w False)) := by
 cases h0 : objAt w (H.pub F).length with
 | none =>
   rw [modP_none h0, show setQ (H.pub F) w m = false from by unfold setQ; rw [h0]; simp]
   exact SC.ret (heap_SetElem_none h.ok (by rw [← HeapV.pub_len H F]; exact h0) m wd) fun v _ hv => ⟨H, rfl, hv, Stp.same h rfl w (by simp)⟩
 | some n =>
   obtain ⟨o, ho⟩ := obj_of h0
   rw [modP_some h0 ho, show setQ (H.pub F) w m = decide (0 ≤ m ∧ m < 4096) from by unfold setQ; rw [h0]; simp]
   have h1 := h0
   rw [HeapV.pub_len] at h0
   obtain ⟨x, hx, rfl⟩ := pub_obj ho
   have ho' := h.obj hx
   by_cases hm : 0 ≤ m ∧ m < 4096
   · obtain ⟨q, rfl⟩ := Int.eq_ofNat_of_zero_le hm.1
     have e1 : setElemL (pubO (H.V.abs F.T) x).elems (q : Int) wd = (setLenL x.elems (max x.elems.length (q + 1))).set q wd := by unfold setElemL; rw [if_pos hm]; rfl
     rw [decide_eq_true hm]
     have hr : SC Tryd.prog W0 43 #[.pointer (some ⟨F.p, 0, none⟩), .int .u64 w, .int .i64 (q : Int), .int .u64 wd] (H.ent F) (Ret (fun r : ObjL × List CellL × Int => (H.upd n r.1 H.V r.2.1 r.2.2).ent F) (fun v r => v = .bool true ∧ (H.upd n r.1 H.V r.2.1 r.2.2).ok F ∧ SameE x r.1 ((setLenL x.elems (max x.elems.length (q + 1))).set q wd) ∧ Chg x.cell H.cl r.2.1)) := by
       by_cases hl : q < x.elems.length
       · have e2 : setLenL x.elems (max x.elems.length (q + 1)) = x.elems := by rw [show max x.elems.length (q + 1) = x.elems.length by omega]; exact setLenL_self _
         rw [e2]
         exact heap_SetElem_fast h.ok h0 hx h.bud hk (by omega) hl
       · exact heap_SetElem_slow h.ok h0 hx h.bud hk (by omega) (by omega)
     refine SC.ret hr fun v r ⟨g1, h2, h3, h4⟩ => ⟨_, rfl, g1, ?_⟩
     obtain ⟨i1, i2⟩ := h3.inv ho'
     obtain ⟨a, b⟩ := h.upd hx (Nat.le_refl k) h2 h.tree (Ext.refl _) i1 (by rw [h3.vals]; exact h.bud.vals x (List.mem_of_getElem? hx)) (by rw [h3.inner]; exact h.in' hx) h4
     exact ⟨a, by rw [b, i2, show setO (q : Int) wd (pubO (H.V.abs F.T) x) = _ from by unfold setO; rw [e1]]; rfl, rfl, .inr ⟨n, h1, touch_upd hx h3.cell h4⟩⟩
   · have e1 : setElemL (pubO (H.V.abs F.T) x).elems m wd = (pubO (H.V.abs F.T) x).elems := by unfold setElemL; rw [if_neg hm]
     rw [decide_eq_false hm]
     exact SC.ret (heap_SetElem_bad h.ok hm) fun v _ hv => ⟨H, rfl, hv, Stp.same h (by rw [show setO m wd (pubO (H.V.abs F.T) x) = pubO (H.V.abs F.T) x from by unfold setO; rw [e1]]; exact (set_same ho).symm) w (by simp)⟩
theorem hq_SetLen (hk : k ≤ 8000000) (h : HInv k H F) (w m : Int) :
   SC Tryd.prog W0 59 #[.pointer (some ⟨F.p, 0, none⟩), .int .u64 w, .int .i64 m] (H.ent F)
   (Ret (fun H' : HeapV => H'.ent F) (fun v H' => v = .bool (lenQ (H.pub F) w m) ∧ Stp k H H' F (modP (H.pub F) w (lenO m)) H.texts w False)) := by
 cases h0 : objAt w (H.pub F).length with
 | none =>
   rw [modP_none h0, show lenQ (H.pub F) w m = false from by unfold lenQ; rw [h0]; simp]
   exact SC.ret (heap_SetLen_none h.ok (by rw [← HeapV.pub_len H F]; exact h0) m) fun v _ hv => ⟨H, rfl, hv, Stp.same h rfl w (by simp)⟩
 | some n =>
   obtain ⟨o, ho⟩ := obj_of h0
   rw [modP_some h0 ho, show lenQ (H.pub F) w m = decide (0 ≤ m ∧ m ≤ 4096) from by unfold lenQ; rw [h0]; simp]
   have h1 := h0
   rw [HeapV.pub_len] at h0
   obtain ⟨x, hx, rfl⟩ := pub_obj ho
   have ho' := h.obj hx
   by_cases hm : 0 ≤ m ∧ m ≤ 4096
   · obtain ⟨q, rfl⟩ := Int.eq_ofNat_of_zero_le hm.1
     have e1 : setLenQ (pubO (H.V.abs F.T) x).elems (q : Int) = setLenL x.elems q := by unfold setLenQ; rw [if_pos hm]; rfl
     rw [decide_eq_true hm]
     have hr : SC Tryd.prog W0 59 #[.pointer (some ⟨F.p, 0, none⟩), .int .u64 w, .int .i64 (q : Int)] (H.ent F) (Ret (fun r : Gs × List CellL × Int => (H.upd n ((ObjL.chg x).withElems r.1 (setLenL x.elems q)) H.V r.2.1 r.2.2).ent F) (fun v r => v = .bool true ∧ (H.upd n ((ObjL.chg x).withElems r.1 (setLenL x.elems q)) H.V r.2.1 r.2.2).ok F ∧ Chg x.cell H.cl r.2.1)) := by
       by_cases hl : q ≤ x.elems.length
       · exact heap_SetLen_short h.ok h0 hx h.bud hk (by omega) hl
       · exact heap_SetLen_long h.ok h0 hx h.bud hk (by omega) (by omega)
     refine SC.ret hr fun v r ⟨g1, h2, h3⟩ => ⟨_, rfl, g1, ?_⟩
     obtain ⟨a, b⟩ := h.upd hx (x' := (ObjL.chg x).withElems r.1 (setLenL x.elems q)) (Nat.le_refl k) h2 h.tree (Ext.refl _) ⟨ho'.fast, ho'.len, ho'.nodup, ho'.stale⟩ (show x.vals.length ≤ k from h.bud.vals x (List.mem_of_getElem? hx)) (show x.inner.length ≤ 1048576 from h.in' hx) h3
     exact ⟨a, by rw [b, show lenO (q : Int) (pubO (H.V.abs F.T) x) = _ from by unfold lenO; rw [e1]]; rfl, rfl, .inr ⟨n, h1, touch_upd hx rfl h3⟩⟩
   · have e1 : setLenQ (pubO (H.V.abs F.T) x).elems m = (pubO (H.V.abs F.T) x).elems := by unfold setLenQ; rw [if_neg hm]
     rw [decide_eq_false hm]
     exact SC.ret (heap_SetLen_bad h.ok h0 hx hm) fun v _ hv => ⟨H, rfl, hv, Stp.same h (by rw [show lenO m (pubO (H.V.abs F.T) x) = pubO (H.V.abs F.T) x from by unfold lenO; rw [e1]]; exact (set_same ho).symm) w (by simp)⟩
instance (l : List ObjS) (kind proto : Int) : Decidable (mayP l kind proto) := by unfold mayP; exact inferInstance
abbrev newS (kind proto : Int) : ObjS := ⟨kind, proto, false, [], [], [], []⟩
def makeL (l : List ObjS) (kind proto : Int) : List ObjS := if mayP l kind proto then l ++ [newS kind proto] else l
def makeV (l : List ObjS) (kind proto : Int) : Int × Bool := if mayP l kind proto then (objW l.length, true) else (18445336698825998336, false)
theorem hq_Make (h : HInv k H F) (kind proto : Int) : SC Tryd.prog W0 11 #[.pointer (some ⟨F.p, 0, none⟩), .int .i64 kind, .int .u64 proto] (H.ent F)
   (Ret (fun H' : HeapV => H'.ent F) (fun v H' => v = .tuple #[.int .u64 (makeV (H.pub F) kind proto).1, .bool (makeV (H.pub F) kind proto).2] ∧ HInv k H' F ∧ H'.pub F = makeL (H.pub F) kind proto ∧ H'.texts = H.texts ∧
     H'.gd = (if mayP (H.pub F) kind proto then (H.gd.1 ++ [-1], H.gd.2) else H.gd))) := by
 unfold makeV makeL
 by_cases hm : mayP (H.pub F) kind proto
 · rw [if_pos hm, if_pos hm, if_pos hm]
   refine SC.ret (hi_Make h (mayP_iff.1 hm)) fun v r ⟨h1, h2, h3, m, ok, h4, h5⟩ => ⟨_, rfl, by rw [HeapV.pub_len]; exact h1, h2, h3, rfl, ?_⟩
   show ((H.objs ++ [_]).map ObjL.cell, _) = _
   rw [List.map_append]; rfl
 · rw [if_neg hm, if_neg hm, if_neg hm]
   exact SC.ret (heap_Make_no h.ok (fun q => hm (mayP_iff.2 q))) fun v _ hv => ⟨H, rfl, hv, h, rfl, rfl, rfl⟩
end Go.Proofs.YthflblophelioaaDoor
namespace Go.Proofs.YthflblophelioaaDoor
open Go.Sl
variable {k : Nat} {H : HeapV} {F : HeapF} {R : RSt} {n : Nat} {W0 : World}
structure LOk (k : Nat) (l : List ObjS) : Prop where
  len : l.length ≤ 65536
  same : ∀ o ∈ l, o.names.length = o.descs.length
  descs : ∀ o ∈ l, o.descs.length ≤ k
  elems : ∀ o ∈ l, o.elems.length ≤ 4096
theorem HInv.lok (h : HInv k H F) : LOk k (H.pub F) := by
 refine ⟨by rw [HeapV.pub_len]; exact h.ok.objs, fun o ho => ?_, fun o ho => ?_, fun o ho => ?_⟩ <;> obtain ⟨x, hx, rfl⟩ := List.mem_map.1 ho
 · exact (h.objs x hx).len
 · exact h.bud.vals x hx
 · exact h.ok.small x hx
end Go.Proofs.YthflblophelioaaDoor
namespace Go.Proofs.YthflblophelioaaDoor
open Go.Sl
def Val (l : List PCell) (c : Int) : Prop := 0 ≤ c ∧ ∃ e, l[c.toNat]? = some e ∧ e.1 = true
theorem valP_iff {l : List PCell} {c : Int} : valP l c = true ↔ Val l c := by
 unfold valP Val
 by_cases h : 0 ≤ c ∧ c < l.length
 · rw [if_pos h, List.getElem?_eq_getElem (show c.toNat < l.length by omega)]
   simp [h.1]
 · rw [if_neg h]
   refine ⟨fun q => absurd q (by decide), fun ⟨h0, e, he, _⟩ => absurd ⟨h0, ?_⟩ h⟩
   have := (List.getElem?_eq_some_iff.1 he).1
   omega
theorem Val.lt {l : List PCell} {c : Int} (h : Val l c) : c < l.length := by
 obtain ⟨h0, e, he, _⟩ := h
 have := (List.getElem?_eq_some_iff.1 he).1
 omega
structure GInv (l : List ObjS) (g : GdP) : Prop where
  len : g.1.length = l.length
  lt : ∀ (n : Nat) c, g.1[n]? = some c → c < g.2.length
  alt : ∀ (i : Nat) e j, g.2[i]? = some e → j ∈ e.2 → j < g.2.length
  inj : ∀ (n m : Nat) c, g.1[n]? = some c → g.1[m]? = some c → 0 ≤ c → n = m
  link : ∀ (n : Nat) o c, l[n]? = some o → g.1[n]? = some c → Val g.2 c → objAt o.proto l.length = none ∨ ∃ m d e, objAt o.proto l.length = some m ∧ g.1[m]? = some d ∧ Val g.2 d ∧ g.2[d.toNat]? = some e ∧ c ∈ e.2
  edge : ∀ (i : Nat) e j, g.2[i]? = some e → j ∈ e.2 → Val g.2 j → ∃ (n : Nat) (o : ObjS) (m : Nat), l[n]? = some o ∧ g.1[n]? = some j ∧ objAt o.proto l.length = some m ∧ g.1[m]? = some (i : Int)
theorem GInv.nil : GInv [] ([], []) := ⟨rfl, fun n c h => by simp at h, fun i e j h => by simp at h, fun n m c h => by simp at h, fun n o c h => by simp at h, fun i e j h => by simp at h⟩
theorem Broke.get {l l' : List PCell} {n : Int} (h : Broke l l' n) {i : Nat} {e : PCell} (he : l[i]? = some e) : ∃ e', l'[i]? = some e' ∧ e'.2 = e.2 := by
 have := congrArg (fun l => l[i]?) h.shape
 simp only [List.getElem?_map, he, Option.map_some] at this
 cases q : l'[i]? with
 | none => rw [q] at this; cases this
 | some e' => rw [q] at this; exact ⟨e', rfl, by simpa using this⟩
theorem Broke.len {l l' : List PCell} {n : Int} (h : Broke l l' n) : l'.length = l.length := by have := congrArg List.length h.shape; simpa using this
theorem Broke.back {l l' : List PCell} {n : Int} (h : Broke l l' n) {i : Nat} {e' : PCell} (he : l'[i]? = some e') : ∃ e, l[i]? = some e ∧ e'.2 = e.2 := by
 have := congrArg (fun l => l[i]?) h.shape
 simp only [List.getElem?_map, he, Option.map_some] at this
 cases q : l[i]? with
 | none => rw [q] at this; cases this
 | some e => rw [q] at this; exact ⟨e, rfl, by simpa using this⟩
theorem Broke.val {l l' : List PCell} {n c : Int} (h : Broke l l' n) (hv : Val l' c) : Val l c := by
 obtain ⟨h0, e', he, h1⟩ := hv
 obtain ⟨e, he2, _⟩ := h.back he
 exact ⟨h0, e, he2, h.less _ _ _ he2 he h1⟩
theorem Broke.not {l l' : List PCell} {n : Int} (h : Broke l l' n) (h0 : 0 ≤ n) : ¬ Val l' n := fun ⟨_, e, he, h1⟩ => by rw [h.it h0 e he] at h1; cases h1
theorem Broke.up {l l' : List PCell} {n d c : Int} (h : Broke l l' n) {e : PCell} (he : l[d.toNat]? = some e) (hd : Val l d) (hn : ¬ Val l' d) (hc : c ∈ e.2) : ¬ Val l' c := fun ⟨c0, ec, hec, hc1⟩ => by
 obtain ⟨e', he', _⟩ := h.get he
 obtain ⟨d0, e2, he2, hv⟩ := hd
 rw [he] at he2; cases he2
 have hf : e'.1 = false := by
   cases q : e'.1 with
   | false => rfl
   | true => exact absurd ⟨d0, e', he', q⟩ hn
 have := h.all _ _ _ he he' hv hf c hc c0 ec hec
 rw [this] at hc1; cases hc1
theorem GInv.touch {l l' : List ObjS} {g g' : GdP} {n : Nat} (h : GInv l g) (hT : Touch g g' n) (hl : l'.length = l.length)
   (hp : ∀ (m : Nat) o', l'[m]? = some o' → ∃ o, l[m]? = some o ∧ (m ≠ n → o'.proto = o.proto)) : GInv l' g' := by
 have hp' : ∀ (m : Nat) o, l[m]? = some o → ∃ o', l'[m]? = some o' ∧ (m ≠ n → o'.proto = o.proto) := fun m o ho => by
   have hm := (List.getElem?_eq_some_iff.1 ho).1
   obtain ⟨o2, h1, h2⟩ := hp m l'[m] (List.getElem?_eq_getElem (by omega))
   rw [ho] at h1; cases h1
   exact ⟨_, List.getElem?_eq_getElem (by omega), h2⟩
 obtain ⟨c, hc, h1, h2⟩ := hT
 have hnl := (List.getElem?_eq_some_iff.1 hc).1
 by_cases h0 : 0 ≤ c
 · rw [if_pos h0] at h1 h2
   have hget : ∀ (m : Nat), m ≠ n → g'.1[m]? = g.1[m]? := fun m hm => by rw [h1, List.getElem?_set_ne (fun q => hm q.symm)]
   have hgn : g'.1[n]? = some (-1) := by rw [h1, List.getElem?_set_self hnl]
   have hno : ∀ (m : Nat) d, g'.1[m]? = some d → 0 ≤ d → m ≠ n := fun m d hd d0 q => by subst q; rw [hgn] at hd; cases hd; omega
   have hcv := h2.not h0
   refine ⟨by rw [h1, List.length_set, hl]; exact h.len, fun m d hd => ?_, fun i e j he hj => ?_, fun m1 m2 d hd1 hd2 d0 => ?_, fun m o d ho hd hv => ?_, fun i e' j he hj hv => ?_⟩
   · rw [h2.len]
     by_cases q : m = n
     · subst q; rw [hgn] at hd; cases hd
       have := h.lt _ _ hc; omega
     · rw [hget m q] at hd; exact h.lt m d hd
   · obtain ⟨e2, he2, q⟩ := h2.back he
     rw [h2.len]; rw [q] at hj
     exact h.alt i e2 j he2 hj
   · have q1 := hno m1 d hd1 d0
     have q2 := hno m2 d hd2 d0
     rw [hget _ q1] at hd1; rw [hget _ q2] at hd2
     exact h.inj m1 m2 d hd1 hd2 d0
   · have q1 := hno m d hd hv.1
     rw [hget m q1] at hd
     obtain ⟨o2, ho2, hpr⟩ := hp m o ho
     rw [hpr q1, hl]
     rcases h.link m o2 d ho2 hd (h2.val hv) with q | ⟨m2, d2, e, a1, a2, a3, a4, a5⟩
     · exact .inl q
     · have hv2 : Val g'.2 d2 := Classical.byContradiction fun q => h2.up a4 a3 q a5 hv
       have hm2 : m2 ≠ n := fun q => by subst q; rw [hc] at a2; cases a2; exact hcv hv2
       obtain ⟨e', he', q'⟩ := h2.get a4
       exact .inr ⟨m2, d2, e', a1, by rw [hget m2 hm2]; exact a2, hv2, he', by rw [q']; exact a5⟩
   · obtain ⟨e, he2, q⟩ := h2.back he
     rw [q] at hj
     have hvj := h2.val hv
     obtain ⟨m, o, m2, a1, a2, a3, a4⟩ := h.edge i e j he2 hj hvj
     have q1 : m ≠ n := fun z => by subst z; rw [hc] at a2; cases a2; exact hcv hv
     have hvi : Val g.2 (i : Int) := by
       rcases h.link m o j a1 a2 hvj with z | ⟨m3, d3, e3, b1, b2, b3, b4, b5⟩
       · rw [a3] at z; cases z
       · rw [a3] at b1; cases b1; rw [a4] at b2; cases b2; exact b3
     have hvi2 : Val g'.2 (i : Int) := Classical.byContradiction fun z => h2.up (by simpa using he2) hvi z hj hv
     have q2 : m2 ≠ n := fun z => by subst z; rw [hc] at a4; cases a4; exact hcv hvi2
     obtain ⟨o', ho', hpr⟩ := hp' m o a1
     exact ⟨m, o', m2, ho', by rw [hget m q1]; exact a2, by rw [hpr q1, hl]; exact a3, by rw [hget m2 q2]; exact a4⟩
 · rw [if_neg h0] at h1 h2
   rw [set_same hc] at h1
   have e : g' = g := Prod.ext h1 h2
   subst e
   have hno : ∀ (m : Nat) d, g'.1[m]? = some d → 0 ≤ d → m ≠ n := fun m d hd d0 q => by subst q; rw [hc] at hd; cases hd; omega
   refine ⟨by rw [hl]; exact h.len, h.lt, h.alt, h.inj, fun m o d ho hd hv => ?_, fun i e' j he hj hv => ?_⟩
   · obtain ⟨o2, ho2, hpr⟩ := hp m o ho
     rw [hpr (hno m d hd hv.1), hl]
     exact h.link m o2 d ho2 hd hv
   · obtain ⟨m, o, m2, a1, a2, a3, a4⟩ := h.edge i e' j he hj hv
     obtain ⟨o', ho', hpr⟩ := hp' m o a1
     exact ⟨m, o', m2, ho', a2, by rw [hpr (hno m j a2 hv.1), hl]; exact a3, a4⟩
theorem Touch.mono {g g' : GdP} {n : Nat} (hT : Touch g g' n) {c : Int} (hv : Val g'.2 c) : Val g.2 c := by
 obtain ⟨d, hd, h1, h2⟩ := hT
 by_cases h0 : 0 ≤ d
 · rw [if_pos h0] at h2; exact h2.val hv
 · rw [if_neg h0] at h2; rw [h2] at hv; exact hv
theorem GInv.reach {l : List ObjS} {g : GdP} (h : GInv l g) {a j : Int} (hr : Reach g.2 a j) : ∀ (q : Int) (nq : Nat), objAt q l.length = some nq → g.1[nq]? = some j → Val g.2 j → ∃ i nn, objAt (upN l q i) l.length = some nn ∧ g.1[nn]? = some a := by
 induction hr with
 | refl => intro q nq hq hc hv; exact ⟨0, nq, hq, hc⟩
 | @step i0 j0 e hr0 h0 he hj ih =>
   intro q nq hq hc hv
   obtain ⟨n1, o, m, a1, a2, a3, a4⟩ := h.edge i0.toNat e j0 he hj hv
   have hn : n1 = nq := h.inj n1 nq j0 a2 hc hv.1
   subst hn
   rw [Int.toNat_of_nonneg h0] at a4
   have hvi : Val g.2 i0 := by
     rcases h.link n1 o j0 a1 a2 hv with z | ⟨m3, d3, e3, b1, b2, b3, b4, b5⟩
     · rw [a3] at z; cases z
     · rw [a3] at b1; cases b1; rw [a4] at b2; cases b2; exact b3
   obtain ⟨i, nn, b1, b2⟩ := ih o.proto m a3 a4 hvi
   refine ⟨1 + i, nn, ?_, b2⟩
   rw [upN_add, show upN l q 1 = protoW l q from rfl, protoW_some hq a1]
   exact b1
theorem Touch.keep {g g' : GdP} {n np : Nat} (hT : Touch g g' n) {c : Int} (hc : g.1[np]? = some c) (hv : Val g'.2 c) : g'.1[np]? = some c := by
 obtain ⟨d, hd, h1, h2⟩ := hT
 have hnl := (List.getElem?_eq_some_iff.1 hd).1
 by_cases q : np = n
 · subst q
   rw [hc] at hd; cases hd
   rw [if_pos hv.1] at h2
   exact absurd hv (h2.not hv.1)
 · rw [h1, List.getElem?_set_ne (fun z => q z.symm)]; exact hc
end Go.Proofs.YthflblophelioaaDoor
namespace Go.Proofs.YthflblophelioaaDoor
open Go.Sl
theorem no_loop {l : List ObjS} {w : Int} {n : Nat} (h0 : objAt w l.length = some n) (hE : Ends l w) (j : Nat) : objAt (upN l w (j + 1)) l.length ≠ some n := by
 intro h
 have e : upN l w (j + 1) = w := objAt_inj h h0
 have hno : ∀ K, objAt (upN l w K) l.length ≠ none := by
   intro K
   induction K using Nat.strongRecOn with
   | _ K ih =>
     intro hK
     by_cases hl : K ≤ j + 1
     · have := upN_null hK (j + 1 - K)
       rw [show K + (j + 1 - K) = j + 1 by omega, h] at this
       cases this
     · refine ih (K - (j + 1)) (by omega) ?_
       have e2 : upN l w K = upN l (upN l w (j + 1)) (K - (j + 1)) := by rw [← upN_add]; congr 1; omega
       rw [e2, e] at hK
       exact hK
 obtain ⟨i, hi⟩ := hE
 exact hno i hi
theorem mkP_get {l : List PCell} {on : Int} (hon : on = -1 ∨ Val l on) : (mkP l on)[l.length]? = some (true, []) ∧
   (∀ (i : Nat) e, l[i]? = some e → ∃ e', (mkP l on)[i]? = some e' ∧ e'.1 = e.1 ∧ ((i : Int) = on → e'.2 = e.2 ++ [(l.length : Int)]) ∧ ((i : Int) ≠ on → e'.2 = e.2)) := by
 unfold mkP
 rcases hon with rfl | hv
 · rw [if_neg (by omega)]
   refine ⟨by simp, fun i e he => ⟨e, ?_, rfl, fun q => by omega, fun _ => rfl⟩⟩
   rw [List.getElem?_append_left (List.getElem?_eq_some_iff.1 he).1]; exact he
 · have hlt := hv.lt
   obtain ⟨h0, c, hc, hc1⟩ := hv
   rw [if_pos ⟨h0, hlt⟩, hc]
   simp only []
   refine ⟨by rw [List.getElem?_append_right (by simp), List.length_set, Nat.sub_self, hc1]; rfl, fun i e he => ?_⟩
   have hi := (List.getElem?_eq_some_iff.1 he).1
   by_cases q : on.toNat = i
   · subst q
     rw [hc] at he; cases he
     refine ⟨(c.1, c.2 ++ [(l.length : Int)]), ?_, rfl, fun _ => rfl, fun z => absurd (Int.toNat_of_nonneg h0) z⟩
     rw [List.getElem?_append_left (by simpa using hi), List.getElem?_set_self hi]
   · refine ⟨e, ?_, rfl, fun z => absurd (by omega) q, fun _ => rfl⟩
     rw [List.getElem?_append_left (by simpa using hi), List.getElem?_set_ne q]; exact he
theorem mkP_val {l : List PCell} {on : Int} (hon : on = -1 ∨ Val l on) (j : Int) : Val (mkP l on) j ↔ (Val l j ∨ j = l.length) := by
 obtain ⟨g1, g2⟩ := mkP_get hon
 constructor
 · rintro ⟨h0, e', he, h1⟩
   have hl := (List.getElem?_eq_some_iff.1 he).1
   rw [mkP_len] at hl
   by_cases q : j.toNat < l.length
   · obtain ⟨e2, a1, a2, _⟩ := g2 j.toNat l[j.toNat] (List.getElem?_eq_getElem q)
     rw [he] at a1; cases a1
     exact .inl ⟨h0, _, List.getElem?_eq_getElem q, by rw [← a2]; exact h1⟩
   · exact .inr (by omega)
 · rintro (⟨h0, e, he, h1⟩ | rfl)
   · obtain ⟨e2, a1, a2, _⟩ := g2 _ e he
     exact ⟨h0, e2, a1, by rw [a2]; exact h1⟩
   · exact ⟨by omega, _, by simpa using g1, rfl⟩
theorem mkP_back {l : List PCell} {on : Int} (hon : on = -1 ∨ Val l on) {i : Nat} {e' : PCell} (he : (mkP l on)[i]? = some e') : (i = l.length ∧ e'.2 = []) ∨ ∃ e, l[i]? = some e ∧ (e'.2 = e.2 ∨ ((i : Int) = on ∧ e'.2 = e.2 ++ [(l.length : Int)])) := by
 obtain ⟨g1, g2⟩ := mkP_get hon
 have hl := (List.getElem?_eq_some_iff.1 he).1
 rw [mkP_len] at hl
 by_cases q : i < l.length
 · obtain ⟨e2, a1, a2, a3, a4⟩ := g2 i l[i] (List.getElem?_eq_getElem q)
   rw [he] at a1; cases a1
   refine .inr ⟨_, List.getElem?_eq_getElem q, ?_⟩
   by_cases z : (i : Int) = on
   · exact .inr ⟨z, a3 z⟩
   · exact .inl (a4 z)
 · have : i = l.length := by omega
   subst this
   rw [g1] at he; cases he
   exact .inl ⟨rfl, rfl⟩
structure Grow (g g' : GdP) : Prop where
  len : g.2.length ≤ g'.2.length
  val : ∀ c : Int, c < g.2.length → (Val g'.2 c ↔ Val g.2 c)
  keep : ∀ (n : Nat) (c : Int), g.1[n]? = some c → Val g.2 c → g'.1[n]? = some c
theorem Grow.refl (g : GdP) : Grow g g := ⟨Nat.le_refl _, fun c _ => Iff.rfl, fun n c h _ => h⟩
theorem Grow.trans {g g' g2 : GdP} (h : Grow g g') (k : Grow g' g2) : Grow g g2 := ⟨Nat.le_trans h.len k.len, fun c hc => (k.val c (by have := h.len; omega)).trans (h.val c hc), fun n c hn hv => k.keep n c (h.keep n c hn hv) ((h.val c hv.lt).2 hv)⟩
theorem GInv.make {l : List ObjS} {g : GdP} (h : GInv l g) {n : Nat} {o : ObjS} {c on : Int} (ho : l[n]? = some o) (hc : g.1[n]? = some c) (hv : ¬ Val g.2 c)
   (hp : (objAt o.proto l.length = none ∧ on = -1) ∨ ∃ m, objAt o.proto l.length = some m ∧ m ≠ n ∧ g.1[m]? = some on ∧ Val g.2 on) :
   GInv l (g.1.set n g.2.length, mkP g.2 on) ∧ Grow g (g.1.set n g.2.length, mkP g.2 on) := by
 have hon : on = -1 ∨ Val g.2 on := by rcases hp with ⟨_, q⟩ | ⟨_, _, _, _, q⟩; exact .inl q; exact .inr q
 have hnl := (List.getElem?_eq_some_iff.1 hc).1
 have hV := mkP_val hon
 obtain ⟨g1, g2⟩ := mkP_get hon
 have hs : (g.1.set n (g.2.length : Int))[n]? = some (g.2.length : Int) := List.getElem?_set_self hnl
 have ht : ∀ (m : Nat), m ≠ n → (g.1.set n (g.2.length : Int))[m]? = g.1[m]? := fun m hm => List.getElem?_set_ne (fun q => hm q.symm)
 have hfresh : ∀ (m : Nat) d, g.1[m]? = some d → d ≠ g.2.length := fun m d hd => by have := h.lt m d hd; omega
 have hold : ∀ (m : Nat) d, (g.1.set n (g.2.length : Int))[m]? = some d → m ≠ n → Val (mkP g.2 on) d → Val g.2 d := fun m d hd hm hvd => by
   rw [ht m hm] at hd
   rcases (hV d).1 hvd with q | q
   · exact q
   · exact absurd q (hfresh m d hd)
 refine ⟨⟨by show (g.1.set n _).length = _; rw [List.length_set]; exact h.len, fun m d hd => ?_, fun i e' j he hj => ?_, fun m1 m2 d hd1 hd2 d0 => ?_, fun m o1 d ho1 hd hvd => ?_, fun i e' j he hj hvj => ?_⟩, by show _ ≤ (mkP g.2 on).length; rw [mkP_len]; omega, fun d hd => ?_, fun m d hd hvd => ?_⟩
 · show d < (mkP g.2 on).length
   rw [mkP_len]
   by_cases q : m = n
   · subst q; rw [hs] at hd; cases hd; omega
   · rw [ht m q] at hd; have := h.lt m d hd; omega
 · show j < (mkP g.2 on).length
   rw [mkP_len]
   rcases mkP_back hon he with ⟨_, q⟩ | ⟨e, he2, q | ⟨_, q⟩⟩
   · rw [q] at hj; cases hj
   · rw [q] at hj; have := h.alt i e j he2 hj; omega
   · rw [q] at hj
     rcases List.mem_append.1 hj with z | z
     · have := h.alt i e j he2 z; omega
     · have := List.mem_singleton.1 z; omega
 · by_cases q1 : m1 = n
   · by_cases q2 : m2 = n
     · rw [q1, q2]
     · subst q1; rw [hs] at hd1; cases hd1; rw [ht m2 q2] at hd2; exact absurd rfl (hfresh m2 _ hd2)
   · by_cases q2 : m2 = n
     · subst q2; rw [hs] at hd2; cases hd2; rw [ht m1 q1] at hd1; exact absurd rfl (hfresh m1 _ hd1)
     · rw [ht m1 q1] at hd1; rw [ht m2 q2] at hd2; exact h.inj m1 m2 d hd1 hd2 d0
 · by_cases q : m = n
   · subst q
     rw [hs] at hd; cases hd
     rw [ho] at ho1; cases ho1
     rcases hp with ⟨a, _⟩ | ⟨m2, a1, a2, a3, a4⟩
     · exact .inl a
     · obtain ⟨b0, e, be, b1⟩ := id a4
       obtain ⟨e', c1, c2, c3, _⟩ := g2 _ e be
       refine .inr ⟨m2, on, e', a1, by show (g.1.set m _)[m2]? = _; rw [ht m2 a2]; exact a3, (hV on).2 (.inl a4), c1, ?_⟩
       rw [c3 (Int.toNat_of_nonneg b0)]; simp
   · have hvd2 := hold m d hd q hvd
     rw [ht m q] at hd
     rcases h.link m o1 d ho1 hd hvd2 with z | ⟨m2, d2, e, a1, a2, a3, a4, a5⟩
     · exact .inl z
     · have hm2 : m2 ≠ n := fun z => by subst z; rw [hc] at a2; cases a2; exact hv a3
       obtain ⟨e', c1, c2, c3, c4⟩ := g2 _ e a4
       refine .inr ⟨m2, d2, e', a1, by show (g.1.set n _)[m2]? = _; rw [ht m2 hm2]; exact a2, (hV d2).2 (.inl a3), c1, ?_⟩
       by_cases z : ((d2.toNat : Nat) : Int) = on
       · rw [c3 z]; exact List.mem_append_left _ a5
       · rw [c4 z]; exact a5
 · have main : ∀ e, g.2[i]? = some e → j ∈ e.2 → ∃ (n1 : Nat) (o1 : ObjS) (m1 : Nat), l[n1]? = some o1 ∧ (g.1.set n (g.2.length : Int))[n1]? = some j ∧ objAt o1.proto l.length = some m1 ∧ (g.1.set n (g.2.length : Int))[m1]? = some (i : Int) := fun e he2 hj2 => by
     have hj3 : Val g.2 j := by
       rcases (hV j).1 hvj with z | z
       · exact z
       · have := h.alt i e j he2 hj2; omega
     obtain ⟨n1, o1, m1, a1, a2, a3, a4⟩ := h.edge i e j he2 hj2 hj3
     have q1 : n1 ≠ n := fun z => by subst z; rw [hc] at a2; cases a2; exact hv hj3
     have hvi : Val g.2 (i : Int) := by
       rcases h.link n1 o1 j a1 a2 hj3 with z | ⟨m3, d3, e3, b1, b2, b3, b4, b5⟩
       · rw [a3] at z; cases z
       · rw [a3] at b1; cases b1; rw [a4] at b2; cases b2; exact b3
     have q2 : m1 ≠ n := fun z => by subst z; rw [hc] at a4; cases a4; exact hv hvi
     exact ⟨n1, o1, m1, a1, by rw [ht n1 q1]; exact a2, a3, by rw [ht m1 q2]; exact a4⟩
   rcases mkP_back hon he with ⟨_, q⟩ | ⟨e, he2, q | ⟨z, q⟩⟩
   · rw [q] at hj; cases hj
   · rw [q] at hj; exact main e he2 hj
   · rw [q] at hj
     rcases List.mem_append.1 hj with y | y
     · exact main e he2 y
     · have hjn := List.mem_singleton.1 y
       subst hjn
       rcases hp with ⟨a, b⟩ | ⟨m2, a1, a2, a3, a4⟩
       · omega
       · exact ⟨n, o, m2, ho, hs, a1, by show (g.1.set n _)[m2]? = _; rw [ht m2 a2, z]; exact a3⟩
 · rw [hV d]
   exact ⟨fun q => q.elim id (fun z => absurd hd (by omega)), .inl⟩
 · show (g.1.set n _)[m]? = _
   have hm : m ≠ n := fun z => by subst z; rw [hc] at hd; cases hd; exact hv hvd
   rw [ht m hm]; exact hd
theorem guardF_ok {l : List ObjS} : ∀ (K : Nat) (w : Int) (g : GdP), GInv l g → objAt (upN l w K) l.length = none →
   GInv l (guardF l K w g).1 ∧ Grow g (guardF l K w g).1 ∧ (objAt w l.length = none → (guardF l K w g).2 = -1) ∧ (∀ n, objAt w l.length = some n → (guardF l K w g).1.1[n]? = some (guardF l K w g).2 ∧ Val (guardF l K w g).1.2 (guardF l K w g).2) ∧
   (∀ i, (∀ j, objAt (upN l w j) l.length ≠ some i) → (guardF l K w g).1.1[i]? = g.1[i]?)
 | K, w, g, h, he => by
   cases h0 : objAt w l.length with
   | none => rw [guardF_none h0]; exact ⟨h, Grow.refl g, fun _ => rfl, fun n hn => (by cases hn), fun i _ => rfl⟩
   | some n =>
     have hl := (objAt_tag h0).2
     have ho : l[n]? = some l[n] := List.getElem?_eq_getElem hl
     have hcl : n < g.1.length := by rw [h.len]; exact hl
     have hc : g.1[n]? = some g.1[n] := List.getElem?_eq_getElem hcl
     have hE : Ends l w := ⟨K, he⟩
     cases K with
     | zero => rw [show upN l w 0 = w from rfl, h0] at he; cases he
     | succ K =>
       have hpp : upN l w 1 = l[n].proto := protoW_some h0 ho
       by_cases hv : 0 ≤ g.1[n] ∧ valP g.2 g.1[n] = true
       · rw [guardF_old h0 ho hc hv]
         refine ⟨h, Grow.refl g, fun q => (by cases q), fun m hm => ?_, fun i _ => rfl⟩
         cases hm
         exact ⟨hc, valP_iff.1 hv.2⟩
       · rw [guardF_new h0 ho hc hv]
         have hv2 : ¬ Val g.2 g.1[n] := fun q => hv ⟨q.1, valP_iff.2 q⟩
         have he2 : objAt (upN l l[n].proto K) l.length = none := by
           rw [show K + 1 = 1 + K by omega, upN_add, hpp] at he; exact he
         obtain ⟨a1, a2, a3, a4, a5⟩ := guardF_ok K l[n].proto g h he2
         have hnl : ∀ j, objAt (upN l l[n].proto j) l.length ≠ some n := fun j => by
           have := no_loop h0 hE j
           rwa [show j + 1 = 1 + j by omega, upN_add, hpp] at this
         have hc1 := (a5 n hnl).trans hc
         have hv3 : ¬ Val (guardF l K l[n].proto g).1.2 g.1[n] := fun q => hv2 ((a2.val _ (h.lt n _ hc)).1 q)
         have hp : (objAt l[n].proto l.length = none ∧ (guardF l K l[n].proto g).2 = -1) ∨ ∃ m, objAt l[n].proto l.length = some m ∧ m ≠ n ∧ (guardF l K l[n].proto g).1.1[m]? = some (guardF l K l[n].proto g).2 ∧ Val (guardF l K l[n].proto g).1.2 (guardF l K l[n].proto g).2 := by
           cases hq : objAt l[n].proto l.length with
           | none => exact .inl ⟨rfl, a3 hq⟩
           | some m =>
             obtain ⟨b1, b2⟩ := a4 m hq
             exact .inr ⟨m, rfl, fun z => hnl 0 (by rw [show upN l l[n].proto 0 = l[n].proto from rfl, hq, z]), b1, b2⟩
         obtain ⟨m1, m2⟩ := a1.make ho hc1 hv3 hp
         have hon : (guardF l K l[n].proto g).2 = -1 ∨ Val (guardF l K l[n].proto g).1.2 (guardF l K l[n].proto g).2 := by
           rcases hp with ⟨_, q⟩ | ⟨_, _, _, _, q⟩
           · exact .inl q
           · exact .inr q
         refine ⟨m1, a2.trans m2, fun q => (by cases q), fun m hm => ?_, fun i hi => ?_⟩
         · cases hm
           exact ⟨List.getElem?_set_self (List.getElem?_eq_some_iff.1 hc1).1, (mkP_val hon _).2 (.inr rfl)⟩
         · have hne : i ≠ n := fun z => hi 0 (by rw [show upN l w 0 = w from rfl, h0, z])
           show ((guardF l K l[n].proto g).1.1.set n _)[i]? = _
           rw [List.getElem?_set_ne (fun z => hne z.symm)]
           exact a5 i fun j => by have := hi (1 + j); rwa [upN_add, hpp] at this
def ProtosIn (l : List ObjS) : Prop := ∀ o ∈ l, o.proto = 18445336698825998337 ∨ objAt o.proto l.length ≠ none
theorem objAt_more {w : Int} {a b n : Nat} (h : objAt w a = some n) (hab : a ≤ b) : objAt w b = some n := by
 obtain ⟨h1, h2⟩ := objAt_tag h
 unfold objAt
 rw [h1]
 simp only []
 rw [if_pos (by omega)]
theorem ProtosIn.more {l : List ObjS} (h : ProtosIn l) {o : ObjS} (ho : o ∈ l) {b : Nat} (hb : l.length ≤ b) : objAt o.proto b = objAt o.proto l.length := by
 rcases h o ho with q | q
 · rw [q, objAt_null, objAt_null]
 · cases z : objAt o.proto l.length with
   | none => exact absurd z q
   | some n => exact objAt_more z hb
theorem GInv.grow {l : List ObjS} {g : GdP} (h : GInv l g) (hP : ProtosIn l) (o : ObjS) : GInv (l ++ [o]) (g.1 ++ [-1], g.2) := by
 have hget : ∀ (m : Nat) d, (g.1 ++ [-1])[m]? = some d → 0 ≤ d → g.1[m]? = some d := fun m d hd d0 => by
   by_cases q : m < g.1.length
   · rwa [List.getElem?_append_left q] at hd
   · rw [List.getElem?_append_right (by omega)] at hd
     have := List.mem_of_getElem? hd
     rw [List.mem_singleton] at this; omega
 have hput : ∀ (m : Nat) d, g.1[m]? = some d → (g.1 ++ [-1])[m]? = some d := fun m d hd => by rw [List.getElem?_append_left (List.getElem?_eq_some_iff.1 hd).1]; exact hd
 have hl : ∀ (m : Nat) o' d, (l ++ [o])[m]? = some o' → g.1[m]? = some d → l[m]? = some o' := fun m o' d ho hd => by
   have := (List.getElem?_eq_some_iff.1 hd).1
   rw [h.len] at this
   rwa [List.getElem?_append_left this] at ho
 have hll : l.length ≤ (l ++ [o]).length := by simp
 refine ⟨by simp [h.len], fun m d hd => ?_, h.alt, fun m1 m2 d h1 h2 d0 => h.inj m1 m2 d (hget _ _ h1 d0) (hget _ _ h2 d0) d0, fun m o' d ho hd hv => ?_, fun i e j he hj hv => ?_⟩
 · by_cases q : 0 ≤ d
   · exact h.lt m d (hget m d hd q)
   · show d < (g.2.length : Int); omega
 · have hd2 := hget m d hd hv.1
   have ho2 := hl m o' d ho hd2
   rw [hP.more (List.mem_of_getElem? ho2) hll]
   rcases h.link m o' d ho2 hd2 hv with z | ⟨m2, d2, e, a1, a2, a3, a4, a5⟩
   · exact .inl z
   · exact .inr ⟨m2, d2, e, a1, hput m2 d2 a2, a3, a4, a5⟩
 · obtain ⟨n, o', m, a1, a2, a3, a4⟩ := h.edge i e j he hj hv
   refine ⟨n, o', m, by rw [List.getElem?_append_left (List.getElem?_eq_some_iff.1 a1).1]; exact a1, hput n j a2, ?_, hput m _ a4⟩
   rw [hP.more (List.mem_of_getElem? a1) hll]; exact a3
theorem GInv.congr {l l' : List ObjS} {g : GdP} (h : GInv l g) (hp : l'.map ObjS.proto = l.map ObjS.proto) : GInv l' g := by
 have hlen : l'.length = l.length := by have := congrArg List.length hp; simpa using this
 have hg : ∀ {a b : List ObjS}, a.map ObjS.proto = b.map ObjS.proto → ∀ (m : Nat) o, a[m]? = some o → ∃ o', b[m]? = some o' ∧ o'.proto = o.proto := fun e m o ho => by
   have := congrArg (fun l => l[m]?) e
   simp only [List.getElem?_map, ho, Option.map_some] at this
   cases q : (_ : List ObjS)[m]? with
   | none => rw [q] at this; cases this
   | some o' => rw [q] at this; exact ⟨o', rfl, by have z := Option.some.inj this; exact z.symm⟩
 refine ⟨by rw [hlen]; exact h.len, h.lt, h.alt, h.inj, fun m o d ho hd hv => ?_, fun i e j he hj hv => ?_⟩
 · obtain ⟨o', ho', q⟩ := hg hp m o ho
   rw [hlen, ← q]; exact h.link m o' d ho' hd hv
 · obtain ⟨n, o, m, a1, a2, a3, a4⟩ := h.edge i e j he hj hv
   obtain ⟨o', ho', q⟩ := hg hp.symm n o a1
   exact ⟨n, o', m, ho', a2, by rw [q, hlen]; exact a3, a4⟩
end Go.Proofs.YthflblophelioaaDoor
namespace Go.Proofs.YthflblophelioaaDoor
open Go.Sl
structure OpP where
  kind : Int
  o : Int
  p : Int
  key : ByteArray
  d : DescP
  n : Int
  A : Option Addr
  w : List Int
  c : Nat
def OpP.cells (x : OpP) : List Value := [.int .i64 x.kind, .int .u64 x.o, .int .u64 x.p, .string x.key, .int .u64 x.d.1, .int .u64 x.d.2.1, .int .i64 x.d.2.2, .int .i64 x.n, .slice x.A x.w.length x.c]
theorem OpP.len (x : OpP) : x.cells.length = 9 := rfl
abbrev OpP.first (x : OpP) : Int := x.w.headD 18445336698825998336
structure OpOk (W0 : World) (x : OpP) : Prop where
  o : wordOk x.o
  p : wordOk x.p
  src : ∀ σ, Src W0 σ x.A (x.w.map encU)
  len : x.w.length ≤ 1048576
abbrev DocS := List ObjS × List ByteArray
def docStep (D : DocS) (x : OpP) : DocS :=
 if x.kind = 0 then (makeL D.1 x.n x.p, D.2)
 else if x.kind = 1 then (modP D.1 x.o (putO x.key x.d), D.2)
 else if x.kind = 2 then (modP D.1 x.o (dropO x.key), D.2)
 else if x.kind = 3 then (reproP D.1 x.o x.p, D.2)
 else if x.kind = 4 then (modP D.1 x.o (setO x.n x.first), D.2)
 else if x.kind = 5 then (modP D.1 x.o (lenO x.n), D.2)
 else if x.kind = 6 then (modP D.1 x.o shutO, D.2)
 else if x.kind = 7 then (modP D.1 x.o (innerO x.w), D.2)
 else if x.kind = 8 then (D.1, (textP D.2 x.key).1)
 else if x.kind = 9 then D
 else if x.kind = 10 then (modP D.1 x.o (writeO x.n x.first), D.2)
 else D
def GdS (D D' : DocS) (g g' : GdP) (x : OpP) : Prop :=
 if x.kind = 0 then g' = (if mayP D.1 x.n x.p then (g.1 ++ [-1], g.2) else g)
 else if x.kind = 9 then g' = (guardF D.1 D.1.length x.p g).1
 else if x.kind = 6 ∨ x.kind = 7 ∨ x.kind = 8 then g' = g
 else GdC g g' (objAt x.o D.1.length) ((x.kind = 1 ∧ objAt x.o D.1.length ≠ none) ∨ (x.kind = 2 ∧ hasQ D.1 x.o x.key = true) ∨ (x.kind = 3 ∧ protoW D'.1 x.o ≠ protoW D.1 x.o))
structure DOk (l : List ObjS) : Prop where
  kinds : ∀ o ∈ l, 0 ≤ o.kind ∧ o.kind ≤ 6
  protos : ProtosIn l
  words : protosOk l
  ends : ∀ p, Ends l p
  flags : ∀ o ∈ l, ∀ d ∈ o.descs, normF d.2.2 = d.2.2
theorem normF_idem (f : Int) : normF (normF f) = normF f := by
 obtain ⟨k, hk, e⟩ := fl15_lt f
 rw [refF_norm f]
 unfold refF
 rw [e]
 have : ∀ k : Fin 16, normF (if ((k.val : Nat) : Int) ≥ 8 then IntKind.wrap .i64 ((BitVec.ofInt 64 ((k.val : Nat) : Int) &&& BitVec.ofInt 64 14).toNat) else ((k.val : Nat) : Int)) =
     if ((k.val : Nat) : Int) ≥ 8 then IntKind.wrap .i64 ((BitVec.ofInt 64 ((k.val : Nat) : Int) &&& BitVec.ofInt 64 14).toNat) else ((k.val : Nat) : Int) := by decide
 exact this ⟨k, hk⟩
theorem protoW_congr {l l' : List ObjS} (hp : l'.map ObjS.proto = l.map ObjS.proto) (w : Int) : protoW l' w = protoW l w := by
 have hlen : l'.length = l.length := by have := congrArg List.length hp; simpa using this
 unfold protoW
 rw [hlen]
 cases h : objAt w l.length with
 | none => rfl
 | some n =>
   have hn := (objAt_tag h).2
   have := congrArg (fun l => l[n]?) hp
   simp only [List.getElem?_map, List.getElem?_eq_getElem hn, List.getElem?_eq_getElem (show n < l'.length by omega), Option.map_some] at this
   simp only [List.getElem?_eq_getElem hn, List.getElem?_eq_getElem (show n < l'.length by omega)]
   exact Option.some.inj this
theorem upN_congr {l l' : List ObjS} (hp : l'.map ObjS.proto = l.map ObjS.proto) (p : Int) : ∀ i, upN l' p i = upN l p i
 | 0 => rfl
 | i + 1 => by
   show protoW l' (upN l' p i) = protoW l (upN l p i)
   rw [upN_congr hp p i]; exact protoW_congr hp _
theorem Ends.congr {l l' : List ObjS} (hp : l'.map ObjS.proto = l.map ObjS.proto) {p : Int} (h : Ends l p) : Ends l' p := by
 have hlen : l'.length = l.length := by have := congrArg List.length hp; simpa using this
 obtain ⟨i, hi⟩ := h
 exact ⟨i, by rw [upN_congr hp, hlen]; exact hi⟩
theorem modP_map {α : Type} (f : ObjS → α) {l : List ObjS} {w : Int} {m : ObjS → ObjS} (h : ∀ o, f (m o) = f o) : (modP l w m).map f = l.map f := by
 unfold modP
 split
 · rfl
 · split
   · rfl
   · next n o ho =>
     rw [List.map_set, h]
     exact set_same (by simp [ho])
theorem modP_mem {l : List ObjS} {w : Int} {m : ObjS → ObjS} {o' : ObjS} (h : o' ∈ modP l w m) : o' ∈ l ∨ ∃ o ∈ l, o' = m o := by
 unfold modP at h
 split at h
 · exact .inl h
 · split at h
   · exact .inl h
   · next n o ho =>
     rcases List.mem_or_eq_of_mem_set h with q | q
     · exact .inl q
     · exact .inr ⟨o, List.mem_of_getElem? ho, q⟩
theorem DOk.mod {l : List ObjS} (h : DOk l) {w : Int} {m : ObjS → ObjS} (hk : ∀ o, (m o).kind = o.kind) (hp : ∀ o, (m o).proto = o.proto) (hf : ∀ o, (∀ d ∈ o.descs, normF d.2.2 = d.2.2) → ∀ d ∈ (m o).descs, normF d.2.2 = d.2.2) : DOk (modP l w m) := by
 have e := modP_map ObjS.proto (l := l) (w := w) hp
 refine ⟨fun o ho => ?_, fun o ho => ?_, fun o ho => ?_, fun p => (h.ends p).congr e, fun o ho => ?_⟩
 · rcases modP_mem ho with q | ⟨a, q, rfl⟩
   · exact h.kinds o q
   · rw [hk]; exact h.kinds a q
 · rw [modP_len]
   rcases modP_mem ho with q | ⟨a, q, rfl⟩
   · exact h.protos o q
   · rw [hp]; exact h.protos a q
 · rcases modP_mem ho with q | ⟨a, q, rfl⟩
   · exact h.words o q
   · rw [hp]; exact h.words a q
 · rcases modP_mem ho with q | ⟨a, q, rfl⟩
   · exact h.flags o q
   · exact hf a (h.flags a q)
theorem Ends.grow {l : List ObjS} (hP : ProtosIn l) {o : ObjS} (ho : o.proto = 18445336698825998337 ∨ objAt o.proto l.length ≠ none) (h : ∀ p, Ends l p) (p : Int) : Ends (l ++ [o]) p := by
 have hll : l.length ≤ (l ++ [o]).length := by simp
 have key : ∀ (q : Int), (q = 18445336698825998337 ∨ objAt q l.length ≠ none) → ∀ i, upN (l ++ [o]) q i = upN l q i ∧ (upN l q i = 18445336698825998337 ∨ objAt (upN l q i) l.length ≠ none) := by
   intro q hq i
   induction i with
   | zero => exact ⟨rfl, hq⟩
   | succ i ih =>
     obtain ⟨a, b⟩ := ih
     show protoW (l ++ [o]) (upN (l ++ [o]) q i) = protoW l (upN l q i) ∧ _
     rw [a]
     show _ ∧ (protoW l (upN l q i) = _ ∨ objAt (protoW l (upN l q i)) l.length ≠ none)
     rcases b with b | b
     · rw [b, protoW_none (objAt_null _), protoW_none (objAt_null _)]
       exact ⟨rfl, .inl rfl⟩
     · cases hm : objAt (upN l q i) l.length with
       | none => exact absurd hm b
       | some m =>
         have hml := (objAt_tag hm).2
         have hg : l[m]? = some l[m] := List.getElem?_eq_getElem hml
         rw [protoW_some hm hg, protoW_some (objAt_more hm hll) (by rw [List.getElem?_append_left hml]; exact hg)]
         exact ⟨rfl, hP _ (List.mem_of_getElem? hg)⟩
 have main : ∀ (q : Int), (q = 18445336698825998337 ∨ objAt q l.length ≠ none) → Ends (l ++ [o]) q := fun q hq => by
   obtain ⟨i, hi⟩ := h q
   obtain ⟨a, b⟩ := key q hq i
   rcases b with b | b
   · exact ⟨i, by rw [a, b]; exact objAt_null _⟩
   · exact absurd hi b
 cases hp : objAt p (l ++ [o]).length with
 | none => exact ⟨0, hp⟩
 | some m =>
   by_cases hm : m < l.length
   · refine main p (.inr ?_)
     obtain ⟨a, _⟩ := objAt_tag hp
     unfold objAt; rw [a]; simp only []; rw [if_pos hm]; simp
   · have hm2 := (objAt_tag hp).2
     have : m = l.length := by simp at hm2; omega
     subst this
     obtain ⟨i, hi⟩ := main o.proto ho
     refine ⟨1 + i, ?_⟩
     rw [upN_add, show upN (l ++ [o]) p 1 = protoW (l ++ [o]) p from rfl, protoW_some hp (o := o) (by simp)]
     exact hi
theorem Ends.repro {l : List ObjS} {w q : Int} {n : Nat} {o : ObjS} (h0 : objAt w l.length = some n) (ho : l[n]? = some o) (hh : hitP l q w = false) (h : ∀ p, Ends l p) (p : Int) : Ends (l.set n (o.under q)) p := by
 have hl : (l.set n (o.under q)).length = l.length := List.length_set
 have hnl := (List.getElem?_eq_some_iff.1 ho).1
 have hpw : ∀ v, v ≠ w → protoW (l.set n (o.under q)) v = protoW l v := fun v hv => by
   cases hm : objAt v l.length with
   | none => rw [protoW_none hm, protoW_none (by rw [hl]; exact hm)]
   | some m =>
     have hml := (objAt_tag hm).2
     have hmn : m ≠ n := fun z => hv (objAt_inj hm (by rw [z]; exact h0))
     have hg : l[m]? = some l[m] := List.getElem?_eq_getElem hml
     rw [protoW_some hm hg, protoW_some (by rw [hl]; exact hm) (by rw [List.getElem?_set_ne (fun z => hmn z.symm)]; exact hg)]
 have same : ∀ (v : Int) i, (∀ j, j < i → upN l v j ≠ w) → upN (l.set n (o.under q)) v i = upN l v i := fun v i => by
   induction i with
   | zero => intro _; rfl
   | succ i ih =>
     intro hj
     show protoW (l.set n (o.under q)) (upN (l.set n (o.under q)) v i) = protoW l (upN l v i)
     rw [ih fun j hji => hj j (by omega)]
     exact hpw _ (hj i (by omega))
 have hq : ∀ i, upN l q i ≠ w := fun i z => by
   by_cases hi : i ≤ l.length
   · rw [hitP_iff.2 ⟨i, hi, z⟩] at hh; cases hh
   · have := upN_null (h q).bound (i - l.length)
     rw [show l.length + (i - l.length) = i by omega, z, h0] at this
     cases this
 have hqe : Ends (l.set n (o.under q)) q := by
   obtain ⟨i, hi⟩ := h q
   exact ⟨i, by rw [same q i fun j _ => hq j, hl]; exact hi⟩
 obtain ⟨i, hi⟩ := h p
 by_cases hex : ∃ j, upN l p j = w
 · obtain ⟨j, hj, hmin⟩ : ∃ j, upN l p j = w ∧ ∀ k, k < j → upN l p k ≠ w := by
     obtain ⟨j, hj⟩ := hex
     induction j using Nat.strongRecOn with
     | _ j ih =>
       by_cases hk : ∃ k, k < j ∧ upN l p k = w
       · obtain ⟨k, k1, k2⟩ := hk; exact ih k k1 k2
       · exact ⟨j, hj, fun k k1 k2 => hk ⟨k, k1, k2⟩⟩
   obtain ⟨k, hk⟩ := hqe
   refine ⟨j + 1 + k, ?_⟩
   rw [upN_add, show upN (l.set n (o.under q)) p (j + 1) = protoW (l.set n (o.under q)) (upN (l.set n (o.under q)) p j) from rfl, same p j hmin, hj,
     protoW_some (by rw [hl]; exact h0) (List.getElem?_set_self hnl)]
   exact hk
 · exact ⟨i, by rw [same p i fun j _ z => hex ⟨j, z⟩, hl]; exact hi⟩
theorem put_flags {names : List ByteArray} {descs : List DescP} {key : ByteArray} {d : DescP} (h : ∀ d ∈ descs, normF d.2.2 = d.2.2) : ∀ d' ∈ putDs names descs key (normD d), normF d'.2.2 = d'.2.2 := by
 intro d' hd
 unfold putDs at hd
 split at hd
 · rcases List.mem_append.1 hd with q | q
   · exact h d' q
   · rw [List.mem_singleton.1 q]; exact normF_idem _
 · rcases List.mem_or_eq_of_mem_set hd with q | q
   · exact h d' q
   · rw [q]; exact normF_idem _
theorem DOk.step {D : DocS} (h : DOk D.1) (x : OpP) (hp : wordOk x.p) : DOk (docStep D x).1 := by
 unfold docStep
 have e : ∀ {m : ObjS → ObjS} {w : Int}, (∀ o, (m o).kind = o.kind) → (∀ o, (m o).proto = o.proto) → (∀ o, (m o).descs = o.descs) → DOk (modP D.1 w m) := fun a b c => h.mod a b (fun o q => by rw [c]; exact q)
 split
 · show DOk (makeL D.1 x.n x.p)
   unfold makeL
   split
   · next hm =>
     obtain ⟨m1, m2, m3⟩ := hm
     have hll : D.1.length ≤ (D.1 ++ [newS x.n x.p]).length := by simp
     refine ⟨fun o ho => ?_, fun o ho => ?_, fun o ho => ?_, Ends.grow h.protos m2 h.ends, fun o ho => ?_⟩ <;> rcases List.mem_append.1 ho with q | q
     · exact h.kinds o q
     · rw [List.mem_singleton.1 q]; exact m1
     · rw [h.protos.more q hll]; exact h.protos o q
     · rw [List.mem_singleton.1 q]
       rcases m2 with z | z
       · exact .inl z
       · refine .inr fun y => ?_
         cases hz : objAt x.p D.1.length with
         | none => exact z hz
         | some i => rw [show objAt (newS x.n x.p).proto _ = _ from objAt_more hz hll] at y; cases y
     · exact h.words o q
     · rw [List.mem_singleton.1 q]; exact hp
     · exact h.flags o q
     · rw [List.mem_singleton.1 q]; intro d hd; cases hd
   · exact h
 split
 · exact h.mod (fun _ => rfl) (fun _ => rfl) (fun o q => put_flags q)
 split
 · refine h.mod (fun _ => rfl) (fun _ => rfl) (fun o q d hd => ?_)
   simp only [dropO] at hd
   unfold dropDs at hd
   split at hd
   · exact q d hd
   · exact q d (List.mem_of_mem_eraseIdx hd)
 split
 · show DOk (reproP D.1 x.o x.p)
   cases h0 : objAt x.o D.1.length with
   | none => rw [reproP_none h0]; exact h
   | some n =>
     obtain ⟨o, ho⟩ := obj_of h0
     by_cases hq : (x.p ≠ 18445336698825998337 ∧ objAt x.p D.1.length = none) ∨ hitP D.1 x.p x.o = true
     · rw [reproP_no hq]; exact h
     · have hh : hitP D.1 x.p x.o = false := by cases z : hitP D.1 x.p x.o with
         | false => rfl
         | true => exact absurd (.inr z) hq
       rw [reproP_yes h0 ho (fun z => hq (.inl z)) hh]
       have hm := List.mem_of_getElem? ho
       refine ⟨fun a ha => ?_, fun a ha => ?_, fun a ha => ?_, Ends.repro h0 ho hh h.ends, fun a ha => ?_⟩ <;> rcases List.mem_or_eq_of_mem_set ha with q | q
       · exact h.kinds a q
       · rw [q]; exact h.kinds o hm
       · rw [List.length_set]; exact h.protos a q
       · rw [List.length_set, q]
         by_cases z : x.p = 18445336698825998337
         · exact .inl z
         · exact .inr fun y => hq (.inl ⟨z, y⟩)
       · exact h.words a q
       · rw [q]; exact hp
       · exact h.flags a q
       · rw [q]; exact h.flags o hm
 split
 · exact e (fun _ => rfl) (fun _ => rfl) (fun _ => rfl)
 split
 · exact e (fun _ => rfl) (fun _ => rfl) (fun _ => rfl)
 split
 · exact e (fun _ => rfl) (fun _ => rfl) (fun _ => rfl)
 split
 · exact e (fun _ => rfl) (fun _ => rfl) (fun _ => rfl)
 split
 · exact h
 split
 · exact h
 split
 · refine h.mod (fun _ => rfl) (fun _ => rfl) (fun o q d hd => ?_)
   simp only [writeO] at hd
   unfold writeD at hd
   split at hd
   · split at hd
     · next d0 hd0 =>
       rcases List.mem_or_eq_of_mem_set hd with z | z
       · exact q d z
       · rw [z]; exact q d0 (List.mem_of_getElem? hd0)
     · exact q d hd
   · exact q d hd
 · exact h
end Go.Proofs.YthflblophelioaaDoor
namespace Go.Proofs.YthflblophelioaaDoor
open Go.Sl
theorem docStep_protos (D : DocS) (x : OpP) (h0 : x.kind ≠ 0) (h3 : x.kind ≠ 3) : (docStep D x).1.map ObjS.proto = D.1.map ObjS.proto := by
 unfold docStep
 rw [if_neg h0]
 split
 · exact modP_map ObjS.proto fun _ => rfl
 split
 · exact modP_map ObjS.proto fun _ => rfl
 split
 · exact modP_map ObjS.proto fun _ => rfl
 split
 · exact modP_map ObjS.proto fun _ => rfl
 split
 · exact modP_map ObjS.proto fun _ => rfl
 split
 · exact modP_map ObjS.proto fun _ => rfl
 split
 · rfl
 split
 · rfl
 split
 · exact modP_map ObjS.proto fun _ => rfl
 · rfl
theorem docStep_3 (D : DocS) (x : OpP) (h3 : x.kind = 3) : docStep D x = (reproP D.1 x.o x.p, D.2) := by
 unfold docStep
 rw [if_neg (by omega), if_neg (by omega), if_neg (by omega), if_pos h3]
theorem map_proto_get {l l' : List ObjS} (hp : l'.map ObjS.proto = l.map ObjS.proto) (m : Nat) (o' : ObjS) (h : l'[m]? = some o') : ∃ o, l[m]? = some o ∧ o'.proto = o.proto := by
 have := congrArg (fun l => l[m]?) hp
 simp only [List.getElem?_map, h, Option.map_some] at this
 cases q : l[m]? with
 | none => rw [q] at this; cases this
 | some o => rw [q] at this; exact ⟨o, rfl, Option.some.inj this⟩
theorem repro_get (l : List ObjS) (w p : Int) : (reproP l w p).length = l.length ∧ ∀ (n : Nat), objAt w l.length = some n → ∀ (m : Nat) o', (reproP l w p)[m]? = some o' → ∃ o, l[m]? = some o ∧ (m ≠ n → o'.proto = o.proto) := by
 unfold reproP
 cases h0 : objAt w l.length with
 | none => exact ⟨rfl, fun n hn => by cases hn⟩
 | some n0 =>
   simp only []
   cases ho : l[n0]? with
   | none => exact ⟨rfl, fun n hn m o' h => ⟨o', h, fun _ => rfl⟩⟩
   | some o =>
     simp only []
     split
     · exact ⟨rfl, fun n hn m o' h => ⟨o', h, fun _ => rfl⟩⟩
     · refine ⟨List.length_set, fun n hn m o' h => ?_⟩
       cases hn
       by_cases q : m = n0
       · subst q
         exact ⟨o, ho, fun z => absurd rfl z⟩
       · rw [List.getElem?_set_ne (fun z => q z.symm)] at h
         exact ⟨o', h, fun _ => rfl⟩
theorem repro_same {l : List ObjS} {w p : Int} (h : protoW (reproP l w p) w = protoW l w) : (reproP l w p).map ObjS.proto = l.map ObjS.proto := by
 cases h0 : objAt w l.length with
 | none => rw [reproP_none h0]
 | some n =>
   obtain ⟨o, ho⟩ := obj_of h0
   by_cases hq : (p ≠ 18445336698825998337 ∧ objAt p l.length = none) ∨ hitP l p w = true
   · rw [reproP_no hq]
   · have hh : hitP l p w = false := by cases z : hitP l p w with
       | false => rfl
       | true => exact absurd (.inr z) hq
     have e := reproP_yes h0 ho (fun z => hq (.inl z)) hh
     rw [e] at h ⊢
     have hnl := (List.getElem?_eq_some_iff.1 ho).1
     rw [protoW_some h0 ho, protoW_some (by rw [List.length_set]; exact h0) (List.getElem?_set_self hnl)] at h
     have h' : p = o.proto := h
     rw [List.map_set]
     exact set_same (by simp [ho, h'])
theorem GdS.cases {D D' : DocS} {g g' : GdP} {x : OpP} (h : GdS D D' g g' x) (h0 : x.kind ≠ 0) (h9 : x.kind ≠ 9) :
   ((x.kind = 6 ∨ x.kind = 7 ∨ x.kind = 8) ∧ g' = g) ∨ (¬ (x.kind = 6 ∨ x.kind = 7 ∨ x.kind = 8) ∧ GdC g g' (objAt x.o D.1.length) ((x.kind = 1 ∧ objAt x.o D.1.length ≠ none) ∨ (x.kind = 2 ∧ hasQ D.1 x.o x.key = true) ∨ (x.kind = 3 ∧ protoW D'.1 x.o ≠ protoW D.1 x.o))) := by
 unfold GdS at h
 rw [if_neg h0, if_neg h9] at h
 by_cases hq : x.kind = 6 ∨ x.kind = 7 ∨ x.kind = 8
 · rw [if_pos hq] at h; exact .inl ⟨hq, h⟩
 · rw [if_neg hq] at h; exact .inr ⟨hq, h⟩
theorem GInv.step {D : DocS} {g g' : GdP} {x : OpP} (h : GInv D.1 g) (hD : DOk D.1) (hS : GdS D (docStep D x) g g' x) : GInv (docStep D x).1 g' := by
 by_cases h0 : x.kind = 0
 · unfold GdS at hS
   rw [if_pos h0] at hS
   rw [hS]
   unfold docStep
   rw [if_pos h0]
   show GInv (makeL D.1 x.n x.p) _
   unfold makeL
   split
   · exact h.grow hD.protos _
   · exact h
 by_cases h9 : x.kind = 9
 · unfold GdS at hS
   rw [if_neg h0, if_pos h9] at hS
   rw [hS]
   have e : (docStep D x).1 = D.1 := by
     unfold docStep
     rw [if_neg h0, if_neg (by omega), if_neg (by omega), if_neg (by omega), if_neg (by omega), if_neg (by omega), if_neg (by omega), if_neg (by omega), if_neg (by omega), if_pos h9]
   rw [e]
   exact (guardF_ok _ _ _ h (hD.ends x.p).bound).1
 rcases hS.cases h0 h9 with ⟨hq, rfl⟩ | ⟨hq, hc⟩
 · exact h.congr (docStep_protos D x h0 (by omega))
 · by_cases h3 : x.kind = 3
   · rw [docStep_3 D x h3] at hc ⊢
     rcases hc with ⟨hm, rfl⟩ | ⟨n, hn, hT⟩
     · refine h.congr (repro_same ?_)
       exact Classical.byContradiction fun q => hm (.inr (.inr ⟨h3, q⟩))
     · obtain ⟨r1, r2⟩ := repro_get D.1 x.o x.p
       exact h.touch hT r1 (r2 n hn)
   · have e := docStep_protos D x h0 h3
     rcases hc with ⟨hm, rfl⟩ | ⟨n, hn, hT⟩
     · exact h.congr e
     · exact h.touch hT (by have := congrArg List.length e; simpa using this) (fun m o' ho => by
         obtain ⟨o, h1, h2⟩ := map_proto_get e m o' ho
         exact ⟨o, h1, fun _ => h2⟩)
structure Held (l : List ObjS) (g : GdP) (p c : Int) : Prop where
  obj : ∃ np, objAt p l.length = some np ∧ (Val g.2 c → g.1[np]? = some c)
  lt : c < g.2.length
end Go.Proofs.YthflblophelioaaDoor
namespace Go.Proofs.YthflblophelioaaDoor
open Go.Sl
structure Sim (k : Nat) (H : HeapV) (F : HeapF) (R : RSt) : Prop where
  inv : HInv k H F
  ok : R.ok
  objs : H.pub F = R.pub
  texts : H.texts = R.texts
  doc : DOk R.pub
  gds : GInv R.pub H.gd
variable {k : Nat} {H H2 : HeapV} {F : HeapF} {R R2 : RSt} {n : Nat} {W0 : World} {x : OpP}
theorem Sim.lok (h : Sim k H F R) : LOk k R.pub := h.objs ▸ h.inv.lok
abbrev RSt.D (R : RSt) : DocS := (R.pub, R.texts)
structure Did (k : Nat) (H : HeapV) (F : HeapF) (R : RSt) (x : OpP) (H2 : HeapV) (R2 : RSt) : Prop where
  sim : Sim k H2 F R2
  doc : R2.D = docStep R.D x
  gd : GdS R.D (docStep R.D x) H.gd H2.gd x
theorem ds0 {D : DocS} (h : x.kind = 0) : docStep D x = (makeL D.1 x.n x.p, D.2) := by unfold docStep; simp [h]
theorem ds1 {D : DocS} (h : x.kind = 1) : docStep D x = (modP D.1 x.o (putO x.key x.d), D.2) := by unfold docStep; simp [h]
theorem dsE {D : DocS} (h : ∀ c, 0 ≤ c → c ≤ 10 → x.kind ≠ c) : docStep D x = D := by
 unfold docStep
 simp [h 0 (by decide) (by decide), h 1 (by decide) (by decide), h 2 (by decide) (by decide), h 3 (by decide) (by decide), h 4 (by decide) (by decide), h 5 (by decide) (by decide), h 6 (by decide) (by decide), h 7 (by decide) (by decide), h 8 (by decide) (by decide), h 9 (by decide) (by decide), h 10 (by decide) (by decide)]
theorem ixS_at {l : List ByteArray} {m : Nat} {key : ByteArray} (hn : l.Nodup) (hk : l[m]? = some key) : ixS l key = m := by
 have hm := List.mem_of_getElem? hk
 have h0 : 0 ≤ ixS l key := by
   by_cases q : ixS l key < 0
   · exact absurd hm (ixS_none.1 q)
   · omega
 have h1 := ixS_some h0
 have hlt := (List.getElem?_eq_some_iff.1 hk).1
 have hlt2 := (List.getElem?_eq_some_iff.1 h1).1
 have hp := List.pairwise_iff_getElem.1 hn
 have g1 := (List.getElem?_eq_some_iff.1 h1).2
 have g2 := (List.getElem?_eq_some_iff.1 hk).2
 rcases Nat.lt_trichotomy (ixS l key).toNat m with q | q | q
 · exact absurd (g1.trans g2.symm) (hp _ _ hlt2 hlt q)
 · omega
 · exact absurd (g2.trans g1.symm) (hp _ _ hlt hlt2 q)
theorem HInv.nodup (h : HInv k H F) {o : ObjS} (ho : o ∈ H.pub F) : o.names.Nodup := by
 obtain ⟨x, hx, rfl⟩ := List.mem_map.1 ho
 exact (h.objs x hx).nodup
end Go.Proofs.YthflblophelioaaDoor
namespace Go.Proofs.YthflblophelioaaDoor
open Go.Sl
variable {k : Nat} {H H2 : HeapV} {F : HeapF} {R R2 : RSt} {n : Nat} {W0 : World} {x : OpP}
theorem DOk.nil : DOk [] := ⟨fun o ho => (by cases ho), fun o ho => (by cases ho), fun o ho => (by cases ho), fun p => ⟨0, by
 show objAt p 0 = _
 unfold objAt
 cases tagOf p 65530 with
 | none => rfl
 | some n => simp only []; rw [if_neg (by omega)]⟩, fun o ho => (by cases ho)⟩
end Go.Proofs.YthflblophelioaaDoor
