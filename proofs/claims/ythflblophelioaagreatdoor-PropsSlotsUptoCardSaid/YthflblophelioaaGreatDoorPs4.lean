/-
  What functions of heap and word do to the memory they own, step by step: each theorem is one function's contract. Conditions: those that each theorem names.
-/
import Derived.Test.YthflblophelioaaGreatDoorPs3
import Derived.Test.YthflblophelioaaGreatDoorPs1
set_option linter.unusedVariables false
set_option linter.unusedSimpArgs false
set_option maxRecDepth 100000
set_option maxHeartbeats 4000000
namespace Go.Proofs.YthflblophelioaaGreatDoor
open Go.Sl

theorem heap_Put_none {W0 : World} {F : HeapF} {H : HeapV} (hH : H.ok F) {w : Int} (h0 : objAt w H.objs.length = none) (key : ByteArray) (d : DescP) : SC Tryz.prog W0 68 #[.pointer (some ⟨F.p, 0, none⟩), .int .u64 w, .string key, descV d] (HeapV.ent H F) (Ret (fun _ : Unit => H.ent F) (fun v _ => v = .tuple #[])) := by
 refine SC_body (fn := Tryz.f68) (n := 144) Tryz.func68 rfl (by kernel_rfl) (ρ := [(0, pt F.p 0), (1, .int .u64 w), (2, .string key), (3, .agg #[.int .u64 d.1, .int .u64 d.2.1, .int .i64 d.2.2])]) rfl ?_
 refine SW_sig _ HeapV.eq0 ?_
 refine sr ?_
 refine L (nw 45 3 [.int .u64 d.1, .int .u64 d.2.1, .int .i64 d.2.2] ?_)
 intro b1
 refine nsr ?_
 refine os 2 ?_
 refine L (cl (heap_at hH w) ?_ (hp := HeapV.pm))
 rintro v1 _ hv1
 obtain rfl : v1 = .pointer none := hv1.trans (by rw [h0])
 refine SL_sig _ HeapV.eq ?_
 refine os 1 ?_
 refine kp [8, 7, 0, 1, 2, 3] ?_
 refine nq ?_
 refine sr ?_
 refine os 1 ?_
 refine oV (.bool true) ?_
 refine nt ?_
 refine ct ?_
 refine Qi (Qm ?_)
 refine Qg (.tuple #[]) (fun _ => rfl) ?_
 exact ⟨(), HeapV.own, rfl⟩

theorem heap_Put_some {W0 : World} {F : HeapF} {H : HeapV} (hH : H.ok F) {w : Int} {n : Nat} {x : ObjL} (h0 : objAt w H.objs.length = some n) (hx : H.objs[n]? = some x) (hI : OInv (H.V.abs F.T) x) {k : Nat} (hB : H.bud k) (hk : k ≤ 8000000) (key : ByteArray) (d : DescP) : SC Tryz.prog W0 68 #[.pointer (some ⟨F.p, 0, none⟩), .int .u64 w, .string key, descV d] (HeapV.ent H F) (Ret (fun r : ObjL × TreeV × List CellL × Int => (H.upd n r.1 r.2.1 r.2.2.1 r.2.2.2).ent F) (fun v r => v = .tuple #[] ∧ (H.upd n r.1 r.2.1 r.2.2.1 r.2.2.2).ok F ∧ Same x r.1 ∧ putS (H.V.abs F.T) x.ps key (d.1, d.2.1, normF d.2.2) = (r.2.1.abs F.T, r.1.ps) ∧ Chg x.cell H.cl r.2.2.1)) := by
 refine SC_body (fn := Tryz.f68) (n := 144) Tryz.func68 rfl (by kernel_rfl) (ρ := [(0, pt F.p 0), (1, .int .u64 w), (2, .string key), (3, .agg #[.int .u64 d.1, .int .u64 d.2.1, .int .i64 d.2.2])]) rfl ?_
 refine SW_sig _ HeapV.eq0 ?_
 have hnl := (List.getElem?_eq_some_iff.1 hx).1
 have hvl := hB.vals x (List.mem_of_getElem? hx)
 refine sr ?_
 refine L (nw 45 3 [.int .u64 d.1, .int .u64 d.2.1, .int .i64 d.2.2] ?_)
 intro b1
 refine nsr ?_
 refine os 2 ?_
 refine L (cl (heap_at hH w) ?_ (hp := HeapV.pm))
 rintro v1 _ hv1
 obtain rfl : v1 = pt (Gs.blk H.s) (n * 9) := hv1.trans (by rw [h0])
 refine SL_sig _ HeapV.eq ?_
 refine os 1 ?_
 refine kp [8, 7, 0, 1, 2, 3] ?_
 refine nq ?_
 refine sr ?_
 refine os 1 ?_
 refine oV (.bool false) ?_
 refine nt ?_
 refine cf ?_
 refine Ql (Qj ?_)
 refine sr ?_
 refine os 2 ?_
 refine L (cl (heap_changed hH (n := n) hx hB hk) ?_ (hp := HeapV.pm))
 rintro _ ⟨cl1, br1⟩ ⟨rfl, hccl1, hchcl1⟩
 refine SL_sig _ HeapV.eq ?_
 have hH1 : HeapV.ok (HeapV.mk H.s (H.objs.set n (ObjL.chg x)) H.ts H.texts H.known H.V H.cs cl1 br1) F := hH.chg hx hccl1 br1
 refine nsr ?_
 refine os 1 ?_
 refine L (ld ?_)
 refine oX (.int .i64 (IntKind.wrap .i64 ((BitVec.ofInt 64 d.2.2 &&& BitVec.ofInt 64 15).toNat))) (.int .i64 (fl15 d.2.2)) (congrArg (Value.int .i64) (rfl)) ?_
 refine os 1 ?_
 refine kp [25, 24, 18, 8, 7, 0, 1, 2, 3] ?_
 refine L (st [.int .u64 d.1, .int .u64 d.2.1, .int .i64 (fl15 d.2.2)] ?_)
 refine nq ?_
 refine sr ?_
 refine os 1 ?_
 refine L (ld ?_)
 refine oV (.int .i64 (IntKind.wrap .i64 ((BitVec.ofInt 64 (fl15 d.2.2) &&& BitVec.ofInt 64 8).toNat))) ?_
 refine os 1 ?_
 refine kp [29, 18, 8, 7, 0, 1, 2, 3] ?_
 refine nt ?_
 refine SW_cut (fun ρ_ σ_ => Fits ρ_ σ_ [(29, .bool ((IntKind.wrap .i64 ((BitVec.ofInt 64 (fl15 d.2.2) &&& BitVec.ofInt 64 8).toNat)) != 0)), (18, .bool false), (8, pt (Gs.blk H.s) (n * 9)), (7, pt b1 0), (0, pt F.p 0), (1, .int .u64 w), (2, .string key), (3, .agg #[.int .u64 d.1, .int .u64 d.2.1, .int .i64 d.2.2])] ((b1, .cells 45 3 [.int .u64 d.1, .int .u64 d.2.1, .int .i64 (normF d.2.2)]) :: ((F.p, .cells 75 6 [Gs.val H.s ((H.objs.set n (ObjL.chg x)).length), Gs.val H.ts H.texts.length, .map (some F.kb), pt F.T.p 0, pt F.cp 0, .int .i64 br1]) :: ((Gs.ent 102 9 H.s ((H.objs.set n (ObjL.chg x)).flatMap ObjL.cells)) ++ (((H.objs.set n (ObjL.chg x)).flatMap ObjL.ent) ++ ((Gs.ent 9 1 H.ts (H.texts.map encS)) ++ ((F.kb, .map (kvs encS encU H.known)) :: ((TreeV.ent H.V F.T) ++ ((CellsL.ent (CellsL.mk F.cp H.cs cl1)) ++ ([])))))))))) ?_ ?_
 ·refine cd (fun hc2 : ((IntKind.wrap .i64 ((BitVec.ofInt 64 (fl15 d.2.2) &&& BitVec.ofInt 64 8).toNat)) != 0) = true => ?_) (fun hc2 => ?_)
  ·refine Qn ?_
   refine os 1 ?_
   refine L (ld ?_)
   refine oV (.int .i64 (IntKind.wrap .i64 ((BitVec.ofInt 64 (fl15 d.2.2) &&& ~~~BitVec.ofInt 64 1).toNat))) ?_
   refine os 1 ?_
   refine L (st [.int .u64 d.1, .int .u64 d.2.1, .int .i64 (IntKind.wrap .i64 ((BitVec.ofInt 64 (fl15 d.2.2) &&& ~~~BitVec.ofInt 64 1).toNat))] ?_)
   refine nt ?_
   have en : normF d.2.2 = IntKind.wrap .i64 ((BitVec.ofInt 64 (fl15 d.2.2) &&& ~~~BitVec.ofInt 64 1).toNat) := by unfold normF; rw [if_pos hc2]
   rw [en]
   exact ⟨fun _ => rfl, ow⟩
  refine Ql (Qj ?_)
  have en : normF d.2.2 = fl15 d.2.2 := by unfold normF; rw [if_neg (by rw [hc2]; decide)]
  rw [en]
  exact ⟨fun _ => rfl, ow⟩
 ·rintro ρ_ σ_ hfit
  refine SW_fits hfit ?_
  clear hfit
  refine sr ?_
  refine os 3 ?_
  refine L (cl (heap_place hH1 (n := n) (Qd hx) key) ?_ (hp := HeapV.pm))
  rintro v3 _ hv3
  obtain rfl : v3 = .int .i64 (placeO (TreeV.abs H.V F.T) x.shape x.names key) := hv3.trans (rfl)
  refine SL_sig _ HeapV.eq ?_
  refine os 1 ?_
  refine kp [9, 29, 18, 8, 7, 0, 1, 2, 3] ?_
  refine nq ?_
  refine sr ?_
  refine os 2 ?_
  refine nt ?_
  refine cdp (fun hc3 : (placeO (TreeV.abs H.V F.T) x.shape x.names key) ≥ 0 => ?_) (fun hc3 => ?_)
  ·have hpl := placeO_lt hI (key := key) (by omega)
   refine SW_seq ?_
   refine SW_seq ?_
   obtain ⟨e1, he1⟩ : ∃ y_, x.vals[((placeO (TreeV.abs H.V F.T) x.shape x.names key).toNat)]? = some y_ := ⟨_, List.getElem?_eq_getElem (by omega)⟩
   refine SW_draw [((Gs.blk H.s), n * 9 + 3, .int .i64 x.shape), ((Gs.blk H.s), n * 9 + 5, Gs.val x.vs x.vals.length), ((Gs.blk x.vs), ((placeO (TreeV.abs H.V F.T) x.shape x.names key).toNat) * 3 + 2, .int .i64 e1.2.2), (b1, 2, .int .i64 (normF d.2.2))] [0, 1, 2, 3, 4, 5, 6, 7, 8, 9, 10, 11, 12, 13, 14, 15] (by kernel_rfl) (Qf (Gs.cell hH1.row (fun e he => (Qc (mem_h he))) (Qh ObjL.len (Qd hx) (j := 3) (by decide) rfl)) (Qf (Gs.cell hH1.row (fun e he => (Qc (mem_h he))) (Qh ObjL.len (Qd hx) (j := 5) (by decide) rfl)) (Qf (Gs.cell (show Gs.ok 3 (x.vals).length x.vs (x.vals.flatMap Qk) from (HeapV.ok.at (x := (ObjL.chg x)) hH1 (Qd hx)).vs) (fun e he => (Qc (Qa (mem_h ((ObjL.mvs (x := (ObjL.chg x)) (Qd hx)) _ he))))) (Qh descCells_len he1 (j := 2) (by decide) rfl)) (Qf (Cell.own (Qc (Qa (Qa (Qa (Qc (Qa (Qa Qe))))))) rfl) rd_nil)))) ?_
   refine aS 0 ?_
   refine aS 1 ?_
   refine aF 2 ?_
   refine aL 3 ?_
   refine aS 4 ?_
   refine aS 5 ?_
   refine tbpA 45 (fun hg4 => ?_) (fun hg4 => ?_)
   ·replace hg4 : x.shape ≥ 0 := hg4
    refine aS 6 ?_
    refine aS 7 ?_
    refine aF 8 ?_
    refine kpA [48, 45, 39, 9, 29, 18, 8, 7, 0, 1, 2, 3] ?_
    refine aL 9 ?_
    refine aS 10 ?_
    refine aI 11 (placeO (TreeV.abs H.V F.T) x.shape x.names key) (((placeO (TreeV.abs H.V F.T) x.shape x.names key).toNat) * 3) (show Gs.ok 3 (x.vals).length x.vs (x.vals.flatMap Qk) from (HeapV.ok.at (x := (ObjL.chg x)) hH1 (Qd hx)).vs) Tryz.underlying99 ?_
    refine aF 12 ?_
    refine aL 13 ?_
    refine aF 14 ?_
    refine aL 15 ?_
    refine aS 16 ?_
    refine kpA [56, 45, 39, 9, 29, 18, 8, 7, 0, 1, 2, 3] ?_
    refine aS 17 ?_
    refine SA_done (by kernel_rfl) (Qj ?_)
    refine cd (fun hc5 : (e1.2.2 != (normF d.2.2)) = true => ?_) (fun hc5 => ?_)
    ·refine SW_seq ?_
     refine SW_draw [(F.p, 3, pt F.T.p 0), ((Gs.blk H.s), n * 9 + 3, .int .i64 x.shape), (b1, 2, .int .i64 (normF d.2.2))] [0, 1, 2, 3, 4, 5, 6, 7, 8, 9, 10] (by kernel_rfl) (Qf (Cell.own Qe rfl) (Qf (Gs.cell hH1.row (fun e he => (Qc (mem_h he))) (Qh ObjL.len (Qd hx) (j := 3) (by decide) rfl)) (Qf (Cell.own (Qc (Qa (Qa (Qa (Qc (Qa (Qa Qe))))))) rfl) rd_nil))) ?_
     refine aS 0 ?_
     refine aS 1 ?_
     refine aF 2 ?_
     refine aL 3 ?_
     refine aS 4 ?_
     refine aS 5 ?_
     refine aF 6 ?_
     refine aL 7 ?_
     refine kpA [66, 62, 57, 39, 9, 29, 18, 8, 7, 0, 1, 2, 3] ?_
     refine aS 8 ?_
     refine aF 9 ?_
     refine aL 10 ?_
     refine sa1 false 11 (h := cl (shapes_Change hH1.tree x.shape key (normF d.2.2)) ?_)
     rintro _ TV1 ⟨hTV1, hkTV1, rTV1, okTV1, rfl, hrTV1⟩
     refine ⟨fun hnd => (by cases hnd), ?_⟩
     have hH2 : HeapV.ok (HeapV.mk H.s (H.objs.set n (ObjL.chg x)) H.ts H.texts H.known TV1 H.cs cl1 br1) F := HeapV.ok.withTree hH1 hTV1
     refine aS 12 ?_
     refine aS 13 ?_
     refine aS 14 ?_
     refine aS 15 ?_
     refine kpA [10, 72, 57, 39, 9, 29, 18, 8, 7, 0, 1, 2, 3] ?_
     refine aS 16 ?_
     refine SA_done (by kernel_rfl) (Qj ?_)
     refine Qn ?_
     refine os 4 ?_
     by_cases hp2 : okTV1 = true
     ·refine L (cl (heap_step_ok hH2 (n := n) (Qd hx) rTV1 (ok := okTV1) hp2) ?_ (hp := HeapV.pm))
      rintro _ _ rfl
      refine SL_sig _ (by simp only [HeapV.ent, HeapV.put, List.set_set, List.cons_append, List.append_assoc, List.nil_append]; rfl) ?_
      have hH3 : HeapV.ok (HeapV.mk H.s (H.objs.set n (ObjL.withShape (ObjL.chg x) rTV1)) H.ts H.texts H.known TV1 H.cs cl1 br1) F := by simpa only [HeapV.put, List.set_set] using HeapV.ok.put hH2 (Qd hx) (x' := (ObjL.withShape (ObjL.chg x) rTV1)) ⟨(HeapV.ok.at hH2 (Qd hx)).ns, (HeapV.ok.at hH2 (Qd hx)).vs, (HeapV.ok.at hH2 (Qd hx)).es, (HeapV.ok.at hH2 (Qd hx)).is⟩ (HeapV.ok.small hH2 (ObjL.chg x) (List.mem_of_getElem? (Qd hx)))
      refine nq ?_
      refine SW_perm _ (perm_cc (perm_ca perm_cz)) ?_
      refine SW_perm ((Gs.ent 9 1 x.ns (x.names.map encS)) ++ ((Gs.ent 45 3 x.vs (x.vals.flatMap Qk)) ++ ((Gs.ent 33 1 x.es (x.elems.map encU)) ++ ((Gs.ent 33 1 x.is (x.inner.map encU)) ++ (((List.eraseIdx (H.objs.set n (ObjL.withShape (ObjL.chg x) rTV1)) n).flatMap ObjL.ent) ++ ((F.p, .cells 75 6 [Gs.val H.s ((H.objs.set n (ObjL.withShape (ObjL.chg x) rTV1)).length), Gs.val H.ts H.texts.length, .map (some F.kb), pt F.T.p 0, pt F.cp 0, .int .i64 br1]) :: ((Gs.ent 102 9 H.s ((H.objs.set n (ObjL.withShape (ObjL.chg x) rTV1)).flatMap ObjL.cells)) ++ ((Gs.ent 9 1 H.ts (H.texts.map encS)) ++ ((F.kb, .map (kvs encS encU H.known)) :: ((TreeV.ent TV1 F.T) ++ ((CellsL.ent (CellsL.mk F.cp H.cs cl1)) ++ ((b1, .cells 45 3 [.int .u64 d.1, .int .u64 d.2.1, .int .i64 (normF d.2.2)]) :: ([]))))))))))))) (obj_focus (Qd hx) _) ?_
      refine SW_draw [((Gs.blk H.s), n * 9 + 5, Gs.val x.vs x.vals.length), (b1, 0, .int .u64 d.1), (b1, 1, .int .u64 d.2.1), (b1, 2, .int .i64 (normF d.2.2))] [0, 1, 2, 3, 4, 5] (by kernel_rfl) (Qf (Gs.cell hH3.row (fun e he => (Qa (Qa (Qa (Qa (Qa (Qc (mem_h he)))))))) (Qh ObjL.len (Qd hx) (j := 5) (by decide) rfl)) (Qf (Cell.own (Qa (Qa (Qa (Qa (Qa (Qc (Qa (Qa (Qc (Qa (Qa Qe))))))))))) rfl) (Qf (Cell.own (Qa (Qa (Qa (Qa (Qa (Qc (Qa (Qa (Qc (Qa (Qa Qe))))))))))) rfl) (Qf (Cell.own (Qa (Qa (Qa (Qa (Qa (Qc (Qa (Qa (Qc (Qa (Qa Qe))))))))))) rfl) rd_nil)))) ?_
      refine aS 0 ?_
      refine aS 1 ?_
      refine aF 2 ?_
      refine kpA [80, 11, 10, 57, 39, 9, 29, 18, 8, 7, 0, 1, 2, 3] ?_
      refine aL 3 ?_
      refine aS 4 ?_
      refine tr 5 (.agg #[.int .u64 d.1, .int .u64 d.2.1, .int .i64 (normF d.2.2)]) ?_ (hy := fun δ w_ hr => Rd_loads b1 0 [.int .u64 d.1, .int .u64 d.2.1, .int .i64 (normF d.2.2)] rfl (by kernel_rfl) (rdm_cons (List.mem_cons_of_mem _ List.mem_cons_self) (rdm_cons (List.mem_cons_of_mem _ (List.mem_cons_of_mem _ List.mem_cons_self)) (rdm_cons (List.mem_cons_of_mem _ (List.mem_cons_of_mem _ (List.mem_cons_of_mem _ List.mem_cons_self))) rdm_nil))) hr)
      refine aI 6 (placeO (TreeV.abs H.V F.T) x.shape x.names key) (((placeO (TreeV.abs H.V F.T) x.shape x.names key).toNat) * 3) (show Gs.ok 3 (x.vals).length x.vs (x.vals.flatMap Qk) from (HeapV.ok.at (x := (ObjL.withShape (ObjL.chg x) rTV1)) hH3 (Qd hx)).vs) Tryz.underlying99 ?_
      have hok2 := Gs.ok.relen (ys := ((x.vals.set ((placeO (TreeV.abs H.V F.T) x.shape x.names key).toNat) (d.1, d.2.1, normF d.2.2)).flatMap Qk)) (show Gs.ok 3 (x.vals).length x.vs (x.vals.flatMap Qk) from (HeapV.ok.at (x := (ObjL.withShape (ObjL.chg x) rTV1)) hH3 (Qd hx)).vs) (by simp [flat_len descCells_len])
      refine SA_perm _ (perm_ca perm_cz) ?_
      refine sa1 false 7 (h := O_storeG (ys := ((x.vals.set ((placeO (TreeV.abs H.V F.T) x.shape x.names key).toNat) (d.1, d.2.1, normF d.2.2)).flatMap Qk)) x.vs (((placeO (TreeV.abs H.V F.T) x.shape x.names key).toNat) * 3) (.agg #[.int .u64 d.1, .int .u64 d.2.1, .int .i64 (normF d.2.2)]) [.int .u64 d.1, .int .u64 d.2.1, .int .i64 (normF d.2.2)] (Gs.ok.ne (show Gs.ok 3 (x.vals).length x.vs (x.vals.flatMap Qk) from (HeapV.ok.at (x := (ObjL.withShape (ObjL.chg x) rTV1)) hH3 (Qd hx)).vs) (by first | omega | (simp; omega))) (fun _ => rfl) (fun _ => rfl) rfl (by kernel_rfl) rfl (by rw [flat_len descCells_len]; simp; omega) (row_lay (j := 0) descCells_len (d.1, d.2.1, normF d.2.2) he1 (Nat.le_of_ble_eq_true rfl) rfl) rfl ?_)
      refine ⟨fun hnd => (by cases hnd), ?_⟩
      refine SA_done (by kernel_rfl) (Qj ?_)
      have er : (H.objs.set n (ObjL.mk x.kind x.proto x.shut rTV1 x.ns x.names x.vs (x.vals.set ((placeO (TreeV.abs H.V F.T) x.shape x.names key).toNat) (d.1, d.2.1, normF d.2.2)) x.es x.elems x.is x.inner (if 0 ≤ x.cell then -1 else x.cell))).flatMap ObjL.cells = (H.objs.set n (ObjL.withShape (ObjL.chg x) rTV1)).flatMap ObjL.cells := set_cells (by simp [ObjL.cells])
      refine SW_sig ((Gs.ent 45 3 x.vs ((x.vals.set ((placeO (TreeV.abs H.V F.T) x.shape x.names key).toNat) (d.1, d.2.1, normF d.2.2)).flatMap Qk)) ++ ((Gs.ent 9 1 x.ns (x.names.map encS)) ++ ((Gs.ent 33 1 x.es (x.elems.map encU)) ++ ((Gs.ent 33 1 x.is (x.inner.map encU)) ++ (((List.eraseIdx (H.objs.set n (ObjL.withShape (ObjL.chg x) rTV1)) n).flatMap ObjL.ent) ++ ((F.p, .cells 75 6 [Gs.val H.s ((H.objs.set n (ObjL.withShape (ObjL.chg x) rTV1)).length), Gs.val H.ts H.texts.length, .map (some F.kb), pt F.T.p 0, pt F.cp 0, .int .i64 br1]) :: ((Gs.ent 102 9 H.s ((H.objs.set n (ObjL.mk x.kind x.proto x.shut rTV1 x.ns x.names x.vs (x.vals.set ((placeO (TreeV.abs H.V F.T) x.shape x.names key).toNat) (d.1, d.2.1, normF d.2.2)) x.es x.elems x.is x.inner (if 0 ≤ x.cell then -1 else x.cell))).flatMap ObjL.cells)) ++ ((Gs.ent 9 1 H.ts (H.texts.map encS)) ++ ((F.kb, .map (kvs encS encU H.known)) :: ((TreeV.ent TV1 F.T) ++ ((CellsL.ent (CellsL.mk F.cp H.cs cl1)) ++ ((b1, .cells 45 3 [.int .u64 d.1, .int .u64 d.2.1, .int .i64 (normF d.2.2)]) :: ([]))))))))))))) (by rw [er]) ?_
      refine Qi (Qm ?_)
      refine Qg (.tuple #[]) (fun _ => rfl) ?_
      refine ⟨((ObjL.mk x.kind x.proto x.shut rTV1 x.ns x.names x.vs (x.vals.set ((placeO (TreeV.abs H.V F.T) x.shape x.names key).toNat) (d.1, d.2.1, normF d.2.2)) x.es x.elems x.is x.inner (if 0 ≤ x.cell then -1 else x.cell)), TV1, cl1, br1), ?_, rfl, ?_, ⟨rfl, rfl, rfl, rfl, rfl, rfl, rfl, rfl⟩, ?_, hchcl1⟩
      · refine Own.trans (ow (S := ((F.p, .cells 75 6 [Gs.val H.s ((H.objs.set n (ObjL.withShape (ObjL.chg x) rTV1)).length), Gs.val H.ts H.texts.length, .map (some F.kb), pt F.T.p 0, pt F.cp 0, .int .i64 br1]) :: ((Gs.ent 102 9 H.s ((H.objs.set n (ObjL.mk x.kind x.proto x.shut rTV1 x.ns x.names x.vs (x.vals.set ((placeO (TreeV.abs H.V F.T) x.shape x.names key).toNat) (d.1, d.2.1, normF d.2.2)) x.es x.elems x.is x.inner (if 0 ≤ x.cell then -1 else x.cell))).flatMap ObjL.cells)) ++ ((Gs.ent 9 1 x.ns (x.names.map encS)) ++ ((Gs.ent 45 3 x.vs ((x.vals.set ((placeO (TreeV.abs H.V F.T) x.shape x.names key).toNat) (d.1, d.2.1, normF d.2.2)).flatMap Qk)) ++ ((Gs.ent 33 1 x.es (x.elems.map encU)) ++ ((Gs.ent 33 1 x.is (x.inner.map encU)) ++ (((List.eraseIdx (H.objs.set n (ObjL.withShape (ObjL.chg x) rTV1)) n).flatMap ObjL.ent) ++ ((Gs.ent 9 1 H.ts (H.texts.map encS)) ++ ((F.kb, .map (kvs encS encU H.known)) :: ((TreeV.ent TV1 F.T) ++ ((CellsL.ent (CellsL.mk F.cp H.cs cl1)) ++ ([])))))))))))))) (Own.of_perm ?_)
        simpa only [HeapV.put, List.set_set] using HeapV.back (H := (HeapV.mk H.s (H.objs.set n (ObjL.withShape (ObjL.chg x) rTV1)) H.ts H.texts H.known TV1 H.cs cl1 br1)) F (Qd hx) (ObjL.mk x.kind x.proto x.shut rTV1 x.ns x.names x.vs (x.vals.set ((placeO (TreeV.abs H.V F.T) x.shape x.names key).toNat) (d.1, d.2.1, normF d.2.2)) x.es x.elems x.is x.inner (if 0 ≤ x.cell then -1 else x.cell))
      · simpa only [HeapV.put, List.set_set] using HeapV.ok.put hH3 (Qd hx) (x' := (ObjL.mk x.kind x.proto x.shut rTV1 x.ns x.names x.vs (x.vals.set ((placeO (TreeV.abs H.V F.T) x.shape x.names key).toNat) (d.1, d.2.1, normF d.2.2)) x.es x.elems x.is x.inner (if 0 ≤ x.cell then -1 else x.cell))) ⟨(by first | exact (show Gs.ok 1 (x.names).length x.ns (x.names.map encS) from (HeapV.ok.at (x := (ObjL.withShape (ObjL.chg x) rTV1)) hH3 (Qd hx)).ns) | (simp only [List.length_set]; exact (show Gs.ok 1 (x.names).length x.ns (x.names.map encS) from (HeapV.ok.at (x := (ObjL.withShape (ObjL.chg x) rTV1)) hH3 (Qd hx)).ns))), (by first | exact hok2 | (simp only [List.length_set]; exact hok2)), (by first | exact (show Gs.ok 1 (x.elems).length x.es (x.elems.map encU) from (HeapV.ok.at (x := (ObjL.withShape (ObjL.chg x) rTV1)) hH3 (Qd hx)).es) | (simp only [List.length_set]; exact (show Gs.ok 1 (x.elems).length x.es (x.elems.map encU) from (HeapV.ok.at (x := (ObjL.withShape (ObjL.chg x) rTV1)) hH3 (Qd hx)).es))), (by first | exact (show Gs.ok 1 (x.inner).length x.is (x.inner.map encU) from (HeapV.ok.at (x := (ObjL.withShape (ObjL.chg x) rTV1)) hH3 (Qd hx)).is) | (simp only [List.length_set]; exact (show Gs.ok 1 (x.inner).length x.is (x.inner.map encU) from (HeapV.ok.at (x := (ObjL.withShape (ObjL.chg x) rTV1)) hH3 (Qd hx)).is)))⟩ (HeapV.ok.small hH3 (ObjL.withShape (ObjL.chg x) rTV1) (List.mem_of_getElem? (Qd hx)))
      · simp only [putS, ObjL.ps, if_pos (show 0 ≤ placeO (H.V.abs F.T) x.shape x.names key from by omega), he1, putOld, if_pos (And.intro (show 0 ≤ x.shape from by omega) hc5), hrTV1, stepS, if_pos hp2]
     refine L (cl (heap_step_no hH2 (n := n) (Qd hx) rTV1 (ok := okTV1) (by simpa using hp2) (by omega)) ?_ (hp := HeapV.pm))
     rintro _ kg1 ⟨rfl, hkg1⟩
     refine SL_sig _ (by simp only [HeapV.ent, HeapV.put, List.set_set, List.cons_append, List.append_assoc, List.nil_append]; rfl) ?_
     have hH3 : HeapV.ok (HeapV.mk H.s (H.objs.set n (ObjL.loosed (ObjL.chg x) kg1 (keysP (TreeV.abs TV1 F.T) x.shape))) H.ts H.texts H.known TV1 H.cs cl1 br1) F := by simpa only [HeapV.put, List.set_set] using HeapV.ok.put hH2 (Qd hx) (x' := (ObjL.loosed (ObjL.chg x) kg1 (keysP (TreeV.abs TV1 F.T) x.shape))) ⟨hkg1, (HeapV.ok.at hH2 (Qd hx)).vs, (HeapV.ok.at hH2 (Qd hx)).es, (HeapV.ok.at hH2 (Qd hx)).is⟩ (HeapV.ok.small hH2 (ObjL.chg x) (List.mem_of_getElem? (Qd hx)))
     refine nq ?_
     refine SW_perm _ (perm_cc (perm_ca perm_cz)) ?_
     refine SW_perm ((Gs.ent 9 1 kg1 ((keysP (TreeV.abs TV1 F.T) x.shape).map encS)) ++ ((Gs.ent 45 3 x.vs (x.vals.flatMap Qk)) ++ ((Gs.ent 33 1 x.es (x.elems.map encU)) ++ ((Gs.ent 33 1 x.is (x.inner.map encU)) ++ (((List.eraseIdx (H.objs.set n (ObjL.loosed (ObjL.chg x) kg1 (keysP (TreeV.abs TV1 F.T) x.shape))) n).flatMap ObjL.ent) ++ ((F.p, .cells 75 6 [Gs.val H.s ((H.objs.set n (ObjL.loosed (ObjL.chg x) kg1 (keysP (TreeV.abs TV1 F.T) x.shape))).length), Gs.val H.ts H.texts.length, .map (some F.kb), pt F.T.p 0, pt F.cp 0, .int .i64 br1]) :: ((Gs.ent 102 9 H.s ((H.objs.set n (ObjL.loosed (ObjL.chg x) kg1 (keysP (TreeV.abs TV1 F.T) x.shape))).flatMap ObjL.cells)) ++ ((Gs.ent 9 1 H.ts (H.texts.map encS)) ++ ((F.kb, .map (kvs encS encU H.known)) :: ((TreeV.ent TV1 F.T) ++ ((CellsL.ent (CellsL.mk F.cp H.cs cl1)) ++ ((b1, .cells 45 3 [.int .u64 d.1, .int .u64 d.2.1, .int .i64 (normF d.2.2)]) :: ([]))))))))))))) (obj_focus (Qd hx) _) ?_
     refine SW_draw [((Gs.blk H.s), n * 9 + 5, Gs.val x.vs x.vals.length), (b1, 0, .int .u64 d.1), (b1, 1, .int .u64 d.2.1), (b1, 2, .int .i64 (normF d.2.2))] [0, 1, 2, 3, 4, 5] (by kernel_rfl) (Qf (Gs.cell hH3.row (fun e he => (Qa (Qa (Qa (Qa (Qa (Qc (mem_h he)))))))) (Qh ObjL.len (Qd hx) (j := 5) (by decide) rfl)) (Qf (Cell.own (Qa (Qa (Qa (Qa (Qa (Qc (Qa (Qa (Qc (Qa (Qa Qe))))))))))) rfl) (Qf (Cell.own (Qa (Qa (Qa (Qa (Qa (Qc (Qa (Qa (Qc (Qa (Qa Qe))))))))))) rfl) (Qf (Cell.own (Qa (Qa (Qa (Qa (Qa (Qc (Qa (Qa (Qc (Qa (Qa Qe))))))))))) rfl) rd_nil)))) ?_
     refine aS 0 ?_
     refine aS 1 ?_
     refine aF 2 ?_
     refine kpA [80, 11, 10, 57, 39, 9, 29, 18, 8, 7, 0, 1, 2, 3] ?_
     refine aL 3 ?_
     refine aS 4 ?_
     refine tr 5 (.agg #[.int .u64 d.1, .int .u64 d.2.1, .int .i64 (normF d.2.2)]) ?_ (hy := fun δ w_ hr => Rd_loads b1 0 [.int .u64 d.1, .int .u64 d.2.1, .int .i64 (normF d.2.2)] rfl (by kernel_rfl) (rdm_cons (List.mem_cons_of_mem _ List.mem_cons_self) (rdm_cons (List.mem_cons_of_mem _ (List.mem_cons_of_mem _ List.mem_cons_self)) (rdm_cons (List.mem_cons_of_mem _ (List.mem_cons_of_mem _ (List.mem_cons_of_mem _ List.mem_cons_self))) rdm_nil))) hr)
     refine aI 6 (placeO (TreeV.abs H.V F.T) x.shape x.names key) (((placeO (TreeV.abs H.V F.T) x.shape x.names key).toNat) * 3) (show Gs.ok 3 (x.vals).length x.vs (x.vals.flatMap Qk) from (HeapV.ok.at (x := (ObjL.loosed (ObjL.chg x) kg1 (keysP (TreeV.abs TV1 F.T) x.shape))) hH3 (Qd hx)).vs) Tryz.underlying99 ?_
     have hok4 := Gs.ok.relen (ys := ((x.vals.set ((placeO (TreeV.abs H.V F.T) x.shape x.names key).toNat) (d.1, d.2.1, normF d.2.2)).flatMap Qk)) (show Gs.ok 3 (x.vals).length x.vs (x.vals.flatMap Qk) from (HeapV.ok.at (x := (ObjL.loosed (ObjL.chg x) kg1 (keysP (TreeV.abs TV1 F.T) x.shape))) hH3 (Qd hx)).vs) (by simp [flat_len descCells_len])
     refine SA_perm _ (perm_ca perm_cz) ?_
     refine sa1 false 7 (h := O_storeG (ys := ((x.vals.set ((placeO (TreeV.abs H.V F.T) x.shape x.names key).toNat) (d.1, d.2.1, normF d.2.2)).flatMap Qk)) x.vs (((placeO (TreeV.abs H.V F.T) x.shape x.names key).toNat) * 3) (.agg #[.int .u64 d.1, .int .u64 d.2.1, .int .i64 (normF d.2.2)]) [.int .u64 d.1, .int .u64 d.2.1, .int .i64 (normF d.2.2)] (Gs.ok.ne (show Gs.ok 3 (x.vals).length x.vs (x.vals.flatMap Qk) from (HeapV.ok.at (x := (ObjL.loosed (ObjL.chg x) kg1 (keysP (TreeV.abs TV1 F.T) x.shape))) hH3 (Qd hx)).vs) (by first | omega | (simp; omega))) (fun _ => rfl) (fun _ => rfl) rfl (by kernel_rfl) rfl (by rw [flat_len descCells_len]; simp; omega) (row_lay (j := 0) descCells_len (d.1, d.2.1, normF d.2.2) he1 (Nat.le_of_ble_eq_true rfl) rfl) rfl ?_)
     refine ⟨fun hnd => (by cases hnd), ?_⟩
     refine SA_done (by kernel_rfl) (Qj ?_)
     have er : (H.objs.set n (ObjL.mk x.kind x.proto x.shut (-1) kg1 (keysP (TreeV.abs TV1 F.T) x.shape) x.vs (x.vals.set ((placeO (TreeV.abs H.V F.T) x.shape x.names key).toNat) (d.1, d.2.1, normF d.2.2)) x.es x.elems x.is x.inner (if 0 ≤ x.cell then -1 else x.cell))).flatMap ObjL.cells = (H.objs.set n (ObjL.loosed (ObjL.chg x) kg1 (keysP (TreeV.abs TV1 F.T) x.shape))).flatMap ObjL.cells := set_cells (by simp [ObjL.cells])
     refine SW_sig ((Gs.ent 45 3 x.vs ((x.vals.set ((placeO (TreeV.abs H.V F.T) x.shape x.names key).toNat) (d.1, d.2.1, normF d.2.2)).flatMap Qk)) ++ ((Gs.ent 9 1 kg1 ((keysP (TreeV.abs TV1 F.T) x.shape).map encS)) ++ ((Gs.ent 33 1 x.es (x.elems.map encU)) ++ ((Gs.ent 33 1 x.is (x.inner.map encU)) ++ (((List.eraseIdx (H.objs.set n (ObjL.loosed (ObjL.chg x) kg1 (keysP (TreeV.abs TV1 F.T) x.shape))) n).flatMap ObjL.ent) ++ ((F.p, .cells 75 6 [Gs.val H.s ((H.objs.set n (ObjL.loosed (ObjL.chg x) kg1 (keysP (TreeV.abs TV1 F.T) x.shape))).length), Gs.val H.ts H.texts.length, .map (some F.kb), pt F.T.p 0, pt F.cp 0, .int .i64 br1]) :: ((Gs.ent 102 9 H.s ((H.objs.set n (ObjL.mk x.kind x.proto x.shut (-1) kg1 (keysP (TreeV.abs TV1 F.T) x.shape) x.vs (x.vals.set ((placeO (TreeV.abs H.V F.T) x.shape x.names key).toNat) (d.1, d.2.1, normF d.2.2)) x.es x.elems x.is x.inner (if 0 ≤ x.cell then -1 else x.cell))).flatMap ObjL.cells)) ++ ((Gs.ent 9 1 H.ts (H.texts.map encS)) ++ ((F.kb, .map (kvs encS encU H.known)) :: ((TreeV.ent TV1 F.T) ++ ((CellsL.ent (CellsL.mk F.cp H.cs cl1)) ++ ((b1, .cells 45 3 [.int .u64 d.1, .int .u64 d.2.1, .int .i64 (normF d.2.2)]) :: ([]))))))))))))) (by rw [er]) ?_
     refine Qi (Qm ?_)
     refine Qg (.tuple #[]) (fun _ => rfl) ?_
     refine ⟨((ObjL.mk x.kind x.proto x.shut (-1) kg1 (keysP (TreeV.abs TV1 F.T) x.shape) x.vs (x.vals.set ((placeO (TreeV.abs H.V F.T) x.shape x.names key).toNat) (d.1, d.2.1, normF d.2.2)) x.es x.elems x.is x.inner (if 0 ≤ x.cell then -1 else x.cell)), TV1, cl1, br1), ?_, rfl, ?_, ⟨rfl, rfl, rfl, rfl, rfl, rfl, rfl, rfl⟩, ?_, hchcl1⟩
     · refine Own.trans (ow (S := ((F.p, .cells 75 6 [Gs.val H.s ((H.objs.set n (ObjL.loosed (ObjL.chg x) kg1 (keysP (TreeV.abs TV1 F.T) x.shape))).length), Gs.val H.ts H.texts.length, .map (some F.kb), pt F.T.p 0, pt F.cp 0, .int .i64 br1]) :: ((Gs.ent 102 9 H.s ((H.objs.set n (ObjL.mk x.kind x.proto x.shut (-1) kg1 (keysP (TreeV.abs TV1 F.T) x.shape) x.vs (x.vals.set ((placeO (TreeV.abs H.V F.T) x.shape x.names key).toNat) (d.1, d.2.1, normF d.2.2)) x.es x.elems x.is x.inner (if 0 ≤ x.cell then -1 else x.cell))).flatMap ObjL.cells)) ++ ((Gs.ent 9 1 kg1 ((keysP (TreeV.abs TV1 F.T) x.shape).map encS)) ++ ((Gs.ent 45 3 x.vs ((x.vals.set ((placeO (TreeV.abs H.V F.T) x.shape x.names key).toNat) (d.1, d.2.1, normF d.2.2)).flatMap Qk)) ++ ((Gs.ent 33 1 x.es (x.elems.map encU)) ++ ((Gs.ent 33 1 x.is (x.inner.map encU)) ++ (((List.eraseIdx (H.objs.set n (ObjL.loosed (ObjL.chg x) kg1 (keysP (TreeV.abs TV1 F.T) x.shape))) n).flatMap ObjL.ent) ++ ((Gs.ent 9 1 H.ts (H.texts.map encS)) ++ ((F.kb, .map (kvs encS encU H.known)) :: ((TreeV.ent TV1 F.T) ++ ((CellsL.ent (CellsL.mk F.cp H.cs cl1)) ++ ([])))))))))))))) (Own.of_perm ?_)
       simpa only [HeapV.put, List.set_set] using HeapV.back (H := (HeapV.mk H.s (H.objs.set n (ObjL.loosed (ObjL.chg x) kg1 (keysP (TreeV.abs TV1 F.T) x.shape))) H.ts H.texts H.known TV1 H.cs cl1 br1)) F (Qd hx) (ObjL.mk x.kind x.proto x.shut (-1) kg1 (keysP (TreeV.abs TV1 F.T) x.shape) x.vs (x.vals.set ((placeO (TreeV.abs H.V F.T) x.shape x.names key).toNat) (d.1, d.2.1, normF d.2.2)) x.es x.elems x.is x.inner (if 0 ≤ x.cell then -1 else x.cell))
     · simpa only [HeapV.put, List.set_set] using HeapV.ok.put hH3 (Qd hx) (x' := (ObjL.mk x.kind x.proto x.shut (-1) kg1 (keysP (TreeV.abs TV1 F.T) x.shape) x.vs (x.vals.set ((placeO (TreeV.abs H.V F.T) x.shape x.names key).toNat) (d.1, d.2.1, normF d.2.2)) x.es x.elems x.is x.inner (if 0 ≤ x.cell then -1 else x.cell))) ⟨(by first | exact (show Gs.ok 1 ((keysP (TreeV.abs TV1 F.T) x.shape)).length kg1 ((keysP (TreeV.abs TV1 F.T) x.shape).map encS) from (HeapV.ok.at (x := (ObjL.loosed (ObjL.chg x) kg1 (keysP (TreeV.abs TV1 F.T) x.shape))) hH3 (Qd hx)).ns) | (simp only [List.length_set]; exact (show Gs.ok 1 ((keysP (TreeV.abs TV1 F.T) x.shape)).length kg1 ((keysP (TreeV.abs TV1 F.T) x.shape).map encS) from (HeapV.ok.at (x := (ObjL.loosed (ObjL.chg x) kg1 (keysP (TreeV.abs TV1 F.T) x.shape))) hH3 (Qd hx)).ns))), (by first | exact hok4 | (simp only [List.length_set]; exact hok4)), (by first | exact (show Gs.ok 1 (x.elems).length x.es (x.elems.map encU) from (HeapV.ok.at (x := (ObjL.loosed (ObjL.chg x) kg1 (keysP (TreeV.abs TV1 F.T) x.shape))) hH3 (Qd hx)).es) | (simp only [List.length_set]; exact (show Gs.ok 1 (x.elems).length x.es (x.elems.map encU) from (HeapV.ok.at (x := (ObjL.loosed (ObjL.chg x) kg1 (keysP (TreeV.abs TV1 F.T) x.shape))) hH3 (Qd hx)).es))), (by first | exact (show Gs.ok 1 (x.inner).length x.is (x.inner.map encU) from (HeapV.ok.at (x := (ObjL.loosed (ObjL.chg x) kg1 (keysP (TreeV.abs TV1 F.T) x.shape))) hH3 (Qd hx)).is) | (simp only [List.length_set]; exact (show Gs.ok 1 (x.inner).length x.is (x.inner.map encU) from (HeapV.ok.at (x := (ObjL.loosed (ObjL.chg x) kg1 (keysP (TreeV.abs TV1 F.T) x.shape))) hH3 (Qd hx)).is)))⟩ (HeapV.ok.small hH3 (ObjL.loosed (ObjL.chg x) kg1 (keysP (TreeV.abs TV1 F.T) x.shape)) (List.mem_of_getElem? (Qd hx)))
     · simp only [putS, ObjL.ps, if_pos (show 0 ≤ placeO (H.V.abs F.T) x.shape x.names key from by omega), he1, putOld, if_pos (And.intro (show 0 ≤ x.shape from by omega) hc5), hrTV1, stepS, if_neg hp2, looseS, if_pos (show 0 ≤ x.shape from by omega)]
    refine Ql (Qj ?_)
    refine SW_seq ?_
    refine SW_perm _ (perm_cc (perm_ca perm_cz)) ?_
    refine SW_perm ((Gs.ent 9 1 x.ns (x.names.map encS)) ++ ((Gs.ent 45 3 x.vs (x.vals.flatMap Qk)) ++ ((Gs.ent 33 1 x.es (x.elems.map encU)) ++ ((Gs.ent 33 1 x.is (x.inner.map encU)) ++ (((List.eraseIdx (H.objs.set n (ObjL.chg x)) n).flatMap ObjL.ent) ++ ((F.p, .cells 75 6 [Gs.val H.s ((H.objs.set n (ObjL.chg x)).length), Gs.val H.ts H.texts.length, .map (some F.kb), pt F.T.p 0, pt F.cp 0, .int .i64 br1]) :: ((Gs.ent 102 9 H.s ((H.objs.set n (ObjL.chg x)).flatMap ObjL.cells)) ++ ((Gs.ent 9 1 H.ts (H.texts.map encS)) ++ ((F.kb, .map (kvs encS encU H.known)) :: ((TreeV.ent H.V F.T) ++ ((CellsL.ent (CellsL.mk F.cp H.cs cl1)) ++ ((b1, .cells 45 3 [.int .u64 d.1, .int .u64 d.2.1, .int .i64 (normF d.2.2)]) :: ([]))))))))))))) (obj_focus (Qd hx) _) ?_
    refine SW_draw [((Gs.blk H.s), n * 9 + 5, Gs.val x.vs x.vals.length), (b1, 0, .int .u64 d.1), (b1, 1, .int .u64 d.2.1), (b1, 2, .int .i64 (normF d.2.2))] [0, 1, 2, 3, 4, 5] (by kernel_rfl) (Qf (Gs.cell hH1.row (fun e he => (Qa (Qa (Qa (Qa (Qa (Qc (mem_h he)))))))) (Qh ObjL.len (Qd hx) (j := 5) (by decide) rfl)) (Qf (Cell.own (Qa (Qa (Qa (Qa (Qa (Qc (Qa (Qa (Qc (Qa (Qa Qe))))))))))) rfl) (Qf (Cell.own (Qa (Qa (Qa (Qa (Qa (Qc (Qa (Qa (Qc (Qa (Qa Qe))))))))))) rfl) (Qf (Cell.own (Qa (Qa (Qa (Qa (Qa (Qc (Qa (Qa (Qc (Qa (Qa Qe))))))))))) rfl) rd_nil)))) ?_
    refine aS 0 ?_
    refine aS 1 ?_
    refine aF 2 ?_
    refine aL 3 ?_
    refine aS 4 ?_
    refine tr 5 (.agg #[.int .u64 d.1, .int .u64 d.2.1, .int .i64 (normF d.2.2)]) ?_ (hy := fun δ w_ hr => Rd_loads b1 0 [.int .u64 d.1, .int .u64 d.2.1, .int .i64 (normF d.2.2)] rfl (by kernel_rfl) (rdm_cons (List.mem_cons_of_mem _ List.mem_cons_self) (rdm_cons (List.mem_cons_of_mem _ (List.mem_cons_of_mem _ List.mem_cons_self)) (rdm_cons (List.mem_cons_of_mem _ (List.mem_cons_of_mem _ (List.mem_cons_of_mem _ List.mem_cons_self))) rdm_nil))) hr)
    refine aI 6 (placeO (TreeV.abs H.V F.T) x.shape x.names key) (((placeO (TreeV.abs H.V F.T) x.shape x.names key).toNat) * 3) (show Gs.ok 3 (x.vals).length x.vs (x.vals.flatMap Qk) from (HeapV.ok.at (x := (ObjL.chg x)) hH1 (Qd hx)).vs) Tryz.underlying99 ?_
    have hok6 := Gs.ok.relen (ys := ((x.vals.set ((placeO (TreeV.abs H.V F.T) x.shape x.names key).toNat) (d.1, d.2.1, normF d.2.2)).flatMap Qk)) (show Gs.ok 3 (x.vals).length x.vs (x.vals.flatMap Qk) from (HeapV.ok.at (x := (ObjL.chg x)) hH1 (Qd hx)).vs) (by simp [flat_len descCells_len])
    refine SA_perm _ (perm_ca perm_cz) ?_
    refine sa1 false 7 (h := O_storeG (ys := ((x.vals.set ((placeO (TreeV.abs H.V F.T) x.shape x.names key).toNat) (d.1, d.2.1, normF d.2.2)).flatMap Qk)) x.vs (((placeO (TreeV.abs H.V F.T) x.shape x.names key).toNat) * 3) (.agg #[.int .u64 d.1, .int .u64 d.2.1, .int .i64 (normF d.2.2)]) [.int .u64 d.1, .int .u64 d.2.1, .int .i64 (normF d.2.2)] (Gs.ok.ne (show Gs.ok 3 (x.vals).length x.vs (x.vals.flatMap Qk) from (HeapV.ok.at (x := (ObjL.chg x)) hH1 (Qd hx)).vs) (by first | omega | (simp; omega))) (fun _ => rfl) (fun _ => rfl) rfl (by kernel_rfl) rfl (by rw [flat_len descCells_len]; simp; omega) (row_lay (j := 0) descCells_len (d.1, d.2.1, normF d.2.2) he1 (Nat.le_of_ble_eq_true rfl) rfl) rfl ?_)
    refine ⟨fun hnd => (by cases hnd), ?_⟩
    refine kpA [57, 39, 9, 29, 18, 8, 7, 0, 1, 2, 3] ?_
    refine SA_done (by kernel_rfl) (Qj ?_)
    have er : (H.objs.set n (ObjL.mk x.kind x.proto x.shut x.shape x.ns x.names x.vs (x.vals.set ((placeO (TreeV.abs H.V F.T) x.shape x.names key).toNat) (d.1, d.2.1, normF d.2.2)) x.es x.elems x.is x.inner (if 0 ≤ x.cell then -1 else x.cell))).flatMap ObjL.cells = (H.objs.set n (ObjL.chg x)).flatMap ObjL.cells := set_cells (by simp [ObjL.cells])
    refine SW_sig ((Gs.ent 45 3 x.vs ((x.vals.set ((placeO (TreeV.abs H.V F.T) x.shape x.names key).toNat) (d.1, d.2.1, normF d.2.2)).flatMap Qk)) ++ ((Gs.ent 9 1 x.ns (x.names.map encS)) ++ ((Gs.ent 33 1 x.es (x.elems.map encU)) ++ ((Gs.ent 33 1 x.is (x.inner.map encU)) ++ (((List.eraseIdx (H.objs.set n (ObjL.chg x)) n).flatMap ObjL.ent) ++ ((F.p, .cells 75 6 [Gs.val H.s ((H.objs.set n (ObjL.chg x)).length), Gs.val H.ts H.texts.length, .map (some F.kb), pt F.T.p 0, pt F.cp 0, .int .i64 br1]) :: ((Gs.ent 102 9 H.s ((H.objs.set n (ObjL.mk x.kind x.proto x.shut x.shape x.ns x.names x.vs (x.vals.set ((placeO (TreeV.abs H.V F.T) x.shape x.names key).toNat) (d.1, d.2.1, normF d.2.2)) x.es x.elems x.is x.inner (if 0 ≤ x.cell then -1 else x.cell))).flatMap ObjL.cells)) ++ ((Gs.ent 9 1 H.ts (H.texts.map encS)) ++ ((F.kb, .map (kvs encS encU H.known)) :: ((TreeV.ent H.V F.T) ++ ((CellsL.ent (CellsL.mk F.cp H.cs cl1)) ++ ((b1, .cells 45 3 [.int .u64 d.1, .int .u64 d.2.1, .int .i64 (normF d.2.2)]) :: ([]))))))))))))) (by rw [er]) ?_
    refine Qi (Qm ?_)
    refine Qg (.tuple #[]) (fun _ => rfl) ?_
    refine ⟨((ObjL.mk x.kind x.proto x.shut x.shape x.ns x.names x.vs (x.vals.set ((placeO (TreeV.abs H.V F.T) x.shape x.names key).toNat) (d.1, d.2.1, normF d.2.2)) x.es x.elems x.is x.inner (if 0 ≤ x.cell then -1 else x.cell)), H.V, cl1, br1), ?_, rfl, ?_, ⟨rfl, rfl, rfl, rfl, rfl, rfl, rfl, rfl⟩, ?_, hchcl1⟩
    · refine Own.trans (ow (S := ((F.p, .cells 75 6 [Gs.val H.s ((H.objs.set n (ObjL.chg x)).length), Gs.val H.ts H.texts.length, .map (some F.kb), pt F.T.p 0, pt F.cp 0, .int .i64 br1]) :: ((Gs.ent 102 9 H.s ((H.objs.set n (ObjL.mk x.kind x.proto x.shut x.shape x.ns x.names x.vs (x.vals.set ((placeO (TreeV.abs H.V F.T) x.shape x.names key).toNat) (d.1, d.2.1, normF d.2.2)) x.es x.elems x.is x.inner (if 0 ≤ x.cell then -1 else x.cell))).flatMap ObjL.cells)) ++ ((Gs.ent 9 1 x.ns (x.names.map encS)) ++ ((Gs.ent 45 3 x.vs ((x.vals.set ((placeO (TreeV.abs H.V F.T) x.shape x.names key).toNat) (d.1, d.2.1, normF d.2.2)).flatMap Qk)) ++ ((Gs.ent 33 1 x.es (x.elems.map encU)) ++ ((Gs.ent 33 1 x.is (x.inner.map encU)) ++ (((List.eraseIdx (H.objs.set n (ObjL.chg x)) n).flatMap ObjL.ent) ++ ((Gs.ent 9 1 H.ts (H.texts.map encS)) ++ ((F.kb, .map (kvs encS encU H.known)) :: ((TreeV.ent H.V F.T) ++ ((CellsL.ent (CellsL.mk F.cp H.cs cl1)) ++ ([])))))))))))))) (Own.of_perm ?_)
      simpa only [HeapV.put, List.set_set] using HeapV.back (H := (HeapV.mk H.s (H.objs.set n (ObjL.chg x)) H.ts H.texts H.known H.V H.cs cl1 br1)) F (Qd hx) (ObjL.mk x.kind x.proto x.shut x.shape x.ns x.names x.vs (x.vals.set ((placeO (TreeV.abs H.V F.T) x.shape x.names key).toNat) (d.1, d.2.1, normF d.2.2)) x.es x.elems x.is x.inner (if 0 ≤ x.cell then -1 else x.cell))
    · simpa only [HeapV.put, List.set_set] using HeapV.ok.put hH1 (Qd hx) (x' := (ObjL.mk x.kind x.proto x.shut x.shape x.ns x.names x.vs (x.vals.set ((placeO (TreeV.abs H.V F.T) x.shape x.names key).toNat) (d.1, d.2.1, normF d.2.2)) x.es x.elems x.is x.inner (if 0 ≤ x.cell then -1 else x.cell))) ⟨(by first | exact (show Gs.ok 1 (x.names).length x.ns (x.names.map encS) from (HeapV.ok.at (x := (ObjL.chg x)) hH1 (Qd hx)).ns) | (simp only [List.length_set]; exact (show Gs.ok 1 (x.names).length x.ns (x.names.map encS) from (HeapV.ok.at (x := (ObjL.chg x)) hH1 (Qd hx)).ns))), (by first | exact hok6 | (simp only [List.length_set]; exact hok6)), (by first | exact (show Gs.ok 1 (x.elems).length x.es (x.elems.map encU) from (HeapV.ok.at (x := (ObjL.chg x)) hH1 (Qd hx)).es) | (simp only [List.length_set]; exact (show Gs.ok 1 (x.elems).length x.es (x.elems.map encU) from (HeapV.ok.at (x := (ObjL.chg x)) hH1 (Qd hx)).es))), (by first | exact (show Gs.ok 1 (x.inner).length x.is (x.inner.map encU) from (HeapV.ok.at (x := (ObjL.chg x)) hH1 (Qd hx)).is) | (simp only [List.length_set]; exact (show Gs.ok 1 (x.inner).length x.is (x.inner.map encU) from (HeapV.ok.at (x := (ObjL.chg x)) hH1 (Qd hx)).is)))⟩ (HeapV.ok.small hH1 (ObjL.chg x) (List.mem_of_getElem? (Qd hx)))
    · simp only [putS, ObjL.ps, if_pos (show 0 ≤ placeO (H.V.abs F.T) x.shape x.names key from by omega), he1, putOld, if_neg (show ¬ (0 ≤ x.shape ∧ (e1.2.2 != normF d.2.2) = true) from by rintro ⟨q1, q2⟩; first | omega | (simp_all; done))]
   replace hg4 : ¬ (x.shape ≥ 0) := hg4
   refine tn 6 ?_
   refine tn 7 ?_
   refine tn 8 ?_
   refine tn 9 ?_
   refine tn 10 ?_
   refine tn 11 ?_
   refine tn 12 ?_
   refine tn 13 ?_
   refine tn 14 ?_
   refine tn 15 ?_
   refine tn 16 ?_
   refine aS 17 ?_
   refine kpA [57, 39, 9, 29, 18, 8, 7, 0, 1, 2, 3] ?_
   refine SA_done (by kernel_rfl) (Qj ?_)
   refine cf ?_
   refine Ql (Qj ?_)
   refine SW_seq ?_
   refine SW_perm _ (perm_cc (perm_ca perm_cz)) ?_
   refine SW_perm ((Gs.ent 9 1 x.ns (x.names.map encS)) ++ ((Gs.ent 45 3 x.vs (x.vals.flatMap Qk)) ++ ((Gs.ent 33 1 x.es (x.elems.map encU)) ++ ((Gs.ent 33 1 x.is (x.inner.map encU)) ++ (((List.eraseIdx (H.objs.set n (ObjL.chg x)) n).flatMap ObjL.ent) ++ ((F.p, .cells 75 6 [Gs.val H.s ((H.objs.set n (ObjL.chg x)).length), Gs.val H.ts H.texts.length, .map (some F.kb), pt F.T.p 0, pt F.cp 0, .int .i64 br1]) :: ((Gs.ent 102 9 H.s ((H.objs.set n (ObjL.chg x)).flatMap ObjL.cells)) ++ ((Gs.ent 9 1 H.ts (H.texts.map encS)) ++ ((F.kb, .map (kvs encS encU H.known)) :: ((TreeV.ent H.V F.T) ++ ((CellsL.ent (CellsL.mk F.cp H.cs cl1)) ++ ((b1, .cells 45 3 [.int .u64 d.1, .int .u64 d.2.1, .int .i64 (normF d.2.2)]) :: ([]))))))))))))) (obj_focus (Qd hx) _) ?_
   refine SW_draw [((Gs.blk H.s), n * 9 + 5, Gs.val x.vs x.vals.length), (b1, 0, .int .u64 d.1), (b1, 1, .int .u64 d.2.1), (b1, 2, .int .i64 (normF d.2.2))] [0, 1, 2, 3, 4, 5] (by kernel_rfl) (Qf (Gs.cell hH1.row (fun e he => (Qa (Qa (Qa (Qa (Qa (Qc (mem_h he)))))))) (Qh ObjL.len (Qd hx) (j := 5) (by decide) rfl)) (Qf (Cell.own (Qa (Qa (Qa (Qa (Qa (Qc (Qa (Qa (Qc (Qa (Qa Qe))))))))))) rfl) (Qf (Cell.own (Qa (Qa (Qa (Qa (Qa (Qc (Qa (Qa (Qc (Qa (Qa Qe))))))))))) rfl) (Qf (Cell.own (Qa (Qa (Qa (Qa (Qa (Qc (Qa (Qa (Qc (Qa (Qa Qe))))))))))) rfl) rd_nil)))) ?_
   refine aS 0 ?_
   refine aS 1 ?_
   refine aF 2 ?_
   refine aL 3 ?_
   refine aS 4 ?_
   refine tr 5 (.agg #[.int .u64 d.1, .int .u64 d.2.1, .int .i64 (normF d.2.2)]) ?_ (hy := fun δ w_ hr => Rd_loads b1 0 [.int .u64 d.1, .int .u64 d.2.1, .int .i64 (normF d.2.2)] rfl (by kernel_rfl) (rdm_cons (List.mem_cons_of_mem _ List.mem_cons_self) (rdm_cons (List.mem_cons_of_mem _ (List.mem_cons_of_mem _ List.mem_cons_self)) (rdm_cons (List.mem_cons_of_mem _ (List.mem_cons_of_mem _ (List.mem_cons_of_mem _ List.mem_cons_self))) rdm_nil))) hr)
   refine aI 6 (placeO (TreeV.abs H.V F.T) x.shape x.names key) (((placeO (TreeV.abs H.V F.T) x.shape x.names key).toNat) * 3) (show Gs.ok 3 (x.vals).length x.vs (x.vals.flatMap Qk) from (HeapV.ok.at (x := (ObjL.chg x)) hH1 (Qd hx)).vs) Tryz.underlying99 ?_
   have hok8 := Gs.ok.relen (ys := ((x.vals.set ((placeO (TreeV.abs H.V F.T) x.shape x.names key).toNat) (d.1, d.2.1, normF d.2.2)).flatMap Qk)) (show Gs.ok 3 (x.vals).length x.vs (x.vals.flatMap Qk) from (HeapV.ok.at (x := (ObjL.chg x)) hH1 (Qd hx)).vs) (by simp [flat_len descCells_len])
   refine SA_perm _ (perm_ca perm_cz) ?_
   refine sa1 false 7 (h := O_storeG (ys := ((x.vals.set ((placeO (TreeV.abs H.V F.T) x.shape x.names key).toNat) (d.1, d.2.1, normF d.2.2)).flatMap Qk)) x.vs (((placeO (TreeV.abs H.V F.T) x.shape x.names key).toNat) * 3) (.agg #[.int .u64 d.1, .int .u64 d.2.1, .int .i64 (normF d.2.2)]) [.int .u64 d.1, .int .u64 d.2.1, .int .i64 (normF d.2.2)] (Gs.ok.ne (show Gs.ok 3 (x.vals).length x.vs (x.vals.flatMap Qk) from (HeapV.ok.at (x := (ObjL.chg x)) hH1 (Qd hx)).vs) (by first | omega | (simp; omega))) (fun _ => rfl) (fun _ => rfl) rfl (by kernel_rfl) rfl (by rw [flat_len descCells_len]; simp; omega) (row_lay (j := 0) descCells_len (d.1, d.2.1, normF d.2.2) he1 (Nat.le_of_ble_eq_true rfl) rfl) rfl ?_)
   refine ⟨fun hnd => (by cases hnd), ?_⟩
   refine SA_done (by kernel_rfl) (Qj ?_)
   have er : (H.objs.set n (ObjL.mk x.kind x.proto x.shut x.shape x.ns x.names x.vs (x.vals.set ((placeO (TreeV.abs H.V F.T) x.shape x.names key).toNat) (d.1, d.2.1, normF d.2.2)) x.es x.elems x.is x.inner (if 0 ≤ x.cell then -1 else x.cell))).flatMap ObjL.cells = (H.objs.set n (ObjL.chg x)).flatMap ObjL.cells := set_cells (by simp [ObjL.cells])
   refine SW_sig ((Gs.ent 45 3 x.vs ((x.vals.set ((placeO (TreeV.abs H.V F.T) x.shape x.names key).toNat) (d.1, d.2.1, normF d.2.2)).flatMap Qk)) ++ ((Gs.ent 9 1 x.ns (x.names.map encS)) ++ ((Gs.ent 33 1 x.es (x.elems.map encU)) ++ ((Gs.ent 33 1 x.is (x.inner.map encU)) ++ (((List.eraseIdx (H.objs.set n (ObjL.chg x)) n).flatMap ObjL.ent) ++ ((F.p, .cells 75 6 [Gs.val H.s ((H.objs.set n (ObjL.chg x)).length), Gs.val H.ts H.texts.length, .map (some F.kb), pt F.T.p 0, pt F.cp 0, .int .i64 br1]) :: ((Gs.ent 102 9 H.s ((H.objs.set n (ObjL.mk x.kind x.proto x.shut x.shape x.ns x.names x.vs (x.vals.set ((placeO (TreeV.abs H.V F.T) x.shape x.names key).toNat) (d.1, d.2.1, normF d.2.2)) x.es x.elems x.is x.inner (if 0 ≤ x.cell then -1 else x.cell))).flatMap ObjL.cells)) ++ ((Gs.ent 9 1 H.ts (H.texts.map encS)) ++ ((F.kb, .map (kvs encS encU H.known)) :: ((TreeV.ent H.V F.T) ++ ((CellsL.ent (CellsL.mk F.cp H.cs cl1)) ++ ((b1, .cells 45 3 [.int .u64 d.1, .int .u64 d.2.1, .int .i64 (normF d.2.2)]) :: ([]))))))))))))) (by rw [er]) ?_
   refine Qi (Qm ?_)
   refine Qg (.tuple #[]) (fun _ => rfl) ?_
   refine ⟨((ObjL.mk x.kind x.proto x.shut x.shape x.ns x.names x.vs (x.vals.set ((placeO (TreeV.abs H.V F.T) x.shape x.names key).toNat) (d.1, d.2.1, normF d.2.2)) x.es x.elems x.is x.inner (if 0 ≤ x.cell then -1 else x.cell)), H.V, cl1, br1), ?_, rfl, ?_, ⟨rfl, rfl, rfl, rfl, rfl, rfl, rfl, rfl⟩, ?_, hchcl1⟩
   · refine Own.trans (ow (S := ((F.p, .cells 75 6 [Gs.val H.s ((H.objs.set n (ObjL.chg x)).length), Gs.val H.ts H.texts.length, .map (some F.kb), pt F.T.p 0, pt F.cp 0, .int .i64 br1]) :: ((Gs.ent 102 9 H.s ((H.objs.set n (ObjL.mk x.kind x.proto x.shut x.shape x.ns x.names x.vs (x.vals.set ((placeO (TreeV.abs H.V F.T) x.shape x.names key).toNat) (d.1, d.2.1, normF d.2.2)) x.es x.elems x.is x.inner (if 0 ≤ x.cell then -1 else x.cell))).flatMap ObjL.cells)) ++ ((Gs.ent 9 1 x.ns (x.names.map encS)) ++ ((Gs.ent 45 3 x.vs ((x.vals.set ((placeO (TreeV.abs H.V F.T) x.shape x.names key).toNat) (d.1, d.2.1, normF d.2.2)).flatMap Qk)) ++ ((Gs.ent 33 1 x.es (x.elems.map encU)) ++ ((Gs.ent 33 1 x.is (x.inner.map encU)) ++ (((List.eraseIdx (H.objs.set n (ObjL.chg x)) n).flatMap ObjL.ent) ++ ((Gs.ent 9 1 H.ts (H.texts.map encS)) ++ ((F.kb, .map (kvs encS encU H.known)) :: ((TreeV.ent H.V F.T) ++ ((CellsL.ent (CellsL.mk F.cp H.cs cl1)) ++ ([])))))))))))))) (Own.of_perm ?_)
     simpa only [HeapV.put, List.set_set] using HeapV.back (H := (HeapV.mk H.s (H.objs.set n (ObjL.chg x)) H.ts H.texts H.known H.V H.cs cl1 br1)) F (Qd hx) (ObjL.mk x.kind x.proto x.shut x.shape x.ns x.names x.vs (x.vals.set ((placeO (TreeV.abs H.V F.T) x.shape x.names key).toNat) (d.1, d.2.1, normF d.2.2)) x.es x.elems x.is x.inner (if 0 ≤ x.cell then -1 else x.cell))
   · simpa only [HeapV.put, List.set_set] using HeapV.ok.put hH1 (Qd hx) (x' := (ObjL.mk x.kind x.proto x.shut x.shape x.ns x.names x.vs (x.vals.set ((placeO (TreeV.abs H.V F.T) x.shape x.names key).toNat) (d.1, d.2.1, normF d.2.2)) x.es x.elems x.is x.inner (if 0 ≤ x.cell then -1 else x.cell))) ⟨(by first | exact (show Gs.ok 1 (x.names).length x.ns (x.names.map encS) from (HeapV.ok.at (x := (ObjL.chg x)) hH1 (Qd hx)).ns) | (simp only [List.length_set]; exact (show Gs.ok 1 (x.names).length x.ns (x.names.map encS) from (HeapV.ok.at (x := (ObjL.chg x)) hH1 (Qd hx)).ns))), (by first | exact hok8 | (simp only [List.length_set]; exact hok8)), (by first | exact (show Gs.ok 1 (x.elems).length x.es (x.elems.map encU) from (HeapV.ok.at (x := (ObjL.chg x)) hH1 (Qd hx)).es) | (simp only [List.length_set]; exact (show Gs.ok 1 (x.elems).length x.es (x.elems.map encU) from (HeapV.ok.at (x := (ObjL.chg x)) hH1 (Qd hx)).es))), (by first | exact (show Gs.ok 1 (x.inner).length x.is (x.inner.map encU) from (HeapV.ok.at (x := (ObjL.chg x)) hH1 (Qd hx)).is) | (simp only [List.length_set]; exact (show Gs.ok 1 (x.inner).length x.is (x.inner.map encU) from (HeapV.ok.at (x := (ObjL.chg x)) hH1 (Qd hx)).is)))⟩ (HeapV.ok.small hH1 (ObjL.chg x) (List.mem_of_getElem? (Qd hx)))
   · simp only [putS, ObjL.ps, if_pos (show 0 ≤ placeO (H.V.abs F.T) x.shape x.names key from by omega), he1, putOld, if_neg (show ¬ (0 ≤ x.shape ∧ (e1.2.2 != normF d.2.2) = true) from by rintro ⟨q1, q2⟩; first | omega | (simp_all; done))]
  refine Ql (Qj ?_)
  refine SW_seq ?_
  refine sr ?_
  refine os 3 ?_
  refine L (ld ?_ (hc := Gs.cell hH1.row (fun e he => (Qc (mem_h he))) (Qh ObjL.len (Qd hx) (j := 5) (by decide) rfl)) (v := Gs.val x.vs x.vals.length))
  refine os 2 ?_
  refine kp [90, 39, 9, 29, 18, 8, 7, 0, 1, 2, 3] ?_
  refine nt ?_
  refine cdp (fun hc6 : (x.vals.length : Int) ≥ 16 => ?_) (fun hc6 => ?_)
  ·refine Qn ?_
   refine os 2 ?_
   by_cases hp3 : 0 ≤ x.shape
   ·refine L (cl (heap_loose_yes hH1 (n := n) (Qd hx) hp3) ?_ (hp := HeapV.pm))
    rintro _ kg1 ⟨rfl, hkg1⟩
    refine SL_sig _ (by simp only [HeapV.ent, HeapV.put, List.set_set, List.cons_append, List.append_assoc, List.nil_append]; rfl) ?_
    have hH2 : HeapV.ok (HeapV.mk H.s (H.objs.set n (ObjL.loosed (ObjL.chg x) kg1 (keysP (TreeV.abs H.V F.T) x.shape))) H.ts H.texts H.known H.V H.cs cl1 br1) F := by simpa only [HeapV.put, List.set_set] using HeapV.ok.put hH1 (Qd hx) (x' := (ObjL.loosed (ObjL.chg x) kg1 (keysP (TreeV.abs H.V F.T) x.shape))) ⟨hkg1, (HeapV.ok.at hH1 (Qd hx)).vs, (HeapV.ok.at hH1 (Qd hx)).es, (HeapV.ok.at hH1 (Qd hx)).is⟩ (HeapV.ok.small hH1 (ObjL.chg x) (List.mem_of_getElem? (Qd hx)))
    refine nq ?_
    refine sr ?_
    refine os 3 ?_
    refine L (ld ?_ (hc := Gs.cell hH2.row (fun e he => (Qc (mem_h he))) (Qh ObjL.len (Qd hx) (j := 3) (by decide) rfl)) (v := .int .i64 (-1)))
    refine oV (.bool false) ?_
    refine kp [98, 90, 39, 9, 29, 18, 8, 7, 0, 1, 2, 3] ?_
    refine nt ?_
    refine cf ?_
    refine Ql (Qj ?_)
    refine SW_seq ?_
    refine sr ?_
    refine os 3 ?_
    refine L (ld ?_ (hc := Gs.cell hH2.row (fun e he => (Qc (mem_h he))) (Qh ObjL.len (Qd hx) (j := 3) (by decide) rfl)) (v := .int .i64 (-1)))
    refine oV (.bool true) ?_
    refine kp [123, 98, 90, 39, 9, 29, 18, 8, 7, 0, 1, 2, 3] ?_
    refine nt ?_
    refine ct ?_
    have hnm := keysP_len (V := H.V) (T := F.T) hH.tree x.shape
    refine SW_perm _ (perm_cc (perm_ca perm_cz)) ?_
    refine SW_perm ((Gs.ent 9 1 kg1 ((keysP (TreeV.abs H.V F.T) x.shape).map encS)) ++ ((Gs.ent 45 3 x.vs (x.vals.flatMap Qk)) ++ ((Gs.ent 33 1 x.es (x.elems.map encU)) ++ ((Gs.ent 33 1 x.is (x.inner.map encU)) ++ (((List.eraseIdx (H.objs.set n (ObjL.loosed (ObjL.chg x) kg1 (keysP (TreeV.abs H.V F.T) x.shape))) n).flatMap ObjL.ent) ++ ((F.p, .cells 75 6 [Gs.val H.s ((H.objs.set n (ObjL.loosed (ObjL.chg x) kg1 (keysP (TreeV.abs H.V F.T) x.shape))).length), Gs.val H.ts H.texts.length, .map (some F.kb), pt F.T.p 0, pt F.cp 0, .int .i64 br1]) :: ((Gs.ent 102 9 H.s ((H.objs.set n (ObjL.loosed (ObjL.chg x) kg1 (keysP (TreeV.abs H.V F.T) x.shape))).flatMap ObjL.cells)) ++ ((Gs.ent 9 1 H.ts (H.texts.map encS)) ++ ((F.kb, .map (kvs encS encU H.known)) :: ((TreeV.ent H.V F.T) ++ ((CellsL.ent (CellsL.mk F.cp H.cs cl1)) ++ ((b1, .cells 45 3 [.int .u64 d.1, .int .u64 d.2.1, .int .i64 (normF d.2.2)]) :: ([]))))))))))))) (obj_focus (Qd hx) _) ?_
    refine Qn ?_
    refine os 4 ?_
    refine L (ld ?_ (hc := Gs.cell hH2.row (fun e he => (Qa (Qa (Qa (Qa (Qa (Qc (mem_h he)))))))) (Qh ObjL.len (Qd hx) (j := 4) (by decide) rfl)) (v := Gs.val kg1 ((keysP (TreeV.abs H.V F.T) x.shape).length)))
    refine os 1 ?_
    refine L (nws 9 1 1 [.string key] ?_)
    intro b7
    refine SL_perm _ (perm_cc perm_cz) ?_
    refine L (O_append (size := 1) (bytes := 16) (z := .string ByteArray.empty) kg1 ((keysP (TreeV.abs H.V F.T) x.shape).length) 1 (some ⟨b7, 0, none⟩) 1 ((keysP (TreeV.abs H.V F.T) x.shape).map encS) ([.string key]) (((keysP (TreeV.abs H.V F.T) x.shape) ++ [key]).map encS) (map_snoc _ key rfl) (fun _ => rfl) (fun _ => rfl) Tryz.underlying26 (by kernel_rfl) rfl (by decide) (show Gs.ok 1 ((keysP (TreeV.abs H.V F.T) x.shape)).length kg1 ((keysP (TreeV.abs H.V F.T) x.shape).map encS) from (HeapV.ok.at (x := (ObjL.loosed (ObjL.chg x) kg1 (keysP (TreeV.abs H.V F.T) x.shape))) hH2 (Qd hx)).ns) rfl (.inr ⟨b7, 0, rfl, Cells.own (Qa Qe) rfl⟩) rfl (by omega) (by decide) rfl ?_)
    intro s8 hks8 hfs8
    rw [show (keysP (TreeV.abs H.V F.T) x.shape).length + 1 = ((keysP (TreeV.abs H.V F.T) x.shape) ++ [key]).length from by simp]
    rw [show (keysP (TreeV.abs H.V F.T) x.shape).length + 1 = ((keysP (TreeV.abs H.V F.T) x.shape) ++ [key]).length from by simp] at hks8
    have hls8 : ((keysP (TreeV.abs H.V F.T) x.shape) ++ [key]).length = (keysP (TreeV.abs H.V F.T) x.shape).length + 1 := by simp
    refine os 2 ?_
    refine kp [133, 131, 123, 98, 90, 39, 9, 29, 18, 8, 7, 0, 1, 2, 3] ?_
    have hok9 := Gs.ok.relen (ys := ((H.objs.set n (ObjL.mk x.kind x.proto x.shut (-1) s8 ((keysP (TreeV.abs H.V F.T) x.shape) ++ [key]) x.vs x.vals x.es x.elems x.is x.inner (if 0 ≤ x.cell then -1 else x.cell))).flatMap ObjL.cells)) hH2.row (by simp [flat_len ObjL.len])
    refine SL_perm _ (perm_ca (perm_cc (perm_ca (perm_ca (perm_ca (perm_ca (perm_cc perm_cz))))))) ?_
    refine L (O_storeG (ys := ((H.objs.set n (ObjL.mk x.kind x.proto x.shut (-1) s8 ((keysP (TreeV.abs H.V F.T) x.shape) ++ [key]) x.vs x.vals x.es x.elems x.is x.inner (if 0 ≤ x.cell then -1 else x.cell))).flatMap ObjL.cells)) H.s (n * 9 + 4) (Gs.val s8 (((keysP (TreeV.abs H.V F.T) x.shape) ++ [key]).length)) [Gs.val s8 (((keysP (TreeV.abs H.V F.T) x.shape) ++ [key]).length)] (Gs.ok.ne hH2.row (by first | omega | (simp; omega))) (fun _ => rfl) (fun _ => rfl) rfl (by kernel_rfl) rfl (by rw [flat_len ObjL.len]; simp; omega) ((row_lay (j := 4) ObjL.len (ObjL.mk x.kind x.proto x.shut (-1) s8 ((keysP (TreeV.abs H.V F.T) x.shape) ++ [key]) x.vs x.vals x.es x.elems x.is x.inner (if 0 ≤ x.cell then -1 else x.cell)) (Qd hx) (Nat.le_of_ble_eq_true rfl) rfl).trans (by rw [List.set_set])) rfl ?_)
    refine nt ?_
    refine SW_draw [((Gs.blk H.s), n * 9 + 5, Gs.val x.vs x.vals.length), (b1, 0, .int .u64 d.1), (b1, 1, .int .u64 d.2.1), (b1, 2, .int .i64 (normF d.2.2))] [0, 1, 2, 3, 4, 5, 6] (by kernel_rfl) (Qf (Gs.cell hok9 (fun e he => (mem_h he)) (Qh ObjL.len (Qd hx) (j := 5) (by decide) rfl)) (Qf (Cell.own (Qa (Qa (Qc (Qa (Qa (Qa (Qa (Qc (Qa (Qc (Qa (Qa Qe)))))))))))) rfl) (Qf (Cell.own (Qa (Qa (Qc (Qa (Qa (Qa (Qa (Qc (Qa (Qc (Qa (Qa Qe)))))))))))) rfl) (Qf (Cell.own (Qa (Qa (Qc (Qa (Qa (Qa (Qa (Qc (Qa (Qc (Qa (Qa Qe)))))))))))) rfl) rd_nil)))) ?_
    refine aS 0 ?_
    refine aS 1 ?_
    refine aS 2 ?_
    refine aF 3 ?_
    refine aL 4 ?_
    refine tr 5 (.agg #[.int .u64 d.1, .int .u64 d.2.1, .int .i64 (normF d.2.2)]) ?_ (hy := fun δ w_ hr => Rd_loads b1 0 [.int .u64 d.1, .int .u64 d.2.1, .int .i64 (normF d.2.2)] rfl (by kernel_rfl) (rdm_cons (List.mem_cons_of_mem _ List.mem_cons_self) (rdm_cons (List.mem_cons_of_mem _ (List.mem_cons_of_mem _ List.mem_cons_self)) (rdm_cons (List.mem_cons_of_mem _ (List.mem_cons_of_mem _ (List.mem_cons_of_mem _ List.mem_cons_self))) rdm_nil))) hr)
    refine sa1 true 6 (h := nws 45 3 1 [.int .u64 d.1, .int .u64 d.2.1, .int .i64 (normF d.2.2)] ?_)
    intro b9
    refine ⟨fun hnd => (Qf (Gs.cell hok9 (fun e he => (Qc (mem_h he))) (Qh ObjL.len (Qd hx) (j := 5) (by decide) rfl)) (Qf (Cell.own (Qc (Qa (Qa (Qc (Qa (Qa (Qa (Qa (Qc (Qa (Qc (Qa (Qa Qe))))))))))))) rfl) (Qf (Cell.own (Qc (Qa (Qa (Qc (Qa (Qa (Qa (Qa (Qc (Qa (Qc (Qa (Qa Qe))))))))))))) rfl) (Qf (Cell.own (Qc (Qa (Qa (Qc (Qa (Qa (Qa (Qa (Qc (Qa (Qc (Qa (Qa Qe))))))))))))) rfl) rd_nil)))), ?_⟩
    refine SA_perm _ (perm_cc (perm_ca (perm_ca (perm_cc perm_cz)))) ?_
    refine sa1 false 7 (h := O_append (size := 3) (bytes := 24) (z := .agg #[.int .u64 0, .int .u64 0, .int .i64 0]) x.vs x.vals.length 1 (some ⟨b9, 0, none⟩) 1 (x.vals.flatMap Qk) ([.int .u64 d.1, .int .u64 d.2.1, .int .i64 (normF d.2.2)]) ((x.vals ++ [(d.1, d.2.1, normF d.2.2)]).flatMap Qk) (flat_snoc _ (d.1, d.2.1, normF d.2.2) rfl) (fun _ => rfl) (fun _ => rfl) Tryz.underlying99 (by kernel_rfl) rfl (by decide) (show Gs.ok 3 (x.vals).length x.vs (x.vals.flatMap Qk) from (HeapV.ok.at (x := (ObjL.loosed (ObjL.chg x) kg1 (keysP (TreeV.abs H.V F.T) x.shape))) hH2 (Qd hx)).vs) rfl (.inr ⟨b9, 0, rfl, Cells.own (Qa Qe) rfl⟩) rfl (by omega) (by decide) rfl ?_)
    intro s10 hks10 hfs10
    rw [show x.vals.length + 1 = (x.vals ++ [(d.1, d.2.1, normF d.2.2)]).length from by simp]
    rw [show x.vals.length + 1 = (x.vals ++ [(d.1, d.2.1, normF d.2.2)]).length from by simp] at hks10
    have hls10 : (x.vals ++ [(d.1, d.2.1, normF d.2.2)]).length = x.vals.length + 1 := by simp
    refine ⟨fun hnd => (by cases hnd), ?_⟩
    refine kpA [141, 134, 123, 98, 90, 39, 9, 29, 18, 8, 7, 0, 1, 2, 3] ?_
    refine aS 8 ?_
    refine aF 9 ?_
    have hok11 := Gs.ok.relen (ys := ((H.objs.set n (ObjL.mk x.kind x.proto x.shut (-1) s8 ((keysP (TreeV.abs H.V F.T) x.shape) ++ [key]) s10 (x.vals ++ [(d.1, d.2.1, normF d.2.2)]) x.es x.elems x.is x.inner (if 0 ≤ x.cell then -1 else x.cell))).flatMap ObjL.cells)) hok9 (by simp [flat_len ObjL.len])
    refine SA_perm _ (perm_ca (perm_cc perm_cz)) ?_
    refine sa1 false 10 (h := O_storeG (ys := ((H.objs.set n (ObjL.mk x.kind x.proto x.shut (-1) s8 ((keysP (TreeV.abs H.V F.T) x.shape) ++ [key]) s10 (x.vals ++ [(d.1, d.2.1, normF d.2.2)]) x.es x.elems x.is x.inner (if 0 ≤ x.cell then -1 else x.cell))).flatMap ObjL.cells)) H.s (n * 9 + 5) (Gs.val s10 ((x.vals ++ [(d.1, d.2.1, normF d.2.2)]).length)) [Gs.val s10 ((x.vals ++ [(d.1, d.2.1, normF d.2.2)]).length)] (Gs.ok.ne hok9 (by first | omega | (simp; omega))) (fun _ => rfl) (fun _ => rfl) rfl (by kernel_rfl) rfl (by rw [flat_len ObjL.len]; simp; omega) ((row_lay (j := 5) ObjL.len (ObjL.mk x.kind x.proto x.shut (-1) s8 ((keysP (TreeV.abs H.V F.T) x.shape) ++ [key]) s10 (x.vals ++ [(d.1, d.2.1, normF d.2.2)]) x.es x.elems x.is x.inner (if 0 ≤ x.cell then -1 else x.cell)) (Qd hx) (Nat.le_of_ble_eq_true rfl) rfl).trans (by rw [List.set_set])) rfl ?_)
    refine ⟨fun hnd => (by cases hnd), ?_⟩
    refine SA_done (by kernel_rfl) ?_
    refine body_end' (.tuple #[]) (fun _ => rfl) ?_
    refine ⟨((ObjL.mk x.kind x.proto x.shut (-1) s8 ((keysP (TreeV.abs H.V F.T) x.shape) ++ [key]) s10 (x.vals ++ [(d.1, d.2.1, normF d.2.2)]) x.es x.elems x.is x.inner (if 0 ≤ x.cell then -1 else x.cell)), H.V, cl1, br1), ?_, rfl, ?_, ⟨rfl, rfl, rfl, rfl, rfl, rfl, rfl, rfl⟩, ?_, hchcl1⟩
    · refine Own.trans (ow (S := ((F.p, .cells 75 6 [Gs.val H.s ((H.objs.set n (ObjL.loosed (ObjL.chg x) kg1 (keysP (TreeV.abs H.V F.T) x.shape))).length), Gs.val H.ts H.texts.length, .map (some F.kb), pt F.T.p 0, pt F.cp 0, .int .i64 br1]) :: ((Gs.ent 102 9 H.s ((H.objs.set n (ObjL.mk x.kind x.proto x.shut (-1) s8 ((keysP (TreeV.abs H.V F.T) x.shape) ++ [key]) s10 (x.vals ++ [(d.1, d.2.1, normF d.2.2)]) x.es x.elems x.is x.inner (if 0 ≤ x.cell then -1 else x.cell))).flatMap ObjL.cells)) ++ ((Gs.ent 9 1 s8 (((keysP (TreeV.abs H.V F.T) x.shape) ++ [key]).map encS)) ++ ((Gs.ent 45 3 s10 ((x.vals ++ [(d.1, d.2.1, normF d.2.2)]).flatMap Qk)) ++ ((Gs.ent 33 1 x.es (x.elems.map encU)) ++ ((Gs.ent 33 1 x.is (x.inner.map encU)) ++ (((List.eraseIdx (H.objs.set n (ObjL.loosed (ObjL.chg x) kg1 (keysP (TreeV.abs H.V F.T) x.shape))) n).flatMap ObjL.ent) ++ ((Gs.ent 9 1 H.ts (H.texts.map encS)) ++ ((F.kb, .map (kvs encS encU H.known)) :: ((TreeV.ent H.V F.T) ++ ((CellsL.ent (CellsL.mk F.cp H.cs cl1)) ++ ([])))))))))))))) (Own.of_perm ?_)
      simpa only [HeapV.put, List.set_set] using HeapV.back (H := (HeapV.mk H.s (H.objs.set n (ObjL.loosed (ObjL.chg x) kg1 (keysP (TreeV.abs H.V F.T) x.shape))) H.ts H.texts H.known H.V H.cs cl1 br1)) F (Qd hx) (ObjL.mk x.kind x.proto x.shut (-1) s8 ((keysP (TreeV.abs H.V F.T) x.shape) ++ [key]) s10 (x.vals ++ [(d.1, d.2.1, normF d.2.2)]) x.es x.elems x.is x.inner (if 0 ≤ x.cell then -1 else x.cell))
    · simpa only [HeapV.put, List.set_set] using HeapV.ok.put hH2 (Qd hx) (x' := (ObjL.mk x.kind x.proto x.shut (-1) s8 ((keysP (TreeV.abs H.V F.T) x.shape) ++ [key]) s10 (x.vals ++ [(d.1, d.2.1, normF d.2.2)]) x.es x.elems x.is x.inner (if 0 ≤ x.cell then -1 else x.cell))) ⟨(by first | exact hks8 | (simp only [List.length_set]; exact hks8)), (by first | exact hks10 | (simp only [List.length_set]; exact hks10)), (by first | exact (show Gs.ok 1 (x.elems).length x.es (x.elems.map encU) from (HeapV.ok.at (x := (ObjL.loosed (ObjL.chg x) kg1 (keysP (TreeV.abs H.V F.T) x.shape))) hH2 (Qd hx)).es) | (simp only [List.length_set]; exact (show Gs.ok 1 (x.elems).length x.es (x.elems.map encU) from (HeapV.ok.at (x := (ObjL.loosed (ObjL.chg x) kg1 (keysP (TreeV.abs H.V F.T) x.shape))) hH2 (Qd hx)).es))), (by first | exact (show Gs.ok 1 (x.inner).length x.is (x.inner.map encU) from (HeapV.ok.at (x := (ObjL.loosed (ObjL.chg x) kg1 (keysP (TreeV.abs H.V F.T) x.shape))) hH2 (Qd hx)).is) | (simp only [List.length_set]; exact (show Gs.ok 1 (x.inner).length x.is (x.inner.map encU) from (HeapV.ok.at (x := (ObjL.loosed (ObjL.chg x) kg1 (keysP (TreeV.abs H.V F.T) x.shape))) hH2 (Qd hx)).is)))⟩ (HeapV.ok.small hH2 (ObjL.loosed (ObjL.chg x) kg1 (keysP (TreeV.abs H.V F.T) x.shape)) (List.mem_of_getElem? (Qd hx)))
    · simp only [putS, ObjL.ps, if_neg (show ¬ 0 ≤ placeO (H.V.abs F.T) x.shape x.names key from by omega), putNew, putFast, if_pos (show 16 ≤ x.vals.length from by omega), looseS, if_pos hp3, if_neg (show ¬ (0 : Int) ≤ -1 from by omega), putName, if_pos (show (-1 : Int) < 0 from by omega)]
   refine L (cl (heap_loose_no hH1 (n := n) (Qd hx) (by simpa using hp3)) ?_ (hp := HeapV.pm))
   rintro v9 _ hv9
   obtain rfl : v9 = .tuple #[] := hv9.trans (rfl)
   refine SL_sig _ HeapV.eq ?_
   refine nq ?_
   refine sr ?_
   refine os 3 ?_
   refine L (ld ?_ (hc := Gs.cell hH1.row (fun e he => (Qc (mem_h he))) (Qh ObjL.len (Qd hx) (j := 3) (by decide) rfl)) (v := .int .i64 x.shape))
   refine os 1 ?_
   refine kp [98, 90, 39, 9, 29, 18, 8, 7, 0, 1, 2, 3] ?_
   refine nt ?_
   refine SW_false (fun _ => (congrArg Value.bool (show (decide (x.shape ≥ 0)) = false from (by simp; omega)))) ?_
   refine Ql (Qj ?_)
   refine SW_seq ?_
   refine sr ?_
   refine os 3 ?_
   refine L (ld ?_ (hc := Gs.cell hH1.row (fun e he => (Qc (mem_h he))) (Qh ObjL.len (Qd hx) (j := 3) (by decide) rfl)) (v := .int .i64 x.shape))
   refine os 1 ?_
   refine kp [123, 98, 90, 39, 9, 29, 18, 8, 7, 0, 1, 2, 3] ?_
   refine nt ?_
   refine SW_true (fun _ => (congrArg Value.bool (show (decide (x.shape < 0)) = true from (by simp; omega)))) ?_
   have hnm : x.names.length ≤ 8000000 := by rcases Int.lt_or_le x.shape 0 with q | q; (have := hI.names q; omega); (rw [hI.stale q]; simp)
   refine SW_perm _ (perm_cc (perm_ca perm_cz)) ?_
   refine SW_perm ((Gs.ent 9 1 x.ns (x.names.map encS)) ++ ((Gs.ent 45 3 x.vs (x.vals.flatMap Qk)) ++ ((Gs.ent 33 1 x.es (x.elems.map encU)) ++ ((Gs.ent 33 1 x.is (x.inner.map encU)) ++ (((List.eraseIdx (H.objs.set n (ObjL.chg x)) n).flatMap ObjL.ent) ++ ((F.p, .cells 75 6 [Gs.val H.s ((H.objs.set n (ObjL.chg x)).length), Gs.val H.ts H.texts.length, .map (some F.kb), pt F.T.p 0, pt F.cp 0, .int .i64 br1]) :: ((Gs.ent 102 9 H.s ((H.objs.set n (ObjL.chg x)).flatMap ObjL.cells)) ++ ((Gs.ent 9 1 H.ts (H.texts.map encS)) ++ ((F.kb, .map (kvs encS encU H.known)) :: ((TreeV.ent H.V F.T) ++ ((CellsL.ent (CellsL.mk F.cp H.cs cl1)) ++ ((b1, .cells 45 3 [.int .u64 d.1, .int .u64 d.2.1, .int .i64 (normF d.2.2)]) :: ([]))))))))))))) (obj_focus (Qd hx) _) ?_
   refine Qn ?_
   refine os 4 ?_
   refine L (ld ?_ (hc := Gs.cell hH1.row (fun e he => (Qa (Qa (Qa (Qa (Qa (Qc (mem_h he)))))))) (Qh ObjL.len (Qd hx) (j := 4) (by decide) rfl)) (v := Gs.val x.ns x.names.length))
   refine os 1 ?_
   refine L (nws 9 1 1 [.string key] ?_)
   intro b11
   refine SL_perm _ (perm_cc perm_cz) ?_
   refine L (O_append (size := 1) (bytes := 16) (z := .string ByteArray.empty) x.ns x.names.length 1 (some ⟨b11, 0, none⟩) 1 (x.names.map encS) ([.string key]) ((x.names ++ [key]).map encS) (map_snoc _ key rfl) (fun _ => rfl) (fun _ => rfl) Tryz.underlying26 (by kernel_rfl) rfl (by decide) (show Gs.ok 1 (x.names).length x.ns (x.names.map encS) from (HeapV.ok.at (x := (ObjL.chg x)) hH1 (Qd hx)).ns) rfl (.inr ⟨b11, 0, rfl, Cells.own (Qa Qe) rfl⟩) rfl (by omega) (by decide) rfl ?_)
   intro s12 hks12 hfs12
   rw [show x.names.length + 1 = (x.names ++ [key]).length from by simp]
   rw [show x.names.length + 1 = (x.names ++ [key]).length from by simp] at hks12
   have hls12 : (x.names ++ [key]).length = x.names.length + 1 := by simp
   refine os 2 ?_
   refine kp [133, 131, 123, 98, 90, 39, 9, 29, 18, 8, 7, 0, 1, 2, 3] ?_
   have hok12 := Gs.ok.relen (ys := ((H.objs.set n (ObjL.mk x.kind x.proto x.shut x.shape s12 (x.names ++ [key]) x.vs x.vals x.es x.elems x.is x.inner (if 0 ≤ x.cell then -1 else x.cell))).flatMap ObjL.cells)) hH1.row (by simp [flat_len ObjL.len])
   refine SL_perm _ (perm_ca (perm_cc (perm_ca (perm_ca (perm_ca (perm_ca (perm_cc perm_cz))))))) ?_
   refine L (O_storeG (ys := ((H.objs.set n (ObjL.mk x.kind x.proto x.shut x.shape s12 (x.names ++ [key]) x.vs x.vals x.es x.elems x.is x.inner (if 0 ≤ x.cell then -1 else x.cell))).flatMap ObjL.cells)) H.s (n * 9 + 4) (Gs.val s12 ((x.names ++ [key]).length)) [Gs.val s12 ((x.names ++ [key]).length)] (Gs.ok.ne hH1.row (by first | omega | (simp; omega))) (fun _ => rfl) (fun _ => rfl) rfl (by kernel_rfl) rfl (by rw [flat_len ObjL.len]; simp; omega) ((row_lay (j := 4) ObjL.len (ObjL.mk x.kind x.proto x.shut x.shape s12 (x.names ++ [key]) x.vs x.vals x.es x.elems x.is x.inner (if 0 ≤ x.cell then -1 else x.cell)) (Qd hx) (Nat.le_of_ble_eq_true rfl) rfl).trans (by rw [List.set_set])) rfl ?_)
   refine nt ?_
   refine SW_draw [((Gs.blk H.s), n * 9 + 5, Gs.val x.vs x.vals.length), (b1, 0, .int .u64 d.1), (b1, 1, .int .u64 d.2.1), (b1, 2, .int .i64 (normF d.2.2))] [0, 1, 2, 3, 4, 5, 6] (by kernel_rfl) (Qf (Gs.cell hok12 (fun e he => (mem_h he)) (Qh ObjL.len (Qd hx) (j := 5) (by decide) rfl)) (Qf (Cell.own (Qa (Qa (Qc (Qa (Qa (Qa (Qa (Qc (Qa (Qc (Qa (Qa Qe)))))))))))) rfl) (Qf (Cell.own (Qa (Qa (Qc (Qa (Qa (Qa (Qa (Qc (Qa (Qc (Qa (Qa Qe)))))))))))) rfl) (Qf (Cell.own (Qa (Qa (Qc (Qa (Qa (Qa (Qa (Qc (Qa (Qc (Qa (Qa Qe)))))))))))) rfl) rd_nil)))) ?_
   refine aS 0 ?_
   refine aS 1 ?_
   refine aS 2 ?_
   refine aF 3 ?_
   refine aL 4 ?_
   refine tr 5 (.agg #[.int .u64 d.1, .int .u64 d.2.1, .int .i64 (normF d.2.2)]) ?_ (hy := fun δ w_ hr => Rd_loads b1 0 [.int .u64 d.1, .int .u64 d.2.1, .int .i64 (normF d.2.2)] rfl (by kernel_rfl) (rdm_cons (List.mem_cons_of_mem _ List.mem_cons_self) (rdm_cons (List.mem_cons_of_mem _ (List.mem_cons_of_mem _ List.mem_cons_self)) (rdm_cons (List.mem_cons_of_mem _ (List.mem_cons_of_mem _ (List.mem_cons_of_mem _ List.mem_cons_self))) rdm_nil))) hr)
   refine sa1 true 6 (h := nws 45 3 1 [.int .u64 d.1, .int .u64 d.2.1, .int .i64 (normF d.2.2)] ?_)
   intro b13
   refine ⟨fun hnd => (Qf (Gs.cell hok12 (fun e he => (Qc (mem_h he))) (Qh ObjL.len (Qd hx) (j := 5) (by decide) rfl)) (Qf (Cell.own (Qc (Qa (Qa (Qc (Qa (Qa (Qa (Qa (Qc (Qa (Qc (Qa (Qa Qe))))))))))))) rfl) (Qf (Cell.own (Qc (Qa (Qa (Qc (Qa (Qa (Qa (Qa (Qc (Qa (Qc (Qa (Qa Qe))))))))))))) rfl) (Qf (Cell.own (Qc (Qa (Qa (Qc (Qa (Qa (Qa (Qa (Qc (Qa (Qc (Qa (Qa Qe))))))))))))) rfl) rd_nil)))), ?_⟩
   refine SA_perm _ (perm_cc (perm_ca (perm_ca (perm_cc perm_cz)))) ?_
   refine sa1 false 7 (h := O_append (size := 3) (bytes := 24) (z := .agg #[.int .u64 0, .int .u64 0, .int .i64 0]) x.vs x.vals.length 1 (some ⟨b13, 0, none⟩) 1 (x.vals.flatMap Qk) ([.int .u64 d.1, .int .u64 d.2.1, .int .i64 (normF d.2.2)]) ((x.vals ++ [(d.1, d.2.1, normF d.2.2)]).flatMap Qk) (flat_snoc _ (d.1, d.2.1, normF d.2.2) rfl) (fun _ => rfl) (fun _ => rfl) Tryz.underlying99 (by kernel_rfl) rfl (by decide) (show Gs.ok 3 (x.vals).length x.vs (x.vals.flatMap Qk) from (HeapV.ok.at (x := (ObjL.chg x)) hH1 (Qd hx)).vs) rfl (.inr ⟨b13, 0, rfl, Cells.own (Qa Qe) rfl⟩) rfl (by omega) (by decide) rfl ?_)
   intro s14 hks14 hfs14
   rw [show x.vals.length + 1 = (x.vals ++ [(d.1, d.2.1, normF d.2.2)]).length from by simp]
   rw [show x.vals.length + 1 = (x.vals ++ [(d.1, d.2.1, normF d.2.2)]).length from by simp] at hks14
   have hls14 : (x.vals ++ [(d.1, d.2.1, normF d.2.2)]).length = x.vals.length + 1 := by simp
   refine ⟨fun hnd => (by cases hnd), ?_⟩
   refine kpA [141, 134, 123, 98, 90, 39, 9, 29, 18, 8, 7, 0, 1, 2, 3] ?_
   refine aS 8 ?_
   refine aF 9 ?_
   have hok14 := Gs.ok.relen (ys := ((H.objs.set n (ObjL.mk x.kind x.proto x.shut x.shape s12 (x.names ++ [key]) s14 (x.vals ++ [(d.1, d.2.1, normF d.2.2)]) x.es x.elems x.is x.inner (if 0 ≤ x.cell then -1 else x.cell))).flatMap ObjL.cells)) hok12 (by simp [flat_len ObjL.len])
   refine SA_perm _ (perm_ca (perm_cc perm_cz)) ?_
   refine sa1 false 10 (h := O_storeG (ys := ((H.objs.set n (ObjL.mk x.kind x.proto x.shut x.shape s12 (x.names ++ [key]) s14 (x.vals ++ [(d.1, d.2.1, normF d.2.2)]) x.es x.elems x.is x.inner (if 0 ≤ x.cell then -1 else x.cell))).flatMap ObjL.cells)) H.s (n * 9 + 5) (Gs.val s14 ((x.vals ++ [(d.1, d.2.1, normF d.2.2)]).length)) [Gs.val s14 ((x.vals ++ [(d.1, d.2.1, normF d.2.2)]).length)] (Gs.ok.ne hok12 (by first | omega | (simp; omega))) (fun _ => rfl) (fun _ => rfl) rfl (by kernel_rfl) rfl (by rw [flat_len ObjL.len]; simp; omega) ((row_lay (j := 5) ObjL.len (ObjL.mk x.kind x.proto x.shut x.shape s12 (x.names ++ [key]) s14 (x.vals ++ [(d.1, d.2.1, normF d.2.2)]) x.es x.elems x.is x.inner (if 0 ≤ x.cell then -1 else x.cell)) (Qd hx) (Nat.le_of_ble_eq_true rfl) rfl).trans (by rw [List.set_set])) rfl ?_)
   refine ⟨fun hnd => (by cases hnd), ?_⟩
   refine SA_done (by kernel_rfl) ?_
   refine body_end' (.tuple #[]) (fun _ => rfl) ?_
   refine ⟨((ObjL.mk x.kind x.proto x.shut x.shape s12 (x.names ++ [key]) s14 (x.vals ++ [(d.1, d.2.1, normF d.2.2)]) x.es x.elems x.is x.inner (if 0 ≤ x.cell then -1 else x.cell)), H.V, cl1, br1), ?_, rfl, ?_, ⟨rfl, rfl, rfl, rfl, rfl, rfl, rfl, rfl⟩, ?_, hchcl1⟩
   · refine Own.trans (ow (S := ((F.p, .cells 75 6 [Gs.val H.s ((H.objs.set n (ObjL.chg x)).length), Gs.val H.ts H.texts.length, .map (some F.kb), pt F.T.p 0, pt F.cp 0, .int .i64 br1]) :: ((Gs.ent 102 9 H.s ((H.objs.set n (ObjL.mk x.kind x.proto x.shut x.shape s12 (x.names ++ [key]) s14 (x.vals ++ [(d.1, d.2.1, normF d.2.2)]) x.es x.elems x.is x.inner (if 0 ≤ x.cell then -1 else x.cell))).flatMap ObjL.cells)) ++ ((Gs.ent 9 1 s12 ((x.names ++ [key]).map encS)) ++ ((Gs.ent 45 3 s14 ((x.vals ++ [(d.1, d.2.1, normF d.2.2)]).flatMap Qk)) ++ ((Gs.ent 33 1 x.es (x.elems.map encU)) ++ ((Gs.ent 33 1 x.is (x.inner.map encU)) ++ (((List.eraseIdx (H.objs.set n (ObjL.chg x)) n).flatMap ObjL.ent) ++ ((Gs.ent 9 1 H.ts (H.texts.map encS)) ++ ((F.kb, .map (kvs encS encU H.known)) :: ((TreeV.ent H.V F.T) ++ ((CellsL.ent (CellsL.mk F.cp H.cs cl1)) ++ ([])))))))))))))) (Own.of_perm ?_)
     simpa only [HeapV.put, List.set_set] using HeapV.back (H := (HeapV.mk H.s (H.objs.set n (ObjL.chg x)) H.ts H.texts H.known H.V H.cs cl1 br1)) F (Qd hx) (ObjL.mk x.kind x.proto x.shut x.shape s12 (x.names ++ [key]) s14 (x.vals ++ [(d.1, d.2.1, normF d.2.2)]) x.es x.elems x.is x.inner (if 0 ≤ x.cell then -1 else x.cell))
   · simpa only [HeapV.put, List.set_set] using HeapV.ok.put hH1 (Qd hx) (x' := (ObjL.mk x.kind x.proto x.shut x.shape s12 (x.names ++ [key]) s14 (x.vals ++ [(d.1, d.2.1, normF d.2.2)]) x.es x.elems x.is x.inner (if 0 ≤ x.cell then -1 else x.cell))) ⟨(by first | exact hks12 | (simp only [List.length_set]; exact hks12)), (by first | exact hks14 | (simp only [List.length_set]; exact hks14)), (by first | exact (show Gs.ok 1 (x.elems).length x.es (x.elems.map encU) from (HeapV.ok.at (x := (ObjL.chg x)) hH1 (Qd hx)).es) | (simp only [List.length_set]; exact (show Gs.ok 1 (x.elems).length x.es (x.elems.map encU) from (HeapV.ok.at (x := (ObjL.chg x)) hH1 (Qd hx)).es))), (by first | exact (show Gs.ok 1 (x.inner).length x.is (x.inner.map encU) from (HeapV.ok.at (x := (ObjL.chg x)) hH1 (Qd hx)).is) | (simp only [List.length_set]; exact (show Gs.ok 1 (x.inner).length x.is (x.inner.map encU) from (HeapV.ok.at (x := (ObjL.chg x)) hH1 (Qd hx)).is)))⟩ (HeapV.ok.small hH1 (ObjL.chg x) (List.mem_of_getElem? (Qd hx)))
   · simp only [putS, ObjL.ps, if_neg (show ¬ 0 ≤ placeO (H.V.abs F.T) x.shape x.names key from by omega), putNew, putFast, if_pos (show 16 ≤ x.vals.length from by omega), looseS, if_neg hp3, putName, if_pos (show x.shape < 0 from by omega)]
  refine Ql (Qj ?_)
  refine SW_seq ?_
  refine sr ?_
  refine os 3 ?_
  refine L (ld ?_ (hc := Gs.cell hH1.row (fun e he => (Qc (mem_h he))) (Qh ObjL.len (Qd hx) (j := 3) (by decide) rfl)) (v := .int .i64 x.shape))
  refine os 1 ?_
  refine kp [98, 90, 39, 9, 29, 18, 8, 7, 0, 1, 2, 3] ?_
  refine nt ?_
  refine cdp (fun hc15 : x.shape ≥ 0 => ?_) (fun hc15 => ?_)
  ·refine SW_seq ?_
   refine SW_draw [(F.p, 3, pt F.T.p 0), ((Gs.blk H.s), n * 9 + 3, .int .i64 x.shape), (b1, 2, .int .i64 (normF d.2.2))] [0, 1, 2, 3, 4, 5, 6, 7, 8, 9, 10] (by kernel_rfl) (Qf (Cell.own Qe rfl) (Qf (Gs.cell hH1.row (fun e he => (Qc (mem_h he))) (Qh ObjL.len (Qd hx) (j := 3) (by decide) rfl)) (Qf (Cell.own (Qc (Qa (Qa (Qa (Qc (Qa (Qa Qe))))))) rfl) rd_nil))) ?_
   refine aS 0 ?_
   refine aS 1 ?_
   refine aF 2 ?_
   refine aL 3 ?_
   refine aS 4 ?_
   refine aS 5 ?_
   refine aF 6 ?_
   refine aL 7 ?_
   refine aS 8 ?_
   refine aF 9 ?_
   refine aL 10 ?_
   refine sa1 false 11 (h := cl (shapes_Add hH1.tree x.shape key (normF d.2.2)) ?_)
   rintro _ TV1 ⟨hTV1, hkTV1, rTV1, okTV1, rfl, hrTV1⟩
   refine ⟨fun hnd => (by cases hnd), ?_⟩
   have hH2 : HeapV.ok (HeapV.mk H.s (H.objs.set n (ObjL.chg x)) H.ts H.texts H.known TV1 H.cs cl1 br1) F := HeapV.ok.withTree hH1 hTV1
   refine kpA [111, 98, 90, 39, 9, 29, 18, 8, 7, 0, 1, 2, 3] ?_
   refine aS 12 ?_
   refine aS 13 ?_
   refine aS 14 ?_
   refine aS 15 ?_
   refine aS 16 ?_
   refine SA_done (by kernel_rfl) (Qj ?_)
   refine Qn ?_
   refine os 4 ?_
   by_cases hp4 : okTV1 = true
   ·refine L (cl (heap_step_ok hH2 (n := n) (Qd hx) rTV1 (ok := okTV1) hp4) ?_ (hp := HeapV.pm))
    rintro _ _ rfl
    refine SL_sig _ (by simp only [HeapV.ent, HeapV.put, List.set_set, List.cons_append, List.append_assoc, List.nil_append]; rfl) ?_
    have hH3 : HeapV.ok (HeapV.mk H.s (H.objs.set n (ObjL.withShape (ObjL.chg x) rTV1)) H.ts H.texts H.known TV1 H.cs cl1 br1) F := by simpa only [HeapV.put, List.set_set] using HeapV.ok.put hH2 (Qd hx) (x' := (ObjL.withShape (ObjL.chg x) rTV1)) ⟨(HeapV.ok.at hH2 (Qd hx)).ns, (HeapV.ok.at hH2 (Qd hx)).vs, (HeapV.ok.at hH2 (Qd hx)).es, (HeapV.ok.at hH2 (Qd hx)).is⟩ (HeapV.ok.small hH2 (ObjL.chg x) (List.mem_of_getElem? (Qd hx)))
    refine nq ?_
    refine sr ?_
    refine os 3 ?_
    refine kp [121, 13, 12, 98, 90, 39, 9, 29, 18, 8, 7, 0, 1, 2, 3] ?_
    refine L (ld ?_ (hc := Gs.cell hH3.row (fun e he => (Qc (mem_h he))) (Qh ObjL.len (Qd hx) (j := 3) (by decide) rfl)) (v := .int .i64 rTV1))
    refine os 1 ?_
    refine nt ?_
    refine cdp (fun hc16 : rTV1 < 0 => ?_) (fun hc16 => ?_)
    ·have hnm : x.names.length ≤ 8000000 := by rcases Int.lt_or_le x.shape 0 with q | q; (have := hI.names q; omega); (rw [hI.stale q]; simp)
     refine SW_perm _ (perm_cc (perm_ca perm_cz)) ?_
     refine SW_perm ((Gs.ent 9 1 x.ns (x.names.map encS)) ++ ((Gs.ent 45 3 x.vs (x.vals.flatMap Qk)) ++ ((Gs.ent 33 1 x.es (x.elems.map encU)) ++ ((Gs.ent 33 1 x.is (x.inner.map encU)) ++ (((List.eraseIdx (H.objs.set n (ObjL.withShape (ObjL.chg x) rTV1)) n).flatMap ObjL.ent) ++ ((F.p, .cells 75 6 [Gs.val H.s ((H.objs.set n (ObjL.withShape (ObjL.chg x) rTV1)).length), Gs.val H.ts H.texts.length, .map (some F.kb), pt F.T.p 0, pt F.cp 0, .int .i64 br1]) :: ((Gs.ent 102 9 H.s ((H.objs.set n (ObjL.withShape (ObjL.chg x) rTV1)).flatMap ObjL.cells)) ++ ((Gs.ent 9 1 H.ts (H.texts.map encS)) ++ ((F.kb, .map (kvs encS encU H.known)) :: ((TreeV.ent TV1 F.T) ++ ((CellsL.ent (CellsL.mk F.cp H.cs cl1)) ++ ((b1, .cells 45 3 [.int .u64 d.1, .int .u64 d.2.1, .int .i64 (normF d.2.2)]) :: ([]))))))))))))) (obj_focus (Qd hx) _) ?_
     refine Qn ?_
     refine os 4 ?_
     refine L (ld ?_ (hc := Gs.cell hH3.row (fun e he => (Qa (Qa (Qa (Qa (Qa (Qc (mem_h he)))))))) (Qh ObjL.len (Qd hx) (j := 4) (by decide) rfl)) (v := Gs.val x.ns x.names.length))
     refine os 1 ?_
     refine L (nws 9 1 1 [.string key] ?_)
     intro b17
     refine SL_perm _ (perm_cc perm_cz) ?_
     refine L (O_append (size := 1) (bytes := 16) (z := .string ByteArray.empty) x.ns x.names.length 1 (some ⟨b17, 0, none⟩) 1 (x.names.map encS) ([.string key]) ((x.names ++ [key]).map encS) (map_snoc _ key rfl) (fun _ => rfl) (fun _ => rfl) Tryz.underlying26 (by kernel_rfl) rfl (by decide) (show Gs.ok 1 (x.names).length x.ns (x.names.map encS) from (HeapV.ok.at (x := (ObjL.withShape (ObjL.chg x) rTV1)) hH3 (Qd hx)).ns) rfl (.inr ⟨b17, 0, rfl, Cells.own (Qa Qe) rfl⟩) rfl (by omega) (by decide) rfl ?_)
     intro s18 hks18 hfs18
     rw [show x.names.length + 1 = (x.names ++ [key]).length from by simp]
     rw [show x.names.length + 1 = (x.names ++ [key]).length from by simp] at hks18
     have hls18 : (x.names ++ [key]).length = x.names.length + 1 := by simp
     refine os 2 ?_
     refine kp [133, 131, 123, 13, 12, 98, 90, 39, 9, 29, 18, 8, 7, 0, 1, 2, 3] ?_
     have hok15 := Gs.ok.relen (ys := ((H.objs.set n (ObjL.mk x.kind x.proto x.shut rTV1 s18 (x.names ++ [key]) x.vs x.vals x.es x.elems x.is x.inner (if 0 ≤ x.cell then -1 else x.cell))).flatMap ObjL.cells)) hH3.row (by simp [flat_len ObjL.len])
     refine SL_perm _ (perm_ca (perm_cc (perm_ca (perm_ca (perm_ca (perm_ca (perm_cc perm_cz))))))) ?_
     refine L (O_storeG (ys := ((H.objs.set n (ObjL.mk x.kind x.proto x.shut rTV1 s18 (x.names ++ [key]) x.vs x.vals x.es x.elems x.is x.inner (if 0 ≤ x.cell then -1 else x.cell))).flatMap ObjL.cells)) H.s (n * 9 + 4) (Gs.val s18 ((x.names ++ [key]).length)) [Gs.val s18 ((x.names ++ [key]).length)] (Gs.ok.ne hH3.row (by first | omega | (simp; omega))) (fun _ => rfl) (fun _ => rfl) rfl (by kernel_rfl) rfl (by rw [flat_len ObjL.len]; simp; omega) ((row_lay (j := 4) ObjL.len (ObjL.mk x.kind x.proto x.shut rTV1 s18 (x.names ++ [key]) x.vs x.vals x.es x.elems x.is x.inner (if 0 ≤ x.cell then -1 else x.cell)) (Qd hx) (Nat.le_of_ble_eq_true rfl) rfl).trans (by rw [List.set_set])) rfl ?_)
     refine nt ?_
     refine SW_draw [((Gs.blk H.s), n * 9 + 5, Gs.val x.vs x.vals.length), (b1, 0, .int .u64 d.1), (b1, 1, .int .u64 d.2.1), (b1, 2, .int .i64 (normF d.2.2))] [0, 1, 2, 3, 4, 5, 6] (by kernel_rfl) (Qf (Gs.cell hok15 (fun e he => (mem_h he)) (Qh ObjL.len (Qd hx) (j := 5) (by decide) rfl)) (Qf (Cell.own (Qa (Qa (Qc (Qa (Qa (Qa (Qa (Qc (Qa (Qc (Qa (Qa Qe)))))))))))) rfl) (Qf (Cell.own (Qa (Qa (Qc (Qa (Qa (Qa (Qa (Qc (Qa (Qc (Qa (Qa Qe)))))))))))) rfl) (Qf (Cell.own (Qa (Qa (Qc (Qa (Qa (Qa (Qa (Qc (Qa (Qc (Qa (Qa Qe)))))))))))) rfl) rd_nil)))) ?_
     refine aS 0 ?_
     refine aS 1 ?_
     refine aS 2 ?_
     refine aF 3 ?_
     refine aL 4 ?_
     refine tr 5 (.agg #[.int .u64 d.1, .int .u64 d.2.1, .int .i64 (normF d.2.2)]) ?_ (hy := fun δ w_ hr => Rd_loads b1 0 [.int .u64 d.1, .int .u64 d.2.1, .int .i64 (normF d.2.2)] rfl (by kernel_rfl) (rdm_cons (List.mem_cons_of_mem _ List.mem_cons_self) (rdm_cons (List.mem_cons_of_mem _ (List.mem_cons_of_mem _ List.mem_cons_self)) (rdm_cons (List.mem_cons_of_mem _ (List.mem_cons_of_mem _ (List.mem_cons_of_mem _ List.mem_cons_self))) rdm_nil))) hr)
     refine sa1 true 6 (h := nws 45 3 1 [.int .u64 d.1, .int .u64 d.2.1, .int .i64 (normF d.2.2)] ?_)
     intro b19
     refine ⟨fun hnd => (Qf (Gs.cell hok15 (fun e he => (Qc (mem_h he))) (Qh ObjL.len (Qd hx) (j := 5) (by decide) rfl)) (Qf (Cell.own (Qc (Qa (Qa (Qc (Qa (Qa (Qa (Qa (Qc (Qa (Qc (Qa (Qa Qe))))))))))))) rfl) (Qf (Cell.own (Qc (Qa (Qa (Qc (Qa (Qa (Qa (Qa (Qc (Qa (Qc (Qa (Qa Qe))))))))))))) rfl) (Qf (Cell.own (Qc (Qa (Qa (Qc (Qa (Qa (Qa (Qa (Qc (Qa (Qc (Qa (Qa Qe))))))))))))) rfl) rd_nil)))), ?_⟩
     refine SA_perm _ (perm_cc (perm_ca (perm_ca (perm_cc perm_cz)))) ?_
     refine sa1 false 7 (h := O_append (size := 3) (bytes := 24) (z := .agg #[.int .u64 0, .int .u64 0, .int .i64 0]) x.vs x.vals.length 1 (some ⟨b19, 0, none⟩) 1 (x.vals.flatMap Qk) ([.int .u64 d.1, .int .u64 d.2.1, .int .i64 (normF d.2.2)]) ((x.vals ++ [(d.1, d.2.1, normF d.2.2)]).flatMap Qk) (flat_snoc _ (d.1, d.2.1, normF d.2.2) rfl) (fun _ => rfl) (fun _ => rfl) Tryz.underlying99 (by kernel_rfl) rfl (by decide) (show Gs.ok 3 (x.vals).length x.vs (x.vals.flatMap Qk) from (HeapV.ok.at (x := (ObjL.withShape (ObjL.chg x) rTV1)) hH3 (Qd hx)).vs) rfl (.inr ⟨b19, 0, rfl, Cells.own (Qa Qe) rfl⟩) rfl (by omega) (by decide) rfl ?_)
     intro s20 hks20 hfs20
     rw [show x.vals.length + 1 = (x.vals ++ [(d.1, d.2.1, normF d.2.2)]).length from by simp]
     rw [show x.vals.length + 1 = (x.vals ++ [(d.1, d.2.1, normF d.2.2)]).length from by simp] at hks20
     have hls20 : (x.vals ++ [(d.1, d.2.1, normF d.2.2)]).length = x.vals.length + 1 := by simp
     refine ⟨fun hnd => (by cases hnd), ?_⟩
     refine kpA [141, 134, 123, 13, 12, 98, 90, 39, 9, 29, 18, 8, 7, 0, 1, 2, 3] ?_
     refine aS 8 ?_
     refine aF 9 ?_
     have hok17 := Gs.ok.relen (ys := ((H.objs.set n (ObjL.mk x.kind x.proto x.shut rTV1 s18 (x.names ++ [key]) s20 (x.vals ++ [(d.1, d.2.1, normF d.2.2)]) x.es x.elems x.is x.inner (if 0 ≤ x.cell then -1 else x.cell))).flatMap ObjL.cells)) hok15 (by simp [flat_len ObjL.len])
     refine SA_perm _ (perm_ca (perm_cc perm_cz)) ?_
     refine sa1 false 10 (h := O_storeG (ys := ((H.objs.set n (ObjL.mk x.kind x.proto x.shut rTV1 s18 (x.names ++ [key]) s20 (x.vals ++ [(d.1, d.2.1, normF d.2.2)]) x.es x.elems x.is x.inner (if 0 ≤ x.cell then -1 else x.cell))).flatMap ObjL.cells)) H.s (n * 9 + 5) (Gs.val s20 ((x.vals ++ [(d.1, d.2.1, normF d.2.2)]).length)) [Gs.val s20 ((x.vals ++ [(d.1, d.2.1, normF d.2.2)]).length)] (Gs.ok.ne hok15 (by first | omega | (simp; omega))) (fun _ => rfl) (fun _ => rfl) rfl (by kernel_rfl) rfl (by rw [flat_len ObjL.len]; simp; omega) ((row_lay (j := 5) ObjL.len (ObjL.mk x.kind x.proto x.shut rTV1 s18 (x.names ++ [key]) s20 (x.vals ++ [(d.1, d.2.1, normF d.2.2)]) x.es x.elems x.is x.inner (if 0 ≤ x.cell then -1 else x.cell)) (Qd hx) (Nat.le_of_ble_eq_true rfl) rfl).trans (by rw [List.set_set])) rfl ?_)
     refine ⟨fun hnd => (by cases hnd), ?_⟩
     refine SA_done (by kernel_rfl) ?_
     refine body_end' (.tuple #[]) (fun _ => rfl) ?_
     refine ⟨((ObjL.mk x.kind x.proto x.shut rTV1 s18 (x.names ++ [key]) s20 (x.vals ++ [(d.1, d.2.1, normF d.2.2)]) x.es x.elems x.is x.inner (if 0 ≤ x.cell then -1 else x.cell)), TV1, cl1, br1), ?_, rfl, ?_, ⟨rfl, rfl, rfl, rfl, rfl, rfl, rfl, rfl⟩, ?_, hchcl1⟩
     · refine Own.trans (ow (S := ((F.p, .cells 75 6 [Gs.val H.s ((H.objs.set n (ObjL.withShape (ObjL.chg x) rTV1)).length), Gs.val H.ts H.texts.length, .map (some F.kb), pt F.T.p 0, pt F.cp 0, .int .i64 br1]) :: ((Gs.ent 102 9 H.s ((H.objs.set n (ObjL.mk x.kind x.proto x.shut rTV1 s18 (x.names ++ [key]) s20 (x.vals ++ [(d.1, d.2.1, normF d.2.2)]) x.es x.elems x.is x.inner (if 0 ≤ x.cell then -1 else x.cell))).flatMap ObjL.cells)) ++ ((Gs.ent 9 1 s18 ((x.names ++ [key]).map encS)) ++ ((Gs.ent 45 3 s20 ((x.vals ++ [(d.1, d.2.1, normF d.2.2)]).flatMap Qk)) ++ ((Gs.ent 33 1 x.es (x.elems.map encU)) ++ ((Gs.ent 33 1 x.is (x.inner.map encU)) ++ (((List.eraseIdx (H.objs.set n (ObjL.withShape (ObjL.chg x) rTV1)) n).flatMap ObjL.ent) ++ ((Gs.ent 9 1 H.ts (H.texts.map encS)) ++ ((F.kb, .map (kvs encS encU H.known)) :: ((TreeV.ent TV1 F.T) ++ ((CellsL.ent (CellsL.mk F.cp H.cs cl1)) ++ ([])))))))))))))) (Own.of_perm ?_)
       simpa only [HeapV.put, List.set_set] using HeapV.back (H := (HeapV.mk H.s (H.objs.set n (ObjL.withShape (ObjL.chg x) rTV1)) H.ts H.texts H.known TV1 H.cs cl1 br1)) F (Qd hx) (ObjL.mk x.kind x.proto x.shut rTV1 s18 (x.names ++ [key]) s20 (x.vals ++ [(d.1, d.2.1, normF d.2.2)]) x.es x.elems x.is x.inner (if 0 ≤ x.cell then -1 else x.cell))
     · simpa only [HeapV.put, List.set_set] using HeapV.ok.put hH3 (Qd hx) (x' := (ObjL.mk x.kind x.proto x.shut rTV1 s18 (x.names ++ [key]) s20 (x.vals ++ [(d.1, d.2.1, normF d.2.2)]) x.es x.elems x.is x.inner (if 0 ≤ x.cell then -1 else x.cell))) ⟨(by first | exact hks18 | (simp only [List.length_set]; exact hks18)), (by first | exact hks20 | (simp only [List.length_set]; exact hks20)), (by first | exact (show Gs.ok 1 (x.elems).length x.es (x.elems.map encU) from (HeapV.ok.at (x := (ObjL.withShape (ObjL.chg x) rTV1)) hH3 (Qd hx)).es) | (simp only [List.length_set]; exact (show Gs.ok 1 (x.elems).length x.es (x.elems.map encU) from (HeapV.ok.at (x := (ObjL.withShape (ObjL.chg x) rTV1)) hH3 (Qd hx)).es))), (by first | exact (show Gs.ok 1 (x.inner).length x.is (x.inner.map encU) from (HeapV.ok.at (x := (ObjL.withShape (ObjL.chg x) rTV1)) hH3 (Qd hx)).is) | (simp only [List.length_set]; exact (show Gs.ok 1 (x.inner).length x.is (x.inner.map encU) from (HeapV.ok.at (x := (ObjL.withShape (ObjL.chg x) rTV1)) hH3 (Qd hx)).is)))⟩ (HeapV.ok.small hH3 (ObjL.withShape (ObjL.chg x) rTV1) (List.mem_of_getElem? (Qd hx)))
     · simp only [putS, ObjL.ps, if_neg (show ¬ 0 ≤ placeO (H.V.abs F.T) x.shape x.names key from by omega), putNew, putFast, if_neg (show ¬ 16 ≤ x.vals.length from by omega), if_pos (show 0 ≤ x.shape from by omega), hrTV1, stepS, if_pos hp4, putName, if_pos (show rTV1 < 0 from by omega)]
    refine Ql (Qj ?_)
    refine SW_perm _ (perm_cc (perm_ca perm_cz)) ?_
    refine SW_perm ((Gs.ent 9 1 x.ns (x.names.map encS)) ++ ((Gs.ent 45 3 x.vs (x.vals.flatMap Qk)) ++ ((Gs.ent 33 1 x.es (x.elems.map encU)) ++ ((Gs.ent 33 1 x.is (x.inner.map encU)) ++ (((List.eraseIdx (H.objs.set n (ObjL.withShape (ObjL.chg x) rTV1)) n).flatMap ObjL.ent) ++ ((F.p, .cells 75 6 [Gs.val H.s ((H.objs.set n (ObjL.withShape (ObjL.chg x) rTV1)).length), Gs.val H.ts H.texts.length, .map (some F.kb), pt F.T.p 0, pt F.cp 0, .int .i64 br1]) :: ((Gs.ent 102 9 H.s ((H.objs.set n (ObjL.withShape (ObjL.chg x) rTV1)).flatMap ObjL.cells)) ++ ((Gs.ent 9 1 H.ts (H.texts.map encS)) ++ ((F.kb, .map (kvs encS encU H.known)) :: ((TreeV.ent TV1 F.T) ++ ((CellsL.ent (CellsL.mk F.cp H.cs cl1)) ++ ((b1, .cells 45 3 [.int .u64 d.1, .int .u64 d.2.1, .int .i64 (normF d.2.2)]) :: ([]))))))))))))) (obj_focus (Qd hx) _) ?_
    refine SW_draw [((Gs.blk H.s), n * 9 + 5, Gs.val x.vs x.vals.length), (b1, 0, .int .u64 d.1), (b1, 1, .int .u64 d.2.1), (b1, 2, .int .i64 (normF d.2.2))] [0, 1, 2, 3, 4, 5, 6] (by kernel_rfl) (Qf (Gs.cell hH3.row (fun e he => (Qa (Qa (Qa (Qa (Qa (Qc (mem_h he)))))))) (Qh ObjL.len (Qd hx) (j := 5) (by decide) rfl)) (Qf (Cell.own (Qa (Qa (Qa (Qa (Qa (Qc (Qa (Qa (Qc (Qa (Qa Qe))))))))))) rfl) (Qf (Cell.own (Qa (Qa (Qa (Qa (Qa (Qc (Qa (Qa (Qc (Qa (Qa Qe))))))))))) rfl) (Qf (Cell.own (Qa (Qa (Qa (Qa (Qa (Qc (Qa (Qa (Qc (Qa (Qa Qe))))))))))) rfl) rd_nil)))) ?_
    refine aS 0 ?_
    refine aS 1 ?_
    refine aS 2 ?_
    refine aF 3 ?_
    refine aL 4 ?_
    refine tr 5 (.agg #[.int .u64 d.1, .int .u64 d.2.1, .int .i64 (normF d.2.2)]) ?_ (hy := fun δ w_ hr => Rd_loads b1 0 [.int .u64 d.1, .int .u64 d.2.1, .int .i64 (normF d.2.2)] rfl (by kernel_rfl) (rdm_cons (List.mem_cons_of_mem _ List.mem_cons_self) (rdm_cons (List.mem_cons_of_mem _ (List.mem_cons_of_mem _ List.mem_cons_self)) (rdm_cons (List.mem_cons_of_mem _ (List.mem_cons_of_mem _ (List.mem_cons_of_mem _ List.mem_cons_self))) rdm_nil))) hr)
    refine sa1 true 6 (h := nws 45 3 1 [.int .u64 d.1, .int .u64 d.2.1, .int .i64 (normF d.2.2)] ?_)
    intro b21
    refine ⟨fun hnd => (Qf (Gs.cell hH3.row (fun e he => (Qc (Qa (Qa (Qa (Qa (Qa (Qc (mem_h he))))))))) (Qh ObjL.len (Qd hx) (j := 5) (by decide) rfl)) (Qf (Cell.own (Qc (Qa (Qa (Qa (Qa (Qa (Qc (Qa (Qa (Qc (Qa (Qa Qe)))))))))))) rfl) (Qf (Cell.own (Qc (Qa (Qa (Qa (Qa (Qa (Qc (Qa (Qa (Qc (Qa (Qa Qe)))))))))))) rfl) (Qf (Cell.own (Qc (Qa (Qa (Qa (Qa (Qa (Qc (Qa (Qa (Qc (Qa (Qa Qe)))))))))))) rfl) rd_nil)))), ?_⟩
    refine SA_perm _ (perm_cc (perm_ca perm_cz)) ?_
    refine sa1 false 7 (h := O_append (size := 3) (bytes := 24) (z := .agg #[.int .u64 0, .int .u64 0, .int .i64 0]) x.vs x.vals.length 1 (some ⟨b21, 0, none⟩) 1 (x.vals.flatMap Qk) ([.int .u64 d.1, .int .u64 d.2.1, .int .i64 (normF d.2.2)]) ((x.vals ++ [(d.1, d.2.1, normF d.2.2)]).flatMap Qk) (flat_snoc _ (d.1, d.2.1, normF d.2.2) rfl) (fun _ => rfl) (fun _ => rfl) Tryz.underlying99 (by kernel_rfl) rfl (by decide) (show Gs.ok 3 (x.vals).length x.vs (x.vals.flatMap Qk) from (HeapV.ok.at (x := (ObjL.withShape (ObjL.chg x) rTV1)) hH3 (Qd hx)).vs) rfl (.inr ⟨b21, 0, rfl, Cells.own (Qa Qe) rfl⟩) rfl (by omega) (by decide) rfl ?_)
    intro s22 hks22 hfs22
    rw [show x.vals.length + 1 = (x.vals ++ [(d.1, d.2.1, normF d.2.2)]).length from by simp]
    rw [show x.vals.length + 1 = (x.vals ++ [(d.1, d.2.1, normF d.2.2)]).length from by simp] at hks22
    have hls22 : (x.vals ++ [(d.1, d.2.1, normF d.2.2)]).length = x.vals.length + 1 := by simp
    refine ⟨fun hnd => (by cases hnd), ?_⟩
    refine kpA [141, 134, 123, 13, 12, 98, 90, 39, 9, 29, 18, 8, 7, 0, 1, 2, 3] ?_
    refine aS 8 ?_
    refine aF 9 ?_
    have hok19 := Gs.ok.relen (ys := ((H.objs.set n (ObjL.mk x.kind x.proto x.shut rTV1 x.ns x.names s22 (x.vals ++ [(d.1, d.2.1, normF d.2.2)]) x.es x.elems x.is x.inner (if 0 ≤ x.cell then -1 else x.cell))).flatMap ObjL.cells)) hH3.row (by simp [flat_len ObjL.len])
    refine SA_perm _ (perm_ca (perm_cc (perm_ca (perm_ca (perm_ca (perm_ca (perm_cc perm_cz))))))) ?_
    refine sa1 false 10 (h := O_storeG (ys := ((H.objs.set n (ObjL.mk x.kind x.proto x.shut rTV1 x.ns x.names s22 (x.vals ++ [(d.1, d.2.1, normF d.2.2)]) x.es x.elems x.is x.inner (if 0 ≤ x.cell then -1 else x.cell))).flatMap ObjL.cells)) H.s (n * 9 + 5) (Gs.val s22 ((x.vals ++ [(d.1, d.2.1, normF d.2.2)]).length)) [Gs.val s22 ((x.vals ++ [(d.1, d.2.1, normF d.2.2)]).length)] (Gs.ok.ne hH3.row (by first | omega | (simp; omega))) (fun _ => rfl) (fun _ => rfl) rfl (by kernel_rfl) rfl (by rw [flat_len ObjL.len]; simp; omega) ((row_lay (j := 5) ObjL.len (ObjL.mk x.kind x.proto x.shut rTV1 x.ns x.names s22 (x.vals ++ [(d.1, d.2.1, normF d.2.2)]) x.es x.elems x.is x.inner (if 0 ≤ x.cell then -1 else x.cell)) (Qd hx) (Nat.le_of_ble_eq_true rfl) rfl).trans (by rw [List.set_set])) rfl ?_)
    refine ⟨fun hnd => (by cases hnd), ?_⟩
    refine SA_done (by kernel_rfl) ?_
    refine body_end' (.tuple #[]) (fun _ => rfl) ?_
    refine ⟨((ObjL.mk x.kind x.proto x.shut rTV1 x.ns x.names s22 (x.vals ++ [(d.1, d.2.1, normF d.2.2)]) x.es x.elems x.is x.inner (if 0 ≤ x.cell then -1 else x.cell)), TV1, cl1, br1), ?_, rfl, ?_, ⟨rfl, rfl, rfl, rfl, rfl, rfl, rfl, rfl⟩, ?_, hchcl1⟩
    · refine Own.trans (ow (S := ((F.p, .cells 75 6 [Gs.val H.s ((H.objs.set n (ObjL.withShape (ObjL.chg x) rTV1)).length), Gs.val H.ts H.texts.length, .map (some F.kb), pt F.T.p 0, pt F.cp 0, .int .i64 br1]) :: ((Gs.ent 102 9 H.s ((H.objs.set n (ObjL.mk x.kind x.proto x.shut rTV1 x.ns x.names s22 (x.vals ++ [(d.1, d.2.1, normF d.2.2)]) x.es x.elems x.is x.inner (if 0 ≤ x.cell then -1 else x.cell))).flatMap ObjL.cells)) ++ ((Gs.ent 9 1 x.ns (x.names.map encS)) ++ ((Gs.ent 45 3 s22 ((x.vals ++ [(d.1, d.2.1, normF d.2.2)]).flatMap Qk)) ++ ((Gs.ent 33 1 x.es (x.elems.map encU)) ++ ((Gs.ent 33 1 x.is (x.inner.map encU)) ++ (((List.eraseIdx (H.objs.set n (ObjL.withShape (ObjL.chg x) rTV1)) n).flatMap ObjL.ent) ++ ((Gs.ent 9 1 H.ts (H.texts.map encS)) ++ ((F.kb, .map (kvs encS encU H.known)) :: ((TreeV.ent TV1 F.T) ++ ((CellsL.ent (CellsL.mk F.cp H.cs cl1)) ++ ([])))))))))))))) (Own.of_perm ?_)
      simpa only [HeapV.put, List.set_set] using HeapV.back (H := (HeapV.mk H.s (H.objs.set n (ObjL.withShape (ObjL.chg x) rTV1)) H.ts H.texts H.known TV1 H.cs cl1 br1)) F (Qd hx) (ObjL.mk x.kind x.proto x.shut rTV1 x.ns x.names s22 (x.vals ++ [(d.1, d.2.1, normF d.2.2)]) x.es x.elems x.is x.inner (if 0 ≤ x.cell then -1 else x.cell))
    · simpa only [HeapV.put, List.set_set] using HeapV.ok.put hH3 (Qd hx) (x' := (ObjL.mk x.kind x.proto x.shut rTV1 x.ns x.names s22 (x.vals ++ [(d.1, d.2.1, normF d.2.2)]) x.es x.elems x.is x.inner (if 0 ≤ x.cell then -1 else x.cell))) ⟨(by first | exact (show Gs.ok 1 (x.names).length x.ns (x.names.map encS) from (HeapV.ok.at (x := (ObjL.withShape (ObjL.chg x) rTV1)) hH3 (Qd hx)).ns) | (simp only [List.length_set]; exact (show Gs.ok 1 (x.names).length x.ns (x.names.map encS) from (HeapV.ok.at (x := (ObjL.withShape (ObjL.chg x) rTV1)) hH3 (Qd hx)).ns))), (by first | exact hks22 | (simp only [List.length_set]; exact hks22)), (by first | exact (show Gs.ok 1 (x.elems).length x.es (x.elems.map encU) from (HeapV.ok.at (x := (ObjL.withShape (ObjL.chg x) rTV1)) hH3 (Qd hx)).es) | (simp only [List.length_set]; exact (show Gs.ok 1 (x.elems).length x.es (x.elems.map encU) from (HeapV.ok.at (x := (ObjL.withShape (ObjL.chg x) rTV1)) hH3 (Qd hx)).es))), (by first | exact (show Gs.ok 1 (x.inner).length x.is (x.inner.map encU) from (HeapV.ok.at (x := (ObjL.withShape (ObjL.chg x) rTV1)) hH3 (Qd hx)).is) | (simp only [List.length_set]; exact (show Gs.ok 1 (x.inner).length x.is (x.inner.map encU) from (HeapV.ok.at (x := (ObjL.withShape (ObjL.chg x) rTV1)) hH3 (Qd hx)).is)))⟩ (HeapV.ok.small hH3 (ObjL.withShape (ObjL.chg x) rTV1) (List.mem_of_getElem? (Qd hx)))
    · simp only [putS, ObjL.ps, if_neg (show ¬ 0 ≤ placeO (H.V.abs F.T) x.shape x.names key from by omega), putNew, putFast, if_neg (show ¬ 16 ≤ x.vals.length from by omega), if_pos (show 0 ≤ x.shape from by omega), hrTV1, stepS, if_pos hp4, putName, if_neg (show ¬ rTV1 < 0 from by omega)]
   refine L (cl (heap_step_no hH2 (n := n) (Qd hx) rTV1 (ok := okTV1) (by simpa using hp4) (by omega)) ?_ (hp := HeapV.pm))
   rintro _ kg1 ⟨rfl, hkg1⟩
   refine SL_sig _ (by simp only [HeapV.ent, HeapV.put, List.set_set, List.cons_append, List.append_assoc, List.nil_append]; rfl) ?_
   have hH3 : HeapV.ok (HeapV.mk H.s (H.objs.set n (ObjL.loosed (ObjL.chg x) kg1 (keysP (TreeV.abs TV1 F.T) x.shape))) H.ts H.texts H.known TV1 H.cs cl1 br1) F := by simpa only [HeapV.put, List.set_set] using HeapV.ok.put hH2 (Qd hx) (x' := (ObjL.loosed (ObjL.chg x) kg1 (keysP (TreeV.abs TV1 F.T) x.shape))) ⟨hkg1, (HeapV.ok.at hH2 (Qd hx)).vs, (HeapV.ok.at hH2 (Qd hx)).es, (HeapV.ok.at hH2 (Qd hx)).is⟩ (HeapV.ok.small hH2 (ObjL.chg x) (List.mem_of_getElem? (Qd hx)))
   refine nq ?_
   refine sr ?_
   refine os 3 ?_
   refine kp [121, 13, 12, 98, 90, 39, 9, 29, 18, 8, 7, 0, 1, 2, 3] ?_
   refine L (ld ?_ (hc := Gs.cell hH3.row (fun e he => (Qc (mem_h he))) (Qh ObjL.len (Qd hx) (j := 3) (by decide) rfl)) (v := .int .i64 (-1)))
   refine oV (.bool true) ?_
   refine nt ?_
   refine ct ?_
   have hnm := keysP_len (V := TV1) (T := F.T) hTV1 x.shape
   refine SW_perm _ (perm_cc (perm_ca perm_cz)) ?_
   refine SW_perm ((Gs.ent 9 1 kg1 ((keysP (TreeV.abs TV1 F.T) x.shape).map encS)) ++ ((Gs.ent 45 3 x.vs (x.vals.flatMap Qk)) ++ ((Gs.ent 33 1 x.es (x.elems.map encU)) ++ ((Gs.ent 33 1 x.is (x.inner.map encU)) ++ (((List.eraseIdx (H.objs.set n (ObjL.loosed (ObjL.chg x) kg1 (keysP (TreeV.abs TV1 F.T) x.shape))) n).flatMap ObjL.ent) ++ ((F.p, .cells 75 6 [Gs.val H.s ((H.objs.set n (ObjL.loosed (ObjL.chg x) kg1 (keysP (TreeV.abs TV1 F.T) x.shape))).length), Gs.val H.ts H.texts.length, .map (some F.kb), pt F.T.p 0, pt F.cp 0, .int .i64 br1]) :: ((Gs.ent 102 9 H.s ((H.objs.set n (ObjL.loosed (ObjL.chg x) kg1 (keysP (TreeV.abs TV1 F.T) x.shape))).flatMap ObjL.cells)) ++ ((Gs.ent 9 1 H.ts (H.texts.map encS)) ++ ((F.kb, .map (kvs encS encU H.known)) :: ((TreeV.ent TV1 F.T) ++ ((CellsL.ent (CellsL.mk F.cp H.cs cl1)) ++ ((b1, .cells 45 3 [.int .u64 d.1, .int .u64 d.2.1, .int .i64 (normF d.2.2)]) :: ([]))))))))))))) (obj_focus (Qd hx) _) ?_
   refine Qn ?_
   refine os 4 ?_
   refine L (ld ?_ (hc := Gs.cell hH3.row (fun e he => (Qa (Qa (Qa (Qa (Qa (Qc (mem_h he)))))))) (Qh ObjL.len (Qd hx) (j := 4) (by decide) rfl)) (v := Gs.val kg1 ((keysP (TreeV.abs TV1 F.T) x.shape).length)))
   refine os 1 ?_
   refine L (nws 9 1 1 [.string key] ?_)
   intro b23
   refine SL_perm _ (perm_cc perm_cz) ?_
   refine L (O_append (size := 1) (bytes := 16) (z := .string ByteArray.empty) kg1 ((keysP (TreeV.abs TV1 F.T) x.shape).length) 1 (some ⟨b23, 0, none⟩) 1 ((keysP (TreeV.abs TV1 F.T) x.shape).map encS) ([.string key]) (((keysP (TreeV.abs TV1 F.T) x.shape) ++ [key]).map encS) (map_snoc _ key rfl) (fun _ => rfl) (fun _ => rfl) Tryz.underlying26 (by kernel_rfl) rfl (by decide) (show Gs.ok 1 ((keysP (TreeV.abs TV1 F.T) x.shape)).length kg1 ((keysP (TreeV.abs TV1 F.T) x.shape).map encS) from (HeapV.ok.at (x := (ObjL.loosed (ObjL.chg x) kg1 (keysP (TreeV.abs TV1 F.T) x.shape))) hH3 (Qd hx)).ns) rfl (.inr ⟨b23, 0, rfl, Cells.own (Qa Qe) rfl⟩) rfl (by omega) (by decide) rfl ?_)
   intro s24 hks24 hfs24
   rw [show (keysP (TreeV.abs TV1 F.T) x.shape).length + 1 = ((keysP (TreeV.abs TV1 F.T) x.shape) ++ [key]).length from by simp]
   rw [show (keysP (TreeV.abs TV1 F.T) x.shape).length + 1 = ((keysP (TreeV.abs TV1 F.T) x.shape) ++ [key]).length from by simp] at hks24
   have hls24 : ((keysP (TreeV.abs TV1 F.T) x.shape) ++ [key]).length = (keysP (TreeV.abs TV1 F.T) x.shape).length + 1 := by simp
   refine os 2 ?_
   refine kp [133, 131, 123, 13, 12, 98, 90, 39, 9, 29, 18, 8, 7, 0, 1, 2, 3] ?_
   have hok20 := Gs.ok.relen (ys := ((H.objs.set n (ObjL.mk x.kind x.proto x.shut (-1) s24 ((keysP (TreeV.abs TV1 F.T) x.shape) ++ [key]) x.vs x.vals x.es x.elems x.is x.inner (if 0 ≤ x.cell then -1 else x.cell))).flatMap ObjL.cells)) hH3.row (by simp [flat_len ObjL.len])
   refine SL_perm _ (perm_ca (perm_cc (perm_ca (perm_ca (perm_ca (perm_ca (perm_cc perm_cz))))))) ?_
   refine L (O_storeG (ys := ((H.objs.set n (ObjL.mk x.kind x.proto x.shut (-1) s24 ((keysP (TreeV.abs TV1 F.T) x.shape) ++ [key]) x.vs x.vals x.es x.elems x.is x.inner (if 0 ≤ x.cell then -1 else x.cell))).flatMap ObjL.cells)) H.s (n * 9 + 4) (Gs.val s24 (((keysP (TreeV.abs TV1 F.T) x.shape) ++ [key]).length)) [Gs.val s24 (((keysP (TreeV.abs TV1 F.T) x.shape) ++ [key]).length)] (Gs.ok.ne hH3.row (by first | omega | (simp; omega))) (fun _ => rfl) (fun _ => rfl) rfl (by kernel_rfl) rfl (by rw [flat_len ObjL.len]; simp; omega) ((row_lay (j := 4) ObjL.len (ObjL.mk x.kind x.proto x.shut (-1) s24 ((keysP (TreeV.abs TV1 F.T) x.shape) ++ [key]) x.vs x.vals x.es x.elems x.is x.inner (if 0 ≤ x.cell then -1 else x.cell)) (Qd hx) (Nat.le_of_ble_eq_true rfl) rfl).trans (by rw [List.set_set])) rfl ?_)
   refine nt ?_
   refine SW_draw [((Gs.blk H.s), n * 9 + 5, Gs.val x.vs x.vals.length), (b1, 0, .int .u64 d.1), (b1, 1, .int .u64 d.2.1), (b1, 2, .int .i64 (normF d.2.2))] [0, 1, 2, 3, 4, 5, 6] (by kernel_rfl) (Qf (Gs.cell hok20 (fun e he => (mem_h he)) (Qh ObjL.len (Qd hx) (j := 5) (by decide) rfl)) (Qf (Cell.own (Qa (Qa (Qc (Qa (Qa (Qa (Qa (Qc (Qa (Qc (Qa (Qa Qe)))))))))))) rfl) (Qf (Cell.own (Qa (Qa (Qc (Qa (Qa (Qa (Qa (Qc (Qa (Qc (Qa (Qa Qe)))))))))))) rfl) (Qf (Cell.own (Qa (Qa (Qc (Qa (Qa (Qa (Qa (Qc (Qa (Qc (Qa (Qa Qe)))))))))))) rfl) rd_nil)))) ?_
   refine aS 0 ?_
   refine aS 1 ?_
   refine aS 2 ?_
   refine aF 3 ?_
   refine aL 4 ?_
   refine tr 5 (.agg #[.int .u64 d.1, .int .u64 d.2.1, .int .i64 (normF d.2.2)]) ?_ (hy := fun δ w_ hr => Rd_loads b1 0 [.int .u64 d.1, .int .u64 d.2.1, .int .i64 (normF d.2.2)] rfl (by kernel_rfl) (rdm_cons (List.mem_cons_of_mem _ List.mem_cons_self) (rdm_cons (List.mem_cons_of_mem _ (List.mem_cons_of_mem _ List.mem_cons_self)) (rdm_cons (List.mem_cons_of_mem _ (List.mem_cons_of_mem _ (List.mem_cons_of_mem _ List.mem_cons_self))) rdm_nil))) hr)
   refine sa1 true 6 (h := nws 45 3 1 [.int .u64 d.1, .int .u64 d.2.1, .int .i64 (normF d.2.2)] ?_)
   intro b25
   refine ⟨fun hnd => (Qf (Gs.cell hok20 (fun e he => (Qc (mem_h he))) (Qh ObjL.len (Qd hx) (j := 5) (by decide) rfl)) (Qf (Cell.own (Qc (Qa (Qa (Qc (Qa (Qa (Qa (Qa (Qc (Qa (Qc (Qa (Qa Qe))))))))))))) rfl) (Qf (Cell.own (Qc (Qa (Qa (Qc (Qa (Qa (Qa (Qa (Qc (Qa (Qc (Qa (Qa Qe))))))))))))) rfl) (Qf (Cell.own (Qc (Qa (Qa (Qc (Qa (Qa (Qa (Qa (Qc (Qa (Qc (Qa (Qa Qe))))))))))))) rfl) rd_nil)))), ?_⟩
   refine SA_perm _ (perm_cc (perm_ca (perm_ca (perm_cc perm_cz)))) ?_
   refine sa1 false 7 (h := O_append (size := 3) (bytes := 24) (z := .agg #[.int .u64 0, .int .u64 0, .int .i64 0]) x.vs x.vals.length 1 (some ⟨b25, 0, none⟩) 1 (x.vals.flatMap Qk) ([.int .u64 d.1, .int .u64 d.2.1, .int .i64 (normF d.2.2)]) ((x.vals ++ [(d.1, d.2.1, normF d.2.2)]).flatMap Qk) (flat_snoc _ (d.1, d.2.1, normF d.2.2) rfl) (fun _ => rfl) (fun _ => rfl) Tryz.underlying99 (by kernel_rfl) rfl (by decide) (show Gs.ok 3 (x.vals).length x.vs (x.vals.flatMap Qk) from (HeapV.ok.at (x := (ObjL.loosed (ObjL.chg x) kg1 (keysP (TreeV.abs TV1 F.T) x.shape))) hH3 (Qd hx)).vs) rfl (.inr ⟨b25, 0, rfl, Cells.own (Qa Qe) rfl⟩) rfl (by omega) (by decide) rfl ?_)
   intro s26 hks26 hfs26
   rw [show x.vals.length + 1 = (x.vals ++ [(d.1, d.2.1, normF d.2.2)]).length from by simp]
   rw [show x.vals.length + 1 = (x.vals ++ [(d.1, d.2.1, normF d.2.2)]).length from by simp] at hks26
   have hls26 : (x.vals ++ [(d.1, d.2.1, normF d.2.2)]).length = x.vals.length + 1 := by simp
   refine ⟨fun hnd => (by cases hnd), ?_⟩
   refine kpA [141, 134, 123, 13, 12, 98, 90, 39, 9, 29, 18, 8, 7, 0, 1, 2, 3] ?_
   refine aS 8 ?_
   refine aF 9 ?_
   have hok22 := Gs.ok.relen (ys := ((H.objs.set n (ObjL.mk x.kind x.proto x.shut (-1) s24 ((keysP (TreeV.abs TV1 F.T) x.shape) ++ [key]) s26 (x.vals ++ [(d.1, d.2.1, normF d.2.2)]) x.es x.elems x.is x.inner (if 0 ≤ x.cell then -1 else x.cell))).flatMap ObjL.cells)) hok20 (by simp [flat_len ObjL.len])
   refine SA_perm _ (perm_ca (perm_cc perm_cz)) ?_
   refine sa1 false 10 (h := O_storeG (ys := ((H.objs.set n (ObjL.mk x.kind x.proto x.shut (-1) s24 ((keysP (TreeV.abs TV1 F.T) x.shape) ++ [key]) s26 (x.vals ++ [(d.1, d.2.1, normF d.2.2)]) x.es x.elems x.is x.inner (if 0 ≤ x.cell then -1 else x.cell))).flatMap ObjL.cells)) H.s (n * 9 + 5) (Gs.val s26 ((x.vals ++ [(d.1, d.2.1, normF d.2.2)]).length)) [Gs.val s26 ((x.vals ++ [(d.1, d.2.1, normF d.2.2)]).length)] (Gs.ok.ne hok20 (by first | omega | (simp; omega))) (fun _ => rfl) (fun _ => rfl) rfl (by kernel_rfl) rfl (by rw [flat_len ObjL.len]; simp; omega) ((row_lay (j := 5) ObjL.len (ObjL.mk x.kind x.proto x.shut (-1) s24 ((keysP (TreeV.abs TV1 F.T) x.shape) ++ [key]) s26 (x.vals ++ [(d.1, d.2.1, normF d.2.2)]) x.es x.elems x.is x.inner (if 0 ≤ x.cell then -1 else x.cell)) (Qd hx) (Nat.le_of_ble_eq_true rfl) rfl).trans (by rw [List.set_set])) rfl ?_)
   refine ⟨fun hnd => (by cases hnd), ?_⟩
   refine SA_done (by kernel_rfl) ?_
   refine body_end' (.tuple #[]) (fun _ => rfl) ?_
   refine ⟨((ObjL.mk x.kind x.proto x.shut (-1) s24 ((keysP (TreeV.abs TV1 F.T) x.shape) ++ [key]) s26 (x.vals ++ [(d.1, d.2.1, normF d.2.2)]) x.es x.elems x.is x.inner (if 0 ≤ x.cell then -1 else x.cell)), TV1, cl1, br1), ?_, rfl, ?_, ⟨rfl, rfl, rfl, rfl, rfl, rfl, rfl, rfl⟩, ?_, hchcl1⟩
   · refine Own.trans (ow (S := ((F.p, .cells 75 6 [Gs.val H.s ((H.objs.set n (ObjL.loosed (ObjL.chg x) kg1 (keysP (TreeV.abs TV1 F.T) x.shape))).length), Gs.val H.ts H.texts.length, .map (some F.kb), pt F.T.p 0, pt F.cp 0, .int .i64 br1]) :: ((Gs.ent 102 9 H.s ((H.objs.set n (ObjL.mk x.kind x.proto x.shut (-1) s24 ((keysP (TreeV.abs TV1 F.T) x.shape) ++ [key]) s26 (x.vals ++ [(d.1, d.2.1, normF d.2.2)]) x.es x.elems x.is x.inner (if 0 ≤ x.cell then -1 else x.cell))).flatMap ObjL.cells)) ++ ((Gs.ent 9 1 s24 (((keysP (TreeV.abs TV1 F.T) x.shape) ++ [key]).map encS)) ++ ((Gs.ent 45 3 s26 ((x.vals ++ [(d.1, d.2.1, normF d.2.2)]).flatMap Qk)) ++ ((Gs.ent 33 1 x.es (x.elems.map encU)) ++ ((Gs.ent 33 1 x.is (x.inner.map encU)) ++ (((List.eraseIdx (H.objs.set n (ObjL.loosed (ObjL.chg x) kg1 (keysP (TreeV.abs TV1 F.T) x.shape))) n).flatMap ObjL.ent) ++ ((Gs.ent 9 1 H.ts (H.texts.map encS)) ++ ((F.kb, .map (kvs encS encU H.known)) :: ((TreeV.ent TV1 F.T) ++ ((CellsL.ent (CellsL.mk F.cp H.cs cl1)) ++ ([])))))))))))))) (Own.of_perm ?_)
     simpa only [HeapV.put, List.set_set] using HeapV.back (H := (HeapV.mk H.s (H.objs.set n (ObjL.loosed (ObjL.chg x) kg1 (keysP (TreeV.abs TV1 F.T) x.shape))) H.ts H.texts H.known TV1 H.cs cl1 br1)) F (Qd hx) (ObjL.mk x.kind x.proto x.shut (-1) s24 ((keysP (TreeV.abs TV1 F.T) x.shape) ++ [key]) s26 (x.vals ++ [(d.1, d.2.1, normF d.2.2)]) x.es x.elems x.is x.inner (if 0 ≤ x.cell then -1 else x.cell))
   · simpa only [HeapV.put, List.set_set] using HeapV.ok.put hH3 (Qd hx) (x' := (ObjL.mk x.kind x.proto x.shut (-1) s24 ((keysP (TreeV.abs TV1 F.T) x.shape) ++ [key]) s26 (x.vals ++ [(d.1, d.2.1, normF d.2.2)]) x.es x.elems x.is x.inner (if 0 ≤ x.cell then -1 else x.cell))) ⟨(by first | exact hks24 | (simp only [List.length_set]; exact hks24)), (by first | exact hks26 | (simp only [List.length_set]; exact hks26)), (by first | exact (show Gs.ok 1 (x.elems).length x.es (x.elems.map encU) from (HeapV.ok.at (x := (ObjL.loosed (ObjL.chg x) kg1 (keysP (TreeV.abs TV1 F.T) x.shape))) hH3 (Qd hx)).es) | (simp only [List.length_set]; exact (show Gs.ok 1 (x.elems).length x.es (x.elems.map encU) from (HeapV.ok.at (x := (ObjL.loosed (ObjL.chg x) kg1 (keysP (TreeV.abs TV1 F.T) x.shape))) hH3 (Qd hx)).es))), (by first | exact (show Gs.ok 1 (x.inner).length x.is (x.inner.map encU) from (HeapV.ok.at (x := (ObjL.loosed (ObjL.chg x) kg1 (keysP (TreeV.abs TV1 F.T) x.shape))) hH3 (Qd hx)).is) | (simp only [List.length_set]; exact (show Gs.ok 1 (x.inner).length x.is (x.inner.map encU) from (HeapV.ok.at (x := (ObjL.loosed (ObjL.chg x) kg1 (keysP (TreeV.abs TV1 F.T) x.shape))) hH3 (Qd hx)).is)))⟩ (HeapV.ok.small hH3 (ObjL.loosed (ObjL.chg x) kg1 (keysP (TreeV.abs TV1 F.T) x.shape)) (List.mem_of_getElem? (Qd hx)))
   · simp only [putS, ObjL.ps, if_neg (show ¬ 0 ≤ placeO (H.V.abs F.T) x.shape x.names key from by omega), putNew, putFast, if_neg (show ¬ 16 ≤ x.vals.length from by omega), if_pos (show 0 ≤ x.shape from by omega), hrTV1, stepS, if_neg hp4, looseS, if_pos (show 0 ≤ x.shape from by omega), putName, if_pos (show (-1 : Int) < 0 from by omega)]
  refine Ql (Qj ?_)
  refine SW_seq ?_
  refine sr ?_
  refine os 3 ?_
  refine L (ld ?_ (hc := Gs.cell hH1.row (fun e he => (Qc (mem_h he))) (Qh ObjL.len (Qd hx) (j := 3) (by decide) rfl)) (v := .int .i64 x.shape))
  refine os 1 ?_
  refine kp [123, 98, 90, 39, 9, 29, 18, 8, 7, 0, 1, 2, 3] ?_
  refine nt ?_
  refine cdp (fun hc27 : x.shape < 0 => ?_) (fun hc27 => ?_)
  ·have hnm : x.names.length ≤ 8000000 := by rcases Int.lt_or_le x.shape 0 with q | q; (have := hI.names q; omega); (rw [hI.stale q]; simp)
   refine SW_perm _ (perm_cc (perm_ca perm_cz)) ?_
   refine SW_perm ((Gs.ent 9 1 x.ns (x.names.map encS)) ++ ((Gs.ent 45 3 x.vs (x.vals.flatMap Qk)) ++ ((Gs.ent 33 1 x.es (x.elems.map encU)) ++ ((Gs.ent 33 1 x.is (x.inner.map encU)) ++ (((List.eraseIdx (H.objs.set n (ObjL.chg x)) n).flatMap ObjL.ent) ++ ((F.p, .cells 75 6 [Gs.val H.s ((H.objs.set n (ObjL.chg x)).length), Gs.val H.ts H.texts.length, .map (some F.kb), pt F.T.p 0, pt F.cp 0, .int .i64 br1]) :: ((Gs.ent 102 9 H.s ((H.objs.set n (ObjL.chg x)).flatMap ObjL.cells)) ++ ((Gs.ent 9 1 H.ts (H.texts.map encS)) ++ ((F.kb, .map (kvs encS encU H.known)) :: ((TreeV.ent H.V F.T) ++ ((CellsL.ent (CellsL.mk F.cp H.cs cl1)) ++ ((b1, .cells 45 3 [.int .u64 d.1, .int .u64 d.2.1, .int .i64 (normF d.2.2)]) :: ([]))))))))))))) (obj_focus (Qd hx) _) ?_
   refine Qn ?_
   refine os 4 ?_
   refine L (ld ?_ (hc := Gs.cell hH1.row (fun e he => (Qa (Qa (Qa (Qa (Qa (Qc (mem_h he)))))))) (Qh ObjL.len (Qd hx) (j := 4) (by decide) rfl)) (v := Gs.val x.ns x.names.length))
   refine os 1 ?_
   refine L (nws 9 1 1 [.string key] ?_)
   intro b28
   refine SL_perm _ (perm_cc perm_cz) ?_
   refine L (O_append (size := 1) (bytes := 16) (z := .string ByteArray.empty) x.ns x.names.length 1 (some ⟨b28, 0, none⟩) 1 (x.names.map encS) ([.string key]) ((x.names ++ [key]).map encS) (map_snoc _ key rfl) (fun _ => rfl) (fun _ => rfl) Tryz.underlying26 (by kernel_rfl) rfl (by decide) (show Gs.ok 1 (x.names).length x.ns (x.names.map encS) from (HeapV.ok.at (x := (ObjL.chg x)) hH1 (Qd hx)).ns) rfl (.inr ⟨b28, 0, rfl, Cells.own (Qa Qe) rfl⟩) rfl (by omega) (by decide) rfl ?_)
   intro s29 hks29 hfs29
   rw [show x.names.length + 1 = (x.names ++ [key]).length from by simp]
   rw [show x.names.length + 1 = (x.names ++ [key]).length from by simp] at hks29
   have hls29 : (x.names ++ [key]).length = x.names.length + 1 := by simp
   refine os 2 ?_
   refine kp [133, 131, 123, 98, 90, 39, 9, 29, 18, 8, 7, 0, 1, 2, 3] ?_
   have hok23 := Gs.ok.relen (ys := ((H.objs.set n (ObjL.mk x.kind x.proto x.shut x.shape s29 (x.names ++ [key]) x.vs x.vals x.es x.elems x.is x.inner (if 0 ≤ x.cell then -1 else x.cell))).flatMap ObjL.cells)) hH1.row (by simp [flat_len ObjL.len])
   refine SL_perm _ (perm_ca (perm_cc (perm_ca (perm_ca (perm_ca (perm_ca (perm_cc perm_cz))))))) ?_
   refine L (O_storeG (ys := ((H.objs.set n (ObjL.mk x.kind x.proto x.shut x.shape s29 (x.names ++ [key]) x.vs x.vals x.es x.elems x.is x.inner (if 0 ≤ x.cell then -1 else x.cell))).flatMap ObjL.cells)) H.s (n * 9 + 4) (Gs.val s29 ((x.names ++ [key]).length)) [Gs.val s29 ((x.names ++ [key]).length)] (Gs.ok.ne hH1.row (by first | omega | (simp; omega))) (fun _ => rfl) (fun _ => rfl) rfl (by kernel_rfl) rfl (by rw [flat_len ObjL.len]; simp; omega) ((row_lay (j := 4) ObjL.len (ObjL.mk x.kind x.proto x.shut x.shape s29 (x.names ++ [key]) x.vs x.vals x.es x.elems x.is x.inner (if 0 ≤ x.cell then -1 else x.cell)) (Qd hx) (Nat.le_of_ble_eq_true rfl) rfl).trans (by rw [List.set_set])) rfl ?_)
   refine nt ?_
   refine SW_draw [((Gs.blk H.s), n * 9 + 5, Gs.val x.vs x.vals.length), (b1, 0, .int .u64 d.1), (b1, 1, .int .u64 d.2.1), (b1, 2, .int .i64 (normF d.2.2))] [0, 1, 2, 3, 4, 5, 6] (by kernel_rfl) (Qf (Gs.cell hok23 (fun e he => (mem_h he)) (Qh ObjL.len (Qd hx) (j := 5) (by decide) rfl)) (Qf (Cell.own (Qa (Qa (Qc (Qa (Qa (Qa (Qa (Qc (Qa (Qc (Qa (Qa Qe)))))))))))) rfl) (Qf (Cell.own (Qa (Qa (Qc (Qa (Qa (Qa (Qa (Qc (Qa (Qc (Qa (Qa Qe)))))))))))) rfl) (Qf (Cell.own (Qa (Qa (Qc (Qa (Qa (Qa (Qa (Qc (Qa (Qc (Qa (Qa Qe)))))))))))) rfl) rd_nil)))) ?_
   refine aS 0 ?_
   refine aS 1 ?_
   refine aS 2 ?_
   refine aF 3 ?_
   refine aL 4 ?_
   refine tr 5 (.agg #[.int .u64 d.1, .int .u64 d.2.1, .int .i64 (normF d.2.2)]) ?_ (hy := fun δ w_ hr => Rd_loads b1 0 [.int .u64 d.1, .int .u64 d.2.1, .int .i64 (normF d.2.2)] rfl (by kernel_rfl) (rdm_cons (List.mem_cons_of_mem _ List.mem_cons_self) (rdm_cons (List.mem_cons_of_mem _ (List.mem_cons_of_mem _ List.mem_cons_self)) (rdm_cons (List.mem_cons_of_mem _ (List.mem_cons_of_mem _ (List.mem_cons_of_mem _ List.mem_cons_self))) rdm_nil))) hr)
   refine sa1 true 6 (h := nws 45 3 1 [.int .u64 d.1, .int .u64 d.2.1, .int .i64 (normF d.2.2)] ?_)
   intro b30
   refine ⟨fun hnd => (Qf (Gs.cell hok23 (fun e he => (Qc (mem_h he))) (Qh ObjL.len (Qd hx) (j := 5) (by decide) rfl)) (Qf (Cell.own (Qc (Qa (Qa (Qc (Qa (Qa (Qa (Qa (Qc (Qa (Qc (Qa (Qa Qe))))))))))))) rfl) (Qf (Cell.own (Qc (Qa (Qa (Qc (Qa (Qa (Qa (Qa (Qc (Qa (Qc (Qa (Qa Qe))))))))))))) rfl) (Qf (Cell.own (Qc (Qa (Qa (Qc (Qa (Qa (Qa (Qa (Qc (Qa (Qc (Qa (Qa Qe))))))))))))) rfl) rd_nil)))), ?_⟩
   refine SA_perm _ (perm_cc (perm_ca (perm_ca (perm_cc perm_cz)))) ?_
   refine sa1 false 7 (h := O_append (size := 3) (bytes := 24) (z := .agg #[.int .u64 0, .int .u64 0, .int .i64 0]) x.vs x.vals.length 1 (some ⟨b30, 0, none⟩) 1 (x.vals.flatMap Qk) ([.int .u64 d.1, .int .u64 d.2.1, .int .i64 (normF d.2.2)]) ((x.vals ++ [(d.1, d.2.1, normF d.2.2)]).flatMap Qk) (flat_snoc _ (d.1, d.2.1, normF d.2.2) rfl) (fun _ => rfl) (fun _ => rfl) Tryz.underlying99 (by kernel_rfl) rfl (by decide) (show Gs.ok 3 (x.vals).length x.vs (x.vals.flatMap Qk) from (HeapV.ok.at (x := (ObjL.chg x)) hH1 (Qd hx)).vs) rfl (.inr ⟨b30, 0, rfl, Cells.own (Qa Qe) rfl⟩) rfl (by omega) (by decide) rfl ?_)
   intro s31 hks31 hfs31
   rw [show x.vals.length + 1 = (x.vals ++ [(d.1, d.2.1, normF d.2.2)]).length from by simp]
   rw [show x.vals.length + 1 = (x.vals ++ [(d.1, d.2.1, normF d.2.2)]).length from by simp] at hks31
   have hls31 : (x.vals ++ [(d.1, d.2.1, normF d.2.2)]).length = x.vals.length + 1 := by simp
   refine ⟨fun hnd => (by cases hnd), ?_⟩
   refine kpA [141, 134, 123, 98, 90, 39, 9, 29, 18, 8, 7, 0, 1, 2, 3] ?_
   refine aS 8 ?_
   refine aF 9 ?_
   have hok25 := Gs.ok.relen (ys := ((H.objs.set n (ObjL.mk x.kind x.proto x.shut x.shape s29 (x.names ++ [key]) s31 (x.vals ++ [(d.1, d.2.1, normF d.2.2)]) x.es x.elems x.is x.inner (if 0 ≤ x.cell then -1 else x.cell))).flatMap ObjL.cells)) hok23 (by simp [flat_len ObjL.len])
   refine SA_perm _ (perm_ca (perm_cc perm_cz)) ?_
   refine sa1 false 10 (h := O_storeG (ys := ((H.objs.set n (ObjL.mk x.kind x.proto x.shut x.shape s29 (x.names ++ [key]) s31 (x.vals ++ [(d.1, d.2.1, normF d.2.2)]) x.es x.elems x.is x.inner (if 0 ≤ x.cell then -1 else x.cell))).flatMap ObjL.cells)) H.s (n * 9 + 5) (Gs.val s31 ((x.vals ++ [(d.1, d.2.1, normF d.2.2)]).length)) [Gs.val s31 ((x.vals ++ [(d.1, d.2.1, normF d.2.2)]).length)] (Gs.ok.ne hok23 (by first | omega | (simp; omega))) (fun _ => rfl) (fun _ => rfl) rfl (by kernel_rfl) rfl (by rw [flat_len ObjL.len]; simp; omega) ((row_lay (j := 5) ObjL.len (ObjL.mk x.kind x.proto x.shut x.shape s29 (x.names ++ [key]) s31 (x.vals ++ [(d.1, d.2.1, normF d.2.2)]) x.es x.elems x.is x.inner (if 0 ≤ x.cell then -1 else x.cell)) (Qd hx) (Nat.le_of_ble_eq_true rfl) rfl).trans (by rw [List.set_set])) rfl ?_)
   refine ⟨fun hnd => (by cases hnd), ?_⟩
   refine SA_done (by kernel_rfl) ?_
   refine body_end' (.tuple #[]) (fun _ => rfl) ?_
   refine ⟨((ObjL.mk x.kind x.proto x.shut x.shape s29 (x.names ++ [key]) s31 (x.vals ++ [(d.1, d.2.1, normF d.2.2)]) x.es x.elems x.is x.inner (if 0 ≤ x.cell then -1 else x.cell)), H.V, cl1, br1), ?_, rfl, ?_, ⟨rfl, rfl, rfl, rfl, rfl, rfl, rfl, rfl⟩, ?_, hchcl1⟩
   · refine Own.trans (ow (S := ((F.p, .cells 75 6 [Gs.val H.s ((H.objs.set n (ObjL.chg x)).length), Gs.val H.ts H.texts.length, .map (some F.kb), pt F.T.p 0, pt F.cp 0, .int .i64 br1]) :: ((Gs.ent 102 9 H.s ((H.objs.set n (ObjL.mk x.kind x.proto x.shut x.shape s29 (x.names ++ [key]) s31 (x.vals ++ [(d.1, d.2.1, normF d.2.2)]) x.es x.elems x.is x.inner (if 0 ≤ x.cell then -1 else x.cell))).flatMap ObjL.cells)) ++ ((Gs.ent 9 1 s29 ((x.names ++ [key]).map encS)) ++ ((Gs.ent 45 3 s31 ((x.vals ++ [(d.1, d.2.1, normF d.2.2)]).flatMap Qk)) ++ ((Gs.ent 33 1 x.es (x.elems.map encU)) ++ ((Gs.ent 33 1 x.is (x.inner.map encU)) ++ (((List.eraseIdx (H.objs.set n (ObjL.chg x)) n).flatMap ObjL.ent) ++ ((Gs.ent 9 1 H.ts (H.texts.map encS)) ++ ((F.kb, .map (kvs encS encU H.known)) :: ((TreeV.ent H.V F.T) ++ ((CellsL.ent (CellsL.mk F.cp H.cs cl1)) ++ ([])))))))))))))) (Own.of_perm ?_)
     simpa only [HeapV.put, List.set_set] using HeapV.back (H := (HeapV.mk H.s (H.objs.set n (ObjL.chg x)) H.ts H.texts H.known H.V H.cs cl1 br1)) F (Qd hx) (ObjL.mk x.kind x.proto x.shut x.shape s29 (x.names ++ [key]) s31 (x.vals ++ [(d.1, d.2.1, normF d.2.2)]) x.es x.elems x.is x.inner (if 0 ≤ x.cell then -1 else x.cell))
   · simpa only [HeapV.put, List.set_set] using HeapV.ok.put hH1 (Qd hx) (x' := (ObjL.mk x.kind x.proto x.shut x.shape s29 (x.names ++ [key]) s31 (x.vals ++ [(d.1, d.2.1, normF d.2.2)]) x.es x.elems x.is x.inner (if 0 ≤ x.cell then -1 else x.cell))) ⟨(by first | exact hks29 | (simp only [List.length_set]; exact hks29)), (by first | exact hks31 | (simp only [List.length_set]; exact hks31)), (by first | exact (show Gs.ok 1 (x.elems).length x.es (x.elems.map encU) from (HeapV.ok.at (x := (ObjL.chg x)) hH1 (Qd hx)).es) | (simp only [List.length_set]; exact (show Gs.ok 1 (x.elems).length x.es (x.elems.map encU) from (HeapV.ok.at (x := (ObjL.chg x)) hH1 (Qd hx)).es))), (by first | exact (show Gs.ok 1 (x.inner).length x.is (x.inner.map encU) from (HeapV.ok.at (x := (ObjL.chg x)) hH1 (Qd hx)).is) | (simp only [List.length_set]; exact (show Gs.ok 1 (x.inner).length x.is (x.inner.map encU) from (HeapV.ok.at (x := (ObjL.chg x)) hH1 (Qd hx)).is)))⟩ (HeapV.ok.small hH1 (ObjL.chg x) (List.mem_of_getElem? (Qd hx)))
   · simp only [putS, ObjL.ps, if_neg (show ¬ 0 ≤ placeO (H.V.abs F.T) x.shape x.names key from by omega), putNew, putFast, if_neg (show ¬ 16 ≤ x.vals.length from by omega), if_neg (show ¬ 0 ≤ x.shape from by omega), putName, if_pos (show x.shape < 0 from by omega)]
  refine Ql (Qj ?_)
  refine SW_perm _ (perm_cc (perm_ca perm_cz)) ?_
  refine SW_perm ((Gs.ent 9 1 x.ns (x.names.map encS)) ++ ((Gs.ent 45 3 x.vs (x.vals.flatMap Qk)) ++ ((Gs.ent 33 1 x.es (x.elems.map encU)) ++ ((Gs.ent 33 1 x.is (x.inner.map encU)) ++ (((List.eraseIdx (H.objs.set n (ObjL.chg x)) n).flatMap ObjL.ent) ++ ((F.p, .cells 75 6 [Gs.val H.s ((H.objs.set n (ObjL.chg x)).length), Gs.val H.ts H.texts.length, .map (some F.kb), pt F.T.p 0, pt F.cp 0, .int .i64 br1]) :: ((Gs.ent 102 9 H.s ((H.objs.set n (ObjL.chg x)).flatMap ObjL.cells)) ++ ((Gs.ent 9 1 H.ts (H.texts.map encS)) ++ ((F.kb, .map (kvs encS encU H.known)) :: ((TreeV.ent H.V F.T) ++ ((CellsL.ent (CellsL.mk F.cp H.cs cl1)) ++ ((b1, .cells 45 3 [.int .u64 d.1, .int .u64 d.2.1, .int .i64 (normF d.2.2)]) :: ([]))))))))))))) (obj_focus (Qd hx) _) ?_
  refine SW_draw [((Gs.blk H.s), n * 9 + 5, Gs.val x.vs x.vals.length), (b1, 0, .int .u64 d.1), (b1, 1, .int .u64 d.2.1), (b1, 2, .int .i64 (normF d.2.2))] [0, 1, 2, 3, 4, 5, 6] (by kernel_rfl) (Qf (Gs.cell hH1.row (fun e he => (Qa (Qa (Qa (Qa (Qa (Qc (mem_h he)))))))) (Qh ObjL.len (Qd hx) (j := 5) (by decide) rfl)) (Qf (Cell.own (Qa (Qa (Qa (Qa (Qa (Qc (Qa (Qa (Qc (Qa (Qa Qe))))))))))) rfl) (Qf (Cell.own (Qa (Qa (Qa (Qa (Qa (Qc (Qa (Qa (Qc (Qa (Qa Qe))))))))))) rfl) (Qf (Cell.own (Qa (Qa (Qa (Qa (Qa (Qc (Qa (Qa (Qc (Qa (Qa Qe))))))))))) rfl) rd_nil)))) ?_
  refine aS 0 ?_
  refine aS 1 ?_
  refine aS 2 ?_
  refine aF 3 ?_
  refine aL 4 ?_
  refine tr 5 (.agg #[.int .u64 d.1, .int .u64 d.2.1, .int .i64 (normF d.2.2)]) ?_ (hy := fun δ w_ hr => Rd_loads b1 0 [.int .u64 d.1, .int .u64 d.2.1, .int .i64 (normF d.2.2)] rfl (by kernel_rfl) (rdm_cons (List.mem_cons_of_mem _ List.mem_cons_self) (rdm_cons (List.mem_cons_of_mem _ (List.mem_cons_of_mem _ List.mem_cons_self)) (rdm_cons (List.mem_cons_of_mem _ (List.mem_cons_of_mem _ (List.mem_cons_of_mem _ List.mem_cons_self))) rdm_nil))) hr)
  refine sa1 true 6 (h := nws 45 3 1 [.int .u64 d.1, .int .u64 d.2.1, .int .i64 (normF d.2.2)] ?_)
  intro b32
  refine ⟨fun hnd => (Qf (Gs.cell hH1.row (fun e he => (Qc (Qa (Qa (Qa (Qa (Qa (Qc (mem_h he))))))))) (Qh ObjL.len (Qd hx) (j := 5) (by decide) rfl)) (Qf (Cell.own (Qc (Qa (Qa (Qa (Qa (Qa (Qc (Qa (Qa (Qc (Qa (Qa Qe)))))))))))) rfl) (Qf (Cell.own (Qc (Qa (Qa (Qa (Qa (Qa (Qc (Qa (Qa (Qc (Qa (Qa Qe)))))))))))) rfl) (Qf (Cell.own (Qc (Qa (Qa (Qa (Qa (Qa (Qc (Qa (Qa (Qc (Qa (Qa Qe)))))))))))) rfl) rd_nil)))), ?_⟩
  refine SA_perm _ (perm_cc (perm_ca perm_cz)) ?_
  refine sa1 false 7 (h := O_append (size := 3) (bytes := 24) (z := .agg #[.int .u64 0, .int .u64 0, .int .i64 0]) x.vs x.vals.length 1 (some ⟨b32, 0, none⟩) 1 (x.vals.flatMap Qk) ([.int .u64 d.1, .int .u64 d.2.1, .int .i64 (normF d.2.2)]) ((x.vals ++ [(d.1, d.2.1, normF d.2.2)]).flatMap Qk) (flat_snoc _ (d.1, d.2.1, normF d.2.2) rfl) (fun _ => rfl) (fun _ => rfl) Tryz.underlying99 (by kernel_rfl) rfl (by decide) (show Gs.ok 3 (x.vals).length x.vs (x.vals.flatMap Qk) from (HeapV.ok.at (x := (ObjL.chg x)) hH1 (Qd hx)).vs) rfl (.inr ⟨b32, 0, rfl, Cells.own (Qa Qe) rfl⟩) rfl (by omega) (by decide) rfl ?_)
  intro s33 hks33 hfs33
  rw [show x.vals.length + 1 = (x.vals ++ [(d.1, d.2.1, normF d.2.2)]).length from by simp]
  rw [show x.vals.length + 1 = (x.vals ++ [(d.1, d.2.1, normF d.2.2)]).length from by simp] at hks33
  have hls33 : (x.vals ++ [(d.1, d.2.1, normF d.2.2)]).length = x.vals.length + 1 := by simp
  refine ⟨fun hnd => (by cases hnd), ?_⟩
  refine aS 8 ?_
  refine aF 9 ?_
  refine kpA [143, 141, 123, 98, 90, 39, 9, 29, 18, 8, 7, 0, 1, 2, 3] ?_
  have hok27 := Gs.ok.relen (ys := ((H.objs.set n (ObjL.mk x.kind x.proto x.shut x.shape x.ns x.names s33 (x.vals ++ [(d.1, d.2.1, normF d.2.2)]) x.es x.elems x.is x.inner (if 0 ≤ x.cell then -1 else x.cell))).flatMap ObjL.cells)) hH1.row (by simp [flat_len ObjL.len])
  refine SA_perm _ (perm_ca (perm_cc (perm_ca (perm_ca (perm_ca (perm_ca (perm_cc perm_cz))))))) ?_
  refine sa1 false 10 (h := O_storeG (ys := ((H.objs.set n (ObjL.mk x.kind x.proto x.shut x.shape x.ns x.names s33 (x.vals ++ [(d.1, d.2.1, normF d.2.2)]) x.es x.elems x.is x.inner (if 0 ≤ x.cell then -1 else x.cell))).flatMap ObjL.cells)) H.s (n * 9 + 5) (Gs.val s33 ((x.vals ++ [(d.1, d.2.1, normF d.2.2)]).length)) [Gs.val s33 ((x.vals ++ [(d.1, d.2.1, normF d.2.2)]).length)] (Gs.ok.ne hH1.row (by first | omega | (simp; omega))) (fun _ => rfl) (fun _ => rfl) rfl (by kernel_rfl) rfl (by rw [flat_len ObjL.len]; simp; omega) ((row_lay (j := 5) ObjL.len (ObjL.mk x.kind x.proto x.shut x.shape x.ns x.names s33 (x.vals ++ [(d.1, d.2.1, normF d.2.2)]) x.es x.elems x.is x.inner (if 0 ≤ x.cell then -1 else x.cell)) (Qd hx) (Nat.le_of_ble_eq_true rfl) rfl).trans (by rw [List.set_set])) rfl ?_)
  refine ⟨fun hnd => (by cases hnd), ?_⟩
  refine SA_done (by kernel_rfl) ?_
  refine body_end' (.tuple #[]) (fun _ => rfl) ?_
  refine ⟨((ObjL.mk x.kind x.proto x.shut x.shape x.ns x.names s33 (x.vals ++ [(d.1, d.2.1, normF d.2.2)]) x.es x.elems x.is x.inner (if 0 ≤ x.cell then -1 else x.cell)), H.V, cl1, br1), ?_, rfl, ?_, ⟨rfl, rfl, rfl, rfl, rfl, rfl, rfl, rfl⟩, ?_, hchcl1⟩
  · refine Own.trans (ow (S := ((F.p, .cells 75 6 [Gs.val H.s ((H.objs.set n (ObjL.chg x)).length), Gs.val H.ts H.texts.length, .map (some F.kb), pt F.T.p 0, pt F.cp 0, .int .i64 br1]) :: ((Gs.ent 102 9 H.s ((H.objs.set n (ObjL.mk x.kind x.proto x.shut x.shape x.ns x.names s33 (x.vals ++ [(d.1, d.2.1, normF d.2.2)]) x.es x.elems x.is x.inner (if 0 ≤ x.cell then -1 else x.cell))).flatMap ObjL.cells)) ++ ((Gs.ent 9 1 x.ns (x.names.map encS)) ++ ((Gs.ent 45 3 s33 ((x.vals ++ [(d.1, d.2.1, normF d.2.2)]).flatMap Qk)) ++ ((Gs.ent 33 1 x.es (x.elems.map encU)) ++ ((Gs.ent 33 1 x.is (x.inner.map encU)) ++ (((List.eraseIdx (H.objs.set n (ObjL.chg x)) n).flatMap ObjL.ent) ++ ((Gs.ent 9 1 H.ts (H.texts.map encS)) ++ ((F.kb, .map (kvs encS encU H.known)) :: ((TreeV.ent H.V F.T) ++ ((CellsL.ent (CellsL.mk F.cp H.cs cl1)) ++ ([])))))))))))))) (Own.of_perm ?_)
    simpa only [HeapV.put, List.set_set] using HeapV.back (H := (HeapV.mk H.s (H.objs.set n (ObjL.chg x)) H.ts H.texts H.known H.V H.cs cl1 br1)) F (Qd hx) (ObjL.mk x.kind x.proto x.shut x.shape x.ns x.names s33 (x.vals ++ [(d.1, d.2.1, normF d.2.2)]) x.es x.elems x.is x.inner (if 0 ≤ x.cell then -1 else x.cell))
  · simpa only [HeapV.put, List.set_set] using HeapV.ok.put hH1 (Qd hx) (x' := (ObjL.mk x.kind x.proto x.shut x.shape x.ns x.names s33 (x.vals ++ [(d.1, d.2.1, normF d.2.2)]) x.es x.elems x.is x.inner (if 0 ≤ x.cell then -1 else x.cell))) ⟨(by first | exact (show Gs.ok 1 (x.names).length x.ns (x.names.map encS) from (HeapV.ok.at (x := (ObjL.chg x)) hH1 (Qd hx)).ns) | (simp only [List.length_set]; exact (show Gs.ok 1 (x.names).length x.ns (x.names.map encS) from (HeapV.ok.at (x := (ObjL.chg x)) hH1 (Qd hx)).ns))), (by first | exact hks33 | (simp only [List.length_set]; exact hks33)), (by first | exact (show Gs.ok 1 (x.elems).length x.es (x.elems.map encU) from (HeapV.ok.at (x := (ObjL.chg x)) hH1 (Qd hx)).es) | (simp only [List.length_set]; exact (show Gs.ok 1 (x.elems).length x.es (x.elems.map encU) from (HeapV.ok.at (x := (ObjL.chg x)) hH1 (Qd hx)).es))), (by first | exact (show Gs.ok 1 (x.inner).length x.is (x.inner.map encU) from (HeapV.ok.at (x := (ObjL.chg x)) hH1 (Qd hx)).is) | (simp only [List.length_set]; exact (show Gs.ok 1 (x.inner).length x.is (x.inner.map encU) from (HeapV.ok.at (x := (ObjL.chg x)) hH1 (Qd hx)).is)))⟩ (HeapV.ok.small hH1 (ObjL.chg x) (List.mem_of_getElem? (Qd hx)))
  · simp only [putS, ObjL.ps, if_neg (show ¬ 0 ≤ placeO (H.V.abs F.T) x.shape x.names key from by omega), putNew, putFast, if_neg (show ¬ 16 ≤ x.vals.length from by omega), if_neg (show ¬ 0 ≤ x.shape from by omega), putName, if_neg (show ¬ x.shape < 0 from by omega)]

end Go.Proofs.YthflblophelioaaGreatDoor
namespace Go.Proofs.YthflblophelioaaGreatDoor
open Go.Sl
abbrev keyA : ByteArray := ⟨#[97]⟩
abbrev nullW : Int := 18445336698825998337
abbrev rkA : Int := rootKey nullW 0
abbrev dA : DescP := (18444773748872577031, 0, 7)
abbrev tA0 : TreeP := ⟨5, [], []⟩
abbrev tA1 : TreeP := ⟨5, [⟨rkA, [], []⟩], [(rkA, 0)]⟩
abbrev tA2 : TreeP := ⟨5, [⟨rkA, [], [((false, keyA, 7), 1)]⟩, ⟨rkA, [(keyA, 7)], []⟩], [(rkA, 0)]⟩
structure A0 (H : HeapV) (F : HeapF) : Prop where
  inv : HInv 0 H F
  objs : H.objs = []
  tree : H.V.abs F.T = tA0
structure A1 (H : HeapV) (F : HeapF) : Prop where
  inv : HInv 0 H F
  objs : H.objs = [newObj 0 nullW 0]
  tree : H.V.abs F.T = tA1
structure A2 (H : HeapV) (F : HeapF) : Prop where
  ok : H.ok F
  len : H.objs.length = 1
  obj : ∃ x, H.objs[0]? = some x ∧ x.ps = ⟨1, [], [dA]⟩ ∧ OInv (H.V.abs F.T) x
  tree : H.V.abs F.T = tA2
variable {H : HeapV} {F : HeapF} {W0 : World}
def refInt (n : Int) : Int := IntKind.wrap .u64 (18444773748872577024 + IntKind.wrap .u64 (IntKind.wrap .u32 n))
end Go.Proofs.YthflblophelioaaGreatDoor
namespace Go.Proofs.YthflblophelioaaGreatDoor
open Go.Sl

theorem rf_Int {W0 : World} {n : Int} : SC Tryz.prog W0 32 #[.int .i32 n] [] (Ret (fun _ : Unit => []) (fun v _ => v = .int .u64 (refInt n))) := by
 refine SC_body (fn := Tryz.f32) (n := 7) Tryz.func32 rfl (by kernel_rfl) (ρ := [(0, .int .i32 n)]) rfl ?_
 refine sr ?_
 refine os 1 ?_
 refine nsr ?_
 refine os 1 ?_
 refine oV (.int .u32 (IntKind.wrap .u32 (n))) ?_
 refine oV (.int .u64 (IntKind.wrap .u64 (IntKind.wrap .u32 (n)))) ?_
 refine oV (.int .u64 (IntKind.wrap .u64 (18444773748872577024 + (IntKind.wrap .u64 (IntKind.wrap .u32 (n)))))) ?_
 refine os 1 ?_
 refine kp [2, 0] ?_
 refine nt ?_
 refine Qi ?_
 refine Qg (.int .u64 (IntKind.wrap .u64 (18444773748872577024 + (IntKind.wrap .u64 (IntKind.wrap .u32 (n)))))) (fun _ => rfl) ?_
 exact ⟨(), Own.of_perm (List.Perm.refl _), rfl⟩

theorem fl_Floor {W0 : World} (b : Nat) : SC Tryz.prog W0 135 #[.float .f64 b] [] (Ret (fun _ : Nat => []) (fun v m => v = .float .f64 m)) := by
 refine SC_body (fn := Tryz.f135) (n := 7) Tryz.func135 rfl (by kernel_rfl) (ρ := [(0, .float .f64 b)]) rfl ?_
 refine sr ?_
 refine os 1 ?_
 refine nq ?_
 refine ct ?_
 refine sr ?_
 refine os 1 ?_
 refine L (O_floor (nm := "math.archFloor") (way := .down) b 147 rfl Tryz.func147 (by kernel_rfl) (by kernel_rfl) (by kernel_rfl) (by kernel_rfl) (fun δ w => by kernel_rfl) ?_)
 intro fl1
 refine os 1 ?_
 refine nt ?_
 refine Qi (Qm ?_)
 refine Qg (.float .f64 fl1) (fun _ => rfl) ?_
 exact ⟨fl1, ⟨_, List.Perm.refl _⟩, rfl⟩

theorem fl_Signbit {W0 : World} (b : Nat) : SC Tryz.prog W0 136 #[.float .f64 b] [] (Ret (fun _ : Bool => []) (fun v m => v = .bool m)) := by
 refine SC_body (fn := Tryz.f136) (n := 7) Tryz.func136 rfl (by kernel_rfl) (ρ := [(0, .float .f64 b)]) rfl ?_
 refine sr ?_
 refine os 1 ?_
 refine nsr ?_
 refine os 1 ?_
 refine L (O_val (.int .u64 (b : Int)) rfl (fun δ w _ => by kernel_rfl) ?_)
 refine oV (.int .i64 (IntKind.wrap .i64 ((b : Int)))) ?_
 refine os 2 ?_
 refine kp [2, 0] ?_
 refine nt ?_
 refine Qi ?_
 refine Qg (.bool (decide ((IntKind.wrap .i64 ((b : Int))) < 0))) (fun _ => rfl) ?_
 exact ⟨decide ((IntKind.wrap .i64 ((b : Int))) < 0), ⟨_, List.Perm.refl _⟩, rfl⟩

theorem ref_Float {W0 : World} (b : Nat) : SC Tryz.prog W0 123 #[.float .f64 b] [] (Ret (fun _ : Int => []) (fun v m => v = .int .u64 m)) := by
 refine SC_body (fn := Tryz.f123) (n := 32) Tryz.func123 rfl (by kernel_rfl) (ρ := [(0, .float .f64 b)]) rfl ?_
 refine sr ?_
 refine os 1 ?_
 refine nq ?_
 refine sr ?_
 refine os 2 ?_
 refine oV (.bool ((FloatKind.f64.format.order b b) != some .eq)) ?_
 refine nt ?_
 refine cd (fun hc1 : ((FloatKind.f64.format.order b b) != some .eq) = true => ?_) (fun hc1 => ?_)
 ·refine sr ?_
  refine os 1 ?_
  refine nt ?_
  refine Qi (Qm ?_)
  refine Qg (.int .u64 9221120237041090560) (fun _ => rfl) ?_
  exact ⟨9221120237041090560, ⟨_, List.Perm.refl _⟩, rfl⟩
 refine Ql (Qj ?_)
 refine SW_seq ?_
 refine sr ?_
 refine os 1 ?_
 refine oV (.bool ((FloatKind.f64.format.order b 13970166044103278592) == some .gt || (FloatKind.f64.format.order b 13970166044103278592) == some .eq)) ?_
 refine os 1 ?_
 refine tb 8 (fun hg2 => ?_) (fun hg2 => ?_)
 ·replace hg2 : ((FloatKind.f64.format.order b 13970166044103278592) == some .gt || (FloatKind.f64.format.order b 13970166044103278592) == some .eq) = true := hg2
  refine os 1 ?_
  refine oV (.bool ((FloatKind.f64.format.order b 4746794007244308480) == some .lt || (FloatKind.f64.format.order b 4746794007244308480) == some .eq)) ?_
  refine os 2 ?_
  refine kp [12, 5, 2, 0] ?_
  refine tb 12 (fun hg3 => ?_) (fun hg3 => ?_)
  ·replace hg3 : ((FloatKind.f64.format.order b 4746794007244308480) == some .lt || (FloatKind.f64.format.order b 4746794007244308480) == some .eq) = true := hg3
   refine os 2 ?_
   refine L (cl (fl_Floor b) ?_)
   rintro _ fm1 rfl
   refine un ?_
   refine oV (.bool ((FloatKind.f64.format.order b fm1) == some .eq)) ?_
   refine os 2 ?_
   refine kp [18, 5, 2, 0] ?_
   refine tb 18 (fun hg4 => ?_) (fun hg4 => ?_)
   ·replace hg4 : ((FloatKind.f64.format.order b fm1) == some .eq) = true := hg4
    refine os 1 ?_
    refine oV (.bool ((FloatKind.f64.format.order b 0) != some .eq)) ?_
    refine os 1 ?_
    refine tb 21 (fun hg5 => ?_) (fun hg5 => ?_)
    ·replace hg5 : ((FloatKind.f64.format.order b 0) != some .eq) = true := hg5
     refine os 5 ?_
     refine kp [26, 5, 2, 0] ?_
     refine nt ?_
     refine ct ?_
     refine sr ?_
     refine os 1 ?_
     refine L (O_f2i b (fun _ => rfl) (by kernel_rfl) Tryz.underlying21 (by decide) ?_)
     intro cv1
     refine L (cl (rf_Int (n := cv1)) ?_)
     rintro _ _ rfl
     refine un ?_
     refine os 1 ?_
     refine kp [2, 26, 5, 0] ?_
     refine nt ?_
     refine Qi (Qm ?_)
     refine Qg (.int .u64 (refInt cv1)) (fun _ => rfl) ?_
     exact ⟨refInt cv1, ⟨_, List.Perm.refl _⟩, rfl⟩
    replace hg5 : ((FloatKind.f64.format.order b 0) != some .eq) = false := hg5
    refine os 1 ?_
    refine L (cl (fl_Signbit b) ?_)
    rintro _ sm1 rfl
    refine un ?_
    refine os 3 ?_
    refine kp [26, 5, 2, 0] ?_
    refine nt ?_
    refine cd (fun hc6 : (!sm1) = true => ?_) (fun hc6 => ?_)
    ·replace hc6 := bnot_t hc6
     refine sr ?_
     refine os 1 ?_
     refine L (O_f2i b (fun _ => rfl) (by kernel_rfl) Tryz.underlying21 (by decide) ?_)
     intro cv1
     refine L (cl (rf_Int (n := cv1)) ?_)
     rintro _ _ rfl
     refine un ?_
     refine os 1 ?_
     refine kp [2, 26, 5, 0] ?_
     refine nt ?_
     refine Qi (Qm ?_)
     refine Qg (.int .u64 (refInt cv1)) (fun _ => rfl) ?_
     exact ⟨refInt cv1, ⟨_, List.Perm.refl _⟩, rfl⟩
    replace hc6 := bnot_f hc6
    refine Ql (Qj ?_)
    refine sr ?_
    refine os 1 ?_
    refine L (O_val (.int .u64 (b : Int)) rfl (fun δ w _ => by kernel_rfl) ?_)
    refine os 1 ?_
    refine nt ?_
    refine Qi ?_
    refine Qg (.int .u64 (b : Int)) (fun _ => rfl) ?_
    exact ⟨(b : Int), ⟨_, List.Perm.refl _⟩, rfl⟩
   replace hg4 : ((FloatKind.f64.format.order b fm1) == some .eq) = false := hg4
   refine os 8 ?_
   refine kp [26, 5, 2, 0] ?_
   refine nt ?_
   refine cf ?_
   refine Ql (Qj ?_)
   refine sr ?_
   refine os 1 ?_
   refine L (O_val (.int .u64 (b : Int)) rfl (fun δ w _ => by kernel_rfl) ?_)
   refine os 1 ?_
   refine nt ?_
   refine Qi ?_
   refine Qg (.int .u64 (b : Int)) (fun _ => rfl) ?_
   exact ⟨(b : Int), ⟨_, List.Perm.refl _⟩, rfl⟩
  replace hg3 : ((FloatKind.f64.format.order b 4746794007244308480) == some .lt || (FloatKind.f64.format.order b 4746794007244308480) == some .eq) = false := hg3
  refine os 14 ?_
  refine kp [26, 5, 2, 0] ?_
  refine nt ?_
  refine cf ?_
  refine Ql (Qj ?_)
  refine sr ?_
  refine os 1 ?_
  refine L (O_val (.int .u64 (b : Int)) rfl (fun δ w _ => by kernel_rfl) ?_)
  refine os 1 ?_
  refine nt ?_
  refine Qi ?_
  refine Qg (.int .u64 (b : Int)) (fun _ => rfl) ?_
  exact ⟨(b : Int), ⟨_, List.Perm.refl _⟩, rfl⟩
 replace hg2 : ((FloatKind.f64.format.order b 13970166044103278592) == some .gt || (FloatKind.f64.format.order b 13970166044103278592) == some .eq) = false := hg2
 refine os 18 ?_
 refine kp [26, 5, 2, 0] ?_
 refine nt ?_
 refine cf ?_
 refine Ql (Qj ?_)
 refine sr ?_
 refine os 1 ?_
 refine L (O_val (.int .u64 (b : Int)) rfl (fun δ w _ => by kernel_rfl) ?_)
 refine os 1 ?_
 refine nt ?_
 refine Qi ?_
 refine Qg (.int .u64 (b : Int)) (fun _ => rfl) ?_
 exact ⟨(b : Int), ⟨_, List.Perm.refl _⟩, rfl⟩

theorem ref_Number {W0 : World} (w : Int) : SC Tryz.prog W0 109 #[.int .u64 w] [] (Ret (fun _ : Int => []) (fun v m => v = .int .u64 m)) := by
 refine SC_body (fn := Tryz.f109) (n := 6) Tryz.func109 rfl (by kernel_rfl) (ρ := [(0, .int .u64 w)]) rfl ?_
 refine sr ?_
 refine os 1 ?_
 refine nsr ?_
 refine os 1 ?_
 refine L (O_val (.float .f64 ((w).toNat)) rfl (fun δ w _ => by kernel_rfl) ?_)
 refine L (cl (ref_Float ((w).toNat)) ?_)
 rintro _ fw1 rfl
 refine un ?_
 refine os 1 ?_
 refine kp [2, 0] ?_
 refine nt ?_
 refine Qi ?_
 refine Qg (.int .u64 fw1) (fun _ => rfl) ?_
 exact ⟨fw1, ⟨_, List.Perm.refl _⟩, rfl⟩

end Go.Proofs.YthflblophelioaaGreatDoor
namespace Go.Proofs.YthflblophelioaaGreatDoor
open Go.Sl
structure RObj where
  kind : Int
  proto : Int
  shut : Bool
  ns : Gs
  names : List ByteArray
  ds : Gs
  descs : List DescP
  es : Gs
  elems : List Int
  is : Gs
  inner : List Int
def RObj.cells (x : RObj) : List Value := [.int .i64 x.kind, .int .u64 x.proto, .bool x.shut, x.ns.val x.names.length, x.ds.val x.descs.length, x.es.val x.elems.length, x.is.val x.inner.length]
theorem RObj.len (x : RObj) : x.cells.length = 7 := rfl
abbrev RObj.nsE (x : RObj) : Qp := x.ns.ent 9 1 (x.names.map encS)
abbrev RObj.dsE (x : RObj) : Qp := x.ds.ent 45 3 (x.descs.flatMap Qk)
abbrev RObj.esE (x : RObj) : Qp := x.es.ent 33 1 (x.elems.map encU)
abbrev RObj.isE (x : RObj) : Qp := x.is.ent 33 1 (x.inner.map encU)
def RObj.ent (x : RObj) : Qp := x.nsE ++ (x.dsE ++ (x.esE ++ x.isE))
structure RObj.ok (x : RObj) : Prop where
  ns : x.ns.ok 1 x.names.length (x.names.map encS)
  ds : x.ds.ok 3 x.descs.length (x.descs.flatMap Qk)
  es : x.es.ok 1 x.elems.length (x.elems.map encU)
  is : x.is.ok 1 x.inner.length (x.inner.map encU)
def RObj.pub (x : RObj) : ObjS := ⟨x.kind, x.proto, x.shut, x.names, x.descs, x.elems, x.inner⟩
structure RSt where
  s : Gs
  objs : List RObj
  ts : Gs
  texts : List ByteArray
abbrev RSt.val (R : RSt) : Value := .agg #[R.s.val R.objs.length, R.ts.val R.texts.length]
def RSt.ent (R : RSt) : Qp := R.s.ent 104 7 (R.objs.flatMap RObj.cells) ++ (R.objs.flatMap RObj.ent ++ (R.ts.ent 9 1 (R.texts.map encS) ++ []))
structure RSt.ok (R : RSt) : Prop where
  row : R.s.ok 7 R.objs.length (R.objs.flatMap RObj.cells)
  each : ∀ x ∈ R.objs, x.ok
  ts : R.ts.ok 1 R.texts.length (R.texts.map encS)
def RSt.pub (R : RSt) : List ObjS := R.objs.map RObj.pub
variable {R : RSt} {n : Nat} {x : RObj}
theorem RSt.ok.at (h : R.ok) (hx : R.objs[n]? = some x) : x.ok := h.each x (List.mem_of_getElem? hx)
theorem RObj.mns {l : List RObj} (hx : l[n]? = some x) : ∀ e ∈ x.nsE, e ∈ l.flatMap RObj.ent := fun e he => List.mem_flatMap.2 ⟨x, List.mem_of_getElem? hx, mem_h he⟩
theorem RObj.mds {l : List RObj} (hx : l[n]? = some x) : ∀ e ∈ x.dsE, e ∈ l.flatMap RObj.ent := fun e he => List.mem_flatMap.2 ⟨x, List.mem_of_getElem? hx, Qa (mem_h he)⟩
theorem RObj.mes {l : List RObj} (hx : l[n]? = some x) : ∀ e ∈ x.esE, e ∈ l.flatMap RObj.ent := fun e he => List.mem_flatMap.2 ⟨x, List.mem_of_getElem? hx, Qa (Qa (mem_h he))⟩
theorem robj_focus {l : List RObj} (hx : l[n]? = some x) (τ : Qp) : (l.flatMap RObj.ent ++ τ).Perm (x.nsE ++ (x.dsE ++ (x.esE ++ (x.isE ++ ((l.eraseIdx n).flatMap RObj.ent ++ τ))))) := by
 have h := (flat_focus (f := RObj.ent) hx).append_right τ
 simpa only [RObj.ent, List.append_assoc] using h
theorem robj_unfocus {l : List RObj} (hx : l[n]? = some x) (x' : RObj) (τ : Qp) : (x'.nsE ++ (x'.dsE ++ (x'.esE ++ (x'.isE ++ ((l.eraseIdx n).flatMap RObj.ent ++ τ))))).Perm ((l.set n x').flatMap RObj.ent ++ τ) := by
 have h := (flat_unfocus (f := RObj.ent) x' hx).append_right τ
 simpa only [RObj.ent, List.append_assoc] using h
abbrev RSt.put (R : RSt) (n : Nat) (x : RObj) : RSt := ⟨R.s, R.objs.set n x, R.ts, R.texts⟩
theorem RSt.ok.put (h : R.ok) (hx : R.objs[n]? = some x) {x' : RObj} (ho : x'.ok) : (R.put n x').ok := by
 refine ⟨?_, fun y hy => ?_, h.ts⟩
 · simp only [List.length_set]
   exact Gs.ok.relen h.row (by simp [flat_len RObj.len])
 · rcases List.mem_or_eq_of_mem_set hy with h1 | rfl
   · exact h.each y h1
   · exact ho
theorem RSt.back (hx : R.objs[n]? = some x) (x' : RObj) : (R.s.ent 104 7 ((R.objs.set n x').flatMap RObj.cells) ++ (x'.nsE ++ (x'.dsE ++ (x'.esE ++ (x'.isE ++ ((R.objs.eraseIdx n).flatMap RObj.ent ++
   (R.ts.ent 9 1 (R.texts.map encS) ++ []))))))).Perm ((R.put n x').ent) := by
 simp only [RSt.ent]
 exact (robj_unfocus hx x' _).append_left _
theorem RSt.pub_put (R : RSt) (n : Nat) (x' : RObj) : (R.put n x').pub = R.pub.set n x'.pub := by simp [RSt.pub, List.map_set]
theorem RSt.pub_len (R : RSt) : R.pub.length = R.objs.length := by simp [RSt.pub]
theorem RSt.pub_at (hx : R.objs[n]? = some x) : R.pub[n]? = some x.pub := by simp [RSt.pub, hx]
theorem robj_of {o : ObjS} (ho : R.pub[n]? = some o) : ∃ x, R.objs[n]? = some x ∧ x.pub = o := by
 simp only [RSt.pub, List.getElem?_map, Option.map_eq_some_iff] at ho
 exact ho
theorem RSt.m1 (R : RSt) : ∀ e ∈ R.s.ent 104 7 (R.objs.flatMap RObj.cells), e ∈ R.ent := fun e he => mem_h he
def atI (l : Nat) (w : Int) : Int := match objAt w l with | some n => (n : Int) | none => -1
def tagP (w : Int) : Int × Int := if w / 281474976710656 < 65529 ∨ w / 281474976710656 > 65532 then (0, 0) else (w / 281474976710656, w % 4294967296)
def tagV (w tag : Int) : Value := match tagOf w tag with | some n => .tuple #[.int .u32 (n : Int), .bool true] | none => .tuple #[.int .u32 0, .bool false]
abbrev wordOk (w : Int) : Prop := 0 ≤ w ∧ w < 18446744073709551616
theorem RSt.eq {R : RSt} {τ : Qp} : R.ent ++ τ = R.s.ent 104 7 (R.objs.flatMap RObj.cells) ++ (R.objs.flatMap RObj.ent ++ (R.ts.ent 9 1 (R.texts.map encS) ++ τ)) := by
 simp only [RSt.ent, List.append_assoc, List.nil_append]
theorem RSt.eq0 {R : RSt} : R.ent = R.s.ent 104 7 (R.objs.flatMap RObj.cells) ++ (R.objs.flatMap RObj.ent ++ (R.ts.ent 9 1 (R.texts.map encS) ++ [])) := rfl
theorem RSt.pm {R : RSt} {σ τ : Qp} (h : σ.Perm (R.s.ent 104 7 (R.objs.flatMap RObj.cells) ++ (R.objs.flatMap RObj.ent ++ (R.ts.ent 9 1 (R.texts.map encS) ++ τ))) := by exact fn2) : σ.Perm (R.ent ++ τ) := by rw [RSt.eq]; exact h
theorem RSt.own {R : RSt} {σ J : Qp} (h : σ.Perm (R.s.ent 104 7 (R.objs.flatMap RObj.cells) ++ (R.objs.flatMap RObj.ent ++ (R.ts.ent 9 1 (R.texts.map encS) ++ J))) := by exact fn2) : Own σ R.ent := ⟨J, RSt.pm h⟩
end Go.Proofs.YthflblophelioaaGreatDoor
