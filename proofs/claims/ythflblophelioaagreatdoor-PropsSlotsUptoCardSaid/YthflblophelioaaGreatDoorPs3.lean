/-
  What functions of heap and word do to the memory they own, step by step: each theorem is one function's contract. Conditions: those that each theorem names.
-/
import Derived.Test.YthflblophelioaaGreatDoorPs2
set_option linter.unusedVariables false
set_option linter.unusedSimpArgs false
set_option maxRecDepth 100000
set_option maxHeartbeats 4000000
namespace Go.Proofs.YthflblophelioaaGreatDoor
open Go.Sl

theorem heap_step_ok {W0 : World} {F : HeapF} {H : HeapV} (hH : H.ok F) {n : Nat} {x : ObjL} (hx : H.objs[n]? = some x) (m : Int) {ok : Bool} (hok : ok = true) : SC Tryz.prog W0 99 #[.pointer (some ⟨F.p, 0, none⟩), .pointer (some ⟨Gs.blk H.s, n * 9, none⟩), .int .i64 m, .bool ok] (HeapV.ent H F) (Ret (fun _ : Unit => (H.put n (x.withShape m)).ent F) (fun v _ => v = .tuple #[])) := by
 have hnl := (List.getElem?_eq_some_iff.1 hx).1
 refine SC_body (fn := Tryz.f99) (n := 17) Tryz.func99 rfl (by kernel_rfl) (ρ := [(0, pt F.p 0), (1, pt (Gs.blk H.s) (n * 9)), (2, .int .i64 m), (3, .bool ok)]) rfl ?_
 refine SW_sig _ HeapV.eq0 ?_
 refine SW_seq ?_
 refine sr ?_
 refine os 2 ?_
 refine nt ?_
 refine SW_false (fun _ => (congrArg Value.bool (show (!ok) = false from (by simp [hok])))) ?_
 refine Ql (Qj ?_)
 refine Qn ?_
 refine os 4 ?_
 have hok1 := Gs.ok.relen (ys := ((H.objs.set n (ObjL.mk x.kind x.proto x.shut m x.ns x.names x.vs x.vals x.es x.elems x.is x.inner x.cell)).flatMap ObjL.cells)) hH.row (by simp [flat_len ObjL.len])
 refine SL_perm _ (perm_cc perm_cz) ?_
 refine L (O_storeG (ys := ((H.objs.set n (ObjL.mk x.kind x.proto x.shut m x.ns x.names x.vs x.vals x.es x.elems x.is x.inner x.cell)).flatMap ObjL.cells)) H.s (n * 9 + 3) (.int .i64 m) [.int .i64 m] (Gs.ok.ne hH.row (by first | omega | (simp; omega))) (fun _ => rfl) (fun _ => rfl) rfl (by kernel_rfl) rfl (by rw [flat_len ObjL.len]; simp; omega) (row_lay (j := 3) ObjL.len (ObjL.mk x.kind x.proto x.shut m x.ns x.names x.vs x.vals x.es x.elems x.is x.inner x.cell) hx (Nat.le_of_ble_eq_true rfl) rfl) rfl ?_)
 refine SL_nil ?_
 refine body_end' (.tuple #[]) (fun _ => rfl) ?_
 refine ⟨(), ?_, rfl⟩
 refine Own.trans (ow (S := ((F.p, .cells 75 6 [Gs.val H.s H.objs.length, Gs.val H.ts H.texts.length, .map (some F.kb), pt F.T.p 0, pt F.cp 0, .int .i64 H.br]) :: ((Gs.ent 102 9 H.s ((H.objs.set n (ObjL.mk x.kind x.proto x.shut m x.ns x.names x.vs x.vals x.es x.elems x.is x.inner x.cell)).flatMap ObjL.cells)) ++ ((H.objs.flatMap ObjL.ent) ++ ((Gs.ent 9 1 H.ts (H.texts.map encS)) ++ ((F.kb, .map (kvs encS encU H.known)) :: ((TreeV.ent H.V F.T) ++ ((CellsL.ent (CellsL.mk F.cp H.cs H.cl)) ++ ([])))))))))) ?_
 exact Own.of_perm (List.Perm.of_eq (by simp only [HeapV.ent, HeapV.head, HeapV.row, List.length_set, flat_same (f := ObjL.ent) (x' := x.withShape m) hx rfl]))

theorem heap_step_no {W0 : World} {F : HeapF} {H : HeapV} (hH : H.ok F) {n : Nat} {x : ObjL} (hx : H.objs[n]? = some x) (m : Int) {ok : Bool} (hok : ok = false) (hs : 0 ≤ x.shape) : SC Tryz.prog W0 99 #[.pointer (some ⟨F.p, 0, none⟩), .pointer (some ⟨Gs.blk H.s, n * 9, none⟩), .int .i64 m, .bool ok] (HeapV.ent H F) (Ret (fun g : Gs => (H.put n (x.loosed g (keysP (H.V.abs F.T) x.shape))).ent F) (fun v g => v = .tuple #[] ∧ g.ok 1 (keysP (H.V.abs F.T) x.shape).length ((keysP (H.V.abs F.T) x.shape).map encS))) := by
 have hnl := (List.getElem?_eq_some_iff.1 hx).1
 refine SC_body (fn := Tryz.f99) (n := 17) Tryz.func99 rfl (by kernel_rfl) (ρ := [(0, pt F.p 0), (1, pt (Gs.blk H.s) (n * 9)), (2, .int .i64 m), (3, .bool ok)]) rfl ?_
 refine SW_sig _ HeapV.eq0 ?_
 refine SW_seq ?_
 refine sr ?_
 refine os 2 ?_
 refine nt ?_
 refine SW_true (fun _ => (congrArg Value.bool (show (!ok) = true from (by simp [hok])))) ?_
 refine sr ?_
 refine os 2 ?_
 refine L (cl (heap_loose_yes hH (n := n) hx hs) ?_ (hp := HeapV.pm))
 rintro _ kg1 ⟨rfl, hkg1⟩
 refine SL_sig _ HeapV.eq ?_
 refine nt ?_
 refine Qi (Qm ?_)
 refine Qg (.tuple #[]) (fun _ => rfl) ?_
 exact ⟨kg1, HeapV.own, rfl, hkg1⟩

theorem heap_root {W0 : World} {F : HeapF} {H : HeapV} (hH : H.ok F) (kind proto : Int) : SC Tryz.prog W0 60 #[.pointer (some ⟨F.p, 0, none⟩), .int .i64 kind, .int .u64 proto] (HeapV.ent H F) (Ret (fun V' : TreeV => (H.tree V').ent F) (fun v V' => V'.ok F.T ∧ ∃ m ok, v = .int .i64 (if ok = true then m else -1) ∧ rootP (H.V.abs F.T) (rootKey proto kind) = (V'.abs F.T, m, ok))) := by
 refine SC_body (fn := Tryz.f60) (n := 25) Tryz.func60 rfl (by kernel_rfl) (ρ := [(0, pt F.p 0), (1, .int .i64 kind), (2, .int .u64 proto)]) rfl ?_
 refine SW_sig _ HeapV.eq0 ?_
 refine sr ?_
 refine os 1 ?_
 refine nsr ?_
 refine os 3 ?_
 refine L (ld ?_)
 refine os 1 ?_
 refine oV (.int .u64 (IntKind.wrap .u64 (proto * 8))) ?_
 refine os 1 ?_
 refine oV (.int .u64 (IntKind.wrap .u64 (kind))) ?_
 refine oX (.int .u64 (IntKind.wrap .u64 ((BitVec.ofInt 64 (IntKind.wrap .u64 (proto * 8)) ||| BitVec.ofInt 64 (IntKind.wrap .u64 (kind))).toNat))) (.int .u64 (rootKey proto kind)) (congrArg (Value.int .u64) (rfl)) ?_
 refine kp [18, 13, 6, 0, 1, 2] ?_
 refine L (cl (shapes_Root hH.tree (rootKey proto kind)) ?_)
 rintro _ TV1 ⟨hTV1, hkTV1, rTV1, okTV1, rfl, hrTV1⟩
 refine os 5 ?_
 refine kp [8, 7, 6, 0, 1, 2] ?_
 refine nq ?_
 refine sr ?_
 refine os 2 ?_
 refine nt ?_
 refine cd (fun hc1 : (!okTV1) = true => ?_) (fun hc1 => ?_)
 ·replace hc1 := bnot_t hc1
  refine sr ?_
  refine os 1 ?_
  refine nt ?_
  refine Qi (Qm ?_)
  refine Qg (.int .i64 (-1)) (fun _ => rfl) ?_
  exact ⟨TV1, HeapV.own, hTV1, rTV1, okTV1, by rw [if_neg (by simp [hc1])], hrTV1⟩
 replace hc1 := bnot_f hc1
 refine Ql (Qj ?_)
 refine sr ?_
 refine os 2 ?_
 refine nt ?_
 refine Qi ?_
 refine Qg (.int .i64 rTV1) (fun _ => rfl) ?_
 exact ⟨TV1, HeapV.own, hTV1, rTV1, okTV1, by rw [if_pos hc1], hrTV1⟩

theorem heap_New {W0 : World} (n : Int) : SC Tryz.prog W0 11 #[.int .i64 n] [] (Ret (fun r : HeapF × Gs => HeapV.ent ⟨.nil, [], .nil, [], [], ⟨.nil, [], []⟩, r.2, [], 0⟩ r.1) (fun v r => v = .pointer (some ⟨r.1.p, 0, none⟩) ∧ r.1.T.most = (if 0 > (if 256 < n then 256 else n) then 0 else (if 256 < n then 256 else n)) ∧ CellsL.ok ⟨r.1.cp, r.2, []⟩)) := by
 refine SC_body (fn := Tryz.f11) (n := 10) Tryz.func11 rfl (by kernel_rfl) (ρ := [(0, .int .i64 n)]) rfl ?_
 refine sr ?_
 refine os 1 ?_
 refine nsr ?_
 refine L (O_new (fun b => .map (some b)) (.map #[] 0) (.map (kvs encS encU ([]))) rfl (by intro δ w; kernel_rfl) rfl ?_)
 intro b1 hlb1 hnb1
 refine os 1 ?_
 refine oV (.int .i64 (if 256 < n then 256 else n)) ?_
 refine L (cl (shapes_New (if 256 < n then 256 else n)) ?_)
 rintro _ TF ⟨rfl, hTF⟩
 refine L (cl (cells_new) ?_)
 rintro _ ⟨cp, cs⟩ ⟨rfl, hcs⟩
 refine oV (.agg #[.slice none 0 0, .slice none 0 0, .map (some b1), pt TF.p 0, pt cp 0, .int .i64 0]) ?_
 refine L (nw 75 6 [.slice none 0 0, .slice none 0 0, .map (some b1), pt TF.p 0, pt cp 0, .int .i64 0] ?_)
 intro b2
 refine os 1 ?_
 refine kp [2, 0] ?_
 refine nt ?_
 refine Qi ?_
 refine Qg (pt b2 0) (fun _ => rfl) ?_
 exact ⟨(HeapF.mk b2 b1 TF cp, cs), (Own.trans (ow (S := ((b2, .cells 75 6 [.slice none 0 0, .slice none 0 0, .map (some b1), pt TF.p 0, pt cp 0, .int .i64 0]) :: ((b1, .map (kvs encS encU ([]))) :: ((TreeV.ent (TreeV.mk Gs.nil [] []) TF) ++ ((CellsL.ent (CellsL.mk cp cs [])) ++ ([]))))))) (Own.of_perm (List.Perm.of_eq rfl))), rfl, hTF, hcs⟩

theorem heap_Make_no {W0 : World} {F : HeapF} {H : HeapV} (hH : H.ok F) {kind proto : Int} (hmay : ¬ mayMake H kind proto) : SC Tryz.prog W0 31 #[.pointer (some ⟨F.p, 0, none⟩), .int .i64 kind, .int .u64 proto] (HeapV.ent H F) (Ret (fun _ : Unit => H.ent F) (fun v _ => v = .tuple #[.int .u64 18445336698825998336, .bool false])) := by
 refine SC_body (fn := Tryz.f31) (n := 56) Tryz.func31 rfl (by kernel_rfl) (ρ := [(0, pt F.p 0), (1, .int .i64 kind), (2, .int .u64 proto)]) rfl ?_
 refine SW_sig _ HeapV.eq0 ?_
 have hob := hH.objs
 refine sr ?_
 refine os 2 ?_
 refine nq ?_
 refine sr ?_
 refine os 3 ?_
 refine tbp 10 (fun hg1 => ?_) (fun hg1 => ?_)
 ·replace hg1 : kind < 0 := hg1
  refine os 21 ?_
  refine kp [31, 7, 6, 0, 1, 2] ?_
  refine nt ?_
  refine ct ?_
  refine sr ?_
  refine os 2 ?_
  refine nt ?_
  refine Qi (Qm ?_)
  refine Qg (.tuple #[.int .u64 18445336698825998336, .bool false]) (fun _ => rfl) ?_
  exact ⟨(), HeapV.own, rfl⟩
 replace hg1 : ¬ (kind < 0) := hg1
 refine os 4 ?_
 refine kp [14, 7, 6, 0, 1, 2] ?_
 refine tbp 14 (fun hg2 => ?_) (fun hg2 => ?_)
 ·replace hg2 : kind > 6 := hg2
  refine os 17 ?_
  refine kp [31, 7, 6, 0, 1, 2] ?_
  refine nt ?_
  refine ct ?_
  refine sr ?_
  refine os 2 ?_
  refine nt ?_
  refine Qi (Qm ?_)
  refine Qg (.tuple #[.int .u64 18445336698825998336, .bool false]) (fun _ => rfl) ?_
  exact ⟨(), HeapV.own, rfl⟩
 replace hg2 : ¬ (kind > 6) := hg2
 refine os 3 ?_
 refine tb 17 (fun hg3 => ?_) (fun hg3 => ?_)
 ·replace hg3 : (proto != 18445336698825998337) = true := hg3
  refine os 2 ?_
  rcases hm1 : objAt proto H.objs.length with _ | m1
  ·refine L (cl (heap_at hH proto) ?_ (hp := HeapV.pm))
   rintro v1 _ hv1
   obtain rfl : v1 = .pointer none := hv1.trans (by rw [hm1])
   refine SL_sig _ HeapV.eq ?_
   refine oV (.bool true) ?_
   refine os 10 ?_
   refine kp [31, 7, 6, 0, 1, 2] ?_
   refine nt ?_
   refine ct ?_
   refine sr ?_
   refine os 2 ?_
   refine nt ?_
   refine Qi (Qm ?_)
   refine Qg (.tuple #[.int .u64 18445336698825998336, .bool false]) (fun _ => rfl) ?_
   exact ⟨(), HeapV.own, rfl⟩
  refine L (cl (heap_at hH proto) ?_ (hp := HeapV.pm))
  rintro v2 _ hv2
  obtain rfl : v2 = pt (Gs.blk H.s) (m1 * 9) := hv2.trans (by rw [hm1])
  refine SL_sig _ HeapV.eq ?_
  refine oV (.bool false) ?_
  refine os 6 ?_
  refine kp [27, 24, 7, 6, 0, 1, 2] ?_
  refine L (ld ?_)
  refine os 3 ?_
  refine kp [31, 7, 6, 0, 1, 2] ?_
  refine nt ?_
  refine cdp (fun hc4 : (H.objs.length : Int) ≥ 65536 => ?_) (fun hc4 => ?_)
  ·refine sr ?_
   refine os 2 ?_
   refine nt ?_
   refine Qi (Qm ?_)
   refine Qg (.tuple #[.int .u64 18445336698825998336, .bool false]) (fun _ => rfl) ?_
   exact ⟨(), HeapV.own, rfl⟩
  refine Ql (Qj ?_)
  refine SW_seq ?_
  refine SW_draw [(F.p, 0, Gs.val H.s H.objs.length)] [0, 1, 2, 3, 5, 6, 7, 8, 9, 10, 11, 12] (by kernel_rfl) (Qf (Cell.own Qe rfl) rd_nil) ?_
  refine aS 0 ?_
  refine aS 1 ?_
  refine aS 2 ?_
  refine aF 3 ?_
  refine aL 4 ?_
  refine aS 5 ?_
  refine aS 6 ?_
  refine aS 7 ?_
  refine aS 8 ?_
  refine aS 9 ?_
  refine sa1 true 10 (h := cl (heap_root hH kind proto) ?_ (hp := HeapV.pm))
  rintro _ RV1 ⟨hRV1, mRV1, okRV1, rfl, hrRV1⟩
  rw [HeapV.eq]
  refine ⟨fun hnd => (Qf (Cell.own Qe rfl) rd_nil), ?_⟩
  refine tk 11 (.agg #[.int .i64 kind, .int .u64 proto, .bool false, .int .i64 (if okRV1 = true then mRV1 else -1), .slice none 0 0, .slice none 0 0, .slice none 0 0, .slice none 0 0, .int .i64 (-1)]) ?_
  refine kpA [43, 36, 32, 31, 7, 6, 0, 1, 2] ?_
  refine sa1 true 12 (h := nws 102 9 1 [.int .i64 kind, .int .u64 proto, .bool false, .int .i64 (if okRV1 = true then mRV1 else -1), .slice none 0 0, .slice none 0 0, .slice none 0 0, .slice none 0 0, .int .i64 (-1)] ?_)
  intro b5
  refine ⟨fun hnd => (Qf (Cell.own (Qc Qe) rfl) rd_nil), ?_⟩
  refine SA_perm _ (perm_cc (perm_cc perm_cz)) ?_
  refine sa1 false 13 (h := O_append (size := 9) (bytes := 136) (z := .agg #[.int .i64 0, .int .u64 0, .bool false, .int .i64 0, .slice none 0 0, .slice none 0 0, .slice none 0 0, .slice none 0 0, .int .i64 0]) H.s H.objs.length 1 (some ⟨b5, 0, none⟩) 1 (H.objs.flatMap ObjL.cells) ([.int .i64 kind, .int .u64 proto, .bool false, .int .i64 (if okRV1 = true then mRV1 else -1), .slice none 0 0, .slice none 0 0, .slice none 0 0, .slice none 0 0, .int .i64 (-1)]) ((H.objs ++ [(ObjL.mk kind proto false (if okRV1 = true then mRV1 else -1) Gs.nil ([]) Gs.nil ([]) Gs.nil ([]) Gs.nil ([]) (-1))]).flatMap ObjL.cells) (flat_snoc _ (ObjL.mk kind proto false (if okRV1 = true then mRV1 else -1) Gs.nil ([]) Gs.nil ([]) Gs.nil ([]) Gs.nil ([]) (-1)) rfl) (fun _ => rfl) (fun _ => rfl) Tryz.underlying73 (by kernel_rfl) rfl (by decide) hH.row rfl (.inr ⟨b5, 0, rfl, Cells.own (Qa Qe) rfl⟩) rfl (by omega) (by decide) rfl ?_)
  intro s6 hks6 hfs6
  rw [show H.objs.length + 1 = (H.objs ++ [(ObjL.mk kind proto false (if okRV1 = true then mRV1 else -1) Gs.nil ([]) Gs.nil ([]) Gs.nil ([]) Gs.nil ([]) (-1))]).length from by simp]
  rw [show H.objs.length + 1 = (H.objs ++ [(ObjL.mk kind proto false (if okRV1 = true then mRV1 else -1) Gs.nil ([]) Gs.nil ([]) Gs.nil ([]) Gs.nil ([]) (-1))]).length from by simp] at hks6
  have hls6 : (H.objs ++ [(ObjL.mk kind proto false (if okRV1 = true then mRV1 else -1) Gs.nil ([]) Gs.nil ([]) Gs.nil ([]) Gs.nil ([]) (-1))]).length = H.objs.length + 1 := by simp
  refine ⟨fun hnd => (by cases hnd), ?_⟩
  refine aS 14 ?_
  refine aF 15 ?_
  refine sa1 false 16 (h := st [Gs.val s6 ((H.objs ++ [(ObjL.mk kind proto false (if okRV1 = true then mRV1 else -1) Gs.nil ([]) Gs.nil ([]) Gs.nil ([]) Gs.nil ([]) (-1))]).length), Gs.val H.ts H.texts.length, .map (some F.kb), pt F.T.p 0, pt F.cp 0, .int .i64 H.br] ?_)
  refine ⟨fun hnd => (by cases hnd), ?_⟩
  refine SA_done (by kernel_rfl) (Qj ?_)
  refine sr ?_
  refine os 3 ?_
  refine kp [50, 31, 7, 6, 0, 1, 2] ?_
  refine L (ld ?_)
  refine os 3 ?_
  refine L (cl (word_Object (n := ((((H.objs ++ [(ObjL.mk kind proto false (if okRV1 = true then mRV1 else -1) Gs.nil ([]) Gs.nil ([]) Gs.nil ([]) Gs.nil ([]) (-1))]).length : Nat)) : Int) - 1) (by omega)) ?_)
  rintro _ _ rfl
  refine un ?_
  refine os 2 ?_
  refine kp [7, 6, 31, 0, 1, 2] ?_
  refine nt ?_
  refine Qi ?_
  refine Qg (.tuple #[.int .u64 (65530 * 281474976710656 + (((((H.objs ++ [(ObjL.mk kind proto false (if okRV1 = true then mRV1 else -1) Gs.nil ([]) Gs.nil ([]) Gs.nil ([]) Gs.nil ([]) (-1))]).length : Nat)) : Int) - 1)), .bool true]) (fun _ => rfl) ?_
  exact absurd (show mayMake H kind proto from ⟨by omega, by first | (left; simp_all; done) | (right; simp_all; done), by omega⟩) hmay
 replace hg3 : (proto != 18445336698825998337) = false := hg3
 refine os 10 ?_
 refine kp [27, 24, 7, 6, 0, 1, 2] ?_
 refine L (ld ?_)
 refine os 3 ?_
 refine kp [31, 7, 6, 0, 1, 2] ?_
 refine nt ?_
 refine cdp (fun hc7 : (H.objs.length : Int) ≥ 65536 => ?_) (fun hc7 => ?_)
 ·refine sr ?_
  refine os 2 ?_
  refine nt ?_
  refine Qi (Qm ?_)
  refine Qg (.tuple #[.int .u64 18445336698825998336, .bool false]) (fun _ => rfl) ?_
  exact ⟨(), HeapV.own, rfl⟩
 refine Ql (Qj ?_)
 refine SW_seq ?_
 refine SW_draw [(F.p, 0, Gs.val H.s H.objs.length)] [0, 1, 2, 3, 5, 6, 7, 8, 9, 10, 11, 12] (by kernel_rfl) (Qf (Cell.own Qe rfl) rd_nil) ?_
 refine aS 0 ?_
 refine aS 1 ?_
 refine aS 2 ?_
 refine aF 3 ?_
 refine aL 4 ?_
 refine aS 5 ?_
 refine aS 6 ?_
 refine aS 7 ?_
 refine aS 8 ?_
 refine aS 9 ?_
 refine sa1 true 10 (h := cl (heap_root hH kind proto) ?_ (hp := HeapV.pm))
 rintro _ RV1 ⟨hRV1, mRV1, okRV1, rfl, hrRV1⟩
 rw [HeapV.eq]
 refine ⟨fun hnd => (Qf (Cell.own Qe rfl) rd_nil), ?_⟩
 refine tk 11 (.agg #[.int .i64 kind, .int .u64 proto, .bool false, .int .i64 (if okRV1 = true then mRV1 else -1), .slice none 0 0, .slice none 0 0, .slice none 0 0, .slice none 0 0, .int .i64 (-1)]) ?_
 refine kpA [43, 36, 32, 31, 7, 6, 0, 1, 2] ?_
 refine sa1 true 12 (h := nws 102 9 1 [.int .i64 kind, .int .u64 proto, .bool false, .int .i64 (if okRV1 = true then mRV1 else -1), .slice none 0 0, .slice none 0 0, .slice none 0 0, .slice none 0 0, .int .i64 (-1)] ?_)
 intro b8
 refine ⟨fun hnd => (Qf (Cell.own (Qc Qe) rfl) rd_nil), ?_⟩
 refine SA_perm _ (perm_cc (perm_cc perm_cz)) ?_
 refine sa1 false 13 (h := O_append (size := 9) (bytes := 136) (z := .agg #[.int .i64 0, .int .u64 0, .bool false, .int .i64 0, .slice none 0 0, .slice none 0 0, .slice none 0 0, .slice none 0 0, .int .i64 0]) H.s H.objs.length 1 (some ⟨b8, 0, none⟩) 1 (H.objs.flatMap ObjL.cells) ([.int .i64 kind, .int .u64 proto, .bool false, .int .i64 (if okRV1 = true then mRV1 else -1), .slice none 0 0, .slice none 0 0, .slice none 0 0, .slice none 0 0, .int .i64 (-1)]) ((H.objs ++ [(ObjL.mk kind proto false (if okRV1 = true then mRV1 else -1) Gs.nil ([]) Gs.nil ([]) Gs.nil ([]) Gs.nil ([]) (-1))]).flatMap ObjL.cells) (flat_snoc _ (ObjL.mk kind proto false (if okRV1 = true then mRV1 else -1) Gs.nil ([]) Gs.nil ([]) Gs.nil ([]) Gs.nil ([]) (-1)) rfl) (fun _ => rfl) (fun _ => rfl) Tryz.underlying73 (by kernel_rfl) rfl (by decide) hH.row rfl (.inr ⟨b8, 0, rfl, Cells.own (Qa Qe) rfl⟩) rfl (by omega) (by decide) rfl ?_)
 intro s9 hks9 hfs9
 rw [show H.objs.length + 1 = (H.objs ++ [(ObjL.mk kind proto false (if okRV1 = true then mRV1 else -1) Gs.nil ([]) Gs.nil ([]) Gs.nil ([]) Gs.nil ([]) (-1))]).length from by simp]
 rw [show H.objs.length + 1 = (H.objs ++ [(ObjL.mk kind proto false (if okRV1 = true then mRV1 else -1) Gs.nil ([]) Gs.nil ([]) Gs.nil ([]) Gs.nil ([]) (-1))]).length from by simp] at hks9
 have hls9 : (H.objs ++ [(ObjL.mk kind proto false (if okRV1 = true then mRV1 else -1) Gs.nil ([]) Gs.nil ([]) Gs.nil ([]) Gs.nil ([]) (-1))]).length = H.objs.length + 1 := by simp
 refine ⟨fun hnd => (by cases hnd), ?_⟩
 refine aS 14 ?_
 refine aF 15 ?_
 refine sa1 false 16 (h := st [Gs.val s9 ((H.objs ++ [(ObjL.mk kind proto false (if okRV1 = true then mRV1 else -1) Gs.nil ([]) Gs.nil ([]) Gs.nil ([]) Gs.nil ([]) (-1))]).length), Gs.val H.ts H.texts.length, .map (some F.kb), pt F.T.p 0, pt F.cp 0, .int .i64 H.br] ?_)
 refine ⟨fun hnd => (by cases hnd), ?_⟩
 refine SA_done (by kernel_rfl) (Qj ?_)
 refine sr ?_
 refine os 3 ?_
 refine kp [50, 31, 7, 6, 0, 1, 2] ?_
 refine L (ld ?_)
 refine os 3 ?_
 refine L (cl (word_Object (n := ((((H.objs ++ [(ObjL.mk kind proto false (if okRV1 = true then mRV1 else -1) Gs.nil ([]) Gs.nil ([]) Gs.nil ([]) Gs.nil ([]) (-1))]).length : Nat)) : Int) - 1) (by omega)) ?_)
 rintro _ _ rfl
 refine un ?_
 refine os 2 ?_
 refine kp [7, 6, 31, 0, 1, 2] ?_
 refine nt ?_
 refine Qi ?_
 refine Qg (.tuple #[.int .u64 (65530 * 281474976710656 + (((((H.objs ++ [(ObjL.mk kind proto false (if okRV1 = true then mRV1 else -1) Gs.nil ([]) Gs.nil ([]) Gs.nil ([]) Gs.nil ([]) (-1))]).length : Nat)) : Int) - 1)), .bool true]) (fun _ => rfl) ?_
 exact absurd (show mayMake H kind proto from ⟨by omega, by first | (left; simp_all; done) | (right; simp_all; done), by omega⟩) hmay

theorem heap_Make_yes {W0 : World} {F : HeapF} {H : HeapV} (hH : H.ok F) {kind proto : Int} (hmay : mayMake H kind proto) : SC Tryz.prog W0 31 #[.pointer (some ⟨F.p, 0, none⟩), .int .i64 kind, .int .u64 proto] (HeapV.ent H F) (Ret (fun r : Gs × Int × TreeV => (H.add r.1 (newObj kind proto r.2.1) r.2.2).ent F) (fun v r => v = .tuple #[.int .u64 (65530 * 281474976710656 + H.objs.length), .bool true] ∧ (H.add r.1 (newObj kind proto r.2.1) r.2.2).ok F ∧ ∃ m ok, rootP (H.V.abs F.T) (rootKey proto kind) = (r.2.2.abs F.T, m, ok) ∧ r.2.1 = if ok = true then m else -1)) := by
 refine SC_body (fn := Tryz.f31) (n := 56) Tryz.func31 rfl (by kernel_rfl) (ρ := [(0, pt F.p 0), (1, .int .i64 kind), (2, .int .u64 proto)]) rfl ?_
 refine SW_sig _ HeapV.eq0 ?_
 have hob := hH.objs
 refine sr ?_
 refine os 2 ?_
 refine nq ?_
 refine sr ?_
 refine os 3 ?_
 refine tbp 10 (fun hg1 => ?_) (fun hg1 => ?_)
 ·replace hg1 : kind < 0 := hg1
  refine os 21 ?_
  refine kp [31, 7, 6, 0, 1, 2] ?_
  refine nt ?_
  refine ct ?_
  refine sr ?_
  refine os 2 ?_
  refine nt ?_
  refine Qi (Qm ?_)
  refine Qg (.tuple #[.int .u64 18445336698825998336, .bool false]) (fun _ => rfl) ?_
  exact absurd hmay (by unfold mayMake; intro q; obtain ⟨⟨q1, q2⟩, q3, q4⟩ := q; first | omega | (simp_all; done) | (simp_all; omega))
 replace hg1 : ¬ (kind < 0) := hg1
 refine os 4 ?_
 refine kp [14, 7, 6, 0, 1, 2] ?_
 refine tbp 14 (fun hg2 => ?_) (fun hg2 => ?_)
 ·replace hg2 : kind > 6 := hg2
  refine os 17 ?_
  refine kp [31, 7, 6, 0, 1, 2] ?_
  refine nt ?_
  refine ct ?_
  refine sr ?_
  refine os 2 ?_
  refine nt ?_
  refine Qi (Qm ?_)
  refine Qg (.tuple #[.int .u64 18445336698825998336, .bool false]) (fun _ => rfl) ?_
  exact absurd hmay (by unfold mayMake; intro q; obtain ⟨⟨q1, q2⟩, q3, q4⟩ := q; first | omega | (simp_all; done) | (simp_all; omega))
 replace hg2 : ¬ (kind > 6) := hg2
 refine os 3 ?_
 refine tb 17 (fun hg3 => ?_) (fun hg3 => ?_)
 ·replace hg3 : (proto != 18445336698825998337) = true := hg3
  refine os 2 ?_
  rcases hm1 : objAt proto H.objs.length with _ | m1
  ·refine L (cl (heap_at hH proto) ?_ (hp := HeapV.pm))
   rintro v1 _ hv1
   obtain rfl : v1 = .pointer none := hv1.trans (by rw [hm1])
   refine SL_sig _ HeapV.eq ?_
   refine oV (.bool true) ?_
   refine os 10 ?_
   refine kp [31, 7, 6, 0, 1, 2] ?_
   refine nt ?_
   refine ct ?_
   refine sr ?_
   refine os 2 ?_
   refine nt ?_
   refine Qi (Qm ?_)
   refine Qg (.tuple #[.int .u64 18445336698825998336, .bool false]) (fun _ => rfl) ?_
   exact absurd hmay (by unfold mayMake; intro q; obtain ⟨⟨q1, q2⟩, q3, q4⟩ := q; first | omega | (simp_all; done) | (simp_all; omega))
  refine L (cl (heap_at hH proto) ?_ (hp := HeapV.pm))
  rintro v2 _ hv2
  obtain rfl : v2 = pt (Gs.blk H.s) (m1 * 9) := hv2.trans (by rw [hm1])
  refine SL_sig _ HeapV.eq ?_
  refine oV (.bool false) ?_
  refine os 6 ?_
  refine kp [27, 24, 7, 6, 0, 1, 2] ?_
  refine L (ld ?_)
  refine os 3 ?_
  refine kp [31, 7, 6, 0, 1, 2] ?_
  refine nt ?_
  refine cdp (fun hc4 : (H.objs.length : Int) ≥ 65536 => ?_) (fun hc4 => ?_)
  ·refine sr ?_
   refine os 2 ?_
   refine nt ?_
   refine Qi (Qm ?_)
   refine Qg (.tuple #[.int .u64 18445336698825998336, .bool false]) (fun _ => rfl) ?_
   exact absurd hmay (by unfold mayMake; intro q; obtain ⟨⟨q1, q2⟩, q3, q4⟩ := q; first | omega | (simp_all; done) | (simp_all; omega))
  refine Ql (Qj ?_)
  refine SW_seq ?_
  refine SW_draw [(F.p, 0, Gs.val H.s H.objs.length)] [0, 1, 2, 3, 5, 6, 7, 8, 9, 10, 11, 12] (by kernel_rfl) (Qf (Cell.own Qe rfl) rd_nil) ?_
  refine aS 0 ?_
  refine aS 1 ?_
  refine aS 2 ?_
  refine aF 3 ?_
  refine aL 4 ?_
  refine aS 5 ?_
  refine aS 6 ?_
  refine aS 7 ?_
  refine aS 8 ?_
  refine aS 9 ?_
  refine sa1 true 10 (h := cl (heap_root hH kind proto) ?_ (hp := HeapV.pm))
  rintro _ RV1 ⟨hRV1, mRV1, okRV1, rfl, hrRV1⟩
  rw [HeapV.eq]
  refine ⟨fun hnd => (Qf (Cell.own Qe rfl) rd_nil), ?_⟩
  refine tk 11 (.agg #[.int .i64 kind, .int .u64 proto, .bool false, .int .i64 (if okRV1 = true then mRV1 else -1), .slice none 0 0, .slice none 0 0, .slice none 0 0, .slice none 0 0, .int .i64 (-1)]) ?_
  refine kpA [43, 36, 32, 31, 7, 6, 0, 1, 2] ?_
  refine sa1 true 12 (h := nws 102 9 1 [.int .i64 kind, .int .u64 proto, .bool false, .int .i64 (if okRV1 = true then mRV1 else -1), .slice none 0 0, .slice none 0 0, .slice none 0 0, .slice none 0 0, .int .i64 (-1)] ?_)
  intro b5
  refine ⟨fun hnd => (Qf (Cell.own (Qc Qe) rfl) rd_nil), ?_⟩
  refine SA_perm _ (perm_cc (perm_cc perm_cz)) ?_
  refine sa1 false 13 (h := O_append (size := 9) (bytes := 136) (z := .agg #[.int .i64 0, .int .u64 0, .bool false, .int .i64 0, .slice none 0 0, .slice none 0 0, .slice none 0 0, .slice none 0 0, .int .i64 0]) H.s H.objs.length 1 (some ⟨b5, 0, none⟩) 1 (H.objs.flatMap ObjL.cells) ([.int .i64 kind, .int .u64 proto, .bool false, .int .i64 (if okRV1 = true then mRV1 else -1), .slice none 0 0, .slice none 0 0, .slice none 0 0, .slice none 0 0, .int .i64 (-1)]) ((H.objs ++ [(ObjL.mk kind proto false (if okRV1 = true then mRV1 else -1) Gs.nil ([]) Gs.nil ([]) Gs.nil ([]) Gs.nil ([]) (-1))]).flatMap ObjL.cells) (flat_snoc _ (ObjL.mk kind proto false (if okRV1 = true then mRV1 else -1) Gs.nil ([]) Gs.nil ([]) Gs.nil ([]) Gs.nil ([]) (-1)) rfl) (fun _ => rfl) (fun _ => rfl) Tryz.underlying73 (by kernel_rfl) rfl (by decide) hH.row rfl (.inr ⟨b5, 0, rfl, Cells.own (Qa Qe) rfl⟩) rfl (by omega) (by decide) rfl ?_)
  intro s6 hks6 hfs6
  rw [show H.objs.length + 1 = (H.objs ++ [(ObjL.mk kind proto false (if okRV1 = true then mRV1 else -1) Gs.nil ([]) Gs.nil ([]) Gs.nil ([]) Gs.nil ([]) (-1))]).length from by simp]
  rw [show H.objs.length + 1 = (H.objs ++ [(ObjL.mk kind proto false (if okRV1 = true then mRV1 else -1) Gs.nil ([]) Gs.nil ([]) Gs.nil ([]) Gs.nil ([]) (-1))]).length from by simp] at hks6
  have hls6 : (H.objs ++ [(ObjL.mk kind proto false (if okRV1 = true then mRV1 else -1) Gs.nil ([]) Gs.nil ([]) Gs.nil ([]) Gs.nil ([]) (-1))]).length = H.objs.length + 1 := by simp
  refine ⟨fun hnd => (by cases hnd), ?_⟩
  refine aS 14 ?_
  refine aF 15 ?_
  refine sa1 false 16 (h := st [Gs.val s6 ((H.objs ++ [(ObjL.mk kind proto false (if okRV1 = true then mRV1 else -1) Gs.nil ([]) Gs.nil ([]) Gs.nil ([]) Gs.nil ([]) (-1))]).length), Gs.val H.ts H.texts.length, .map (some F.kb), pt F.T.p 0, pt F.cp 0, .int .i64 H.br] ?_)
  refine ⟨fun hnd => (by cases hnd), ?_⟩
  refine SA_done (by kernel_rfl) (Qj ?_)
  refine sr ?_
  refine os 3 ?_
  refine kp [50, 31, 7, 6, 0, 1, 2] ?_
  refine L (ld ?_)
  refine os 3 ?_
  refine L (cl (word_Object (n := ((((H.objs ++ [(ObjL.mk kind proto false (if okRV1 = true then mRV1 else -1) Gs.nil ([]) Gs.nil ([]) Gs.nil ([]) Gs.nil ([]) (-1))]).length : Nat)) : Int) - 1) (by omega)) ?_)
  rintro _ _ rfl
  refine un ?_
  refine os 2 ?_
  refine kp [7, 6, 31, 0, 1, 2] ?_
  refine nt ?_
  refine Qi ?_
  refine Qg (.tuple #[.int .u64 (65530 * 281474976710656 + (((((H.objs ++ [(ObjL.mk kind proto false (if okRV1 = true then mRV1 else -1) Gs.nil ([]) Gs.nil ([]) Gs.nil ([]) Gs.nil ([]) (-1))]).length : Nat)) : Int) - 1)), .bool true]) (fun _ => rfl) ?_
  refine ⟨(s6, (if okRV1 = true then mRV1 else -1), RV1), ?_, congrArg (fun i => Value.tuple #[.int .u64 i, .bool true]) (by omega), hH.add hks6 (newObj_ok _ _ _) (Nat.zero_le _) hRV1 (by omega), mRV1, okRV1, hrRV1, rfl⟩
  refine Own.trans (ow (S := ((F.p, .cells 75 6 [Gs.val s6 ((H.objs ++ [(ObjL.mk kind proto false (if okRV1 = true then mRV1 else -1) Gs.nil ([]) Gs.nil ([]) Gs.nil ([]) Gs.nil ([]) (-1))]).length), Gs.val H.ts H.texts.length, .map (some F.kb), pt F.T.p 0, pt F.cp 0, .int .i64 H.br]) :: ((Gs.ent 102 9 s6 ((H.objs ++ [(ObjL.mk kind proto false (if okRV1 = true then mRV1 else -1) Gs.nil ([]) Gs.nil ([]) Gs.nil ([]) Gs.nil ([]) (-1))]).flatMap ObjL.cells)) ++ ((H.objs.flatMap ObjL.ent) ++ ((Gs.ent 9 1 H.ts (H.texts.map encS)) ++ ((F.kb, .map (kvs encS encU H.known)) :: ((TreeV.ent RV1 F.T) ++ ((CellsL.ent (CellsL.mk F.cp H.cs H.cl)) ++ ([])))))))))) ?_
  exact Own.of_perm (List.Perm.of_eq (by simp [HeapV.ent, HeapV.head, HeapV.row, newObj_ent]))
 replace hg3 : (proto != 18445336698825998337) = false := hg3
 refine os 10 ?_
 refine kp [27, 24, 7, 6, 0, 1, 2] ?_
 refine L (ld ?_)
 refine os 3 ?_
 refine kp [31, 7, 6, 0, 1, 2] ?_
 refine nt ?_
 refine cdp (fun hc7 : (H.objs.length : Int) ≥ 65536 => ?_) (fun hc7 => ?_)
 ·refine sr ?_
  refine os 2 ?_
  refine nt ?_
  refine Qi (Qm ?_)
  refine Qg (.tuple #[.int .u64 18445336698825998336, .bool false]) (fun _ => rfl) ?_
  exact absurd hmay (by unfold mayMake; intro q; obtain ⟨⟨q1, q2⟩, q3, q4⟩ := q; first | omega | (simp_all; done) | (simp_all; omega))
 refine Ql (Qj ?_)
 refine SW_seq ?_
 refine SW_draw [(F.p, 0, Gs.val H.s H.objs.length)] [0, 1, 2, 3, 5, 6, 7, 8, 9, 10, 11, 12] (by kernel_rfl) (Qf (Cell.own Qe rfl) rd_nil) ?_
 refine aS 0 ?_
 refine aS 1 ?_
 refine aS 2 ?_
 refine aF 3 ?_
 refine aL 4 ?_
 refine aS 5 ?_
 refine aS 6 ?_
 refine aS 7 ?_
 refine aS 8 ?_
 refine aS 9 ?_
 refine sa1 true 10 (h := cl (heap_root hH kind proto) ?_ (hp := HeapV.pm))
 rintro _ RV1 ⟨hRV1, mRV1, okRV1, rfl, hrRV1⟩
 rw [HeapV.eq]
 refine ⟨fun hnd => (Qf (Cell.own Qe rfl) rd_nil), ?_⟩
 refine tk 11 (.agg #[.int .i64 kind, .int .u64 proto, .bool false, .int .i64 (if okRV1 = true then mRV1 else -1), .slice none 0 0, .slice none 0 0, .slice none 0 0, .slice none 0 0, .int .i64 (-1)]) ?_
 refine kpA [43, 36, 32, 31, 7, 6, 0, 1, 2] ?_
 refine sa1 true 12 (h := nws 102 9 1 [.int .i64 kind, .int .u64 proto, .bool false, .int .i64 (if okRV1 = true then mRV1 else -1), .slice none 0 0, .slice none 0 0, .slice none 0 0, .slice none 0 0, .int .i64 (-1)] ?_)
 intro b8
 refine ⟨fun hnd => (Qf (Cell.own (Qc Qe) rfl) rd_nil), ?_⟩
 refine SA_perm _ (perm_cc (perm_cc perm_cz)) ?_
 refine sa1 false 13 (h := O_append (size := 9) (bytes := 136) (z := .agg #[.int .i64 0, .int .u64 0, .bool false, .int .i64 0, .slice none 0 0, .slice none 0 0, .slice none 0 0, .slice none 0 0, .int .i64 0]) H.s H.objs.length 1 (some ⟨b8, 0, none⟩) 1 (H.objs.flatMap ObjL.cells) ([.int .i64 kind, .int .u64 proto, .bool false, .int .i64 (if okRV1 = true then mRV1 else -1), .slice none 0 0, .slice none 0 0, .slice none 0 0, .slice none 0 0, .int .i64 (-1)]) ((H.objs ++ [(ObjL.mk kind proto false (if okRV1 = true then mRV1 else -1) Gs.nil ([]) Gs.nil ([]) Gs.nil ([]) Gs.nil ([]) (-1))]).flatMap ObjL.cells) (flat_snoc _ (ObjL.mk kind proto false (if okRV1 = true then mRV1 else -1) Gs.nil ([]) Gs.nil ([]) Gs.nil ([]) Gs.nil ([]) (-1)) rfl) (fun _ => rfl) (fun _ => rfl) Tryz.underlying73 (by kernel_rfl) rfl (by decide) hH.row rfl (.inr ⟨b8, 0, rfl, Cells.own (Qa Qe) rfl⟩) rfl (by omega) (by decide) rfl ?_)
 intro s9 hks9 hfs9
 rw [show H.objs.length + 1 = (H.objs ++ [(ObjL.mk kind proto false (if okRV1 = true then mRV1 else -1) Gs.nil ([]) Gs.nil ([]) Gs.nil ([]) Gs.nil ([]) (-1))]).length from by simp]
 rw [show H.objs.length + 1 = (H.objs ++ [(ObjL.mk kind proto false (if okRV1 = true then mRV1 else -1) Gs.nil ([]) Gs.nil ([]) Gs.nil ([]) Gs.nil ([]) (-1))]).length from by simp] at hks9
 have hls9 : (H.objs ++ [(ObjL.mk kind proto false (if okRV1 = true then mRV1 else -1) Gs.nil ([]) Gs.nil ([]) Gs.nil ([]) Gs.nil ([]) (-1))]).length = H.objs.length + 1 := by simp
 refine ⟨fun hnd => (by cases hnd), ?_⟩
 refine aS 14 ?_
 refine aF 15 ?_
 refine sa1 false 16 (h := st [Gs.val s9 ((H.objs ++ [(ObjL.mk kind proto false (if okRV1 = true then mRV1 else -1) Gs.nil ([]) Gs.nil ([]) Gs.nil ([]) Gs.nil ([]) (-1))]).length), Gs.val H.ts H.texts.length, .map (some F.kb), pt F.T.p 0, pt F.cp 0, .int .i64 H.br] ?_)
 refine ⟨fun hnd => (by cases hnd), ?_⟩
 refine SA_done (by kernel_rfl) (Qj ?_)
 refine sr ?_
 refine os 3 ?_
 refine kp [50, 31, 7, 6, 0, 1, 2] ?_
 refine L (ld ?_)
 refine os 3 ?_
 refine L (cl (word_Object (n := ((((H.objs ++ [(ObjL.mk kind proto false (if okRV1 = true then mRV1 else -1) Gs.nil ([]) Gs.nil ([]) Gs.nil ([]) Gs.nil ([]) (-1))]).length : Nat)) : Int) - 1) (by omega)) ?_)
 rintro _ _ rfl
 refine un ?_
 refine os 2 ?_
 refine kp [7, 6, 31, 0, 1, 2] ?_
 refine nt ?_
 refine Qi ?_
 refine Qg (.tuple #[.int .u64 (65530 * 281474976710656 + (((((H.objs ++ [(ObjL.mk kind proto false (if okRV1 = true then mRV1 else -1) Gs.nil ([]) Gs.nil ([]) Gs.nil ([]) Gs.nil ([]) (-1))]).length : Nat)) : Int) - 1)), .bool true]) (fun _ => rfl) ?_
 refine ⟨(s9, (if okRV1 = true then mRV1 else -1), RV1), ?_, congrArg (fun i => Value.tuple #[.int .u64 i, .bool true]) (by omega), hH.add hks9 (newObj_ok _ _ _) (Nat.zero_le _) hRV1 (by omega), mRV1, okRV1, hrRV1, rfl⟩
 refine Own.trans (ow (S := ((F.p, .cells 75 6 [Gs.val s9 ((H.objs ++ [(ObjL.mk kind proto false (if okRV1 = true then mRV1 else -1) Gs.nil ([]) Gs.nil ([]) Gs.nil ([]) Gs.nil ([]) (-1))]).length), Gs.val H.ts H.texts.length, .map (some F.kb), pt F.T.p 0, pt F.cp 0, .int .i64 H.br]) :: ((Gs.ent 102 9 s9 ((H.objs ++ [(ObjL.mk kind proto false (if okRV1 = true then mRV1 else -1) Gs.nil ([]) Gs.nil ([]) Gs.nil ([]) Gs.nil ([]) (-1))]).flatMap ObjL.cells)) ++ ((H.objs.flatMap ObjL.ent) ++ ((Gs.ent 9 1 H.ts (H.texts.map encS)) ++ ((F.kb, .map (kvs encS encU H.known)) :: ((TreeV.ent RV1 F.T) ++ ((CellsL.ent (CellsL.mk F.cp H.cs H.cl)) ++ ([])))))))))) ?_
 exact Own.of_perm (List.Perm.of_eq (by simp [HeapV.ent, HeapV.head, HeapV.row, newObj_ent]))

end Go.Proofs.YthflblophelioaaGreatDoor
namespace Go.Proofs.YthflblophelioaaGreatDoor
open Go.Sl

theorem heap_Find {W0 : World} {F : HeapF} {H : HeapV} (hH : H.ok F) (n : Int) (key : ByteArray) : SC Tryz.prog W0 26 #[.pointer (some ⟨F.p, 0, none⟩), .int .i64 n, .string key] (HeapV.ent H F) (Ret (fun _ : Unit => H.ent F) (fun v _ => v = three (findP (H.V.abs F.T) n key))) := by
 refine SC_body (fn := Tryz.f26) (n := 19) Tryz.func26 rfl (by kernel_rfl) (ρ := [(0, pt F.p 0), (1, .int .i64 n), (2, .string key)]) rfl ?_
 refine SW_sig _ HeapV.eq0 ?_
 refine sr ?_
 refine os 3 ?_
 refine nsr ?_
 refine os 3 ?_
 refine L (ld ?_)
 refine os 2 ?_
 refine L (cl (shapes_Find hH.tree n key) ?_)
 rintro _ _ rfl
 refine os 6 ?_
 refine kp [8, 7, 6, 0, 1, 2] ?_
 refine nt ?_
 refine Qi ?_
 refine Qg (.tuple #[.int .i64 ((findP (TreeV.abs H.V F.T) n key).1), .int .i64 ((findP (TreeV.abs H.V F.T) n key).2.1), .bool ((findP (TreeV.abs H.V F.T) n key).2.2)]) (fun _ => rfl) ?_
 exact ⟨(), HeapV.own, rfl⟩

theorem heap_Slot_some {W0 : World} {F : HeapF} {H : HeapV} (hH : H.ok F) {w : Int} {n : Nat} {x : ObjL} (h0 : objAt w H.objs.length = some n) (hx : H.objs[n]? = some x) (i : Int) : SC Tryz.prog W0 28 #[.pointer (some ⟨F.p, 0, none⟩), .int .u64 w, .int .i64 i] (HeapV.ent H F) (Ret (fun _ : Unit => H.ent F) (fun v _ => v = descR (slotO x i))) := by
 refine SC_body (fn := Tryz.f28) (n := 35) Tryz.func28 rfl (by kernel_rfl) (ρ := [(0, pt F.p 0), (1, .int .u64 w), (2, .int .i64 i)]) rfl ?_
 refine SW_sig _ HeapV.eq0 ?_
 refine sr ?_
 refine L (nw 45 3 [.int .u64 0, .int .u64 0, .int .i64 0] ?_)
 intro b1
 refine os 1 ?_
 refine nsr ?_
 refine os 2 ?_
 refine L (cl (heap_at hH w) ?_ (hp := HeapV.pm))
 rintro v1 _ hv1
 obtain rfl : v1 = pt (Gs.blk H.s) (n * 9) := hv1.trans (by rw [h0])
 refine SL_sig _ HeapV.eq ?_
 refine os 1 ?_
 refine kp [8, 7, 6, 0, 1, 2] ?_
 refine nq ?_
 refine sr ?_
 refine os 1 ?_
 refine oV (.bool false) ?_
 refine os 5 ?_
 refine kp [18, 8, 7, 6, 0, 1, 2] ?_
 refine tbp 18 (fun hg2 => ?_) (fun hg2 => ?_)
 ·replace hg2 : i < 0 := hg2
  refine os 8 ?_
  refine kp [26, 8, 7, 6, 0, 1, 2] ?_
  refine nt ?_
  refine ct ?_
  refine sr ?_
  refine oV (.agg #[.int .u64 0, .int .u64 0, .int .i64 0]) ?_
  refine L (st [.int .u64 0, .int .u64 0, .int .i64 0] ?_)
  refine os 1 ?_
  refine nt ?_
  refine Qi (Qm ?_)
  refine body_endC [.agg #[.int .u64 0, .int .u64 0, .int .i64 0], .bool false] (fun _ => (.cons ⟨b1, 0, rfl, .inl ⟨[.int .u64 0, .int .u64 0, .int .i64 0], by kernel_rfl, (Qb (Cell.own Qe rfl) (Qb (Cell.own Qe rfl) (Qb (Cell.own Qe rfl) Qo))), rfl⟩⟩ (.cons rfl .nil))) ?_
  exact ⟨(), HeapV.own, by unfold slotO; rw [if_neg (by omega)]; rfl⟩
 replace hg2 : ¬ (i < 0) := hg2
 refine os 4 ?_
 refine L (ld ?_ (hc := Gs.cell hH.row (fun e he => (Qc (mem_h he))) (Qh ObjL.len hx (j := 5) (by decide) rfl)))
 refine os 3 ?_
 refine kp [26, 8, 7, 6, 0, 1, 2] ?_
 refine nt ?_
 refine cdp (fun hc3 : i ≥ (x.vals.length : Int) => ?_) (fun hc3 => ?_)
 ·refine sr ?_
  refine oV (.agg #[.int .u64 0, .int .u64 0, .int .i64 0]) ?_
  refine L (st [.int .u64 0, .int .u64 0, .int .i64 0] ?_)
  refine os 1 ?_
  refine nt ?_
  refine Qi (Qm ?_)
  refine body_endC [.agg #[.int .u64 0, .int .u64 0, .int .i64 0], .bool false] (fun _ => (.cons ⟨b1, 0, rfl, .inl ⟨[.int .u64 0, .int .u64 0, .int .i64 0], by kernel_rfl, (Qb (Cell.own Qe rfl) (Qb (Cell.own Qe rfl) (Qb (Cell.own Qe rfl) Qo))), rfl⟩⟩ (.cons rfl .nil))) ?_
  exact ⟨(), HeapV.own, by unfold slotO; rw [if_neg (by omega)]; rfl⟩
 refine Ql (Qj ?_)
 refine sr ?_
 refine os 3 ?_
 refine L (ld ?_ (hc := Gs.cell hH.row (fun e he => (Qc (mem_h he))) (Qh ObjL.len hx (j := 5) (by decide) rfl)))
 refine os 1 ?_
 refine L (ixg i (i.toNat * 3) ((HeapV.ok.at hH hx).vs) Tryz.underlying99 ?_)
 obtain ⟨e1, he1⟩ : ∃ y_, x.vals[i.toNat]? = some y_ := ⟨_, List.getElem?_eq_getElem (by omega)⟩
 refine L (ldr [.int .u64 e1.1, .int .u64 e1.2.1, .int .i64 e1.2.2] (Qb (Gs.cell (HeapV.ok.at hH hx).vs (fun e he => (Qc (Qa (mem_h ((ObjL.mvs hx) _ he))))) (Qh descCells_len he1 (j := 0) (by decide) rfl)) (Qb (Gs.cell (HeapV.ok.at hH hx).vs (fun e he => (Qc (Qa (mem_h ((ObjL.mvs hx) _ he))))) (Qh descCells_len he1 (j := 1) (by decide) rfl)) (Qb (Gs.cell (HeapV.ok.at hH hx).vs (fun e he => (Qc (Qa (mem_h ((ObjL.mvs hx) _ he))))) (Qh descCells_len he1 (j := 2) (by decide) rfl)) Qo))) ?_)
 refine L (st [.int .u64 e1.1, .int .u64 e1.2.1, .int .i64 e1.2.2] ?_)
 refine os 1 ?_
 refine kp [7, 26, 8, 6, 0, 1, 2] ?_
 refine nt ?_
 refine Qi ?_
 refine body_endC [.agg #[.int .u64 e1.1, .int .u64 e1.2.1, .int .i64 e1.2.2], .bool true] (fun _ => (.cons ⟨b1, 0, rfl, .inl ⟨[.int .u64 e1.1, .int .u64 e1.2.1, .int .i64 e1.2.2], by kernel_rfl, (Qb (Cell.own Qe rfl) (Qb (Cell.own Qe rfl) (Qb (Cell.own Qe rfl) Qo))), rfl⟩⟩ (.cons rfl .nil))) ?_
 exact ⟨(), HeapV.own, by unfold slotO; rw [if_pos (by omega), he1]; rfl⟩

theorem heap_Get_none {W0 : World} {F : HeapF} {H : HeapV} (hH : H.ok F) {w : Int} (h0 : objAt w H.objs.length = none) (key : ByteArray) : SC Tryz.prog W0 55 #[.pointer (some ⟨F.p, 0, none⟩), .int .u64 w, .string key] (HeapV.ent H F) (Ret (fun _ : Unit => H.ent F) (fun v _ => v = descR none)) := by
 refine SC_body (fn := Tryz.f55) (n := 30) Tryz.func55 rfl (by kernel_rfl) (ρ := [(0, pt F.p 0), (1, .int .u64 w), (2, .string key)]) rfl ?_
 refine SW_sig _ HeapV.eq0 ?_
 refine sr ?_
 refine L (nw 45 3 [.int .u64 0, .int .u64 0, .int .i64 0] ?_)
 intro b1
 refine os 1 ?_
 refine nsr ?_
 refine os 2 ?_
 refine L (cl (heap_at hH w) ?_ (hp := HeapV.pm))
 rintro v1 _ hv1
 obtain rfl : v1 = .pointer none := hv1.trans (by rw [h0])
 refine SL_sig _ HeapV.eq ?_
 refine os 1 ?_
 refine kp [8, 7, 6, 0, 1, 2] ?_
 refine nq ?_
 refine sr ?_
 refine os 1 ?_
 refine oV (.bool true) ?_
 refine nt ?_
 refine ct ?_
 refine sr ?_
 refine oV (.agg #[.int .u64 0, .int .u64 0, .int .i64 0]) ?_
 refine L (st [.int .u64 0, .int .u64 0, .int .i64 0] ?_)
 refine os 1 ?_
 refine nt ?_
 refine Qi (Qm ?_)
 refine body_endC [.agg #[.int .u64 0, .int .u64 0, .int .i64 0], .bool false] (fun _ => (.cons ⟨b1, 0, rfl, .inl ⟨[.int .u64 0, .int .u64 0, .int .i64 0], by kernel_rfl, (Qb (Cell.own Qe rfl) (Qb (Cell.own Qe rfl) (Qb (Cell.own Qe rfl) Qo))), rfl⟩⟩ (.cons rfl .nil))) ?_
 exact ⟨(), HeapV.own, rfl⟩

theorem heap_Get_some {W0 : World} {F : HeapF} {H : HeapV} (hH : H.ok F) {w : Int} {n : Nat} {x : ObjL} (h0 : objAt w H.objs.length = some n) (hx : H.objs[n]? = some x) (hI : OInv (H.V.abs F.T) x) (key : ByteArray) : SC Tryz.prog W0 55 #[.pointer (some ⟨F.p, 0, none⟩), .int .u64 w, .string key] (HeapV.ent H F) (Ret (fun _ : Unit => H.ent F) (fun v _ => v = descR (getO (H.V.abs F.T) x key))) := by
 refine SC_body (fn := Tryz.f55) (n := 30) Tryz.func55 rfl (by kernel_rfl) (ρ := [(0, pt F.p 0), (1, .int .u64 w), (2, .string key)]) rfl ?_
 refine SW_sig _ HeapV.eq0 ?_
 refine sr ?_
 refine L (nw 45 3 [.int .u64 0, .int .u64 0, .int .i64 0] ?_)
 intro b1
 refine os 1 ?_
 refine nsr ?_
 refine os 2 ?_
 refine L (cl (heap_at hH w) ?_ (hp := HeapV.pm))
 rintro v1 _ hv1
 obtain rfl : v1 = pt (Gs.blk H.s) (n * 9) := hv1.trans (by rw [h0])
 refine SL_sig _ HeapV.eq ?_
 refine os 1 ?_
 refine kp [8, 7, 6, 0, 1, 2] ?_
 refine nq ?_
 refine sr ?_
 refine os 1 ?_
 refine oV (.bool false) ?_
 refine nt ?_
 refine cf ?_
 refine Ql (Qj ?_)
 refine sr ?_
 refine os 3 ?_
 refine L (cl (heap_place hH (n := n) hx key) ?_ (hp := HeapV.pm))
 rintro _ _ rfl
 refine SL_sig _ HeapV.eq ?_
 refine os 1 ?_
 refine kp [9, 14, 8, 7, 6, 0, 1, 2] ?_
 refine nq ?_
 refine sr ?_
 refine os 2 ?_
 refine nt ?_
 refine cdp (fun hc2 : (placeO (TreeV.abs H.V F.T) x.shape x.names key) < 0 => ?_) (fun hc2 => ?_)
 ·refine sr ?_
  refine oV (.agg #[.int .u64 0, .int .u64 0, .int .i64 0]) ?_
  refine L (st [.int .u64 0, .int .u64 0, .int .i64 0] ?_)
  refine os 1 ?_
  refine nt ?_
  refine Qi (Qm ?_)
  refine body_endC [.agg #[.int .u64 0, .int .u64 0, .int .i64 0], .bool false] (fun _ => (.cons ⟨b1, 0, rfl, .inl ⟨[.int .u64 0, .int .u64 0, .int .i64 0], by kernel_rfl, (Qb (Cell.own Qe rfl) (Qb (Cell.own Qe rfl) (Qb (Cell.own Qe rfl) Qo))), rfl⟩⟩ (.cons rfl .nil))) ?_
  exact ⟨(), HeapV.own, by unfold getO; rw [if_pos (by omega)]; rfl⟩
 have hpl := placeO_lt hI (key := key) (by omega)
 refine Ql (Qj ?_)
 refine sr ?_
 refine os 3 ?_
 refine L (ld ?_ (hc := Gs.cell hH.row (fun e he => (Qc (mem_h he))) (Qh ObjL.len hx (j := 5) (by decide) rfl)))
 refine os 1 ?_
 refine L (ixg (placeO (TreeV.abs H.V F.T) x.shape x.names key) (((placeO (TreeV.abs H.V F.T) x.shape x.names key).toNat) * 3) ((HeapV.ok.at hH hx).vs) Tryz.underlying99 ?_)
 obtain ⟨e1, he1⟩ : ∃ y_, x.vals[((placeO (TreeV.abs H.V F.T) x.shape x.names key).toNat)]? = some y_ := ⟨_, List.getElem?_eq_getElem (by omega)⟩
 refine L (ldr [.int .u64 e1.1, .int .u64 e1.2.1, .int .i64 e1.2.2] (Qb (Gs.cell (HeapV.ok.at hH hx).vs (fun e he => (Qc (Qa (mem_h ((ObjL.mvs hx) _ he))))) (Qh descCells_len he1 (j := 0) (by decide) rfl)) (Qb (Gs.cell (HeapV.ok.at hH hx).vs (fun e he => (Qc (Qa (mem_h ((ObjL.mvs hx) _ he))))) (Qh descCells_len he1 (j := 1) (by decide) rfl)) (Qb (Gs.cell (HeapV.ok.at hH hx).vs (fun e he => (Qc (Qa (mem_h ((ObjL.mvs hx) _ he))))) (Qh descCells_len he1 (j := 2) (by decide) rfl)) Qo))) ?_)
 refine L (st [.int .u64 e1.1, .int .u64 e1.2.1, .int .i64 e1.2.2] ?_)
 refine os 1 ?_
 refine kp [7, 21, 9, 14, 8, 6, 0, 1, 2] ?_
 refine nt ?_
 refine Qi ?_
 refine body_endC [.agg #[.int .u64 e1.1, .int .u64 e1.2.1, .int .i64 e1.2.2], .bool true] (fun _ => (.cons ⟨b1, 0, rfl, .inl ⟨[.int .u64 e1.1, .int .u64 e1.2.1, .int .i64 e1.2.2], by kernel_rfl, (Qb (Cell.own Qe rfl) (Qb (Cell.own Qe rfl) (Qb (Cell.own Qe rfl) Qo))), rfl⟩⟩ (.cons rfl .nil))) ?_
 exact ⟨(), HeapV.own, by unfold getO; rw [if_neg (by omega), he1]; rfl⟩

end Go.Proofs.YthflblophelioaaGreatDoor
namespace Go.Proofs.YthflblophelioaaGreatDoor
open Go.Sl

theorem words_Clone {W0 : World} {σ : Qp} {l : List Int} {A : Option Addr} {c : Nat} (hs : Src W0 σ A (l.map encU)) (hr : l.length ≤ 1099511627776) : SC Tryz.prog W0 119 #[.slice A l.length c] σ (Ret (fun s : Gs => s.ent 33 1 (l.map encU) ++ (σ ++ [])) (fun v s => v = s.val l.length ∧ s.ok 1 l.length (l.map encU))) := by
 cases A with
 | none =>
   obtain rfl : l = [] := by
     rcases hs with h | ⟨b, o, e, _⟩
     · exact List.eq_nil_of_length_eq_zero (by simpa using h)
     · cases e
   refine SC_body (fn := Tryz.f119) (n := 8) Tryz.func119 rfl (by kernel_rfl) (ρ := [(0, .slice none (([] : List Int).length) c)]) rfl ?_
   refine SW_sig (σ ++ ([])) (by simp only [List.append_nil, List.append_assoc]) ?_
   refine sr ?_
   refine os 1 ?_
   refine nq ?_
   refine sr ?_
   refine os 1 ?_
   refine oV (.bool true) ?_
   refine nt ?_
   refine ct ?_
   refine sr ?_
   refine os 1 ?_
   refine nt ?_
   refine Qi (Qm ?_)
   refine Qg (.slice none 0 0) (fun _ => rfl) ?_
   exact ⟨.nil, Own.of_perm (by simp [Gs.ent]), rfl, ⟨rfl, rfl⟩⟩
 | some a =>
   refine SC_body (fn := Tryz.f119) (n := 8) Tryz.func119 rfl (by kernel_rfl) (ρ := [(0, .slice (some a) l.length c)]) rfl ?_
   refine SW_sig (σ ++ ([])) (by simp only [List.append_nil, List.append_assoc]) ?_
   refine sr ?_
   refine os 1 ?_
   refine nq ?_
   refine sr ?_
   refine os 1 ?_
   refine oV (.bool false) ?_
   refine nt ?_
   refine cf ?_
   refine Ql (Qj ?_)
   refine sr ?_
   refine L (nws 33 0 0 [] ?_)
   intro b1
   refine os 1 ?_
   refine SL_sig ((Gs.ent 33 1 (Gs.at b1 0) (([] : List Int).map encU)) ++ (σ ++ ([]))) rfl ?_
   refine L (O_append (size := 1) (bytes := 8) (z := .int .u64 0) (Gs.at b1 0) 0 l.length (some a) c (([] : List Int).map encU) (l.map encU) ((([] : List Int) ++ l).map encU) (map_app _ _) (fun _ => rfl) (fun _ => rfl) Tryz.underlying100 (by kernel_rfl) rfl (by decide) ⟨Nat.le_refl _, by unfold maxLen; omega, rfl⟩ (by simp) (Src.elems (hs.mono (fun e he => (Qa (mem_h he)))) (by simp)) (map_one (fun _ => rfl) _) (by omega) (by decide) rfl ?_)
   intro s2 hks2 hfs2
   rw [show 0 + l.length = (([] : List Int) ++ l).length from by simp]
   rw [show 0 + l.length = (([] : List Int) ++ l).length from by simp] at hks2
   have hls2 : (([] : List Int) ++ l).length = ([] : List Int).length + l.length := by simp
   refine os 1 ?_
   refine kp [2, 4, 0] ?_
   refine nt ?_
   refine Qi ?_
   refine Qg (Gs.val s2 ((([] : List Int) ++ l).length)) (fun _ => rfl) ?_
   exact ⟨s2, (ow (S := ((Gs.ent 33 1 s2 ((([] : List Int) ++ l).map encU)) ++ (σ ++ ([]))))), rfl, hks2⟩

end Go.Proofs.YthflblophelioaaGreatDoor
namespace Go.Proofs.YthflblophelioaaGreatDoor
open Go.Sl
theorem flat_drop {α : Type} {f : α → List Value} {k : Nat} (hk : ∀ a, (f a).length = k) (l : List α) (i : Nat) : (l.flatMap f).drop (i * k) = (l.drop i).flatMap f := by
 by_cases h : i ≤ l.length
 · have e : l.flatMap f = (l.take i).flatMap f ++ (l.drop i).flatMap f := by rw [← List.flatMap_append, List.take_append_drop]
   rw [e, List.drop_left' (by rw [flat_len hk, List.length_take]; congr 1; omega)]
 · have e1 : l.drop i = [] := List.drop_eq_nil_of_le (by omega)
   have e2 : (l.flatMap f).drop (i * k) = [] := List.drop_eq_nil_of_le (by rw [flat_len hk]; exact Nat.mul_le_mul_right _ (by omega))
   rw [e1, e2]; rfl
theorem del_src {W0 : World} {α : Type} {f : α → List Value} {k : Nat} (hk : ∀ a, (f a).length = k) {l : List α} {i g c N : Nat} {e : TypeId} {τ : Qp} (hi : i < l.length) (hc : l.length ≤ c) :
   l.length - (i + 1) = 0 ∨ ∃ b off, tailA g c (i + 1) k = some ⟨b, off, none⟩ ∧ Cells W0 ((g, .cells e N (l.flatMap f)) :: τ) b off ((l.drop (i + 1)).flatMap f) := by
 by_cases h : l.length - (i + 1) = 0
 · exact .inl h
 · refine .inr ⟨g, (i + 1) * k, by unfold tailA; rw [if_neg (by omega)], Cells.own (N := N) (e := e) (cs := l.flatMap f) Qe ?_⟩
   rw [flat_drop hk, List.take_length]
theorem del_fit {α : Type} {f : α → List Value} {k : Nat} (hk : ∀ a, (f a).length = k) {l : List α} {i : Nat} (hi : i < l.length) : i * k + ((l.drop (i + 1)).flatMap f).length ≤ (l.flatMap f).length := by
 rw [flat_len hk, flat_len hk, List.length_drop, ← Nat.add_mul]
 exact Nat.mul_le_mul_right _ (by omega)
theorem lay_tail {a tl zs : List Value} {off : Nat} (h : a.length = off) (hz : zs.length = tl.length) : lay (a ++ tl) off zs = a ++ zs := by
 unfold lay
 rw [List.take_left' h, List.append_assoc, List.drop_eq_nil_of_le (by simp; omega), List.append_nil]
theorem erase_len {α : Type} {f : α → List Value} {k : Nat} (hk : ∀ a, (f a).length = k) {l : List α} {i : Nat} (hi : i < l.length) : ((l.eraseIdx i).flatMap f).length = (l.length - 1) * k := by
 rw [flat_len hk, List.length_eraseIdx, if_pos hi]
structure ObjS where
  kind : Int
  proto : Int
  shut : Bool
  names : List ByteArray
  descs : List DescP
  elems : List Int
  inner : List Int
def pubO (t : TreeP) (x : ObjL) : ObjS := ⟨x.kind, x.proto, x.shut, keysOf t x, x.vals, x.elems, x.inner⟩
def HeapV.pub (H : HeapV) (F : HeapF) : List ObjS := H.objs.map (pubO (H.V.abs F.T))
abbrev txtW (i : Nat) : Int := 65532 * 281474976710656 + i
abbrev objW (i : Nat) : Int := 65530 * 281474976710656 + i
structure Known (texts : List ByteArray) (known : List (ByteArray × Int)) : Prop where
  to : ∀ s w, mget known s = some w → ∃ i, texts[i]? = some s ∧ w = txtW i
  back : ∀ (i : Nat) s, texts[i]? = some s → mget known s = some (txtW i)
structure HInv (k : Nat) (H : HeapV) (F : HeapF) : Prop where
  ok : H.ok F
  tree : TInv (H.V.abs F.T)
  objs : ∀ x ∈ H.objs, OInv (H.V.abs F.T) x
  bud : H.bud k
  inner : ∀ x ∈ H.objs, x.inner.length ≤ 1048576
  known : Known H.texts H.known
variable {k : Nat} {H : HeapV} {F : HeapF} {n : Nat} {x : ObjL} {W0 : World}
theorem HInv.obj (h : HInv k H F) (hx : H.objs[n]? = some x) : OInv (H.V.abs F.T) x := h.objs x (List.mem_of_getElem? hx)
theorem HInv.in' (h : HInv k H F) (hx : H.objs[n]? = some x) : x.inner.length ≤ 1048576 := h.inner x (List.mem_of_getElem? hx)
theorem HeapV.bud.mono {k' : Nat} (h : H.bud k) (hk : k ≤ k') : H.bud k' :=
 ⟨fun x hx => Nat.le_trans (h.vals x hx) hk, Nat.le_trans h.cl (Nat.mul_le_mul_right _ hk), h.abv, h.each⟩
theorem HInv.mono {k' : Nat} (h : HInv k H F) (hk : k ≤ k') : HInv k' H F := ⟨h.ok, h.tree, h.objs, h.bud.mono hk, h.inner, h.known⟩
theorem HeapV.pub_at (F : HeapF) (hx : H.objs[n]? = some x) : (H.pub F)[n]? = some (pubO (H.V.abs F.T) x) := by simp [HeapV.pub, hx]
theorem HeapV.pub_len (H : HeapV) (F : HeapF) : (H.pub F).length = H.objs.length := by simp [HeapV.pub]
theorem HInv.put (h : HInv k H F) (hx : H.objs[n]? = some x) {x' : ObjL} (hok : x'.ok) (hs : x'.elems.length ≤ 4096) (ho : OInv (H.V.abs F.T) x') (hv : x'.vals.length ≤ k) (hi : x'.inner.length ≤ 1048576) :
   HInv k (H.put n x') F ∧ (H.put n x').pub F = (H.pub F).set n (pubO (H.V.abs F.T) x') := by
 refine ⟨⟨h.ok.put hx hok hs, h.tree, fun y hy => ?_, ⟨fun y hy => ?_, h.bud.cl, h.bud.abv, h.bud.each⟩, fun y hy => ?_, h.known⟩, ?_⟩
 · rcases List.mem_or_eq_of_mem_set hy with h1 | rfl
   · exact h.objs y h1
   · exact ho
 · rcases List.mem_or_eq_of_mem_set hy with h1 | rfl
   · exact h.bud.vals y h1
   · exact hv
 · rcases List.mem_or_eq_of_mem_set hy with h1 | rfl
   · exact h.inner y h1
   · exact hi
 · simp only [HeapV.pub, List.map_set]
theorem Chg.same {cell : Int} {l l' : List CellL} (h : Chg cell l l') : l'.length = l.length ∧ (l'.map CellL.abs).map (·.2) = (l.map CellL.abs).map (·.2) := by
 unfold Chg at h
 split at h
 · have := h.shape
   exact ⟨by simpa using congrArg List.length this, this⟩
 · subst h; exact ⟨rfl, rfl⟩
theorem Chg.bud {cell : Int} {l' : List CellL} (h : Chg cell H.cl l') (hb : H.bud k) : l'.length ≤ k * 65537 ∧ abv (l'.map CellL.abs) ≤ l'.length ∧ ∀ c ∈ l', c.above.length ≤ l'.length := by
 obtain ⟨h1, h2⟩ := h.same
 refine ⟨by rw [h1]; exact hb.cl, ?_, fun c hc => ?_⟩
 · rw [h1]
   have : abv (l'.map CellL.abs) = abv (H.cl.map CellL.abs) := by
     unfold Proofs.YthflblophelioaaGreatDoor.abv
     have e : ∀ m : List PCell, (m.map (·.2.length)).sum = ((m.map (·.2)).map List.length).sum := fun m => by rw [List.map_map]; rfl
     rw [e, e, h2]
   rw [this]; exact hb.abv
 · rw [h1]
   have hm : c.above ∈ (l'.map CellL.abs).map (·.2) := by
     simp only [List.map_map, List.mem_map]; exact ⟨c, hc, rfl⟩
   rw [h2] at hm
   simp only [List.map_map, List.mem_map] at hm
   obtain ⟨c', hc', e⟩ := hm
   have := hb.each c' hc'
   simp only [Function.comp, CellL.abs] at e
   rw [← e]; exact this
theorem HInv.upd (h : HInv k H F) (hx : H.objs[n]? = some x) {x' : ObjL} {V : TreeV} {cl : List CellL} {br : Int} {k' : Nat} (hk : k ≤ k') (hok : (H.upd n x' V cl br).ok F) (ht : TInv (V.abs F.T)) (he : Ext (H.V.abs F.T) (V.abs F.T))
   (ho : OInv (V.abs F.T) x') (hv : x'.vals.length ≤ k') (hi : x'.inner.length ≤ 1048576) (hc : Chg x.cell H.cl cl) :
   HInv k' (H.upd n x' V cl br) F ∧ (H.upd n x' V cl br).pub F = (H.pub F).set n (pubO (V.abs F.T) x') := by
 obtain ⟨b1, b2, b3⟩ := hc.bud (h.bud.mono hk)
 refine ⟨⟨hok, ht, fun y hy => ?_, ⟨fun y hy => ?_, b1, b2, b3⟩, fun y hy => ?_, h.known⟩, ?_⟩
 · rcases List.mem_or_eq_of_mem_set hy with h1 | rfl
   · exact ((h.objs y h1).ext he).1
   · exact ho
 · rcases List.mem_or_eq_of_mem_set hy with h1 | rfl
   · exact Nat.le_trans (h.bud.vals y h1) hk
   · exact hv
 · rcases List.mem_or_eq_of_mem_set hy with h1 | rfl
   · exact h.inner y h1
   · exact hi
 · simp only [HeapV.pub, List.map_set]
   congr 1
   refine List.map_congr_left fun y hy => ?_
   unfold pubO
   rw [((h.objs y hy).ext he).2]
theorem SC.ret {P : Program} {f : FuncId} {args : Array Value} {S : Qp} {X Y : Type} {T : X → Qp} {G : Value → X → Prop} {T' : Y → Qp} {G' : Value → Y → Prop} (hc : SC P W0 f args S (Ret T G))
   (g : ∀ v x, G v x → ∃ y, T' y = T x ∧ G' v y) : SC P W0 f args S (Ret T' G') :=
 hc.mono fun v σ ⟨x, ho, hg⟩ => by obtain ⟨y, e, h'⟩ := g v x hg; exact ⟨y, e ▸ ho, h'⟩

structure SameE (x x' : ObjL) (l : List Int) : Prop where
  kind : x'.kind = x.kind
  proto : x'.proto = x.proto
  shut : x'.shut = x.shut
  shape : x'.shape = x.shape
  ns : x'.ns = x.ns
  names : x'.names = x.names
  vs : x'.vs = x.vs
  vals : x'.vals = x.vals
  elems : x'.elems = l
  is : x'.is = x.is
  inner : x'.inner = x.inner
  cell : x'.cell = if 0 ≤ x.cell then -1 else x.cell
theorem hi_New (most : Int) : SC Tryz.prog W0 11 #[.int .i64 most] [] (Ret (fun r : HeapV × HeapF => r.1.ent r.2) (fun v r => v = .pointer (some ⟨r.2.p, 0, none⟩) ∧ HInv 0 r.1 r.2 ∧ r.1.objs = [] ∧ r.1.texts = [] ∧ r.1.V = ⟨.nil, [], []⟩ ∧ r.1.cl = [] ∧ r.1.br = 0 ∧
   r.2.T.most = (if 0 > (if 256 < most then 256 else most) then 0 else (if 256 < most then 256 else most)))) := by
 refine SC.ret (heap_New most) fun v r ⟨h1, h2, h3⟩ => ⟨(_, r.1), rfl, h1, ⟨⟨⟨rfl, rfl⟩, fun x hx => (nomatch hx), ⟨rfl, rfl⟩, ⟨⟨rfl, rfl⟩, fun x hx => (nomatch hx), fun i s hs => (by simp at hs), ?_, ?_⟩, h3, Nat.zero_le _, Nat.zero_le _, fun x hx => (nomatch hx)⟩, ?_, fun x hx => (nomatch hx), ⟨fun x hx => (nomatch hx), Nat.zero_le _, Nat.zero_le _, fun x hx => (nomatch hx)⟩, fun x hx => (nomatch hx), ⟨fun s w h => (by simp [mget] at h), fun i s h => (by simp at h)⟩⟩, rfl, rfl, rfl, rfl, rfl, h2⟩
 · rw [h2]; split <;> split <;> omega
 · show ((0 : Nat) : Int) ≤ r.1.T.most
   rw [h2]; split <;> split <;> omega
 · exact TInv.nil _
theorem newObj_inv {t t' : TreeP} {kind proto m : Int} {ok : Bool} (ht : TInv t) (hr : rootP t (rootKey proto kind) = (t', m, ok)) : TInv t' ∧ Ext t t' ∧ OInv t' (newObj kind proto (if ok = true then m else -1)) ∧ keysOf t' (newObj kind proto (if ok = true then m else -1)) = [] := by
 have g := rootP_got ht (rootKey proto kind)
 rw [hr] at g
 simp only [] at g
 have hk : keysOf t' (newObj kind proto (if ok = true then m else -1)) = [] ∧ (0 ≤ (if ok = true then m else -1) → ∃ s, shapeAt t' (if ok = true then m else -1) = some s ∧ s.proto = rootKey proto kind ∧ s.l = []) := by
   by_cases hok : ok = true
   · rw [if_pos hok]
     obtain ⟨s, h1, h2, h3⟩ := g.it hok
     have h0 := (shapeAt_iff.1 h1).1
     refine ⟨?_, fun _ => ⟨s, h1, h2, h3⟩⟩
     unfold keysOf
     rw [if_neg (by simp only []; omega), keysP_at h1, h3]; rfl
   · rw [if_neg hok]
     refine ⟨?_, fun h => absurd h (by decide)⟩
     unfold keysOf
     rw [if_pos (show (newObj kind proto (-1)).shape < 0 from by show (-1 : Int) < 0; decide)]
 refine ⟨g.inv, g.ext, ⟨fun h0 => ?_, by rw [hk.1]; rfl, by rw [hk.1]; exact List.nodup_nil, fun _ => rfl⟩, hk.1⟩
 obtain ⟨s, h1, h2, h3⟩ := hk.2 h0
 exact ⟨s, h1, h2, by rw [h3]; rfl⟩
theorem hi_Make (h : HInv k H F) {kind proto : Int} (hmay : mayMake H kind proto) : SC Tryz.prog W0 31 #[.pointer (some ⟨F.p, 0, none⟩), .int .i64 kind, .int .u64 proto] (H.ent F)
   (Ret (fun r : Gs × Int × TreeV => (H.add r.1 (newObj kind proto r.2.1) r.2.2).ent F) (fun v r => v = .tuple #[.int .u64 (objW H.objs.length), .bool true] ∧ HInv k (H.add r.1 (newObj kind proto r.2.1) r.2.2) F ∧
     (H.add r.1 (newObj kind proto r.2.1) r.2.2).pub F = H.pub F ++ [⟨kind, proto, false, [], [], [], []⟩] ∧ ∃ m ok, rootP (H.V.abs F.T) (rootKey proto kind) = (r.2.2.abs F.T, m, ok) ∧ r.2.1 = if ok = true then m else -1)) := by
 refine SC.ret (heap_Make_yes h.ok hmay) fun v r hg => ?_
 obtain ⟨h1, h2, m, ok, h3, h4⟩ := hg
 obtain ⟨g1, g2, g3, g4⟩ := newObj_inv h.tree h3
 rw [← h4] at g3 g4
 refine ⟨r, rfl, h1, ⟨h2, g1, fun y hy => ?_, ⟨fun y hy => ?_, h.bud.cl, h.bud.abv, h.bud.each⟩, fun y hy => ?_, h.known⟩, ?_, m, ok, h3, h4⟩
 · rcases List.mem_append.1 hy with q | q
   · exact ((h.objs y q).ext g2).1
   · rw [List.mem_singleton.1 q]; exact g3
 · rcases List.mem_append.1 hy with q | q
   · exact h.bud.vals y q
   · rw [List.mem_singleton.1 q]; exact Nat.zero_le _
 · rcases List.mem_append.1 hy with q | q
   · exact h.inner y q
   · rw [List.mem_singleton.1 q]; exact Nat.zero_le _
 · simp only [HeapV.pub, List.map_append, List.map_cons, List.map_nil]
   congr 1
   · refine List.map_congr_left fun y hy => ?_
     unfold pubO
     rw [((h.objs y hy).ext g2).2]
   · unfold pubO
     rw [g4]
theorem objAt_mk {n len : Nat} (h : n < len) (hl : len ≤ 65536) : objAt (objW n) len = some n := by
 unfold objAt
 rw [show tagOf (objW n) 65530 = some n from tagOf_mk (by decide) (by omega)]
 simp only [if_pos h]
theorem pub_obj {o : ObjS} (ho : (H.pub F)[n]? = some o) : ∃ x, H.objs[n]? = some x ∧ pubO (H.V.abs F.T) x = o := by
 simp only [HeapV.pub, List.getElem?_map, Option.map_eq_some_iff] at ho
 exact ho
theorem hp_New (most : Int) : SC Tryz.prog W0 11 #[.int .i64 most] [] (Ret (fun r : HeapV × HeapF => r.1.ent r.2) (fun v r => v = .pointer (some ⟨r.2.p, 0, none⟩) ∧ HInv 0 r.1 r.2 ∧ r.1.pub r.2 = [] ∧ r.1.texts = [] ∧
   r.1.V.abs r.2.T = ⟨if 0 > (if 256 < most then 256 else most) then 0 else (if 256 < most then 256 else most), [], []⟩ ∧ r.1.objs = [] ∧ r.1.cl = [])) := by
 refine SC.ret (hi_New most) fun v r ⟨h1, h2, h3, h4, h5, h6, h7, h8⟩ => ⟨r, rfl, h1, h2, by rw [HeapV.pub, h3]; rfl, h4, ?_, h3, h6⟩
 rw [h5, TreeV.abs, h8]; rfl
def mayP (l : List ObjS) (kind proto : Int) : Prop := (0 ≤ kind ∧ kind ≤ 6) ∧ (proto = 18445336698825998337 ∨ objAt proto l.length ≠ none) ∧ l.length < 65536
theorem mayP_iff {kind proto : Int} : mayP (H.pub F) kind proto ↔ mayMake H kind proto := by unfold mayP mayMake; rw [HeapV.pub_len]
end Go.Proofs.YthflblophelioaaGreatDoor
