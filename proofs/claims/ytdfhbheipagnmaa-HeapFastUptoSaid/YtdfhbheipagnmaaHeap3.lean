/-
  What functions of heap and word do to the memory they own, step by step: each theorem is one function's contract. Conditions: those that each theorem names.
-/
import Derived.Test.YtdfhbheipagnmaaHeap2
set_option linter.unusedVariables false
set_option linter.unusedSimpArgs false
set_option maxRecDepth 100000
set_option maxHeartbeats 4000000
namespace Go.Proofs.Ytdfhbheipagnmaa
open Go.Sl

theorem heap_step_ok {W0 : World} {F : HeapF} {H : HeapV} (hH : H.ok F) {n : Nat} {x : ObjL} (hx : H.objs[n]? = some x) (m : Int) {ok : Bool} (hok : ok = true) : SC Try.prog W0 47 #[.pointer (some ⟨F.p, 0, none⟩), .pointer (some ⟨Gs.blk H.s, n * 9, none⟩), .int .i64 m, .bool ok] (HeapV.ent H F) (Ret (fun _ : Unit => (H.put n (x.withShape m)).ent F) (fun v _ => v = .tuple #[])) := by
  have hnl := (List.getElem?_eq_some_iff.1 hx).1
  refine SC_body (fn := Try.f47) (n := 17) Try.func47 rfl (by kernel_rfl) (ρ := [(0, pt F.p 0), (1, pt (Gs.blk H.s) (n * 9)), (2, .int .i64 m), (3, .bool ok)]) rfl ?_
  refine SW_sig ((F.p, .cells 83 6 [Gs.val H.s H.objs.length, Gs.val H.ts H.texts.length, .map (some F.kb), pt F.T.p 0, pt F.cp 0, .int .i64 H.br]) :: ((Gs.ent 89 9 H.s (H.objs.flatMap ObjL.cells)) ++ ((H.objs.flatMap ObjL.ent) ++ ((Gs.ent 9 1 H.ts (H.texts.map encS)) ++ ((F.kb, .map (kvs encS encU H.known)) :: ((TreeV.ent H.V F.T) ++ ((CellsL.ent (CellsL.mk F.cp H.cs H.cl)) ++ ([])))))))) rfl ?_
  refine SW_seq ?_
  refine SW_seq ?_
  refine SW_region ?_
  refine SL_s2 2 9 (.bool (!ok)) 8 (.bool ok) (by intro δ w; kernel_rfl) ?_
  refine SL_nil (n_then ?_)
  refine SW_false (fun _ => (congrArg Value.bool (show (!ok) = false from (by simp [hok])))) ?_
  refine SW_skip (n_then ?_)
  refine SW_region ?_
  refine SL_s4 4 16 (pt (Gs.blk H.s) (n * 9 + 3)) 15 (pt (Gs.blk H.s) (n * 9)) 14 (.int .i64 m) 13 (pt (Gs.blk H.s) (n * 9)) (by intro δ w; kernel_rfl) ?_
  have hok1 := Gs.ok.relen (ys := ((H.objs.set n (ObjL.mk x.kind x.proto x.shut m x.ns x.names x.vs x.vals x.es x.elems x.is x.inner x.cell)).flatMap ObjL.cells)) hH.row (by simp [flat_len ObjL.len])
  refine SL_perm _ (perm_cc perm_cz) ?_
  refine SL_cons ⟨rfl, fun _ => rfl⟩ (O_storeG (ys := ((H.objs.set n (ObjL.mk x.kind x.proto x.shut m x.ns x.names x.vs x.vals x.es x.elems x.is x.inner x.cell)).flatMap ObjL.cells)) H.s (n * 9 + 3) (.int .i64 m) [.int .i64 m] (Gs.ok.ne hH.row (by first | omega | (simp; omega))) (fun _ => rfl) (fun _ => rfl) rfl (by kernel_rfl) rfl (by rw [flat_len ObjL.len]; simp; omega) (row_lay (j := 3) ObjL.len (ObjL.mk x.kind x.proto x.shut m x.ns x.names x.vs x.vals x.es x.elems x.is x.inner x.cell) hx (Nat.le_of_ble_eq_true rfl) rfl) rfl ?_)
  refine SL_nil ?_
  refine body_end' (.tuple #[]) (fun _ => rfl) ?_
  refine ⟨(), ?_, rfl⟩
  refine Own.trans (Own.of_perm (S := ((F.p, .cells 83 6 [Gs.val H.s H.objs.length, Gs.val H.ts H.texts.length, .map (some F.kb), pt F.T.p 0, pt F.cp 0, .int .i64 H.br]) :: ((Gs.ent 89 9 H.s ((H.objs.set n (ObjL.mk x.kind x.proto x.shut m x.ns x.names x.vs x.vals x.es x.elems x.is x.inner x.cell)).flatMap ObjL.cells)) ++ ((H.objs.flatMap ObjL.ent) ++ ((Gs.ent 9 1 H.ts (H.texts.map encS)) ++ ((F.kb, .map (kvs encS encU H.known)) :: ((TreeV.ent H.V F.T) ++ ((CellsL.ent (CellsL.mk F.cp H.cs H.cl)) ++ ([]))))))))) (List.Perm.trans (perm_a perm_z) (List.Perm.cons _ (List.Perm.refl _)))) ?_
  exact Own.of_perm (List.Perm.of_eq (by simp only [HeapV.ent, HeapV.head, HeapV.row, List.length_set, flat_same (f := ObjL.ent) (x' := x.withShape m) hx rfl]))

theorem heap_step_no {W0 : World} {F : HeapF} {H : HeapV} (hH : H.ok F) {n : Nat} {x : ObjL} (hx : H.objs[n]? = some x) (m : Int) {ok : Bool} (hok : ok = false) (hs : 0 ≤ x.shape) : SC Try.prog W0 47 #[.pointer (some ⟨F.p, 0, none⟩), .pointer (some ⟨Gs.blk H.s, n * 9, none⟩), .int .i64 m, .bool ok] (HeapV.ent H F) (Ret (fun g : Gs => (H.put n (x.loosed g (keysP (H.V.abs F.T) x.shape))).ent F) (fun v g => v = .tuple #[] ∧ g.ok 1 (keysP (H.V.abs F.T) x.shape).length ((keysP (H.V.abs F.T) x.shape).map encS))) := by
  have hnl := (List.getElem?_eq_some_iff.1 hx).1
  refine SC_body (fn := Try.f47) (n := 17) Try.func47 rfl (by kernel_rfl) (ρ := [(0, pt F.p 0), (1, pt (Gs.blk H.s) (n * 9)), (2, .int .i64 m), (3, .bool ok)]) rfl ?_
  refine SW_sig ((F.p, .cells 83 6 [Gs.val H.s H.objs.length, Gs.val H.ts H.texts.length, .map (some F.kb), pt F.T.p 0, pt F.cp 0, .int .i64 H.br]) :: ((Gs.ent 89 9 H.s (H.objs.flatMap ObjL.cells)) ++ ((H.objs.flatMap ObjL.ent) ++ ((Gs.ent 9 1 H.ts (H.texts.map encS)) ++ ((F.kb, .map (kvs encS encU H.known)) :: ((TreeV.ent H.V F.T) ++ ((CellsL.ent (CellsL.mk F.cp H.cs H.cl)) ++ ([])))))))) rfl ?_
  refine SW_seq ?_
  refine SW_seq ?_
  refine SW_region ?_
  refine SL_s2 2 9 (.bool (!ok)) 8 (.bool ok) (by intro δ w; kernel_rfl) ?_
  refine SL_nil (n_then ?_)
  refine SW_true (fun _ => (congrArg Value.bool (show (!ok) = true from (by simp [hok])))) ?_
  refine SW_seq ?_
  refine SW_region ?_
  refine SL_s2 2 11 (pt (Gs.blk H.s) (n * 9)) 10 (pt F.p 0) (by intro δ w; kernel_rfl) ?_
  refine SL_perm _ (perm_cc (perm_ca (perm_ca (perm_ca (perm_cc (perm_ca perm_cz)))))) ?_
  refine SL_perm _ (perm_ca (perm_cc (perm_ca (perm_ca (perm_ca (perm_cc perm_cz)))))) ?_
  refine SL_perm _ (perm_a (perm_a (perm_c (perm_a (perm_a (perm_a perm_z)))))) ?_
  refine SL_perm _ (perm_cc (perm_ca (perm_ca (perm_cc (perm_ca (perm_ca perm_cz)))))) ?_
  refine SL_perm _ (perm_ca (perm_cc (perm_ca (perm_ca (perm_cc (perm_ca perm_cz)))))) ?_
  refine SL_perm _ (perm_ca (perm_ca (perm_cc (perm_ca (perm_ca (perm_cc perm_cz)))))) ?_
  refine SL_perm _ (perm_a (perm_a (perm_a (perm_c (perm_a (perm_a perm_z)))))) ?_
  refine SL_sig (((F.p, .cells 83 6 [Gs.val H.s H.objs.length, Gs.val H.ts H.texts.length, .map (some F.kb), pt F.T.p 0, pt F.cp 0, .int .i64 H.br]) :: ((Gs.ent 89 9 H.s (H.objs.flatMap ObjL.cells)) ++ ((H.objs.flatMap ObjL.ent) ++ ((Gs.ent 9 1 H.ts (H.texts.map encS)) ++ ((F.kb, .map (kvs encS encU H.known)) :: ((TreeV.ent H.V F.T) ++ ((CellsL.ent (CellsL.mk F.cp H.cs H.cl)) ++ ([])))))))) ++ ([])) (by simp only [List.cons_append, List.append_assoc, List.nil_append, List.append_nil]) ?_
  refine SL_cons ⟨rfl, fun _ => rfl⟩ (O_call 48 #[pt F.p 0, pt (Gs.blk H.s) (n * 9)] rfl (by intro δ w; kernel_rfl) ((heap_loose_yes hH (n := n) hx hs).use _) ?_)
  rintro _ σ1 ⟨kg1, hσ1, rfl, hkg1⟩
  obtain rfl : σ1 = ((F.p, .cells 83 6 [Gs.val H.s ((H.objs.set n (ObjL.loosed x kg1 (keysP (TreeV.abs H.V F.T) x.shape))).length), Gs.val H.ts H.texts.length, .map (some F.kb), pt F.T.p 0, pt F.cp 0, .int .i64 H.br]) :: ((Gs.ent 89 9 H.s ((H.objs.set n (ObjL.loosed x kg1 (keysP (TreeV.abs H.V F.T) x.shape))).flatMap ObjL.cells)) ++ (((H.objs.set n (ObjL.loosed x kg1 (keysP (TreeV.abs H.V F.T) x.shape))).flatMap ObjL.ent) ++ ((Gs.ent 9 1 H.ts (H.texts.map encS)) ++ ((F.kb, .map (kvs encS encU H.known)) :: ((TreeV.ent H.V F.T) ++ ((CellsL.ent (CellsL.mk F.cp H.cs H.cl)) ++ ([])))))))) := hσ1.trans (by simp only [HeapV.ent, List.cons_append, List.append_assoc, List.nil_append, List.append_nil])
  refine SL_nil (n_then ?_)
  refine SW_ret (r_then ?_)
  refine body_end (.tuple #[]) (fun _ => rfl) ?_
  exact ⟨kg1, (Own.of_perm (S := ((F.p, .cells 83 6 [Gs.val H.s ((H.objs.set n (ObjL.loosed x kg1 (keysP (TreeV.abs H.V F.T) x.shape))).length), Gs.val H.ts H.texts.length, .map (some F.kb), pt F.T.p 0, pt F.cp 0, .int .i64 H.br]) :: ((Gs.ent 89 9 H.s ((H.objs.set n (ObjL.loosed x kg1 (keysP (TreeV.abs H.V F.T) x.shape))).flatMap ObjL.cells)) ++ (((H.objs.set n (ObjL.loosed x kg1 (keysP (TreeV.abs H.V F.T) x.shape))).flatMap ObjL.ent) ++ ((Gs.ent 9 1 H.ts (H.texts.map encS)) ++ ((F.kb, .map (kvs encS encU H.known)) :: ((TreeV.ent H.V F.T) ++ ((CellsL.ent (CellsL.mk F.cp H.cs H.cl)) ++ ([]))))))))) (List.Perm.refl _)), rfl, hkg1⟩

theorem heap_root {W0 : World} {F : HeapF} {H : HeapV} (hH : H.ok F) (kind proto : Int) : SC Try.prog W0 39 #[.pointer (some ⟨F.p, 0, none⟩), .int .i64 kind, .int .u64 proto] (HeapV.ent H F) (Ret (fun V' : TreeV => (H.tree V').ent F) (fun v V' => V'.ok F.T ∧ ∃ m ok, v = .int .i64 (if ok = true then m else -1) ∧ rootP (H.V.abs F.T) (rootKey proto kind) = (V'.abs F.T, m, ok))) := by
  refine SC_body (fn := Try.f39) (n := 25) Try.func39 rfl (by kernel_rfl) (ρ := [(0, pt F.p 0), (1, .int .i64 kind), (2, .int .u64 proto)]) rfl ?_
  refine SW_sig ((F.p, .cells 83 6 [Gs.val H.s H.objs.length, Gs.val H.ts H.texts.length, .map (some F.kb), pt F.T.p 0, pt F.cp 0, .int .i64 H.br]) :: ((Gs.ent 89 9 H.s (H.objs.flatMap ObjL.cells)) ++ ((H.objs.flatMap ObjL.ent) ++ ((Gs.ent 9 1 H.ts (H.texts.map encS)) ++ ((F.kb, .map (kvs encS encU H.known)) :: ((TreeV.ent H.V F.T) ++ ((CellsL.ent (CellsL.mk F.cp H.cs H.cl)) ++ ([])))))))) rfl ?_
  refine SW_seq ?_
  refine SW_region ?_
  refine SL_s1 1 6 (.int .i64 0) (by intro δ w; kernel_rfl) ?_
  refine SL_nil (n_then ?_)
  refine SW_seq ?_
  refine SW_region ?_
  refine SL_s3 3 12 (pt F.p 3) 11 (pt F.p 0) 10 (pt F.p 0) (by intro δ w; kernel_rfl) ?_
  refine SL_cons ⟨rfl, fun _ => rfl⟩ (O_load F.p 3 (pt F.T.p 0) (fun _ => rfl) (by kernel_rfl) (Cell.own mem_z rfl) rfl ?_)
  refine SL_s5 5 18 (.int .u64 (IntKind.wrap .u64 ((BitVec.ofInt 64 (IntKind.wrap .u64 (proto * 8)) ||| BitVec.ofInt 64 (IntKind.wrap .u64 (kind))).toNat))) 17 (.int .u64 (IntKind.wrap .u64 (kind))) 16 (.int .i64 kind) 15 (.int .u64 (IntKind.wrap .u64 (proto * 8))) 14 (.int .u64 proto) (by intro δ w; kernel_rfl) ?_
  rw [show IntKind.wrap .u64 ((BitVec.ofInt 64 (IntKind.wrap .u64 (proto * 8)) ||| BitVec.ofInt 64 (IntKind.wrap .u64 (kind))).toNat) = rootKey proto kind from rfl]
  refine SL_perm _ (perm_cc (perm_ca (perm_ca (perm_ca (perm_cc perm_cz))))) ?_
  refine SL_cons ⟨rfl, fun _ => rfl⟩ (O_call 73 #[pt F.T.p 0, .int .u64 (rootKey proto kind)] rfl (by intro δ w; kernel_rfl) ((shapes_Root hH.tree (rootKey proto kind)).use _) ?_)
  rintro _ σ1 ⟨TV1, hσ1, hTV1, hkTV1, rTV1, okTV1, rfl, hrTV1⟩
  obtain rfl : σ1 = ((TreeV.ent TV1 F.T) ++ ((F.p, .cells 83 6 [Gs.val H.s H.objs.length, Gs.val H.ts H.texts.length, .map (some F.kb), pt F.T.p 0, pt F.cp 0, .int .i64 H.br]) :: ((Gs.ent 89 9 H.s (H.objs.flatMap ObjL.cells)) ++ ((H.objs.flatMap ObjL.ent) ++ ((Gs.ent 9 1 H.ts (H.texts.map encS)) ++ ((F.kb, .map (kvs encS encU H.known)) :: ((CellsL.ent (CellsL.mk F.cp H.cs H.cl)) ++ ([])))))))) := hσ1.trans (rfl)
  refine SL_segT 5 [(8, .bool okTV1), (7, .int .i64 rTV1), (6, .int .i64 0), (0, pt F.p 0), (1, .int .i64 kind), (2, .int .u64 proto)] (by intro δ w; kernel_rfl) ?_
  refine SL_nil (n_then ?_)
  refine SW_seq ?_
  refine SW_seq ?_
  refine SW_region ?_
  refine SL_s2 2 23 (.bool (!okTV1)) 22 (.bool okTV1) (by intro δ w; kernel_rfl) ?_
  refine SL_nil (n_then ?_)
  refine SW_cond (!okTV1) (fun _ => rfl) (fun hc1 => ?_) (fun hc1 => ?_)
  · skip
    replace hc1 := bnot_t hc1
    refine SW_seq ?_
    refine SW_region ?_
    refine SL_segT 1 [(6, .int .i64 (-1)), (23, .bool (!okTV1)), (8, .bool okTV1), (7, .int .i64 rTV1), (0, pt F.p 0), (1, .int .i64 kind), (2, .int .u64 proto)] (by intro δ w; kernel_rfl) ?_
    refine SL_nil (n_then ?_)
    refine SW_ret (r_then ?_)
    refine body_end (.int .i64 (-1)) (fun _ => rfl) ?_
    exact ⟨TV1, (Own.of_perm (S := ((F.p, .cells 83 6 [Gs.val H.s H.objs.length, Gs.val H.ts H.texts.length, .map (some F.kb), pt F.T.p 0, pt F.cp 0, .int .i64 H.br]) :: ((Gs.ent 89 9 H.s (H.objs.flatMap ObjL.cells)) ++ ((H.objs.flatMap ObjL.ent) ++ ((Gs.ent 9 1 H.ts (H.texts.map encS)) ++ ((F.kb, .map (kvs encS encU H.known)) :: ((TreeV.ent TV1 F.T) ++ ((CellsL.ent (CellsL.mk F.cp H.cs H.cl)) ++ ([]))))))))) (List.Perm.trans (perm_a perm_z) (List.Perm.cons _ (List.Perm.trans (perm_ca perm_cz) (List.Perm.append_left _ (List.Perm.trans (perm_ca perm_cz) (List.Perm.append_left _ (List.Perm.trans (perm_ca perm_cz) (List.Perm.append_left _ (List.Perm.trans (perm_a perm_z) (List.Perm.cons _ (List.Perm.refl _)))))))))))), hTV1, rTV1, okTV1, by rw [if_neg (by simp [hc1])], hrTV1⟩
  · skip
    replace hc1 := bnot_f hc1
    refine SW_skip (n_then ?_)
    refine SW_seq ?_
    refine SW_region ?_
    refine SL_segT 2 [(6, .int .i64 rTV1), (23, .bool (!okTV1)), (8, .bool okTV1), (7, .int .i64 rTV1), (0, pt F.p 0), (1, .int .i64 kind), (2, .int .u64 proto)] (by intro δ w; kernel_rfl) ?_
    refine SL_nil (n_then ?_)
    refine SW_ret ?_
    refine body_end (.int .i64 rTV1) (fun _ => rfl) ?_
    exact ⟨TV1, (Own.of_perm (S := ((F.p, .cells 83 6 [Gs.val H.s H.objs.length, Gs.val H.ts H.texts.length, .map (some F.kb), pt F.T.p 0, pt F.cp 0, .int .i64 H.br]) :: ((Gs.ent 89 9 H.s (H.objs.flatMap ObjL.cells)) ++ ((H.objs.flatMap ObjL.ent) ++ ((Gs.ent 9 1 H.ts (H.texts.map encS)) ++ ((F.kb, .map (kvs encS encU H.known)) :: ((TreeV.ent TV1 F.T) ++ ((CellsL.ent (CellsL.mk F.cp H.cs H.cl)) ++ ([]))))))))) (List.Perm.trans (perm_a perm_z) (List.Perm.cons _ (List.Perm.trans (perm_ca perm_cz) (List.Perm.append_left _ (List.Perm.trans (perm_ca perm_cz) (List.Perm.append_left _ (List.Perm.trans (perm_ca perm_cz) (List.Perm.append_left _ (List.Perm.trans (perm_a perm_z) (List.Perm.cons _ (List.Perm.refl _)))))))))))), hTV1, rTV1, okTV1, by rw [if_pos hc1], hrTV1⟩

theorem heap_New {W0 : World} (n : Int) : SC Try.prog W0 9 #[.int .i64 n] [] (Ret (fun r : HeapF × Gs => HeapV.ent ⟨.nil, [], .nil, [], [], ⟨.nil, [], []⟩, r.2, [], 0⟩ r.1) (fun v r => v = .pointer (some ⟨r.1.p, 0, none⟩) ∧ r.1.T.most = (if 0 > (if 256 < n then 256 else n) then 0 else (if 256 < n then 256 else n)) ∧ CellsL.ok ⟨r.1.cp, r.2, []⟩)) := by
  refine SC_body (fn := Try.f9) (n := 10) Try.func9 rfl (by kernel_rfl) (ρ := [(0, .int .i64 n)]) rfl ?_
  refine SW_seq ?_
  refine SW_region ?_
  refine SL_s1 1 2 (.pointer none) (by intro δ w; kernel_rfl) ?_
  refine SL_nil (n_then ?_)
  refine SW_seq ?_
  refine SW_region ?_
  refine SL_cons ⟨rfl, fun _ => rfl⟩ (O_new (fun b => .map (some b)) (.map #[] 0) (.map (kvs encS encU ([]))) rfl (by intro δ w; kernel_rfl) rfl ?_)
  intro b1 hlb1 hnb1
  refine SL_s2 2 5 (.int .i64 (if 256 < n then 256 else n)) 4 (.int .i64 n) (by intro δ w; kernel_rfl) ?_
  refine SL_sig ([] ++ ((b1, .map (kvs encS encU ([]))) :: ([]))) rfl ?_
  refine SL_cons ⟨rfl, fun _ => rfl⟩ (O_call 35 #[.int .i64 (if 256 < n then 256 else n)] rfl (by intro δ w; kernel_rfl) ((shapes_New (if 256 < n then 256 else n)).use _) ?_)
  rintro _ σ1 ⟨TF, hσ1, rfl, hTF⟩
  obtain rfl : σ1 = ((TreeV.ent (TreeV.mk Gs.nil [] []) TF) ++ ((b1, .map (kvs encS encU ([]))) :: ([]))) := hσ1.trans (rfl)
  refine SL_sig ([] ++ ((TreeV.ent (TreeV.mk Gs.nil [] []) TF) ++ ((b1, .map (kvs encS encU ([]))) :: ([])))) rfl ?_
  refine SL_cons ⟨rfl, fun _ => rfl⟩ (O_call 36 #[] rfl (by intro δ w; kernel_rfl) ((cells_new).use _) ?_)
  rintro _ σ2 ⟨⟨cp, cs⟩, hσ2, rfl, hcs⟩
  obtain rfl : σ2 = ((CellsL.ent (CellsL.mk cp cs [])) ++ ((TreeV.ent (TreeV.mk Gs.nil [] []) TF) ++ ((b1, .map (kvs encS encU ([]))) :: ([])))) := hσ2.trans (rfl)
  refine SL_s1 1 8 (.agg #[.slice none 0 0, .slice none 0 0, .map (some b1), pt TF.p 0, pt cp 0, .int .i64 0]) (by intro δ w; kernel_rfl) ?_
  refine SL_cons ⟨rfl, fun _ => rfl⟩ (O_new (fun b => .pointer (some ⟨b, 0, none⟩)) (.cells #[.slice none 0 0, .slice none 0 0, .map (some b1), pt TF.p 0, pt cp 0, .int .i64 0] 83 (0, 0)) (.cells 83 6 [.slice none 0 0, .slice none 0 0, .map (some b1), pt TF.p 0, pt cp 0, .int .i64 0]) rfl (by intro δ w; kernel_rfl) ⟨rfl, rfl, rfl, rfl⟩ ?_)
  intro b2 hlb2 hnb2
  refine SL_segT 1 [(2, pt b2 0), (0, .int .i64 n)] (by intro δ w; kernel_rfl) ?_
  refine SL_nil (n_then ?_)
  refine SW_ret ?_
  refine body_end (pt b2 0) (fun _ => rfl) ?_
  exact ⟨(HeapF.mk b2 b1 TF cp, cs), (Own.trans (Own.of_perm (S := ((b2, .cells 83 6 [.slice none 0 0, .slice none 0 0, .map (some b1), pt TF.p 0, pt cp 0, .int .i64 0]) :: ((b1, .map (kvs encS encU ([]))) :: ((TreeV.ent (TreeV.mk Gs.nil [] []) TF) ++ ((CellsL.ent (CellsL.mk cp cs [])) ++ ([])))))) (List.Perm.trans perm_z (List.Perm.cons _ (List.Perm.trans (perm_a (perm_a perm_z)) (List.Perm.cons _ (List.Perm.trans (perm_ca perm_cz) (List.Perm.append_left _ (List.Perm.refl _)))))))) (Own.of_perm (List.Perm.of_eq rfl))), rfl, hTF, hcs⟩

theorem heap_Make_no {W0 : World} {F : HeapF} {H : HeapV} (hH : H.ok F) {kind proto : Int} (hmay : ¬ mayMake H kind proto) : SC Try.prog W0 11 #[.pointer (some ⟨F.p, 0, none⟩), .int .i64 kind, .int .u64 proto] (HeapV.ent H F) (Ret (fun _ : Unit => H.ent F) (fun v _ => v = .tuple #[.int .u64 18445336698825998336, .bool false])) := by
  refine SC_body (fn := Try.f11) (n := 56) Try.func11 rfl (by kernel_rfl) (ρ := [(0, pt F.p 0), (1, .int .i64 kind), (2, .int .u64 proto)]) rfl ?_
  refine SW_sig ((F.p, .cells 83 6 [Gs.val H.s H.objs.length, Gs.val H.ts H.texts.length, .map (some F.kb), pt F.T.p 0, pt F.cp 0, .int .i64 H.br]) :: ((Gs.ent 89 9 H.s (H.objs.flatMap ObjL.cells)) ++ ((H.objs.flatMap ObjL.ent) ++ ((Gs.ent 9 1 H.ts (H.texts.map encS)) ++ ((F.kb, .map (kvs encS encU H.known)) :: ((TreeV.ent H.V F.T) ++ ((CellsL.ent (CellsL.mk F.cp H.cs H.cl)) ++ ([])))))))) rfl ?_
  have hob := hH.objs
  refine SW_seq ?_
  refine SW_region ?_
  refine SL_s2 2 7 (.bool false) 6 (.int .u64 0) (by intro δ w; kernel_rfl) ?_
  refine SL_nil (n_then ?_)
  refine SW_seq ?_
  refine SW_seq ?_
  refine SW_region ?_
  refine SL_s3 3 10 (.bool (decide (kind < 0))) 9 (.bool (decide (kind < 0))) 8 (.int .i64 kind) (by intro δ w; kernel_rfl) ?_
  refine SL_tb (decide (kind < 0)) (fun tb_ => [(10, .bool tb_), (9, .bool tb_), (8, .int .i64 kind), (7, .bool false), (6, .int .u64 0), (0, pt F.p 0), (1, .int .i64 kind), (2, .int .u64 proto)]) (fun hg1 => ?_) (fun hg1 => ?_)
  · skip
    replace hg1 := of_decide_eq_true hg1
    refine SL_segT 21 [(31, .bool true), (7, .bool false), (6, .int .u64 0), (0, pt F.p 0), (1, .int .i64 kind), (2, .int .u64 proto)] (by intro δ w; kernel_rfl) ?_
    refine SL_nil (n_then ?_)
    refine SW_true (fun _ => rfl) ?_
    refine SW_seq ?_
    refine SW_region ?_
    refine SL_segT 2 [(7, .bool false), (6, .int .u64 18445336698825998336), (31, .bool true), (0, pt F.p 0), (1, .int .i64 kind), (2, .int .u64 proto)] (by intro δ w; kernel_rfl) ?_
    refine SL_nil (n_then ?_)
    refine SW_ret (r_then ?_)
    refine body_end (.tuple #[.int .u64 18445336698825998336, .bool false]) (fun _ => rfl) ?_
    exact ⟨(), (Own.of_perm (S := ((F.p, .cells 83 6 [Gs.val H.s H.objs.length, Gs.val H.ts H.texts.length, .map (some F.kb), pt F.T.p 0, pt F.cp 0, .int .i64 H.br]) :: ((Gs.ent 89 9 H.s (H.objs.flatMap ObjL.cells)) ++ ((H.objs.flatMap ObjL.ent) ++ ((Gs.ent 9 1 H.ts (H.texts.map encS)) ++ ((F.kb, .map (kvs encS encU H.known)) :: ((TreeV.ent H.V F.T) ++ ((CellsL.ent (CellsL.mk F.cp H.cs H.cl)) ++ ([]))))))))) (List.Perm.refl _)), rfl⟩
  · skip
    replace hg1 := of_decide_eq_false hg1
    refine SL_s4 4 14 (.bool (decide (kind > 6))) 13 (.bool (decide (kind > 6))) 12 (.bool (decide (kind > 6))) 11 (.int .i64 kind) (by intro δ w; kernel_rfl) ?_
    refine SL_tb (decide (kind > 6)) (fun tb_ => [(14, .bool tb_), (13, .bool tb_), (12, .bool tb_), (11, .int .i64 kind), (10, .bool false), (9, .bool false), (8, .int .i64 kind), (7, .bool false), (6, .int .u64 0), (0, pt F.p 0), (1, .int .i64 kind), (2, .int .u64 proto)]) (fun hg2 => ?_) (fun hg2 => ?_)
    · skip
      replace hg2 := of_decide_eq_true hg2
      refine SL_segT 17 [(31, .bool true), (7, .bool false), (6, .int .u64 0), (0, pt F.p 0), (1, .int .i64 kind), (2, .int .u64 proto)] (by intro δ w; kernel_rfl) ?_
      refine SL_nil (n_then ?_)
      refine SW_true (fun _ => rfl) ?_
      refine SW_seq ?_
      refine SW_region ?_
      refine SL_segT 2 [(7, .bool false), (6, .int .u64 18445336698825998336), (31, .bool true), (0, pt F.p 0), (1, .int .i64 kind), (2, .int .u64 proto)] (by intro δ w; kernel_rfl) ?_
      refine SL_nil (n_then ?_)
      refine SW_ret (r_then ?_)
      refine body_end (.tuple #[.int .u64 18445336698825998336, .bool false]) (fun _ => rfl) ?_
      exact ⟨(), (Own.of_perm (S := ((F.p, .cells 83 6 [Gs.val H.s H.objs.length, Gs.val H.ts H.texts.length, .map (some F.kb), pt F.T.p 0, pt F.cp 0, .int .i64 H.br]) :: ((Gs.ent 89 9 H.s (H.objs.flatMap ObjL.cells)) ++ ((H.objs.flatMap ObjL.ent) ++ ((Gs.ent 9 1 H.ts (H.texts.map encS)) ++ ((F.kb, .map (kvs encS encU H.known)) :: ((TreeV.ent H.V F.T) ++ ((CellsL.ent (CellsL.mk F.cp H.cs H.cl)) ++ ([]))))))))) (List.Perm.refl _)), rfl⟩
    · skip
      replace hg2 := of_decide_eq_false hg2
      refine SL_s3 3 17 (.bool (proto != 18445336698825998337)) 16 (.bool (proto != 18445336698825998337)) 15 (.int .u64 proto) (by intro δ w; kernel_rfl) ?_
      refine SL_tb (proto != 18445336698825998337) (fun tb_ => [(17, .bool tb_), (16, .bool tb_), (15, .int .u64 proto), (14, .bool false), (13, .bool false), (12, .bool false), (11, .int .i64 kind), (10, .bool false), (9, .bool false), (8, .int .i64 kind), (7, .bool false), (6, .int .u64 0), (0, pt F.p 0), (1, .int .i64 kind), (2, .int .u64 proto)]) (fun hg3 => ?_) (fun hg3 => ?_)
      · skip
        refine SL_s2 2 19 (.int .u64 proto) 18 (pt F.p 0) (by intro δ w; kernel_rfl) ?_
        rcases hm1 : objAt proto H.objs.length with _ | m1
        · skip
          refine SL_perm _ (perm_cc (perm_ca (perm_ca (perm_ca (perm_cc (perm_ca perm_cz)))))) ?_
          refine SL_perm _ (perm_ca (perm_cc (perm_ca (perm_ca (perm_ca (perm_cc perm_cz)))))) ?_
          refine SL_perm _ (perm_a (perm_a (perm_c (perm_a (perm_a (perm_a perm_z)))))) ?_
          refine SL_perm _ (perm_cc (perm_ca (perm_ca (perm_cc (perm_ca (perm_ca perm_cz)))))) ?_
          refine SL_perm _ (perm_ca (perm_cc (perm_ca (perm_ca (perm_cc (perm_ca perm_cz)))))) ?_
          refine SL_perm _ (perm_ca (perm_ca (perm_cc (perm_ca (perm_ca (perm_cc perm_cz)))))) ?_
          refine SL_perm _ (perm_a (perm_a (perm_a (perm_c (perm_a (perm_a perm_z)))))) ?_
          refine SL_sig (((F.p, .cells 83 6 [Gs.val H.s H.objs.length, Gs.val H.ts H.texts.length, .map (some F.kb), pt F.T.p 0, pt F.cp 0, .int .i64 H.br]) :: ((Gs.ent 89 9 H.s (H.objs.flatMap ObjL.cells)) ++ ((H.objs.flatMap ObjL.ent) ++ ((Gs.ent 9 1 H.ts (H.texts.map encS)) ++ ((F.kb, .map (kvs encS encU H.known)) :: ((TreeV.ent H.V F.T) ++ ((CellsL.ent (CellsL.mk F.cp H.cs H.cl)) ++ ([])))))))) ++ ([])) (by simp only [List.cons_append, List.append_assoc, List.nil_append, List.append_nil]) ?_
          refine SL_cons ⟨rfl, fun _ => rfl⟩ (O_call 38 #[pt F.p 0, .int .u64 proto] rfl (by intro δ w; kernel_rfl) ((heap_at hH proto).use _) ?_)
          rintro v1 σ1 ⟨_, hσ1, hv1⟩
          obtain rfl : v1 = .pointer none := hv1.trans (by rw [hm1])
          obtain rfl : σ1 = ((F.p, .cells 83 6 [Gs.val H.s H.objs.length, Gs.val H.ts H.texts.length, .map (some F.kb), pt F.T.p 0, pt F.cp 0, .int .i64 H.br]) :: ((Gs.ent 89 9 H.s (H.objs.flatMap ObjL.cells)) ++ ((H.objs.flatMap ObjL.ent) ++ ((Gs.ent 9 1 H.ts (H.texts.map encS)) ++ ((F.kb, .map (kvs encS encU H.known)) :: ((TreeV.ent H.V F.T) ++ ((CellsL.ent (CellsL.mk F.cp H.cs H.cl)) ++ ([])))))))) := hσ1.trans (by simp only [HeapV.ent, List.cons_append, List.append_assoc, List.nil_append, List.append_nil])
          refine SL_segT 11 [(31, .bool true), (7, .bool false), (6, .int .u64 0), (0, pt F.p 0), (1, .int .i64 kind), (2, .int .u64 proto)] (by intro δ w; kernel_rfl) ?_
          refine SL_nil (n_then ?_)
          refine SW_true (fun _ => rfl) ?_
          refine SW_seq ?_
          refine SW_region ?_
          refine SL_segT 2 [(7, .bool false), (6, .int .u64 18445336698825998336), (31, .bool true), (0, pt F.p 0), (1, .int .i64 kind), (2, .int .u64 proto)] (by intro δ w; kernel_rfl) ?_
          refine SL_nil (n_then ?_)
          refine SW_ret (r_then ?_)
          refine body_end (.tuple #[.int .u64 18445336698825998336, .bool false]) (fun _ => rfl) ?_
          exact ⟨(), (Own.of_perm (S := ((F.p, .cells 83 6 [Gs.val H.s H.objs.length, Gs.val H.ts H.texts.length, .map (some F.kb), pt F.T.p 0, pt F.cp 0, .int .i64 H.br]) :: ((Gs.ent 89 9 H.s (H.objs.flatMap ObjL.cells)) ++ ((H.objs.flatMap ObjL.ent) ++ ((Gs.ent 9 1 H.ts (H.texts.map encS)) ++ ((F.kb, .map (kvs encS encU H.known)) :: ((TreeV.ent H.V F.T) ++ ((CellsL.ent (CellsL.mk F.cp H.cs H.cl)) ++ ([]))))))))) (List.Perm.refl _)), rfl⟩
        · skip
          refine SL_perm _ (perm_cc (perm_ca (perm_ca (perm_ca (perm_cc (perm_ca perm_cz)))))) ?_
          refine SL_perm _ (perm_ca (perm_cc (perm_ca (perm_ca (perm_ca (perm_cc perm_cz)))))) ?_
          refine SL_perm _ (perm_a (perm_a (perm_c (perm_a (perm_a (perm_a perm_z)))))) ?_
          refine SL_perm _ (perm_cc (perm_ca (perm_ca (perm_cc (perm_ca (perm_ca perm_cz)))))) ?_
          refine SL_perm _ (perm_ca (perm_cc (perm_ca (perm_ca (perm_cc (perm_ca perm_cz)))))) ?_
          refine SL_perm _ (perm_ca (perm_ca (perm_cc (perm_ca (perm_ca (perm_cc perm_cz)))))) ?_
          refine SL_perm _ (perm_a (perm_a (perm_a (perm_c (perm_a (perm_a perm_z)))))) ?_
          refine SL_sig (((F.p, .cells 83 6 [Gs.val H.s H.objs.length, Gs.val H.ts H.texts.length, .map (some F.kb), pt F.T.p 0, pt F.cp 0, .int .i64 H.br]) :: ((Gs.ent 89 9 H.s (H.objs.flatMap ObjL.cells)) ++ ((H.objs.flatMap ObjL.ent) ++ ((Gs.ent 9 1 H.ts (H.texts.map encS)) ++ ((F.kb, .map (kvs encS encU H.known)) :: ((TreeV.ent H.V F.T) ++ ((CellsL.ent (CellsL.mk F.cp H.cs H.cl)) ++ ([])))))))) ++ ([])) (by simp only [List.cons_append, List.append_assoc, List.nil_append, List.append_nil]) ?_
          refine SL_cons ⟨rfl, fun _ => rfl⟩ (O_call 38 #[pt F.p 0, .int .u64 proto] rfl (by intro δ w; kernel_rfl) ((heap_at hH proto).use _) ?_)
          rintro v2 σ2 ⟨_, hσ2, hv2⟩
          obtain rfl : v2 = pt (Gs.blk H.s) (m1 * 9) := hv2.trans (by rw [hm1])
          obtain rfl : σ2 = ((F.p, .cells 83 6 [Gs.val H.s H.objs.length, Gs.val H.ts H.texts.length, .map (some F.kb), pt F.T.p 0, pt F.cp 0, .int .i64 H.br]) :: ((Gs.ent 89 9 H.s (H.objs.flatMap ObjL.cells)) ++ ((H.objs.flatMap ObjL.ent) ++ ((Gs.ent 9 1 H.ts (H.texts.map encS)) ++ ((F.kb, .map (kvs encS encU H.known)) :: ((TreeV.ent H.V F.T) ++ ((CellsL.ent (CellsL.mk F.cp H.cs H.cl)) ++ ([])))))))) := hσ2.trans (by simp only [HeapV.ent, List.cons_append, List.append_assoc, List.nil_append, List.append_nil])
          refine SL_segT 7 [(27, pt F.p 0), (24, .bool false), (7, .bool false), (6, .int .u64 0), (0, pt F.p 0), (1, .int .i64 kind), (2, .int .u64 proto)] (by intro δ w; kernel_rfl) ?_
          refine SL_cons ⟨rfl, fun _ => rfl⟩ (O_load F.p 0 (Gs.val H.s H.objs.length) (fun _ => rfl) (by kernel_rfl) (Cell.own mem_z rfl) rfl ?_)
          refine SL_s3 3 31 (.bool (decide ((H.objs.length : Int) ≥ 65536))) 30 (.bool (decide ((H.objs.length : Int) ≥ 65536))) 29 (.int .i64 (H.objs.length : Int)) (by intro δ w; kernel_rfl) ?_
          refine SL_nil (n_then ?_)
          refine SW_cond (decide ((H.objs.length : Int) ≥ 65536)) (fun _ => rfl) (fun hc4 => ?_) (fun hc4 => ?_)
          · skip
            replace hc4 := of_decide_eq_true hc4
            refine SW_seq ?_
            refine SW_region ?_
            refine SL_segT 2 [(7, .bool false), (6, .int .u64 18445336698825998336), (31, .bool (decide ((H.objs.length : Int) ≥ 65536))), (0, pt F.p 0), (1, .int .i64 kind), (2, .int .u64 proto)] (by intro δ w; kernel_rfl) ?_
            refine SL_nil (n_then ?_)
            refine SW_ret (r_then ?_)
            refine body_end (.tuple #[.int .u64 18445336698825998336, .bool false]) (fun _ => rfl) ?_
            exact ⟨(), (Own.of_perm (S := ((F.p, .cells 83 6 [Gs.val H.s H.objs.length, Gs.val H.ts H.texts.length, .map (some F.kb), pt F.T.p 0, pt F.cp 0, .int .i64 H.br]) :: ((Gs.ent 89 9 H.s (H.objs.flatMap ObjL.cells)) ++ ((H.objs.flatMap ObjL.ent) ++ ((Gs.ent 9 1 H.ts (H.texts.map encS)) ++ ((F.kb, .map (kvs encS encU H.known)) :: ((TreeV.ent H.V F.T) ++ ((CellsL.ent (CellsL.mk F.cp H.cs H.cl)) ++ ([]))))))))) (List.Perm.refl _)), rfl⟩
          · skip
            replace hc4 := of_decide_eq_false hc4
            refine SW_skip (n_then ?_)
            refine SW_seq ?_
            refine SW_draw [(F.p, 0, Gs.val H.s H.objs.length)] [0, 1, 2, 3, 5, 6, 7, 8, 9, 10, 11, 12] (by kernel_rfl) (rd_cons (Cell.own mem_z rfl) rd_nil) ?_
            refine SA_take (li' := #[true, false, false, false, false, false, false, false, false, false, false, false, false, false, false, false, false]) 0 _ (pt F.p 0) (fun _ _ _ h => h) rfl (by kernel_rfl) rfl (Or.inl ⟨fun _ => rfl, by intro δ w; kernel_rfl⟩) ?_
            refine SA_take (li' := #[true, true, false, false, false, false, false, false, false, false, false, false, false, false, false, false, false]) 1 _ (pt F.p 0) (fun _ _ _ h => h) rfl (by kernel_rfl) rfl (Or.inl ⟨fun _ => rfl, by intro δ w; kernel_rfl⟩) ?_
            refine SA_take (li' := #[true, true, true, false, false, false, false, false, false, false, false, false, false, false, false, false, false]) 2 _ (pt F.p 0) (fun _ _ _ h => h) rfl (by kernel_rfl) rfl (Or.inl ⟨fun _ => rfl, by intro δ w; kernel_rfl⟩) ?_
            refine SA_take (li' := #[true, true, true, true, false, false, false, false, false, false, false, false, false, false, false, false, false]) 3 _ (pt F.p 0) (fun _ _ _ h => h) rfl (by kernel_rfl) rfl (Or.inl ⟨fun _ => rfl, by intro δ w; kernel_rfl⟩) ?_
            refine SA_read (li' := #[true, true, true, true, true, false, false, false, false, false, false, false, false, false, false, false, false]) 4 _ (Gs.val H.s H.objs.length) (fun _ _ _ h => h) rfl (by kernel_rfl) rfl (fun _ => rfl) (fun δ w hr => Rd_load F.p 0 (Gs.val H.s H.objs.length) rfl (by kernel_rfl) List.mem_cons_self hr) ?_
            refine SA_trim [(36, Gs.val H.s H.objs.length), (32, pt F.p 0), (31, .bool (decide ((H.objs.length : Int) ≥ 65536))), (7, .bool false), (6, .int .u64 0), (0, pt F.p 0), (1, .int .i64 kind), (2, .int .u64 proto)] (fun _ => rfl) ?_
            refine SA_take (li' := #[true, true, true, true, true, true, false, false, false, false, false, false, false, false, false, false, false]) 5 _ (.int .i64 kind) (fun _ _ _ h => h) rfl (by kernel_rfl) rfl (Or.inl ⟨fun _ => rfl, by intro δ w; kernel_rfl⟩) ?_
            refine SA_take (li' := #[true, true, true, true, true, true, true, false, false, false, false, false, false, false, false, false, false]) 6 _ (.int .u64 proto) (fun _ _ _ h => h) rfl (by kernel_rfl) rfl (Or.inl ⟨fun _ => rfl, by intro δ w; kernel_rfl⟩) ?_
            refine SA_take (li' := #[true, true, true, true, true, true, true, true, false, false, false, false, false, false, false, false, false]) 7 _ (pt F.p 0) (fun _ _ _ h => h) rfl (by kernel_rfl) rfl (Or.inl ⟨fun _ => rfl, by intro δ w; kernel_rfl⟩) ?_
            refine SA_take (li' := #[true, true, true, true, true, true, true, true, true, false, false, false, false, false, false, false, false]) 8 _ (.int .i64 kind) (fun _ _ _ h => h) rfl (by kernel_rfl) rfl (Or.inl ⟨fun _ => rfl, by intro δ w; kernel_rfl⟩) ?_
            refine SA_take (li' := #[true, true, true, true, true, true, true, true, true, true, false, false, false, false, false, false, false]) 9 _ (.int .u64 proto) (fun _ _ _ h => h) rfl (by kernel_rfl) rfl (Or.inl ⟨fun _ => rfl, by intro δ w; kernel_rfl⟩) ?_
            refine SA_perm _ (perm_cc (perm_ca (perm_ca (perm_ca (perm_cc (perm_ca perm_cz)))))) ?_
            refine SA_perm _ (perm_ca (perm_cc (perm_ca (perm_ca (perm_ca (perm_cc perm_cz)))))) ?_
            refine SA_perm _ (perm_a (perm_a (perm_c (perm_a (perm_a (perm_a perm_z)))))) ?_
            refine SA_perm _ (perm_cc (perm_ca (perm_ca (perm_cc (perm_ca (perm_ca perm_cz)))))) ?_
            refine SA_perm _ (perm_ca (perm_cc (perm_ca (perm_ca (perm_cc (perm_ca perm_cz)))))) ?_
            refine SA_perm _ (perm_ca (perm_ca (perm_cc (perm_ca (perm_ca (perm_cc perm_cz)))))) ?_
            refine SA_perm _ (perm_a (perm_a (perm_a (perm_c (perm_a (perm_a perm_z)))))) ?_
            refine SA_sig (((F.p, .cells 83 6 [Gs.val H.s H.objs.length, Gs.val H.ts H.texts.length, .map (some F.kb), pt F.T.p 0, pt F.cp 0, .int .i64 H.br]) :: ((Gs.ent 89 9 H.s (H.objs.flatMap ObjL.cells)) ++ ((H.objs.flatMap ObjL.ent) ++ ((Gs.ent 9 1 H.ts (H.texts.map encS)) ++ ((F.kb, .map (kvs encS encU H.known)) :: ((TreeV.ent H.V F.T) ++ ((CellsL.ent (CellsL.mk F.cp H.cs H.cl)) ++ ([])))))))) ++ ([])) (by simp only [List.cons_append, List.append_assoc, List.nil_append, List.append_nil]) ?_
            refine SA_one true (li' := #[true, true, true, true, true, true, true, true, true, true, true, false, false, false, false, false, false]) 10 _ rfl rfl (by kernel_rfl) ⟨rfl, fun _ => rfl⟩ rfl (O_call 39 #[pt F.p 0, .int .i64 kind, .int .u64 proto] rfl (by intro δ w; kernel_rfl) ((heap_root hH kind proto).use _) ?_)
            rintro _ σ4 ⟨RV1, hσ4, hRV1, mRV1, okRV1, rfl, hrRV1⟩
            obtain rfl : σ4 = ((F.p, .cells 83 6 [Gs.val H.s H.objs.length, Gs.val H.ts H.texts.length, .map (some F.kb), pt F.T.p 0, pt F.cp 0, .int .i64 H.br]) :: ((Gs.ent 89 9 H.s (H.objs.flatMap ObjL.cells)) ++ ((H.objs.flatMap ObjL.ent) ++ ((Gs.ent 9 1 H.ts (H.texts.map encS)) ++ ((F.kb, .map (kvs encS encU H.known)) :: ((TreeV.ent RV1 F.T) ++ ((CellsL.ent (CellsL.mk F.cp H.cs H.cl)) ++ ([])))))))) := hσ4.trans (by simp only [HeapV.ent, List.cons_append, List.append_assoc, List.nil_append, List.append_nil])
            refine ⟨fun hnd => (rd_cons (Cell.own mem_z rfl) rd_nil), ?_⟩
            refine SA_take (li' := #[true, true, true, true, true, true, true, true, true, true, true, true, false, false, false, false, false]) 11 _ (.agg #[.int .i64 kind, .int .u64 proto, .bool false, .int .i64 (if okRV1 = true then mRV1 else -1), .slice none 0 0, .slice none 0 0, .slice none 0 0, .slice none 0 0, .int .i64 (-1)]) (fun _ _ _ h => h) rfl (by kernel_rfl) rfl (Or.inl ⟨fun _ => rfl, by intro δ w; kernel_rfl⟩) ?_
            refine SA_one true (li' := #[true, true, true, true, true, true, true, true, true, true, true, true, true, false, false, false, false]) 12 _ rfl rfl (by kernel_rfl) ⟨rfl, fun _ => rfl⟩ rfl (O_new (fun b => .slice (some ⟨b, 0, none⟩) 1 1) (.cells #[.int .i64 kind, .int .u64 proto, .bool false, .int .i64 (if okRV1 = true then mRV1 else -1), .slice none 0 0, .slice none 0 0, .slice none 0 0, .slice none 0 0, .int .i64 (-1)] 89 (0, 0)) (.cells 89 9 [.int .i64 kind, .int .u64 proto, .bool false, .int .i64 (if okRV1 = true then mRV1 else -1), .slice none 0 0, .slice none 0 0, .slice none 0 0, .slice none 0 0, .int .i64 (-1)]) rfl (by intro δ w; kernel_rfl) ⟨rfl, rfl, rfl, rfl⟩ ?_)
            intro b5 hlb5 hnb5
            refine ⟨fun hnd => (rd_cons (Cell.own (mem_c mem_z) rfl) rd_nil), ?_⟩
            refine SA_perm _ (perm_cc (perm_cc perm_cz)) ?_
            refine SA_one false (li' := #[true, true, true, true, true, true, true, true, true, true, true, true, true, true, false, false, false]) 13 _ rfl rfl (by kernel_rfl) ⟨rfl, fun _ => rfl⟩ rfl (O_append (size := 9) (bytes := 136) (z := .agg #[.int .i64 0, .int .u64 0, .bool false, .int .i64 0, .slice none 0 0, .slice none 0 0, .slice none 0 0, .slice none 0 0, .int .i64 0]) H.s H.objs.length 1 (some ⟨b5, 0, none⟩) 1 (H.objs.flatMap ObjL.cells) ([.int .i64 kind, .int .u64 proto, .bool false, .int .i64 (if okRV1 = true then mRV1 else -1), .slice none 0 0, .slice none 0 0, .slice none 0 0, .slice none 0 0, .int .i64 (-1)]) ((H.objs ++ [(ObjL.mk kind proto false (if okRV1 = true then mRV1 else -1) Gs.nil ([]) Gs.nil ([]) Gs.nil ([]) Gs.nil ([]) (-1))]).flatMap ObjL.cells) (flat_snoc _ (ObjL.mk kind proto false (if okRV1 = true then mRV1 else -1) Gs.nil ([]) Gs.nil ([]) Gs.nil ([]) Gs.nil ([]) (-1)) rfl) (fun _ => rfl) (fun _ => rfl) Try.underlying81 (by kernel_rfl) rfl (by decide) hH.row rfl (.inr ⟨b5, 0, rfl, Cells.own (mem_a mem_z) rfl⟩) rfl (by omega) (by decide) rfl ?_)
            intro s6 hks6 hfs6
            rw [show H.objs.length + 1 = (H.objs ++ [(ObjL.mk kind proto false (if okRV1 = true then mRV1 else -1) Gs.nil ([]) Gs.nil ([]) Gs.nil ([]) Gs.nil ([]) (-1))]).length from by simp]
            rw [show H.objs.length + 1 = (H.objs ++ [(ObjL.mk kind proto false (if okRV1 = true then mRV1 else -1) Gs.nil ([]) Gs.nil ([]) Gs.nil ([]) Gs.nil ([]) (-1))]).length from by simp] at hks6
            have hls6 : (H.objs ++ [(ObjL.mk kind proto false (if okRV1 = true then mRV1 else -1) Gs.nil ([]) Gs.nil ([]) Gs.nil ([]) Gs.nil ([]) (-1))]).length = H.objs.length + 1 := by simp
            refine ⟨fun hnd => (by cases hnd), ?_⟩
            refine SA_trim [(45, Gs.val s6 ((H.objs ++ [(ObjL.mk kind proto false (if okRV1 = true then mRV1 else -1) Gs.nil ([]) Gs.nil ([]) Gs.nil ([]) Gs.nil ([]) (-1))]).length)), (32, pt F.p 0), (31, .bool (decide ((H.objs.length : Int) ≥ 65536))), (7, .bool false), (6, .int .u64 0), (0, pt F.p 0), (1, .int .i64 kind), (2, .int .u64 proto)] (fun _ => rfl) ?_
            refine SA_take (li' := #[true, true, true, true, true, true, true, true, true, true, true, true, true, true, true, false, false]) 14 _ (pt F.p 0) (fun _ _ _ h => h) rfl (by kernel_rfl) rfl (Or.inl ⟨fun _ => rfl, by intro δ w; kernel_rfl⟩) ?_
            refine SA_take (li' := #[true, true, true, true, true, true, true, true, true, true, true, true, true, true, true, true, false]) 15 _ (pt F.p 0) (fun _ _ _ h => h) rfl (by kernel_rfl) rfl (Or.inl ⟨fun _ => rfl, by intro δ w; kernel_rfl⟩) ?_
            refine SA_perm _ (perm_a (perm_c perm_z)) ?_
            refine SA_one false (li' := #[true, true, true, true, true, true, true, true, true, true, true, true, true, true, true, true, true]) 16 _ rfl rfl (by kernel_rfl) ⟨rfl, fun _ => rfl⟩ rfl (O_store F.p 0 (Gs.val s6 ((H.objs ++ [(ObjL.mk kind proto false (if okRV1 = true then mRV1 else -1) Gs.nil ([]) Gs.nil ([]) Gs.nil ([]) Gs.nil ([]) (-1))]).length)) [Gs.val s6 ((H.objs ++ [(ObjL.mk kind proto false (if okRV1 = true then mRV1 else -1) Gs.nil ([]) Gs.nil ([]) Gs.nil ([]) Gs.nil ([]) (-1))]).length)] (fun _ => rfl) (fun _ => rfl) rfl (by kernel_rfl) rfl (by simp only [List.length_cons, List.length_nil]; omega) rfl ?_)
            refine ⟨fun hnd => (by cases hnd), ?_⟩
            refine SA_sig ((F.p, .cells 83 6 [Gs.val s6 ((H.objs ++ [(ObjL.mk kind proto false (if okRV1 = true then mRV1 else -1) Gs.nil ([]) Gs.nil ([]) Gs.nil ([]) Gs.nil ([]) (-1))]).length), Gs.val H.ts H.texts.length, .map (some F.kb), pt F.T.p 0, pt F.cp 0, .int .i64 H.br]) :: ((Gs.ent 89 9 s6 ((H.objs ++ [(ObjL.mk kind proto false (if okRV1 = true then mRV1 else -1) Gs.nil ([]) Gs.nil ([]) Gs.nil ([]) Gs.nil ([]) (-1))]).flatMap ObjL.cells)) ++ ((b5, .cells 89 9 [.int .i64 kind, .int .u64 proto, .bool false, .int .i64 (if okRV1 = true then mRV1 else -1), .slice none 0 0, .slice none 0 0, .slice none 0 0, .slice none 0 0, .int .i64 (-1)]) :: ((H.objs.flatMap ObjL.ent) ++ ((Gs.ent 9 1 H.ts (H.texts.map encS)) ++ ((F.kb, .map (kvs encS encU H.known)) :: ((TreeV.ent RV1 F.T) ++ ((CellsL.ent (CellsL.mk F.cp H.cs H.cl)) ++ ([]))))))))) rfl ?_
            refine SA_done (by kernel_rfl) (n_then ?_)
            refine SW_seq ?_
            refine SW_region ?_
            refine SL_s3 3 50 (pt F.p 0) 49 (pt F.p 0) 48 (pt F.p 0) (by intro δ w; kernel_rfl) ?_
            refine SL_cons ⟨rfl, fun _ => rfl⟩ (O_load F.p 0 (Gs.val s6 ((H.objs ++ [(ObjL.mk kind proto false (if okRV1 = true then mRV1 else -1) Gs.nil ([]) Gs.nil ([]) Gs.nil ([]) Gs.nil ([]) (-1))]).length)) (fun _ => rfl) (by kernel_rfl) (Cell.own mem_z rfl) rfl ?_)
            refine SL_s2 2 53 (.int .i64 (IntKind.wrap .i64 (((((H.objs ++ [(ObjL.mk kind proto false (if okRV1 = true then mRV1 else -1) Gs.nil ([]) Gs.nil ([]) Gs.nil ([]) Gs.nil ([]) (-1))]).length : Nat)) : Int) - 1))) 52 (.int .i64 ((((H.objs ++ [(ObjL.mk kind proto false (if okRV1 = true then mRV1 else -1) Gs.nil ([]) Gs.nil ([]) Gs.nil ([]) Gs.nil ([]) (-1))]).length : Nat)) : Int)) (by intro δ w; kernel_rfl) ?_
            rw [show IntKind.wrap .i64 (((((H.objs ++ [(ObjL.mk kind proto false (if okRV1 = true then mRV1 else -1) Gs.nil ([]) Gs.nil ([]) Gs.nil ([]) Gs.nil ([]) (-1))]).length : Nat)) : Int) - 1) = ((((H.objs ++ [(ObjL.mk kind proto false (if okRV1 = true then mRV1 else -1) Gs.nil ([]) Gs.nil ([]) Gs.nil ([]) Gs.nil ([]) (-1))]).length : Nat)) : Int) - 1 from IntWalk.i64_in _ (by omega)]
            refine SL_segT 1 [(54, .int .u32 (IntKind.wrap .u32 (((((H.objs ++ [(ObjL.mk kind proto false (if okRV1 = true then mRV1 else -1) Gs.nil ([]) Gs.nil ([]) Gs.nil ([]) Gs.nil ([]) (-1))]).length : Nat)) : Int) - 1))), (31, .bool (decide ((H.objs.length : Int) ≥ 65536))), (7, .bool false), (6, .int .u64 0), (0, pt F.p 0), (1, .int .i64 kind), (2, .int .u64 proto)] (by intro δ w; kernel_rfl) ?_
            rw [show IntKind.wrap .u32 (((((H.objs ++ [(ObjL.mk kind proto false (if okRV1 = true then mRV1 else -1) Gs.nil ([]) Gs.nil ([]) Gs.nil ([]) Gs.nil ([]) (-1))]).length : Nat)) : Int) - 1) = ((((H.objs ++ [(ObjL.mk kind proto false (if okRV1 = true then mRV1 else -1) Gs.nil ([]) Gs.nil ([]) Gs.nil ([]) Gs.nil ([]) (-1))]).length : Nat)) : Int) - 1 from IntWalk.u32_in _ (by omega)]
            refine SL_sig ([] ++ ((F.p, .cells 83 6 [Gs.val s6 ((H.objs ++ [(ObjL.mk kind proto false (if okRV1 = true then mRV1 else -1) Gs.nil ([]) Gs.nil ([]) Gs.nil ([]) Gs.nil ([]) (-1))]).length), Gs.val H.ts H.texts.length, .map (some F.kb), pt F.T.p 0, pt F.cp 0, .int .i64 H.br]) :: ((Gs.ent 89 9 s6 ((H.objs ++ [(ObjL.mk kind proto false (if okRV1 = true then mRV1 else -1) Gs.nil ([]) Gs.nil ([]) Gs.nil ([]) Gs.nil ([]) (-1))]).flatMap ObjL.cells)) ++ ((b5, .cells 89 9 [.int .i64 kind, .int .u64 proto, .bool false, .int .i64 (if okRV1 = true then mRV1 else -1), .slice none 0 0, .slice none 0 0, .slice none 0 0, .slice none 0 0, .int .i64 (-1)]) :: ((H.objs.flatMap ObjL.ent) ++ ((Gs.ent 9 1 H.ts (H.texts.map encS)) ++ ((F.kb, .map (kvs encS encU H.known)) :: ((TreeV.ent RV1 F.T) ++ ((CellsL.ent (CellsL.mk F.cp H.cs H.cl)) ++ ([])))))))))) rfl ?_
            refine SL_cons ⟨rfl, fun _ => rfl⟩ (O_call 40 #[.int .u32 (((((H.objs ++ [(ObjL.mk kind proto false (if okRV1 = true then mRV1 else -1) Gs.nil ([]) Gs.nil ([]) Gs.nil ([]) Gs.nil ([]) (-1))]).length : Nat)) : Int) - 1)] rfl (by intro δ w; kernel_rfl) ((word_Object (n := ((((H.objs ++ [(ObjL.mk kind proto false (if okRV1 = true then mRV1 else -1) Gs.nil ([]) Gs.nil ([]) Gs.nil ([]) Gs.nil ([]) (-1))]).length : Nat)) : Int) - 1) (by omega)).use _) ?_)
            rintro _ σ5 ⟨_, hσ5, rfl⟩
            obtain rfl : σ5 = ((F.p, .cells 83 6 [Gs.val s6 ((H.objs ++ [(ObjL.mk kind proto false (if okRV1 = true then mRV1 else -1) Gs.nil ([]) Gs.nil ([]) Gs.nil ([]) Gs.nil ([]) (-1))]).length), Gs.val H.ts H.texts.length, .map (some F.kb), pt F.T.p 0, pt F.cp 0, .int .i64 H.br]) :: ((Gs.ent 89 9 s6 ((H.objs ++ [(ObjL.mk kind proto false (if okRV1 = true then mRV1 else -1) Gs.nil ([]) Gs.nil ([]) Gs.nil ([]) Gs.nil ([]) (-1))]).flatMap ObjL.cells)) ++ ((b5, .cells 89 9 [.int .i64 kind, .int .u64 proto, .bool false, .int .i64 (if okRV1 = true then mRV1 else -1), .slice none 0 0, .slice none 0 0, .slice none 0 0, .slice none 0 0, .int .i64 (-1)]) :: ((H.objs.flatMap ObjL.ent) ++ ((Gs.ent 9 1 H.ts (H.texts.map encS)) ++ ((F.kb, .map (kvs encS encU H.known)) :: ((TreeV.ent RV1 F.T) ++ ((CellsL.ent (CellsL.mk F.cp H.cs H.cl)) ++ ([]))))))))) := hσ5.trans (rfl)
            refine SL_segT 2 [(7, .bool true), (6, .int .u64 (65530 * 281474976710656 + (((((H.objs ++ [(ObjL.mk kind proto false (if okRV1 = true then mRV1 else -1) Gs.nil ([]) Gs.nil ([]) Gs.nil ([]) Gs.nil ([]) (-1))]).length : Nat)) : Int) - 1))), (31, .bool (decide ((H.objs.length : Int) ≥ 65536))), (0, pt F.p 0), (1, .int .i64 kind), (2, .int .u64 proto)] (by intro δ w; kernel_rfl) ?_
            refine SL_nil (n_then ?_)
            refine SW_ret ?_
            refine body_end (.tuple #[.int .u64 (65530 * 281474976710656 + (((((H.objs ++ [(ObjL.mk kind proto false (if okRV1 = true then mRV1 else -1) Gs.nil ([]) Gs.nil ([]) Gs.nil ([]) Gs.nil ([]) (-1))]).length : Nat)) : Int) - 1)), .bool true]) (fun _ => rfl) ?_
            exact absurd (show mayMake H kind proto from ⟨by omega, by first | (left; simp_all; done) | (right; simp_all; done), by omega⟩) hmay
      · skip
        refine SL_segT 10 [(27, pt F.p 0), (24, .bool false), (7, .bool false), (6, .int .u64 0), (0, pt F.p 0), (1, .int .i64 kind), (2, .int .u64 proto)] (by intro δ w; kernel_rfl) ?_
        refine SL_cons ⟨rfl, fun _ => rfl⟩ (O_load F.p 0 (Gs.val H.s H.objs.length) (fun _ => rfl) (by kernel_rfl) (Cell.own mem_z rfl) rfl ?_)
        refine SL_s3 3 31 (.bool (decide ((H.objs.length : Int) ≥ 65536))) 30 (.bool (decide ((H.objs.length : Int) ≥ 65536))) 29 (.int .i64 (H.objs.length : Int)) (by intro δ w; kernel_rfl) ?_
        refine SL_nil (n_then ?_)
        refine SW_cond (decide ((H.objs.length : Int) ≥ 65536)) (fun _ => rfl) (fun hc7 => ?_) (fun hc7 => ?_)
        · skip
          replace hc7 := of_decide_eq_true hc7
          refine SW_seq ?_
          refine SW_region ?_
          refine SL_segT 2 [(7, .bool false), (6, .int .u64 18445336698825998336), (31, .bool (decide ((H.objs.length : Int) ≥ 65536))), (0, pt F.p 0), (1, .int .i64 kind), (2, .int .u64 proto)] (by intro δ w; kernel_rfl) ?_
          refine SL_nil (n_then ?_)
          refine SW_ret (r_then ?_)
          refine body_end (.tuple #[.int .u64 18445336698825998336, .bool false]) (fun _ => rfl) ?_
          exact ⟨(), (Own.of_perm (S := ((F.p, .cells 83 6 [Gs.val H.s H.objs.length, Gs.val H.ts H.texts.length, .map (some F.kb), pt F.T.p 0, pt F.cp 0, .int .i64 H.br]) :: ((Gs.ent 89 9 H.s (H.objs.flatMap ObjL.cells)) ++ ((H.objs.flatMap ObjL.ent) ++ ((Gs.ent 9 1 H.ts (H.texts.map encS)) ++ ((F.kb, .map (kvs encS encU H.known)) :: ((TreeV.ent H.V F.T) ++ ((CellsL.ent (CellsL.mk F.cp H.cs H.cl)) ++ ([]))))))))) (List.Perm.refl _)), rfl⟩
        · skip
          replace hc7 := of_decide_eq_false hc7
          refine SW_skip (n_then ?_)
          refine SW_seq ?_
          refine SW_draw [(F.p, 0, Gs.val H.s H.objs.length)] [0, 1, 2, 3, 5, 6, 7, 8, 9, 10, 11, 12] (by kernel_rfl) (rd_cons (Cell.own mem_z rfl) rd_nil) ?_
          refine SA_take (li' := #[true, false, false, false, false, false, false, false, false, false, false, false, false, false, false, false, false]) 0 _ (pt F.p 0) (fun _ _ _ h => h) rfl (by kernel_rfl) rfl (Or.inl ⟨fun _ => rfl, by intro δ w; kernel_rfl⟩) ?_
          refine SA_take (li' := #[true, true, false, false, false, false, false, false, false, false, false, false, false, false, false, false, false]) 1 _ (pt F.p 0) (fun _ _ _ h => h) rfl (by kernel_rfl) rfl (Or.inl ⟨fun _ => rfl, by intro δ w; kernel_rfl⟩) ?_
          refine SA_take (li' := #[true, true, true, false, false, false, false, false, false, false, false, false, false, false, false, false, false]) 2 _ (pt F.p 0) (fun _ _ _ h => h) rfl (by kernel_rfl) rfl (Or.inl ⟨fun _ => rfl, by intro δ w; kernel_rfl⟩) ?_
          refine SA_take (li' := #[true, true, true, true, false, false, false, false, false, false, false, false, false, false, false, false, false]) 3 _ (pt F.p 0) (fun _ _ _ h => h) rfl (by kernel_rfl) rfl (Or.inl ⟨fun _ => rfl, by intro δ w; kernel_rfl⟩) ?_
          refine SA_read (li' := #[true, true, true, true, true, false, false, false, false, false, false, false, false, false, false, false, false]) 4 _ (Gs.val H.s H.objs.length) (fun _ _ _ h => h) rfl (by kernel_rfl) rfl (fun _ => rfl) (fun δ w hr => Rd_load F.p 0 (Gs.val H.s H.objs.length) rfl (by kernel_rfl) List.mem_cons_self hr) ?_
          refine SA_trim [(36, Gs.val H.s H.objs.length), (32, pt F.p 0), (31, .bool (decide ((H.objs.length : Int) ≥ 65536))), (7, .bool false), (6, .int .u64 0), (0, pt F.p 0), (1, .int .i64 kind), (2, .int .u64 proto)] (fun _ => rfl) ?_
          refine SA_take (li' := #[true, true, true, true, true, true, false, false, false, false, false, false, false, false, false, false, false]) 5 _ (.int .i64 kind) (fun _ _ _ h => h) rfl (by kernel_rfl) rfl (Or.inl ⟨fun _ => rfl, by intro δ w; kernel_rfl⟩) ?_
          refine SA_take (li' := #[true, true, true, true, true, true, true, false, false, false, false, false, false, false, false, false, false]) 6 _ (.int .u64 proto) (fun _ _ _ h => h) rfl (by kernel_rfl) rfl (Or.inl ⟨fun _ => rfl, by intro δ w; kernel_rfl⟩) ?_
          refine SA_take (li' := #[true, true, true, true, true, true, true, true, false, false, false, false, false, false, false, false, false]) 7 _ (pt F.p 0) (fun _ _ _ h => h) rfl (by kernel_rfl) rfl (Or.inl ⟨fun _ => rfl, by intro δ w; kernel_rfl⟩) ?_
          refine SA_take (li' := #[true, true, true, true, true, true, true, true, true, false, false, false, false, false, false, false, false]) 8 _ (.int .i64 kind) (fun _ _ _ h => h) rfl (by kernel_rfl) rfl (Or.inl ⟨fun _ => rfl, by intro δ w; kernel_rfl⟩) ?_
          refine SA_take (li' := #[true, true, true, true, true, true, true, true, true, true, false, false, false, false, false, false, false]) 9 _ (.int .u64 proto) (fun _ _ _ h => h) rfl (by kernel_rfl) rfl (Or.inl ⟨fun _ => rfl, by intro δ w; kernel_rfl⟩) ?_
          refine SA_perm _ (perm_cc (perm_ca (perm_ca (perm_ca (perm_cc (perm_ca perm_cz)))))) ?_
          refine SA_perm _ (perm_ca (perm_cc (perm_ca (perm_ca (perm_ca (perm_cc perm_cz)))))) ?_
          refine SA_perm _ (perm_a (perm_a (perm_c (perm_a (perm_a (perm_a perm_z)))))) ?_
          refine SA_perm _ (perm_cc (perm_ca (perm_ca (perm_cc (perm_ca (perm_ca perm_cz)))))) ?_
          refine SA_perm _ (perm_ca (perm_cc (perm_ca (perm_ca (perm_cc (perm_ca perm_cz)))))) ?_
          refine SA_perm _ (perm_ca (perm_ca (perm_cc (perm_ca (perm_ca (perm_cc perm_cz)))))) ?_
          refine SA_perm _ (perm_a (perm_a (perm_a (perm_c (perm_a (perm_a perm_z)))))) ?_
          refine SA_sig (((F.p, .cells 83 6 [Gs.val H.s H.objs.length, Gs.val H.ts H.texts.length, .map (some F.kb), pt F.T.p 0, pt F.cp 0, .int .i64 H.br]) :: ((Gs.ent 89 9 H.s (H.objs.flatMap ObjL.cells)) ++ ((H.objs.flatMap ObjL.ent) ++ ((Gs.ent 9 1 H.ts (H.texts.map encS)) ++ ((F.kb, .map (kvs encS encU H.known)) :: ((TreeV.ent H.V F.T) ++ ((CellsL.ent (CellsL.mk F.cp H.cs H.cl)) ++ ([])))))))) ++ ([])) (by simp only [List.cons_append, List.append_assoc, List.nil_append, List.append_nil]) ?_
          refine SA_one true (li' := #[true, true, true, true, true, true, true, true, true, true, true, false, false, false, false, false, false]) 10 _ rfl rfl (by kernel_rfl) ⟨rfl, fun _ => rfl⟩ rfl (O_call 39 #[pt F.p 0, .int .i64 kind, .int .u64 proto] rfl (by intro δ w; kernel_rfl) ((heap_root hH kind proto).use _) ?_)
          rintro _ σ7 ⟨RV1, hσ7, hRV1, mRV1, okRV1, rfl, hrRV1⟩
          obtain rfl : σ7 = ((F.p, .cells 83 6 [Gs.val H.s H.objs.length, Gs.val H.ts H.texts.length, .map (some F.kb), pt F.T.p 0, pt F.cp 0, .int .i64 H.br]) :: ((Gs.ent 89 9 H.s (H.objs.flatMap ObjL.cells)) ++ ((H.objs.flatMap ObjL.ent) ++ ((Gs.ent 9 1 H.ts (H.texts.map encS)) ++ ((F.kb, .map (kvs encS encU H.known)) :: ((TreeV.ent RV1 F.T) ++ ((CellsL.ent (CellsL.mk F.cp H.cs H.cl)) ++ ([])))))))) := hσ7.trans (by simp only [HeapV.ent, List.cons_append, List.append_assoc, List.nil_append, List.append_nil])
          refine ⟨fun hnd => (rd_cons (Cell.own mem_z rfl) rd_nil), ?_⟩
          refine SA_take (li' := #[true, true, true, true, true, true, true, true, true, true, true, true, false, false, false, false, false]) 11 _ (.agg #[.int .i64 kind, .int .u64 proto, .bool false, .int .i64 (if okRV1 = true then mRV1 else -1), .slice none 0 0, .slice none 0 0, .slice none 0 0, .slice none 0 0, .int .i64 (-1)]) (fun _ _ _ h => h) rfl (by kernel_rfl) rfl (Or.inl ⟨fun _ => rfl, by intro δ w; kernel_rfl⟩) ?_
          refine SA_one true (li' := #[true, true, true, true, true, true, true, true, true, true, true, true, true, false, false, false, false]) 12 _ rfl rfl (by kernel_rfl) ⟨rfl, fun _ => rfl⟩ rfl (O_new (fun b => .slice (some ⟨b, 0, none⟩) 1 1) (.cells #[.int .i64 kind, .int .u64 proto, .bool false, .int .i64 (if okRV1 = true then mRV1 else -1), .slice none 0 0, .slice none 0 0, .slice none 0 0, .slice none 0 0, .int .i64 (-1)] 89 (0, 0)) (.cells 89 9 [.int .i64 kind, .int .u64 proto, .bool false, .int .i64 (if okRV1 = true then mRV1 else -1), .slice none 0 0, .slice none 0 0, .slice none 0 0, .slice none 0 0, .int .i64 (-1)]) rfl (by intro δ w; kernel_rfl) ⟨rfl, rfl, rfl, rfl⟩ ?_)
          intro b8 hlb8 hnb8
          refine ⟨fun hnd => (rd_cons (Cell.own (mem_c mem_z) rfl) rd_nil), ?_⟩
          refine SA_perm _ (perm_cc (perm_cc perm_cz)) ?_
          refine SA_one false (li' := #[true, true, true, true, true, true, true, true, true, true, true, true, true, true, false, false, false]) 13 _ rfl rfl (by kernel_rfl) ⟨rfl, fun _ => rfl⟩ rfl (O_append (size := 9) (bytes := 136) (z := .agg #[.int .i64 0, .int .u64 0, .bool false, .int .i64 0, .slice none 0 0, .slice none 0 0, .slice none 0 0, .slice none 0 0, .int .i64 0]) H.s H.objs.length 1 (some ⟨b8, 0, none⟩) 1 (H.objs.flatMap ObjL.cells) ([.int .i64 kind, .int .u64 proto, .bool false, .int .i64 (if okRV1 = true then mRV1 else -1), .slice none 0 0, .slice none 0 0, .slice none 0 0, .slice none 0 0, .int .i64 (-1)]) ((H.objs ++ [(ObjL.mk kind proto false (if okRV1 = true then mRV1 else -1) Gs.nil ([]) Gs.nil ([]) Gs.nil ([]) Gs.nil ([]) (-1))]).flatMap ObjL.cells) (flat_snoc _ (ObjL.mk kind proto false (if okRV1 = true then mRV1 else -1) Gs.nil ([]) Gs.nil ([]) Gs.nil ([]) Gs.nil ([]) (-1)) rfl) (fun _ => rfl) (fun _ => rfl) Try.underlying81 (by kernel_rfl) rfl (by decide) hH.row rfl (.inr ⟨b8, 0, rfl, Cells.own (mem_a mem_z) rfl⟩) rfl (by omega) (by decide) rfl ?_)
          intro s9 hks9 hfs9
          rw [show H.objs.length + 1 = (H.objs ++ [(ObjL.mk kind proto false (if okRV1 = true then mRV1 else -1) Gs.nil ([]) Gs.nil ([]) Gs.nil ([]) Gs.nil ([]) (-1))]).length from by simp]
          rw [show H.objs.length + 1 = (H.objs ++ [(ObjL.mk kind proto false (if okRV1 = true then mRV1 else -1) Gs.nil ([]) Gs.nil ([]) Gs.nil ([]) Gs.nil ([]) (-1))]).length from by simp] at hks9
          have hls9 : (H.objs ++ [(ObjL.mk kind proto false (if okRV1 = true then mRV1 else -1) Gs.nil ([]) Gs.nil ([]) Gs.nil ([]) Gs.nil ([]) (-1))]).length = H.objs.length + 1 := by simp
          refine ⟨fun hnd => (by cases hnd), ?_⟩
          refine SA_trim [(45, Gs.val s9 ((H.objs ++ [(ObjL.mk kind proto false (if okRV1 = true then mRV1 else -1) Gs.nil ([]) Gs.nil ([]) Gs.nil ([]) Gs.nil ([]) (-1))]).length)), (32, pt F.p 0), (31, .bool (decide ((H.objs.length : Int) ≥ 65536))), (7, .bool false), (6, .int .u64 0), (0, pt F.p 0), (1, .int .i64 kind), (2, .int .u64 proto)] (fun _ => rfl) ?_
          refine SA_take (li' := #[true, true, true, true, true, true, true, true, true, true, true, true, true, true, true, false, false]) 14 _ (pt F.p 0) (fun _ _ _ h => h) rfl (by kernel_rfl) rfl (Or.inl ⟨fun _ => rfl, by intro δ w; kernel_rfl⟩) ?_
          refine SA_take (li' := #[true, true, true, true, true, true, true, true, true, true, true, true, true, true, true, true, false]) 15 _ (pt F.p 0) (fun _ _ _ h => h) rfl (by kernel_rfl) rfl (Or.inl ⟨fun _ => rfl, by intro δ w; kernel_rfl⟩) ?_
          refine SA_perm _ (perm_a (perm_c perm_z)) ?_
          refine SA_one false (li' := #[true, true, true, true, true, true, true, true, true, true, true, true, true, true, true, true, true]) 16 _ rfl rfl (by kernel_rfl) ⟨rfl, fun _ => rfl⟩ rfl (O_store F.p 0 (Gs.val s9 ((H.objs ++ [(ObjL.mk kind proto false (if okRV1 = true then mRV1 else -1) Gs.nil ([]) Gs.nil ([]) Gs.nil ([]) Gs.nil ([]) (-1))]).length)) [Gs.val s9 ((H.objs ++ [(ObjL.mk kind proto false (if okRV1 = true then mRV1 else -1) Gs.nil ([]) Gs.nil ([]) Gs.nil ([]) Gs.nil ([]) (-1))]).length)] (fun _ => rfl) (fun _ => rfl) rfl (by kernel_rfl) rfl (by simp only [List.length_cons, List.length_nil]; omega) rfl ?_)
          refine ⟨fun hnd => (by cases hnd), ?_⟩
          refine SA_sig ((F.p, .cells 83 6 [Gs.val s9 ((H.objs ++ [(ObjL.mk kind proto false (if okRV1 = true then mRV1 else -1) Gs.nil ([]) Gs.nil ([]) Gs.nil ([]) Gs.nil ([]) (-1))]).length), Gs.val H.ts H.texts.length, .map (some F.kb), pt F.T.p 0, pt F.cp 0, .int .i64 H.br]) :: ((Gs.ent 89 9 s9 ((H.objs ++ [(ObjL.mk kind proto false (if okRV1 = true then mRV1 else -1) Gs.nil ([]) Gs.nil ([]) Gs.nil ([]) Gs.nil ([]) (-1))]).flatMap ObjL.cells)) ++ ((b8, .cells 89 9 [.int .i64 kind, .int .u64 proto, .bool false, .int .i64 (if okRV1 = true then mRV1 else -1), .slice none 0 0, .slice none 0 0, .slice none 0 0, .slice none 0 0, .int .i64 (-1)]) :: ((H.objs.flatMap ObjL.ent) ++ ((Gs.ent 9 1 H.ts (H.texts.map encS)) ++ ((F.kb, .map (kvs encS encU H.known)) :: ((TreeV.ent RV1 F.T) ++ ((CellsL.ent (CellsL.mk F.cp H.cs H.cl)) ++ ([]))))))))) rfl ?_
          refine SA_done (by kernel_rfl) (n_then ?_)
          refine SW_seq ?_
          refine SW_region ?_
          refine SL_s3 3 50 (pt F.p 0) 49 (pt F.p 0) 48 (pt F.p 0) (by intro δ w; kernel_rfl) ?_
          refine SL_cons ⟨rfl, fun _ => rfl⟩ (O_load F.p 0 (Gs.val s9 ((H.objs ++ [(ObjL.mk kind proto false (if okRV1 = true then mRV1 else -1) Gs.nil ([]) Gs.nil ([]) Gs.nil ([]) Gs.nil ([]) (-1))]).length)) (fun _ => rfl) (by kernel_rfl) (Cell.own mem_z rfl) rfl ?_)
          refine SL_s2 2 53 (.int .i64 (IntKind.wrap .i64 (((((H.objs ++ [(ObjL.mk kind proto false (if okRV1 = true then mRV1 else -1) Gs.nil ([]) Gs.nil ([]) Gs.nil ([]) Gs.nil ([]) (-1))]).length : Nat)) : Int) - 1))) 52 (.int .i64 ((((H.objs ++ [(ObjL.mk kind proto false (if okRV1 = true then mRV1 else -1) Gs.nil ([]) Gs.nil ([]) Gs.nil ([]) Gs.nil ([]) (-1))]).length : Nat)) : Int)) (by intro δ w; kernel_rfl) ?_
          rw [show IntKind.wrap .i64 (((((H.objs ++ [(ObjL.mk kind proto false (if okRV1 = true then mRV1 else -1) Gs.nil ([]) Gs.nil ([]) Gs.nil ([]) Gs.nil ([]) (-1))]).length : Nat)) : Int) - 1) = ((((H.objs ++ [(ObjL.mk kind proto false (if okRV1 = true then mRV1 else -1) Gs.nil ([]) Gs.nil ([]) Gs.nil ([]) Gs.nil ([]) (-1))]).length : Nat)) : Int) - 1 from IntWalk.i64_in _ (by omega)]
          refine SL_segT 1 [(54, .int .u32 (IntKind.wrap .u32 (((((H.objs ++ [(ObjL.mk kind proto false (if okRV1 = true then mRV1 else -1) Gs.nil ([]) Gs.nil ([]) Gs.nil ([]) Gs.nil ([]) (-1))]).length : Nat)) : Int) - 1))), (31, .bool (decide ((H.objs.length : Int) ≥ 65536))), (7, .bool false), (6, .int .u64 0), (0, pt F.p 0), (1, .int .i64 kind), (2, .int .u64 proto)] (by intro δ w; kernel_rfl) ?_
          rw [show IntKind.wrap .u32 (((((H.objs ++ [(ObjL.mk kind proto false (if okRV1 = true then mRV1 else -1) Gs.nil ([]) Gs.nil ([]) Gs.nil ([]) Gs.nil ([]) (-1))]).length : Nat)) : Int) - 1) = ((((H.objs ++ [(ObjL.mk kind proto false (if okRV1 = true then mRV1 else -1) Gs.nil ([]) Gs.nil ([]) Gs.nil ([]) Gs.nil ([]) (-1))]).length : Nat)) : Int) - 1 from IntWalk.u32_in _ (by omega)]
          refine SL_sig ([] ++ ((F.p, .cells 83 6 [Gs.val s9 ((H.objs ++ [(ObjL.mk kind proto false (if okRV1 = true then mRV1 else -1) Gs.nil ([]) Gs.nil ([]) Gs.nil ([]) Gs.nil ([]) (-1))]).length), Gs.val H.ts H.texts.length, .map (some F.kb), pt F.T.p 0, pt F.cp 0, .int .i64 H.br]) :: ((Gs.ent 89 9 s9 ((H.objs ++ [(ObjL.mk kind proto false (if okRV1 = true then mRV1 else -1) Gs.nil ([]) Gs.nil ([]) Gs.nil ([]) Gs.nil ([]) (-1))]).flatMap ObjL.cells)) ++ ((b8, .cells 89 9 [.int .i64 kind, .int .u64 proto, .bool false, .int .i64 (if okRV1 = true then mRV1 else -1), .slice none 0 0, .slice none 0 0, .slice none 0 0, .slice none 0 0, .int .i64 (-1)]) :: ((H.objs.flatMap ObjL.ent) ++ ((Gs.ent 9 1 H.ts (H.texts.map encS)) ++ ((F.kb, .map (kvs encS encU H.known)) :: ((TreeV.ent RV1 F.T) ++ ((CellsL.ent (CellsL.mk F.cp H.cs H.cl)) ++ ([])))))))))) rfl ?_
          refine SL_cons ⟨rfl, fun _ => rfl⟩ (O_call 40 #[.int .u32 (((((H.objs ++ [(ObjL.mk kind proto false (if okRV1 = true then mRV1 else -1) Gs.nil ([]) Gs.nil ([]) Gs.nil ([]) Gs.nil ([]) (-1))]).length : Nat)) : Int) - 1)] rfl (by intro δ w; kernel_rfl) ((word_Object (n := ((((H.objs ++ [(ObjL.mk kind proto false (if okRV1 = true then mRV1 else -1) Gs.nil ([]) Gs.nil ([]) Gs.nil ([]) Gs.nil ([]) (-1))]).length : Nat)) : Int) - 1) (by omega)).use _) ?_)
          rintro _ σ8 ⟨_, hσ8, rfl⟩
          obtain rfl : σ8 = ((F.p, .cells 83 6 [Gs.val s9 ((H.objs ++ [(ObjL.mk kind proto false (if okRV1 = true then mRV1 else -1) Gs.nil ([]) Gs.nil ([]) Gs.nil ([]) Gs.nil ([]) (-1))]).length), Gs.val H.ts H.texts.length, .map (some F.kb), pt F.T.p 0, pt F.cp 0, .int .i64 H.br]) :: ((Gs.ent 89 9 s9 ((H.objs ++ [(ObjL.mk kind proto false (if okRV1 = true then mRV1 else -1) Gs.nil ([]) Gs.nil ([]) Gs.nil ([]) Gs.nil ([]) (-1))]).flatMap ObjL.cells)) ++ ((b8, .cells 89 9 [.int .i64 kind, .int .u64 proto, .bool false, .int .i64 (if okRV1 = true then mRV1 else -1), .slice none 0 0, .slice none 0 0, .slice none 0 0, .slice none 0 0, .int .i64 (-1)]) :: ((H.objs.flatMap ObjL.ent) ++ ((Gs.ent 9 1 H.ts (H.texts.map encS)) ++ ((F.kb, .map (kvs encS encU H.known)) :: ((TreeV.ent RV1 F.T) ++ ((CellsL.ent (CellsL.mk F.cp H.cs H.cl)) ++ ([]))))))))) := hσ8.trans (rfl)
          refine SL_segT 2 [(7, .bool true), (6, .int .u64 (65530 * 281474976710656 + (((((H.objs ++ [(ObjL.mk kind proto false (if okRV1 = true then mRV1 else -1) Gs.nil ([]) Gs.nil ([]) Gs.nil ([]) Gs.nil ([]) (-1))]).length : Nat)) : Int) - 1))), (31, .bool (decide ((H.objs.length : Int) ≥ 65536))), (0, pt F.p 0), (1, .int .i64 kind), (2, .int .u64 proto)] (by intro δ w; kernel_rfl) ?_
          refine SL_nil (n_then ?_)
          refine SW_ret ?_
          refine body_end (.tuple #[.int .u64 (65530 * 281474976710656 + (((((H.objs ++ [(ObjL.mk kind proto false (if okRV1 = true then mRV1 else -1) Gs.nil ([]) Gs.nil ([]) Gs.nil ([]) Gs.nil ([]) (-1))]).length : Nat)) : Int) - 1)), .bool true]) (fun _ => rfl) ?_
          exact absurd (show mayMake H kind proto from ⟨by omega, by first | (left; simp_all; done) | (right; simp_all; done), by omega⟩) hmay

theorem heap_Make_yes {W0 : World} {F : HeapF} {H : HeapV} (hH : H.ok F) {kind proto : Int} (hmay : mayMake H kind proto) : SC Try.prog W0 11 #[.pointer (some ⟨F.p, 0, none⟩), .int .i64 kind, .int .u64 proto] (HeapV.ent H F) (Ret (fun r : Gs × Int × TreeV => (H.add r.1 (newObj kind proto r.2.1) r.2.2).ent F) (fun v r => v = .tuple #[.int .u64 (65530 * 281474976710656 + H.objs.length), .bool true] ∧ (H.add r.1 (newObj kind proto r.2.1) r.2.2).ok F ∧ ∃ m ok, rootP (H.V.abs F.T) (rootKey proto kind) = (r.2.2.abs F.T, m, ok) ∧ r.2.1 = if ok = true then m else -1)) := by
  refine SC_body (fn := Try.f11) (n := 56) Try.func11 rfl (by kernel_rfl) (ρ := [(0, pt F.p 0), (1, .int .i64 kind), (2, .int .u64 proto)]) rfl ?_
  refine SW_sig ((F.p, .cells 83 6 [Gs.val H.s H.objs.length, Gs.val H.ts H.texts.length, .map (some F.kb), pt F.T.p 0, pt F.cp 0, .int .i64 H.br]) :: ((Gs.ent 89 9 H.s (H.objs.flatMap ObjL.cells)) ++ ((H.objs.flatMap ObjL.ent) ++ ((Gs.ent 9 1 H.ts (H.texts.map encS)) ++ ((F.kb, .map (kvs encS encU H.known)) :: ((TreeV.ent H.V F.T) ++ ((CellsL.ent (CellsL.mk F.cp H.cs H.cl)) ++ ([])))))))) rfl ?_
  have hob := hH.objs
  refine SW_seq ?_
  refine SW_region ?_
  refine SL_s2 2 7 (.bool false) 6 (.int .u64 0) (by intro δ w; kernel_rfl) ?_
  refine SL_nil (n_then ?_)
  refine SW_seq ?_
  refine SW_seq ?_
  refine SW_region ?_
  refine SL_s3 3 10 (.bool (decide (kind < 0))) 9 (.bool (decide (kind < 0))) 8 (.int .i64 kind) (by intro δ w; kernel_rfl) ?_
  refine SL_tb (decide (kind < 0)) (fun tb_ => [(10, .bool tb_), (9, .bool tb_), (8, .int .i64 kind), (7, .bool false), (6, .int .u64 0), (0, pt F.p 0), (1, .int .i64 kind), (2, .int .u64 proto)]) (fun hg1 => ?_) (fun hg1 => ?_)
  · skip
    replace hg1 := of_decide_eq_true hg1
    refine SL_segT 21 [(31, .bool true), (7, .bool false), (6, .int .u64 0), (0, pt F.p 0), (1, .int .i64 kind), (2, .int .u64 proto)] (by intro δ w; kernel_rfl) ?_
    refine SL_nil (n_then ?_)
    refine SW_true (fun _ => rfl) ?_
    refine SW_seq ?_
    refine SW_region ?_
    refine SL_segT 2 [(7, .bool false), (6, .int .u64 18445336698825998336), (31, .bool true), (0, pt F.p 0), (1, .int .i64 kind), (2, .int .u64 proto)] (by intro δ w; kernel_rfl) ?_
    refine SL_nil (n_then ?_)
    refine SW_ret (r_then ?_)
    refine body_end (.tuple #[.int .u64 18445336698825998336, .bool false]) (fun _ => rfl) ?_
    exact absurd hmay (by unfold mayMake; intro q; obtain ⟨⟨q1, q2⟩, q3, q4⟩ := q; first | omega | (simp_all; done) | (simp_all; omega))
  · skip
    replace hg1 := of_decide_eq_false hg1
    refine SL_s4 4 14 (.bool (decide (kind > 6))) 13 (.bool (decide (kind > 6))) 12 (.bool (decide (kind > 6))) 11 (.int .i64 kind) (by intro δ w; kernel_rfl) ?_
    refine SL_tb (decide (kind > 6)) (fun tb_ => [(14, .bool tb_), (13, .bool tb_), (12, .bool tb_), (11, .int .i64 kind), (10, .bool false), (9, .bool false), (8, .int .i64 kind), (7, .bool false), (6, .int .u64 0), (0, pt F.p 0), (1, .int .i64 kind), (2, .int .u64 proto)]) (fun hg2 => ?_) (fun hg2 => ?_)
    · skip
      replace hg2 := of_decide_eq_true hg2
      refine SL_segT 17 [(31, .bool true), (7, .bool false), (6, .int .u64 0), (0, pt F.p 0), (1, .int .i64 kind), (2, .int .u64 proto)] (by intro δ w; kernel_rfl) ?_
      refine SL_nil (n_then ?_)
      refine SW_true (fun _ => rfl) ?_
      refine SW_seq ?_
      refine SW_region ?_
      refine SL_segT 2 [(7, .bool false), (6, .int .u64 18445336698825998336), (31, .bool true), (0, pt F.p 0), (1, .int .i64 kind), (2, .int .u64 proto)] (by intro δ w; kernel_rfl) ?_
      refine SL_nil (n_then ?_)
      refine SW_ret (r_then ?_)
      refine body_end (.tuple #[.int .u64 18445336698825998336, .bool false]) (fun _ => rfl) ?_
      exact absurd hmay (by unfold mayMake; intro q; obtain ⟨⟨q1, q2⟩, q3, q4⟩ := q; first | omega | (simp_all; done) | (simp_all; omega))
    · skip
      replace hg2 := of_decide_eq_false hg2
      refine SL_s3 3 17 (.bool (proto != 18445336698825998337)) 16 (.bool (proto != 18445336698825998337)) 15 (.int .u64 proto) (by intro δ w; kernel_rfl) ?_
      refine SL_tb (proto != 18445336698825998337) (fun tb_ => [(17, .bool tb_), (16, .bool tb_), (15, .int .u64 proto), (14, .bool false), (13, .bool false), (12, .bool false), (11, .int .i64 kind), (10, .bool false), (9, .bool false), (8, .int .i64 kind), (7, .bool false), (6, .int .u64 0), (0, pt F.p 0), (1, .int .i64 kind), (2, .int .u64 proto)]) (fun hg3 => ?_) (fun hg3 => ?_)
      · skip
        refine SL_s2 2 19 (.int .u64 proto) 18 (pt F.p 0) (by intro δ w; kernel_rfl) ?_
        rcases hm1 : objAt proto H.objs.length with _ | m1
        · skip
          refine SL_perm _ (perm_cc (perm_ca (perm_ca (perm_ca (perm_cc (perm_ca perm_cz)))))) ?_
          refine SL_perm _ (perm_ca (perm_cc (perm_ca (perm_ca (perm_ca (perm_cc perm_cz)))))) ?_
          refine SL_perm _ (perm_a (perm_a (perm_c (perm_a (perm_a (perm_a perm_z)))))) ?_
          refine SL_perm _ (perm_cc (perm_ca (perm_ca (perm_cc (perm_ca (perm_ca perm_cz)))))) ?_
          refine SL_perm _ (perm_ca (perm_cc (perm_ca (perm_ca (perm_cc (perm_ca perm_cz)))))) ?_
          refine SL_perm _ (perm_ca (perm_ca (perm_cc (perm_ca (perm_ca (perm_cc perm_cz)))))) ?_
          refine SL_perm _ (perm_a (perm_a (perm_a (perm_c (perm_a (perm_a perm_z)))))) ?_
          refine SL_sig (((F.p, .cells 83 6 [Gs.val H.s H.objs.length, Gs.val H.ts H.texts.length, .map (some F.kb), pt F.T.p 0, pt F.cp 0, .int .i64 H.br]) :: ((Gs.ent 89 9 H.s (H.objs.flatMap ObjL.cells)) ++ ((H.objs.flatMap ObjL.ent) ++ ((Gs.ent 9 1 H.ts (H.texts.map encS)) ++ ((F.kb, .map (kvs encS encU H.known)) :: ((TreeV.ent H.V F.T) ++ ((CellsL.ent (CellsL.mk F.cp H.cs H.cl)) ++ ([])))))))) ++ ([])) (by simp only [List.cons_append, List.append_assoc, List.nil_append, List.append_nil]) ?_
          refine SL_cons ⟨rfl, fun _ => rfl⟩ (O_call 38 #[pt F.p 0, .int .u64 proto] rfl (by intro δ w; kernel_rfl) ((heap_at hH proto).use _) ?_)
          rintro v1 σ1 ⟨_, hσ1, hv1⟩
          obtain rfl : v1 = .pointer none := hv1.trans (by rw [hm1])
          obtain rfl : σ1 = ((F.p, .cells 83 6 [Gs.val H.s H.objs.length, Gs.val H.ts H.texts.length, .map (some F.kb), pt F.T.p 0, pt F.cp 0, .int .i64 H.br]) :: ((Gs.ent 89 9 H.s (H.objs.flatMap ObjL.cells)) ++ ((H.objs.flatMap ObjL.ent) ++ ((Gs.ent 9 1 H.ts (H.texts.map encS)) ++ ((F.kb, .map (kvs encS encU H.known)) :: ((TreeV.ent H.V F.T) ++ ((CellsL.ent (CellsL.mk F.cp H.cs H.cl)) ++ ([])))))))) := hσ1.trans (by simp only [HeapV.ent, List.cons_append, List.append_assoc, List.nil_append, List.append_nil])
          refine SL_segT 11 [(31, .bool true), (7, .bool false), (6, .int .u64 0), (0, pt F.p 0), (1, .int .i64 kind), (2, .int .u64 proto)] (by intro δ w; kernel_rfl) ?_
          refine SL_nil (n_then ?_)
          refine SW_true (fun _ => rfl) ?_
          refine SW_seq ?_
          refine SW_region ?_
          refine SL_segT 2 [(7, .bool false), (6, .int .u64 18445336698825998336), (31, .bool true), (0, pt F.p 0), (1, .int .i64 kind), (2, .int .u64 proto)] (by intro δ w; kernel_rfl) ?_
          refine SL_nil (n_then ?_)
          refine SW_ret (r_then ?_)
          refine body_end (.tuple #[.int .u64 18445336698825998336, .bool false]) (fun _ => rfl) ?_
          exact absurd hmay (by unfold mayMake; intro q; obtain ⟨⟨q1, q2⟩, q3, q4⟩ := q; first | omega | (simp_all; done) | (simp_all; omega))
        · skip
          refine SL_perm _ (perm_cc (perm_ca (perm_ca (perm_ca (perm_cc (perm_ca perm_cz)))))) ?_
          refine SL_perm _ (perm_ca (perm_cc (perm_ca (perm_ca (perm_ca (perm_cc perm_cz)))))) ?_
          refine SL_perm _ (perm_a (perm_a (perm_c (perm_a (perm_a (perm_a perm_z)))))) ?_
          refine SL_perm _ (perm_cc (perm_ca (perm_ca (perm_cc (perm_ca (perm_ca perm_cz)))))) ?_
          refine SL_perm _ (perm_ca (perm_cc (perm_ca (perm_ca (perm_cc (perm_ca perm_cz)))))) ?_
          refine SL_perm _ (perm_ca (perm_ca (perm_cc (perm_ca (perm_ca (perm_cc perm_cz)))))) ?_
          refine SL_perm _ (perm_a (perm_a (perm_a (perm_c (perm_a (perm_a perm_z)))))) ?_
          refine SL_sig (((F.p, .cells 83 6 [Gs.val H.s H.objs.length, Gs.val H.ts H.texts.length, .map (some F.kb), pt F.T.p 0, pt F.cp 0, .int .i64 H.br]) :: ((Gs.ent 89 9 H.s (H.objs.flatMap ObjL.cells)) ++ ((H.objs.flatMap ObjL.ent) ++ ((Gs.ent 9 1 H.ts (H.texts.map encS)) ++ ((F.kb, .map (kvs encS encU H.known)) :: ((TreeV.ent H.V F.T) ++ ((CellsL.ent (CellsL.mk F.cp H.cs H.cl)) ++ ([])))))))) ++ ([])) (by simp only [List.cons_append, List.append_assoc, List.nil_append, List.append_nil]) ?_
          refine SL_cons ⟨rfl, fun _ => rfl⟩ (O_call 38 #[pt F.p 0, .int .u64 proto] rfl (by intro δ w; kernel_rfl) ((heap_at hH proto).use _) ?_)
          rintro v2 σ2 ⟨_, hσ2, hv2⟩
          obtain rfl : v2 = pt (Gs.blk H.s) (m1 * 9) := hv2.trans (by rw [hm1])
          obtain rfl : σ2 = ((F.p, .cells 83 6 [Gs.val H.s H.objs.length, Gs.val H.ts H.texts.length, .map (some F.kb), pt F.T.p 0, pt F.cp 0, .int .i64 H.br]) :: ((Gs.ent 89 9 H.s (H.objs.flatMap ObjL.cells)) ++ ((H.objs.flatMap ObjL.ent) ++ ((Gs.ent 9 1 H.ts (H.texts.map encS)) ++ ((F.kb, .map (kvs encS encU H.known)) :: ((TreeV.ent H.V F.T) ++ ((CellsL.ent (CellsL.mk F.cp H.cs H.cl)) ++ ([])))))))) := hσ2.trans (by simp only [HeapV.ent, List.cons_append, List.append_assoc, List.nil_append, List.append_nil])
          refine SL_segT 7 [(27, pt F.p 0), (24, .bool false), (7, .bool false), (6, .int .u64 0), (0, pt F.p 0), (1, .int .i64 kind), (2, .int .u64 proto)] (by intro δ w; kernel_rfl) ?_
          refine SL_cons ⟨rfl, fun _ => rfl⟩ (O_load F.p 0 (Gs.val H.s H.objs.length) (fun _ => rfl) (by kernel_rfl) (Cell.own mem_z rfl) rfl ?_)
          refine SL_s3 3 31 (.bool (decide ((H.objs.length : Int) ≥ 65536))) 30 (.bool (decide ((H.objs.length : Int) ≥ 65536))) 29 (.int .i64 (H.objs.length : Int)) (by intro δ w; kernel_rfl) ?_
          refine SL_nil (n_then ?_)
          refine SW_cond (decide ((H.objs.length : Int) ≥ 65536)) (fun _ => rfl) (fun hc4 => ?_) (fun hc4 => ?_)
          · skip
            replace hc4 := of_decide_eq_true hc4
            refine SW_seq ?_
            refine SW_region ?_
            refine SL_segT 2 [(7, .bool false), (6, .int .u64 18445336698825998336), (31, .bool (decide ((H.objs.length : Int) ≥ 65536))), (0, pt F.p 0), (1, .int .i64 kind), (2, .int .u64 proto)] (by intro δ w; kernel_rfl) ?_
            refine SL_nil (n_then ?_)
            refine SW_ret (r_then ?_)
            refine body_end (.tuple #[.int .u64 18445336698825998336, .bool false]) (fun _ => rfl) ?_
            exact absurd hmay (by unfold mayMake; intro q; obtain ⟨⟨q1, q2⟩, q3, q4⟩ := q; first | omega | (simp_all; done) | (simp_all; omega))
          · skip
            replace hc4 := of_decide_eq_false hc4
            refine SW_skip (n_then ?_)
            refine SW_seq ?_
            refine SW_draw [(F.p, 0, Gs.val H.s H.objs.length)] [0, 1, 2, 3, 5, 6, 7, 8, 9, 10, 11, 12] (by kernel_rfl) (rd_cons (Cell.own mem_z rfl) rd_nil) ?_
            refine SA_take (li' := #[true, false, false, false, false, false, false, false, false, false, false, false, false, false, false, false, false]) 0 _ (pt F.p 0) (fun _ _ _ h => h) rfl (by kernel_rfl) rfl (Or.inl ⟨fun _ => rfl, by intro δ w; kernel_rfl⟩) ?_
            refine SA_take (li' := #[true, true, false, false, false, false, false, false, false, false, false, false, false, false, false, false, false]) 1 _ (pt F.p 0) (fun _ _ _ h => h) rfl (by kernel_rfl) rfl (Or.inl ⟨fun _ => rfl, by intro δ w; kernel_rfl⟩) ?_
            refine SA_take (li' := #[true, true, true, false, false, false, false, false, false, false, false, false, false, false, false, false, false]) 2 _ (pt F.p 0) (fun _ _ _ h => h) rfl (by kernel_rfl) rfl (Or.inl ⟨fun _ => rfl, by intro δ w; kernel_rfl⟩) ?_
            refine SA_take (li' := #[true, true, true, true, false, false, false, false, false, false, false, false, false, false, false, false, false]) 3 _ (pt F.p 0) (fun _ _ _ h => h) rfl (by kernel_rfl) rfl (Or.inl ⟨fun _ => rfl, by intro δ w; kernel_rfl⟩) ?_
            refine SA_read (li' := #[true, true, true, true, true, false, false, false, false, false, false, false, false, false, false, false, false]) 4 _ (Gs.val H.s H.objs.length) (fun _ _ _ h => h) rfl (by kernel_rfl) rfl (fun _ => rfl) (fun δ w hr => Rd_load F.p 0 (Gs.val H.s H.objs.length) rfl (by kernel_rfl) List.mem_cons_self hr) ?_
            refine SA_trim [(36, Gs.val H.s H.objs.length), (32, pt F.p 0), (31, .bool (decide ((H.objs.length : Int) ≥ 65536))), (7, .bool false), (6, .int .u64 0), (0, pt F.p 0), (1, .int .i64 kind), (2, .int .u64 proto)] (fun _ => rfl) ?_
            refine SA_take (li' := #[true, true, true, true, true, true, false, false, false, false, false, false, false, false, false, false, false]) 5 _ (.int .i64 kind) (fun _ _ _ h => h) rfl (by kernel_rfl) rfl (Or.inl ⟨fun _ => rfl, by intro δ w; kernel_rfl⟩) ?_
            refine SA_take (li' := #[true, true, true, true, true, true, true, false, false, false, false, false, false, false, false, false, false]) 6 _ (.int .u64 proto) (fun _ _ _ h => h) rfl (by kernel_rfl) rfl (Or.inl ⟨fun _ => rfl, by intro δ w; kernel_rfl⟩) ?_
            refine SA_take (li' := #[true, true, true, true, true, true, true, true, false, false, false, false, false, false, false, false, false]) 7 _ (pt F.p 0) (fun _ _ _ h => h) rfl (by kernel_rfl) rfl (Or.inl ⟨fun _ => rfl, by intro δ w; kernel_rfl⟩) ?_
            refine SA_take (li' := #[true, true, true, true, true, true, true, true, true, false, false, false, false, false, false, false, false]) 8 _ (.int .i64 kind) (fun _ _ _ h => h) rfl (by kernel_rfl) rfl (Or.inl ⟨fun _ => rfl, by intro δ w; kernel_rfl⟩) ?_
            refine SA_take (li' := #[true, true, true, true, true, true, true, true, true, true, false, false, false, false, false, false, false]) 9 _ (.int .u64 proto) (fun _ _ _ h => h) rfl (by kernel_rfl) rfl (Or.inl ⟨fun _ => rfl, by intro δ w; kernel_rfl⟩) ?_
            refine SA_perm _ (perm_cc (perm_ca (perm_ca (perm_ca (perm_cc (perm_ca perm_cz)))))) ?_
            refine SA_perm _ (perm_ca (perm_cc (perm_ca (perm_ca (perm_ca (perm_cc perm_cz)))))) ?_
            refine SA_perm _ (perm_a (perm_a (perm_c (perm_a (perm_a (perm_a perm_z)))))) ?_
            refine SA_perm _ (perm_cc (perm_ca (perm_ca (perm_cc (perm_ca (perm_ca perm_cz)))))) ?_
            refine SA_perm _ (perm_ca (perm_cc (perm_ca (perm_ca (perm_cc (perm_ca perm_cz)))))) ?_
            refine SA_perm _ (perm_ca (perm_ca (perm_cc (perm_ca (perm_ca (perm_cc perm_cz)))))) ?_
            refine SA_perm _ (perm_a (perm_a (perm_a (perm_c (perm_a (perm_a perm_z)))))) ?_
            refine SA_sig (((F.p, .cells 83 6 [Gs.val H.s H.objs.length, Gs.val H.ts H.texts.length, .map (some F.kb), pt F.T.p 0, pt F.cp 0, .int .i64 H.br]) :: ((Gs.ent 89 9 H.s (H.objs.flatMap ObjL.cells)) ++ ((H.objs.flatMap ObjL.ent) ++ ((Gs.ent 9 1 H.ts (H.texts.map encS)) ++ ((F.kb, .map (kvs encS encU H.known)) :: ((TreeV.ent H.V F.T) ++ ((CellsL.ent (CellsL.mk F.cp H.cs H.cl)) ++ ([])))))))) ++ ([])) (by simp only [List.cons_append, List.append_assoc, List.nil_append, List.append_nil]) ?_
            refine SA_one true (li' := #[true, true, true, true, true, true, true, true, true, true, true, false, false, false, false, false, false]) 10 _ rfl rfl (by kernel_rfl) ⟨rfl, fun _ => rfl⟩ rfl (O_call 39 #[pt F.p 0, .int .i64 kind, .int .u64 proto] rfl (by intro δ w; kernel_rfl) ((heap_root hH kind proto).use _) ?_)
            rintro _ σ4 ⟨RV1, hσ4, hRV1, mRV1, okRV1, rfl, hrRV1⟩
            obtain rfl : σ4 = ((F.p, .cells 83 6 [Gs.val H.s H.objs.length, Gs.val H.ts H.texts.length, .map (some F.kb), pt F.T.p 0, pt F.cp 0, .int .i64 H.br]) :: ((Gs.ent 89 9 H.s (H.objs.flatMap ObjL.cells)) ++ ((H.objs.flatMap ObjL.ent) ++ ((Gs.ent 9 1 H.ts (H.texts.map encS)) ++ ((F.kb, .map (kvs encS encU H.known)) :: ((TreeV.ent RV1 F.T) ++ ((CellsL.ent (CellsL.mk F.cp H.cs H.cl)) ++ ([])))))))) := hσ4.trans (by simp only [HeapV.ent, List.cons_append, List.append_assoc, List.nil_append, List.append_nil])
            refine ⟨fun hnd => (rd_cons (Cell.own mem_z rfl) rd_nil), ?_⟩
            refine SA_take (li' := #[true, true, true, true, true, true, true, true, true, true, true, true, false, false, false, false, false]) 11 _ (.agg #[.int .i64 kind, .int .u64 proto, .bool false, .int .i64 (if okRV1 = true then mRV1 else -1), .slice none 0 0, .slice none 0 0, .slice none 0 0, .slice none 0 0, .int .i64 (-1)]) (fun _ _ _ h => h) rfl (by kernel_rfl) rfl (Or.inl ⟨fun _ => rfl, by intro δ w; kernel_rfl⟩) ?_
            refine SA_one true (li' := #[true, true, true, true, true, true, true, true, true, true, true, true, true, false, false, false, false]) 12 _ rfl rfl (by kernel_rfl) ⟨rfl, fun _ => rfl⟩ rfl (O_new (fun b => .slice (some ⟨b, 0, none⟩) 1 1) (.cells #[.int .i64 kind, .int .u64 proto, .bool false, .int .i64 (if okRV1 = true then mRV1 else -1), .slice none 0 0, .slice none 0 0, .slice none 0 0, .slice none 0 0, .int .i64 (-1)] 89 (0, 0)) (.cells 89 9 [.int .i64 kind, .int .u64 proto, .bool false, .int .i64 (if okRV1 = true then mRV1 else -1), .slice none 0 0, .slice none 0 0, .slice none 0 0, .slice none 0 0, .int .i64 (-1)]) rfl (by intro δ w; kernel_rfl) ⟨rfl, rfl, rfl, rfl⟩ ?_)
            intro b5 hlb5 hnb5
            refine ⟨fun hnd => (rd_cons (Cell.own (mem_c mem_z) rfl) rd_nil), ?_⟩
            refine SA_perm _ (perm_cc (perm_cc perm_cz)) ?_
            refine SA_one false (li' := #[true, true, true, true, true, true, true, true, true, true, true, true, true, true, false, false, false]) 13 _ rfl rfl (by kernel_rfl) ⟨rfl, fun _ => rfl⟩ rfl (O_append (size := 9) (bytes := 136) (z := .agg #[.int .i64 0, .int .u64 0, .bool false, .int .i64 0, .slice none 0 0, .slice none 0 0, .slice none 0 0, .slice none 0 0, .int .i64 0]) H.s H.objs.length 1 (some ⟨b5, 0, none⟩) 1 (H.objs.flatMap ObjL.cells) ([.int .i64 kind, .int .u64 proto, .bool false, .int .i64 (if okRV1 = true then mRV1 else -1), .slice none 0 0, .slice none 0 0, .slice none 0 0, .slice none 0 0, .int .i64 (-1)]) ((H.objs ++ [(ObjL.mk kind proto false (if okRV1 = true then mRV1 else -1) Gs.nil ([]) Gs.nil ([]) Gs.nil ([]) Gs.nil ([]) (-1))]).flatMap ObjL.cells) (flat_snoc _ (ObjL.mk kind proto false (if okRV1 = true then mRV1 else -1) Gs.nil ([]) Gs.nil ([]) Gs.nil ([]) Gs.nil ([]) (-1)) rfl) (fun _ => rfl) (fun _ => rfl) Try.underlying81 (by kernel_rfl) rfl (by decide) hH.row rfl (.inr ⟨b5, 0, rfl, Cells.own (mem_a mem_z) rfl⟩) rfl (by omega) (by decide) rfl ?_)
            intro s6 hks6 hfs6
            rw [show H.objs.length + 1 = (H.objs ++ [(ObjL.mk kind proto false (if okRV1 = true then mRV1 else -1) Gs.nil ([]) Gs.nil ([]) Gs.nil ([]) Gs.nil ([]) (-1))]).length from by simp]
            rw [show H.objs.length + 1 = (H.objs ++ [(ObjL.mk kind proto false (if okRV1 = true then mRV1 else -1) Gs.nil ([]) Gs.nil ([]) Gs.nil ([]) Gs.nil ([]) (-1))]).length from by simp] at hks6
            have hls6 : (H.objs ++ [(ObjL.mk kind proto false (if okRV1 = true then mRV1 else -1) Gs.nil ([]) Gs.nil ([]) Gs.nil ([]) Gs.nil ([]) (-1))]).length = H.objs.length + 1 := by simp
            refine ⟨fun hnd => (by cases hnd), ?_⟩
            refine SA_trim [(45, Gs.val s6 ((H.objs ++ [(ObjL.mk kind proto false (if okRV1 = true then mRV1 else -1) Gs.nil ([]) Gs.nil ([]) Gs.nil ([]) Gs.nil ([]) (-1))]).length)), (32, pt F.p 0), (31, .bool (decide ((H.objs.length : Int) ≥ 65536))), (7, .bool false), (6, .int .u64 0), (0, pt F.p 0), (1, .int .i64 kind), (2, .int .u64 proto)] (fun _ => rfl) ?_
            refine SA_take (li' := #[true, true, true, true, true, true, true, true, true, true, true, true, true, true, true, false, false]) 14 _ (pt F.p 0) (fun _ _ _ h => h) rfl (by kernel_rfl) rfl (Or.inl ⟨fun _ => rfl, by intro δ w; kernel_rfl⟩) ?_
            refine SA_take (li' := #[true, true, true, true, true, true, true, true, true, true, true, true, true, true, true, true, false]) 15 _ (pt F.p 0) (fun _ _ _ h => h) rfl (by kernel_rfl) rfl (Or.inl ⟨fun _ => rfl, by intro δ w; kernel_rfl⟩) ?_
            refine SA_perm _ (perm_a (perm_c perm_z)) ?_
            refine SA_one false (li' := #[true, true, true, true, true, true, true, true, true, true, true, true, true, true, true, true, true]) 16 _ rfl rfl (by kernel_rfl) ⟨rfl, fun _ => rfl⟩ rfl (O_store F.p 0 (Gs.val s6 ((H.objs ++ [(ObjL.mk kind proto false (if okRV1 = true then mRV1 else -1) Gs.nil ([]) Gs.nil ([]) Gs.nil ([]) Gs.nil ([]) (-1))]).length)) [Gs.val s6 ((H.objs ++ [(ObjL.mk kind proto false (if okRV1 = true then mRV1 else -1) Gs.nil ([]) Gs.nil ([]) Gs.nil ([]) Gs.nil ([]) (-1))]).length)] (fun _ => rfl) (fun _ => rfl) rfl (by kernel_rfl) rfl (by simp only [List.length_cons, List.length_nil]; omega) rfl ?_)
            refine ⟨fun hnd => (by cases hnd), ?_⟩
            refine SA_sig ((F.p, .cells 83 6 [Gs.val s6 ((H.objs ++ [(ObjL.mk kind proto false (if okRV1 = true then mRV1 else -1) Gs.nil ([]) Gs.nil ([]) Gs.nil ([]) Gs.nil ([]) (-1))]).length), Gs.val H.ts H.texts.length, .map (some F.kb), pt F.T.p 0, pt F.cp 0, .int .i64 H.br]) :: ((Gs.ent 89 9 s6 ((H.objs ++ [(ObjL.mk kind proto false (if okRV1 = true then mRV1 else -1) Gs.nil ([]) Gs.nil ([]) Gs.nil ([]) Gs.nil ([]) (-1))]).flatMap ObjL.cells)) ++ ((b5, .cells 89 9 [.int .i64 kind, .int .u64 proto, .bool false, .int .i64 (if okRV1 = true then mRV1 else -1), .slice none 0 0, .slice none 0 0, .slice none 0 0, .slice none 0 0, .int .i64 (-1)]) :: ((H.objs.flatMap ObjL.ent) ++ ((Gs.ent 9 1 H.ts (H.texts.map encS)) ++ ((F.kb, .map (kvs encS encU H.known)) :: ((TreeV.ent RV1 F.T) ++ ((CellsL.ent (CellsL.mk F.cp H.cs H.cl)) ++ ([]))))))))) rfl ?_
            refine SA_done (by kernel_rfl) (n_then ?_)
            refine SW_seq ?_
            refine SW_region ?_
            refine SL_s3 3 50 (pt F.p 0) 49 (pt F.p 0) 48 (pt F.p 0) (by intro δ w; kernel_rfl) ?_
            refine SL_cons ⟨rfl, fun _ => rfl⟩ (O_load F.p 0 (Gs.val s6 ((H.objs ++ [(ObjL.mk kind proto false (if okRV1 = true then mRV1 else -1) Gs.nil ([]) Gs.nil ([]) Gs.nil ([]) Gs.nil ([]) (-1))]).length)) (fun _ => rfl) (by kernel_rfl) (Cell.own mem_z rfl) rfl ?_)
            refine SL_s2 2 53 (.int .i64 (IntKind.wrap .i64 (((((H.objs ++ [(ObjL.mk kind proto false (if okRV1 = true then mRV1 else -1) Gs.nil ([]) Gs.nil ([]) Gs.nil ([]) Gs.nil ([]) (-1))]).length : Nat)) : Int) - 1))) 52 (.int .i64 ((((H.objs ++ [(ObjL.mk kind proto false (if okRV1 = true then mRV1 else -1) Gs.nil ([]) Gs.nil ([]) Gs.nil ([]) Gs.nil ([]) (-1))]).length : Nat)) : Int)) (by intro δ w; kernel_rfl) ?_
            rw [show IntKind.wrap .i64 (((((H.objs ++ [(ObjL.mk kind proto false (if okRV1 = true then mRV1 else -1) Gs.nil ([]) Gs.nil ([]) Gs.nil ([]) Gs.nil ([]) (-1))]).length : Nat)) : Int) - 1) = ((((H.objs ++ [(ObjL.mk kind proto false (if okRV1 = true then mRV1 else -1) Gs.nil ([]) Gs.nil ([]) Gs.nil ([]) Gs.nil ([]) (-1))]).length : Nat)) : Int) - 1 from IntWalk.i64_in _ (by omega)]
            refine SL_segT 1 [(54, .int .u32 (IntKind.wrap .u32 (((((H.objs ++ [(ObjL.mk kind proto false (if okRV1 = true then mRV1 else -1) Gs.nil ([]) Gs.nil ([]) Gs.nil ([]) Gs.nil ([]) (-1))]).length : Nat)) : Int) - 1))), (31, .bool (decide ((H.objs.length : Int) ≥ 65536))), (7, .bool false), (6, .int .u64 0), (0, pt F.p 0), (1, .int .i64 kind), (2, .int .u64 proto)] (by intro δ w; kernel_rfl) ?_
            rw [show IntKind.wrap .u32 (((((H.objs ++ [(ObjL.mk kind proto false (if okRV1 = true then mRV1 else -1) Gs.nil ([]) Gs.nil ([]) Gs.nil ([]) Gs.nil ([]) (-1))]).length : Nat)) : Int) - 1) = ((((H.objs ++ [(ObjL.mk kind proto false (if okRV1 = true then mRV1 else -1) Gs.nil ([]) Gs.nil ([]) Gs.nil ([]) Gs.nil ([]) (-1))]).length : Nat)) : Int) - 1 from IntWalk.u32_in _ (by omega)]
            refine SL_sig ([] ++ ((F.p, .cells 83 6 [Gs.val s6 ((H.objs ++ [(ObjL.mk kind proto false (if okRV1 = true then mRV1 else -1) Gs.nil ([]) Gs.nil ([]) Gs.nil ([]) Gs.nil ([]) (-1))]).length), Gs.val H.ts H.texts.length, .map (some F.kb), pt F.T.p 0, pt F.cp 0, .int .i64 H.br]) :: ((Gs.ent 89 9 s6 ((H.objs ++ [(ObjL.mk kind proto false (if okRV1 = true then mRV1 else -1) Gs.nil ([]) Gs.nil ([]) Gs.nil ([]) Gs.nil ([]) (-1))]).flatMap ObjL.cells)) ++ ((b5, .cells 89 9 [.int .i64 kind, .int .u64 proto, .bool false, .int .i64 (if okRV1 = true then mRV1 else -1), .slice none 0 0, .slice none 0 0, .slice none 0 0, .slice none 0 0, .int .i64 (-1)]) :: ((H.objs.flatMap ObjL.ent) ++ ((Gs.ent 9 1 H.ts (H.texts.map encS)) ++ ((F.kb, .map (kvs encS encU H.known)) :: ((TreeV.ent RV1 F.T) ++ ((CellsL.ent (CellsL.mk F.cp H.cs H.cl)) ++ ([])))))))))) rfl ?_
            refine SL_cons ⟨rfl, fun _ => rfl⟩ (O_call 40 #[.int .u32 (((((H.objs ++ [(ObjL.mk kind proto false (if okRV1 = true then mRV1 else -1) Gs.nil ([]) Gs.nil ([]) Gs.nil ([]) Gs.nil ([]) (-1))]).length : Nat)) : Int) - 1)] rfl (by intro δ w; kernel_rfl) ((word_Object (n := ((((H.objs ++ [(ObjL.mk kind proto false (if okRV1 = true then mRV1 else -1) Gs.nil ([]) Gs.nil ([]) Gs.nil ([]) Gs.nil ([]) (-1))]).length : Nat)) : Int) - 1) (by omega)).use _) ?_)
            rintro _ σ5 ⟨_, hσ5, rfl⟩
            obtain rfl : σ5 = ((F.p, .cells 83 6 [Gs.val s6 ((H.objs ++ [(ObjL.mk kind proto false (if okRV1 = true then mRV1 else -1) Gs.nil ([]) Gs.nil ([]) Gs.nil ([]) Gs.nil ([]) (-1))]).length), Gs.val H.ts H.texts.length, .map (some F.kb), pt F.T.p 0, pt F.cp 0, .int .i64 H.br]) :: ((Gs.ent 89 9 s6 ((H.objs ++ [(ObjL.mk kind proto false (if okRV1 = true then mRV1 else -1) Gs.nil ([]) Gs.nil ([]) Gs.nil ([]) Gs.nil ([]) (-1))]).flatMap ObjL.cells)) ++ ((b5, .cells 89 9 [.int .i64 kind, .int .u64 proto, .bool false, .int .i64 (if okRV1 = true then mRV1 else -1), .slice none 0 0, .slice none 0 0, .slice none 0 0, .slice none 0 0, .int .i64 (-1)]) :: ((H.objs.flatMap ObjL.ent) ++ ((Gs.ent 9 1 H.ts (H.texts.map encS)) ++ ((F.kb, .map (kvs encS encU H.known)) :: ((TreeV.ent RV1 F.T) ++ ((CellsL.ent (CellsL.mk F.cp H.cs H.cl)) ++ ([]))))))))) := hσ5.trans (rfl)
            refine SL_segT 2 [(7, .bool true), (6, .int .u64 (65530 * 281474976710656 + (((((H.objs ++ [(ObjL.mk kind proto false (if okRV1 = true then mRV1 else -1) Gs.nil ([]) Gs.nil ([]) Gs.nil ([]) Gs.nil ([]) (-1))]).length : Nat)) : Int) - 1))), (31, .bool (decide ((H.objs.length : Int) ≥ 65536))), (0, pt F.p 0), (1, .int .i64 kind), (2, .int .u64 proto)] (by intro δ w; kernel_rfl) ?_
            refine SL_nil (n_then ?_)
            refine SW_ret ?_
            refine body_end (.tuple #[.int .u64 (65530 * 281474976710656 + (((((H.objs ++ [(ObjL.mk kind proto false (if okRV1 = true then mRV1 else -1) Gs.nil ([]) Gs.nil ([]) Gs.nil ([]) Gs.nil ([]) (-1))]).length : Nat)) : Int) - 1)), .bool true]) (fun _ => rfl) ?_
            refine ⟨(s6, (if okRV1 = true then mRV1 else -1), RV1), ?_, congrArg (fun i => Value.tuple #[.int .u64 i, .bool true]) (by omega), hH.add hks6 (newObj_ok _ _ _) (Nat.zero_le _) hRV1 (by omega), mRV1, okRV1, hrRV1, rfl⟩
            refine Own.trans (own_mk (S := ((F.p, .cells 83 6 [Gs.val s6 ((H.objs ++ [(ObjL.mk kind proto false (if okRV1 = true then mRV1 else -1) Gs.nil ([]) Gs.nil ([]) Gs.nil ([]) Gs.nil ([]) (-1))]).length), Gs.val H.ts H.texts.length, .map (some F.kb), pt F.T.p 0, pt F.cp 0, .int .i64 H.br]) :: ((Gs.ent 89 9 s6 ((H.objs ++ [(ObjL.mk kind proto false (if okRV1 = true then mRV1 else -1) Gs.nil ([]) Gs.nil ([]) Gs.nil ([]) Gs.nil ([]) (-1))]).flatMap ObjL.cells)) ++ ((H.objs.flatMap ObjL.ent) ++ ((Gs.ent 9 1 H.ts (H.texts.map encS)) ++ ((F.kb, .map (kvs encS encU H.known)) :: ((TreeV.ent RV1 F.T) ++ ((CellsL.ent (CellsL.mk F.cp H.cs H.cl)) ++ ([]))))))))) (J := ((b5, .cells 89 9 [.int .i64 kind, .int .u64 proto, .bool false, .int .i64 (if okRV1 = true then mRV1 else -1), .slice none 0 0, .slice none 0 0, .slice none 0 0, .slice none 0 0, .int .i64 (-1)]) :: ([]))) (List.Perm.trans perm_z (List.Perm.cons _ (List.Perm.trans perm_cz (List.Perm.append_left _ (List.Perm.trans (perm_cc perm_cz) (List.Perm.append_left _ (List.Perm.trans (perm_cc perm_cz) (List.Perm.append_left _ (List.Perm.trans (perm_c perm_z) (List.Perm.cons _ (List.Perm.trans (perm_cc perm_cz) (List.Perm.append_left _ (List.Perm.trans (perm_cc perm_cz) (List.Perm.append_left _ (List.Perm.refl _))))))))))))))) (by simp only [List.cons_append, List.append_assoc, List.nil_append, List.append_nil])) ?_
            exact Own.of_perm (List.Perm.of_eq (by simp [HeapV.ent, HeapV.head, HeapV.row, newObj_ent]))
      · skip
        refine SL_segT 10 [(27, pt F.p 0), (24, .bool false), (7, .bool false), (6, .int .u64 0), (0, pt F.p 0), (1, .int .i64 kind), (2, .int .u64 proto)] (by intro δ w; kernel_rfl) ?_
        refine SL_cons ⟨rfl, fun _ => rfl⟩ (O_load F.p 0 (Gs.val H.s H.objs.length) (fun _ => rfl) (by kernel_rfl) (Cell.own mem_z rfl) rfl ?_)
        refine SL_s3 3 31 (.bool (decide ((H.objs.length : Int) ≥ 65536))) 30 (.bool (decide ((H.objs.length : Int) ≥ 65536))) 29 (.int .i64 (H.objs.length : Int)) (by intro δ w; kernel_rfl) ?_
        refine SL_nil (n_then ?_)
        refine SW_cond (decide ((H.objs.length : Int) ≥ 65536)) (fun _ => rfl) (fun hc7 => ?_) (fun hc7 => ?_)
        · skip
          replace hc7 := of_decide_eq_true hc7
          refine SW_seq ?_
          refine SW_region ?_
          refine SL_segT 2 [(7, .bool false), (6, .int .u64 18445336698825998336), (31, .bool (decide ((H.objs.length : Int) ≥ 65536))), (0, pt F.p 0), (1, .int .i64 kind), (2, .int .u64 proto)] (by intro δ w; kernel_rfl) ?_
          refine SL_nil (n_then ?_)
          refine SW_ret (r_then ?_)
          refine body_end (.tuple #[.int .u64 18445336698825998336, .bool false]) (fun _ => rfl) ?_
          exact absurd hmay (by unfold mayMake; intro q; obtain ⟨⟨q1, q2⟩, q3, q4⟩ := q; first | omega | (simp_all; done) | (simp_all; omega))
        · skip
          replace hc7 := of_decide_eq_false hc7
          refine SW_skip (n_then ?_)
          refine SW_seq ?_
          refine SW_draw [(F.p, 0, Gs.val H.s H.objs.length)] [0, 1, 2, 3, 5, 6, 7, 8, 9, 10, 11, 12] (by kernel_rfl) (rd_cons (Cell.own mem_z rfl) rd_nil) ?_
          refine SA_take (li' := #[true, false, false, false, false, false, false, false, false, false, false, false, false, false, false, false, false]) 0 _ (pt F.p 0) (fun _ _ _ h => h) rfl (by kernel_rfl) rfl (Or.inl ⟨fun _ => rfl, by intro δ w; kernel_rfl⟩) ?_
          refine SA_take (li' := #[true, true, false, false, false, false, false, false, false, false, false, false, false, false, false, false, false]) 1 _ (pt F.p 0) (fun _ _ _ h => h) rfl (by kernel_rfl) rfl (Or.inl ⟨fun _ => rfl, by intro δ w; kernel_rfl⟩) ?_
          refine SA_take (li' := #[true, true, true, false, false, false, false, false, false, false, false, false, false, false, false, false, false]) 2 _ (pt F.p 0) (fun _ _ _ h => h) rfl (by kernel_rfl) rfl (Or.inl ⟨fun _ => rfl, by intro δ w; kernel_rfl⟩) ?_
          refine SA_take (li' := #[true, true, true, true, false, false, false, false, false, false, false, false, false, false, false, false, false]) 3 _ (pt F.p 0) (fun _ _ _ h => h) rfl (by kernel_rfl) rfl (Or.inl ⟨fun _ => rfl, by intro δ w; kernel_rfl⟩) ?_
          refine SA_read (li' := #[true, true, true, true, true, false, false, false, false, false, false, false, false, false, false, false, false]) 4 _ (Gs.val H.s H.objs.length) (fun _ _ _ h => h) rfl (by kernel_rfl) rfl (fun _ => rfl) (fun δ w hr => Rd_load F.p 0 (Gs.val H.s H.objs.length) rfl (by kernel_rfl) List.mem_cons_self hr) ?_
          refine SA_trim [(36, Gs.val H.s H.objs.length), (32, pt F.p 0), (31, .bool (decide ((H.objs.length : Int) ≥ 65536))), (7, .bool false), (6, .int .u64 0), (0, pt F.p 0), (1, .int .i64 kind), (2, .int .u64 proto)] (fun _ => rfl) ?_
          refine SA_take (li' := #[true, true, true, true, true, true, false, false, false, false, false, false, false, false, false, false, false]) 5 _ (.int .i64 kind) (fun _ _ _ h => h) rfl (by kernel_rfl) rfl (Or.inl ⟨fun _ => rfl, by intro δ w; kernel_rfl⟩) ?_
          refine SA_take (li' := #[true, true, true, true, true, true, true, false, false, false, false, false, false, false, false, false, false]) 6 _ (.int .u64 proto) (fun _ _ _ h => h) rfl (by kernel_rfl) rfl (Or.inl ⟨fun _ => rfl, by intro δ w; kernel_rfl⟩) ?_
          refine SA_take (li' := #[true, true, true, true, true, true, true, true, false, false, false, false, false, false, false, false, false]) 7 _ (pt F.p 0) (fun _ _ _ h => h) rfl (by kernel_rfl) rfl (Or.inl ⟨fun _ => rfl, by intro δ w; kernel_rfl⟩) ?_
          refine SA_take (li' := #[true, true, true, true, true, true, true, true, true, false, false, false, false, false, false, false, false]) 8 _ (.int .i64 kind) (fun _ _ _ h => h) rfl (by kernel_rfl) rfl (Or.inl ⟨fun _ => rfl, by intro δ w; kernel_rfl⟩) ?_
          refine SA_take (li' := #[true, true, true, true, true, true, true, true, true, true, false, false, false, false, false, false, false]) 9 _ (.int .u64 proto) (fun _ _ _ h => h) rfl (by kernel_rfl) rfl (Or.inl ⟨fun _ => rfl, by intro δ w; kernel_rfl⟩) ?_
          refine SA_perm _ (perm_cc (perm_ca (perm_ca (perm_ca (perm_cc (perm_ca perm_cz)))))) ?_
          refine SA_perm _ (perm_ca (perm_cc (perm_ca (perm_ca (perm_ca (perm_cc perm_cz)))))) ?_
          refine SA_perm _ (perm_a (perm_a (perm_c (perm_a (perm_a (perm_a perm_z)))))) ?_
          refine SA_perm _ (perm_cc (perm_ca (perm_ca (perm_cc (perm_ca (perm_ca perm_cz)))))) ?_
          refine SA_perm _ (perm_ca (perm_cc (perm_ca (perm_ca (perm_cc (perm_ca perm_cz)))))) ?_
          refine SA_perm _ (perm_ca (perm_ca (perm_cc (perm_ca (perm_ca (perm_cc perm_cz)))))) ?_
          refine SA_perm _ (perm_a (perm_a (perm_a (perm_c (perm_a (perm_a perm_z)))))) ?_
          refine SA_sig (((F.p, .cells 83 6 [Gs.val H.s H.objs.length, Gs.val H.ts H.texts.length, .map (some F.kb), pt F.T.p 0, pt F.cp 0, .int .i64 H.br]) :: ((Gs.ent 89 9 H.s (H.objs.flatMap ObjL.cells)) ++ ((H.objs.flatMap ObjL.ent) ++ ((Gs.ent 9 1 H.ts (H.texts.map encS)) ++ ((F.kb, .map (kvs encS encU H.known)) :: ((TreeV.ent H.V F.T) ++ ((CellsL.ent (CellsL.mk F.cp H.cs H.cl)) ++ ([])))))))) ++ ([])) (by simp only [List.cons_append, List.append_assoc, List.nil_append, List.append_nil]) ?_
          refine SA_one true (li' := #[true, true, true, true, true, true, true, true, true, true, true, false, false, false, false, false, false]) 10 _ rfl rfl (by kernel_rfl) ⟨rfl, fun _ => rfl⟩ rfl (O_call 39 #[pt F.p 0, .int .i64 kind, .int .u64 proto] rfl (by intro δ w; kernel_rfl) ((heap_root hH kind proto).use _) ?_)
          rintro _ σ7 ⟨RV1, hσ7, hRV1, mRV1, okRV1, rfl, hrRV1⟩
          obtain rfl : σ7 = ((F.p, .cells 83 6 [Gs.val H.s H.objs.length, Gs.val H.ts H.texts.length, .map (some F.kb), pt F.T.p 0, pt F.cp 0, .int .i64 H.br]) :: ((Gs.ent 89 9 H.s (H.objs.flatMap ObjL.cells)) ++ ((H.objs.flatMap ObjL.ent) ++ ((Gs.ent 9 1 H.ts (H.texts.map encS)) ++ ((F.kb, .map (kvs encS encU H.known)) :: ((TreeV.ent RV1 F.T) ++ ((CellsL.ent (CellsL.mk F.cp H.cs H.cl)) ++ ([])))))))) := hσ7.trans (by simp only [HeapV.ent, List.cons_append, List.append_assoc, List.nil_append, List.append_nil])
          refine ⟨fun hnd => (rd_cons (Cell.own mem_z rfl) rd_nil), ?_⟩
          refine SA_take (li' := #[true, true, true, true, true, true, true, true, true, true, true, true, false, false, false, false, false]) 11 _ (.agg #[.int .i64 kind, .int .u64 proto, .bool false, .int .i64 (if okRV1 = true then mRV1 else -1), .slice none 0 0, .slice none 0 0, .slice none 0 0, .slice none 0 0, .int .i64 (-1)]) (fun _ _ _ h => h) rfl (by kernel_rfl) rfl (Or.inl ⟨fun _ => rfl, by intro δ w; kernel_rfl⟩) ?_
          refine SA_one true (li' := #[true, true, true, true, true, true, true, true, true, true, true, true, true, false, false, false, false]) 12 _ rfl rfl (by kernel_rfl) ⟨rfl, fun _ => rfl⟩ rfl (O_new (fun b => .slice (some ⟨b, 0, none⟩) 1 1) (.cells #[.int .i64 kind, .int .u64 proto, .bool false, .int .i64 (if okRV1 = true then mRV1 else -1), .slice none 0 0, .slice none 0 0, .slice none 0 0, .slice none 0 0, .int .i64 (-1)] 89 (0, 0)) (.cells 89 9 [.int .i64 kind, .int .u64 proto, .bool false, .int .i64 (if okRV1 = true then mRV1 else -1), .slice none 0 0, .slice none 0 0, .slice none 0 0, .slice none 0 0, .int .i64 (-1)]) rfl (by intro δ w; kernel_rfl) ⟨rfl, rfl, rfl, rfl⟩ ?_)
          intro b8 hlb8 hnb8
          refine ⟨fun hnd => (rd_cons (Cell.own (mem_c mem_z) rfl) rd_nil), ?_⟩
          refine SA_perm _ (perm_cc (perm_cc perm_cz)) ?_
          refine SA_one false (li' := #[true, true, true, true, true, true, true, true, true, true, true, true, true, true, false, false, false]) 13 _ rfl rfl (by kernel_rfl) ⟨rfl, fun _ => rfl⟩ rfl (O_append (size := 9) (bytes := 136) (z := .agg #[.int .i64 0, .int .u64 0, .bool false, .int .i64 0, .slice none 0 0, .slice none 0 0, .slice none 0 0, .slice none 0 0, .int .i64 0]) H.s H.objs.length 1 (some ⟨b8, 0, none⟩) 1 (H.objs.flatMap ObjL.cells) ([.int .i64 kind, .int .u64 proto, .bool false, .int .i64 (if okRV1 = true then mRV1 else -1), .slice none 0 0, .slice none 0 0, .slice none 0 0, .slice none 0 0, .int .i64 (-1)]) ((H.objs ++ [(ObjL.mk kind proto false (if okRV1 = true then mRV1 else -1) Gs.nil ([]) Gs.nil ([]) Gs.nil ([]) Gs.nil ([]) (-1))]).flatMap ObjL.cells) (flat_snoc _ (ObjL.mk kind proto false (if okRV1 = true then mRV1 else -1) Gs.nil ([]) Gs.nil ([]) Gs.nil ([]) Gs.nil ([]) (-1)) rfl) (fun _ => rfl) (fun _ => rfl) Try.underlying81 (by kernel_rfl) rfl (by decide) hH.row rfl (.inr ⟨b8, 0, rfl, Cells.own (mem_a mem_z) rfl⟩) rfl (by omega) (by decide) rfl ?_)
          intro s9 hks9 hfs9
          rw [show H.objs.length + 1 = (H.objs ++ [(ObjL.mk kind proto false (if okRV1 = true then mRV1 else -1) Gs.nil ([]) Gs.nil ([]) Gs.nil ([]) Gs.nil ([]) (-1))]).length from by simp]
          rw [show H.objs.length + 1 = (H.objs ++ [(ObjL.mk kind proto false (if okRV1 = true then mRV1 else -1) Gs.nil ([]) Gs.nil ([]) Gs.nil ([]) Gs.nil ([]) (-1))]).length from by simp] at hks9
          have hls9 : (H.objs ++ [(ObjL.mk kind proto false (if okRV1 = true then mRV1 else -1) Gs.nil ([]) Gs.nil ([]) Gs.nil ([]) Gs.nil ([]) (-1))]).length = H.objs.length + 1 := by simp
          refine ⟨fun hnd => (by cases hnd), ?_⟩
          refine SA_trim [(45, Gs.val s9 ((H.objs ++ [(ObjL.mk kind proto false (if okRV1 = true then mRV1 else -1) Gs.nil ([]) Gs.nil ([]) Gs.nil ([]) Gs.nil ([]) (-1))]).length)), (32, pt F.p 0), (31, .bool (decide ((H.objs.length : Int) ≥ 65536))), (7, .bool false), (6, .int .u64 0), (0, pt F.p 0), (1, .int .i64 kind), (2, .int .u64 proto)] (fun _ => rfl) ?_
          refine SA_take (li' := #[true, true, true, true, true, true, true, true, true, true, true, true, true, true, true, false, false]) 14 _ (pt F.p 0) (fun _ _ _ h => h) rfl (by kernel_rfl) rfl (Or.inl ⟨fun _ => rfl, by intro δ w; kernel_rfl⟩) ?_
          refine SA_take (li' := #[true, true, true, true, true, true, true, true, true, true, true, true, true, true, true, true, false]) 15 _ (pt F.p 0) (fun _ _ _ h => h) rfl (by kernel_rfl) rfl (Or.inl ⟨fun _ => rfl, by intro δ w; kernel_rfl⟩) ?_
          refine SA_perm _ (perm_a (perm_c perm_z)) ?_
          refine SA_one false (li' := #[true, true, true, true, true, true, true, true, true, true, true, true, true, true, true, true, true]) 16 _ rfl rfl (by kernel_rfl) ⟨rfl, fun _ => rfl⟩ rfl (O_store F.p 0 (Gs.val s9 ((H.objs ++ [(ObjL.mk kind proto false (if okRV1 = true then mRV1 else -1) Gs.nil ([]) Gs.nil ([]) Gs.nil ([]) Gs.nil ([]) (-1))]).length)) [Gs.val s9 ((H.objs ++ [(ObjL.mk kind proto false (if okRV1 = true then mRV1 else -1) Gs.nil ([]) Gs.nil ([]) Gs.nil ([]) Gs.nil ([]) (-1))]).length)] (fun _ => rfl) (fun _ => rfl) rfl (by kernel_rfl) rfl (by simp only [List.length_cons, List.length_nil]; omega) rfl ?_)
          refine ⟨fun hnd => (by cases hnd), ?_⟩
          refine SA_sig ((F.p, .cells 83 6 [Gs.val s9 ((H.objs ++ [(ObjL.mk kind proto false (if okRV1 = true then mRV1 else -1) Gs.nil ([]) Gs.nil ([]) Gs.nil ([]) Gs.nil ([]) (-1))]).length), Gs.val H.ts H.texts.length, .map (some F.kb), pt F.T.p 0, pt F.cp 0, .int .i64 H.br]) :: ((Gs.ent 89 9 s9 ((H.objs ++ [(ObjL.mk kind proto false (if okRV1 = true then mRV1 else -1) Gs.nil ([]) Gs.nil ([]) Gs.nil ([]) Gs.nil ([]) (-1))]).flatMap ObjL.cells)) ++ ((b8, .cells 89 9 [.int .i64 kind, .int .u64 proto, .bool false, .int .i64 (if okRV1 = true then mRV1 else -1), .slice none 0 0, .slice none 0 0, .slice none 0 0, .slice none 0 0, .int .i64 (-1)]) :: ((H.objs.flatMap ObjL.ent) ++ ((Gs.ent 9 1 H.ts (H.texts.map encS)) ++ ((F.kb, .map (kvs encS encU H.known)) :: ((TreeV.ent RV1 F.T) ++ ((CellsL.ent (CellsL.mk F.cp H.cs H.cl)) ++ ([]))))))))) rfl ?_
          refine SA_done (by kernel_rfl) (n_then ?_)
          refine SW_seq ?_
          refine SW_region ?_
          refine SL_s3 3 50 (pt F.p 0) 49 (pt F.p 0) 48 (pt F.p 0) (by intro δ w; kernel_rfl) ?_
          refine SL_cons ⟨rfl, fun _ => rfl⟩ (O_load F.p 0 (Gs.val s9 ((H.objs ++ [(ObjL.mk kind proto false (if okRV1 = true then mRV1 else -1) Gs.nil ([]) Gs.nil ([]) Gs.nil ([]) Gs.nil ([]) (-1))]).length)) (fun _ => rfl) (by kernel_rfl) (Cell.own mem_z rfl) rfl ?_)
          refine SL_s2 2 53 (.int .i64 (IntKind.wrap .i64 (((((H.objs ++ [(ObjL.mk kind proto false (if okRV1 = true then mRV1 else -1) Gs.nil ([]) Gs.nil ([]) Gs.nil ([]) Gs.nil ([]) (-1))]).length : Nat)) : Int) - 1))) 52 (.int .i64 ((((H.objs ++ [(ObjL.mk kind proto false (if okRV1 = true then mRV1 else -1) Gs.nil ([]) Gs.nil ([]) Gs.nil ([]) Gs.nil ([]) (-1))]).length : Nat)) : Int)) (by intro δ w; kernel_rfl) ?_
          rw [show IntKind.wrap .i64 (((((H.objs ++ [(ObjL.mk kind proto false (if okRV1 = true then mRV1 else -1) Gs.nil ([]) Gs.nil ([]) Gs.nil ([]) Gs.nil ([]) (-1))]).length : Nat)) : Int) - 1) = ((((H.objs ++ [(ObjL.mk kind proto false (if okRV1 = true then mRV1 else -1) Gs.nil ([]) Gs.nil ([]) Gs.nil ([]) Gs.nil ([]) (-1))]).length : Nat)) : Int) - 1 from IntWalk.i64_in _ (by omega)]
          refine SL_segT 1 [(54, .int .u32 (IntKind.wrap .u32 (((((H.objs ++ [(ObjL.mk kind proto false (if okRV1 = true then mRV1 else -1) Gs.nil ([]) Gs.nil ([]) Gs.nil ([]) Gs.nil ([]) (-1))]).length : Nat)) : Int) - 1))), (31, .bool (decide ((H.objs.length : Int) ≥ 65536))), (7, .bool false), (6, .int .u64 0), (0, pt F.p 0), (1, .int .i64 kind), (2, .int .u64 proto)] (by intro δ w; kernel_rfl) ?_
          rw [show IntKind.wrap .u32 (((((H.objs ++ [(ObjL.mk kind proto false (if okRV1 = true then mRV1 else -1) Gs.nil ([]) Gs.nil ([]) Gs.nil ([]) Gs.nil ([]) (-1))]).length : Nat)) : Int) - 1) = ((((H.objs ++ [(ObjL.mk kind proto false (if okRV1 = true then mRV1 else -1) Gs.nil ([]) Gs.nil ([]) Gs.nil ([]) Gs.nil ([]) (-1))]).length : Nat)) : Int) - 1 from IntWalk.u32_in _ (by omega)]
          refine SL_sig ([] ++ ((F.p, .cells 83 6 [Gs.val s9 ((H.objs ++ [(ObjL.mk kind proto false (if okRV1 = true then mRV1 else -1) Gs.nil ([]) Gs.nil ([]) Gs.nil ([]) Gs.nil ([]) (-1))]).length), Gs.val H.ts H.texts.length, .map (some F.kb), pt F.T.p 0, pt F.cp 0, .int .i64 H.br]) :: ((Gs.ent 89 9 s9 ((H.objs ++ [(ObjL.mk kind proto false (if okRV1 = true then mRV1 else -1) Gs.nil ([]) Gs.nil ([]) Gs.nil ([]) Gs.nil ([]) (-1))]).flatMap ObjL.cells)) ++ ((b8, .cells 89 9 [.int .i64 kind, .int .u64 proto, .bool false, .int .i64 (if okRV1 = true then mRV1 else -1), .slice none 0 0, .slice none 0 0, .slice none 0 0, .slice none 0 0, .int .i64 (-1)]) :: ((H.objs.flatMap ObjL.ent) ++ ((Gs.ent 9 1 H.ts (H.texts.map encS)) ++ ((F.kb, .map (kvs encS encU H.known)) :: ((TreeV.ent RV1 F.T) ++ ((CellsL.ent (CellsL.mk F.cp H.cs H.cl)) ++ ([])))))))))) rfl ?_
          refine SL_cons ⟨rfl, fun _ => rfl⟩ (O_call 40 #[.int .u32 (((((H.objs ++ [(ObjL.mk kind proto false (if okRV1 = true then mRV1 else -1) Gs.nil ([]) Gs.nil ([]) Gs.nil ([]) Gs.nil ([]) (-1))]).length : Nat)) : Int) - 1)] rfl (by intro δ w; kernel_rfl) ((word_Object (n := ((((H.objs ++ [(ObjL.mk kind proto false (if okRV1 = true then mRV1 else -1) Gs.nil ([]) Gs.nil ([]) Gs.nil ([]) Gs.nil ([]) (-1))]).length : Nat)) : Int) - 1) (by omega)).use _) ?_)
          rintro _ σ8 ⟨_, hσ8, rfl⟩
          obtain rfl : σ8 = ((F.p, .cells 83 6 [Gs.val s9 ((H.objs ++ [(ObjL.mk kind proto false (if okRV1 = true then mRV1 else -1) Gs.nil ([]) Gs.nil ([]) Gs.nil ([]) Gs.nil ([]) (-1))]).length), Gs.val H.ts H.texts.length, .map (some F.kb), pt F.T.p 0, pt F.cp 0, .int .i64 H.br]) :: ((Gs.ent 89 9 s9 ((H.objs ++ [(ObjL.mk kind proto false (if okRV1 = true then mRV1 else -1) Gs.nil ([]) Gs.nil ([]) Gs.nil ([]) Gs.nil ([]) (-1))]).flatMap ObjL.cells)) ++ ((b8, .cells 89 9 [.int .i64 kind, .int .u64 proto, .bool false, .int .i64 (if okRV1 = true then mRV1 else -1), .slice none 0 0, .slice none 0 0, .slice none 0 0, .slice none 0 0, .int .i64 (-1)]) :: ((H.objs.flatMap ObjL.ent) ++ ((Gs.ent 9 1 H.ts (H.texts.map encS)) ++ ((F.kb, .map (kvs encS encU H.known)) :: ((TreeV.ent RV1 F.T) ++ ((CellsL.ent (CellsL.mk F.cp H.cs H.cl)) ++ ([]))))))))) := hσ8.trans (rfl)
          refine SL_segT 2 [(7, .bool true), (6, .int .u64 (65530 * 281474976710656 + (((((H.objs ++ [(ObjL.mk kind proto false (if okRV1 = true then mRV1 else -1) Gs.nil ([]) Gs.nil ([]) Gs.nil ([]) Gs.nil ([]) (-1))]).length : Nat)) : Int) - 1))), (31, .bool (decide ((H.objs.length : Int) ≥ 65536))), (0, pt F.p 0), (1, .int .i64 kind), (2, .int .u64 proto)] (by intro δ w; kernel_rfl) ?_
          refine SL_nil (n_then ?_)
          refine SW_ret ?_
          refine body_end (.tuple #[.int .u64 (65530 * 281474976710656 + (((((H.objs ++ [(ObjL.mk kind proto false (if okRV1 = true then mRV1 else -1) Gs.nil ([]) Gs.nil ([]) Gs.nil ([]) Gs.nil ([]) (-1))]).length : Nat)) : Int) - 1)), .bool true]) (fun _ => rfl) ?_
          refine ⟨(s9, (if okRV1 = true then mRV1 else -1), RV1), ?_, congrArg (fun i => Value.tuple #[.int .u64 i, .bool true]) (by omega), hH.add hks9 (newObj_ok _ _ _) (Nat.zero_le _) hRV1 (by omega), mRV1, okRV1, hrRV1, rfl⟩
          refine Own.trans (own_mk (S := ((F.p, .cells 83 6 [Gs.val s9 ((H.objs ++ [(ObjL.mk kind proto false (if okRV1 = true then mRV1 else -1) Gs.nil ([]) Gs.nil ([]) Gs.nil ([]) Gs.nil ([]) (-1))]).length), Gs.val H.ts H.texts.length, .map (some F.kb), pt F.T.p 0, pt F.cp 0, .int .i64 H.br]) :: ((Gs.ent 89 9 s9 ((H.objs ++ [(ObjL.mk kind proto false (if okRV1 = true then mRV1 else -1) Gs.nil ([]) Gs.nil ([]) Gs.nil ([]) Gs.nil ([]) (-1))]).flatMap ObjL.cells)) ++ ((H.objs.flatMap ObjL.ent) ++ ((Gs.ent 9 1 H.ts (H.texts.map encS)) ++ ((F.kb, .map (kvs encS encU H.known)) :: ((TreeV.ent RV1 F.T) ++ ((CellsL.ent (CellsL.mk F.cp H.cs H.cl)) ++ ([]))))))))) (J := ((b8, .cells 89 9 [.int .i64 kind, .int .u64 proto, .bool false, .int .i64 (if okRV1 = true then mRV1 else -1), .slice none 0 0, .slice none 0 0, .slice none 0 0, .slice none 0 0, .int .i64 (-1)]) :: ([]))) (List.Perm.trans perm_z (List.Perm.cons _ (List.Perm.trans perm_cz (List.Perm.append_left _ (List.Perm.trans (perm_cc perm_cz) (List.Perm.append_left _ (List.Perm.trans (perm_cc perm_cz) (List.Perm.append_left _ (List.Perm.trans (perm_c perm_z) (List.Perm.cons _ (List.Perm.trans (perm_cc perm_cz) (List.Perm.append_left _ (List.Perm.trans (perm_cc perm_cz) (List.Perm.append_left _ (List.Perm.refl _))))))))))))))) (by simp only [List.cons_append, List.append_assoc, List.nil_append, List.append_nil])) ?_
          exact Own.of_perm (List.Perm.of_eq (by simp [HeapV.ent, HeapV.head, HeapV.row, newObj_ent]))

end Go.Proofs.Ytdfhbheipagnmaa
