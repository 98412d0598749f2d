/-
  What functions of heap and word do to the memory they own, step by step: each theorem is one function's contract. Conditions: those that each theorem names.
-/
import Derived.Test.YtdfhbheipagnmaaHeap3
set_option linter.unusedVariables false
set_option linter.unusedSimpArgs false
set_option maxRecDepth 100000
set_option maxHeartbeats 4000000
namespace Go.Proofs.Ytdfhbheipagnmaa
open Go.Sl

theorem heap_Find {W0 : World} {F : HeapF} {H : HeapV} (hH : H.ok F) (n : Int) (key : ByteArray) : SC Try.prog W0 28 #[.pointer (some ⟨F.p, 0, none⟩), .int .i64 n, .string key] (HeapV.ent H F) (Ret (fun _ : Unit => H.ent F) (fun v _ => v = three (findP (H.V.abs F.T) n key))) := by
  refine SC_body (fn := Try.f28) (n := 19) Try.func28 rfl (by kernel_rfl) (ρ := [(0, pt F.p 0), (1, .int .i64 n), (2, .string key)]) rfl ?_
  refine SW_sig ((F.p, .cells 83 6 [Gs.val H.s H.objs.length, Gs.val H.ts H.texts.length, .map (some F.kb), pt F.T.p 0, pt F.cp 0, .int .i64 H.br]) :: ((Gs.ent 89 9 H.s (H.objs.flatMap ObjL.cells)) ++ ((H.objs.flatMap ObjL.ent) ++ ((Gs.ent 9 1 H.ts (H.texts.map encS)) ++ ((F.kb, .map (kvs encS encU H.known)) :: ((TreeV.ent H.V F.T) ++ ((CellsL.ent (CellsL.mk F.cp H.cs H.cl)) ++ ([])))))))) rfl ?_
  refine SW_seq ?_
  refine SW_region ?_
  refine SL_s3 3 8 (.bool false) 7 (.int .i64 0) 6 (.int .i64 0) (by intro δ w; kernel_rfl) ?_
  refine SL_nil (n_then ?_)
  refine SW_seq ?_
  refine SW_region ?_
  refine SL_s3 3 11 (pt F.p 3) 10 (pt F.p 0) 9 (pt F.p 0) (by intro δ w; kernel_rfl) ?_
  refine SL_cons ⟨rfl, fun _ => rfl⟩ (O_load F.p 3 (pt F.T.p 0) (fun _ => rfl) (by kernel_rfl) (Cell.own mem_z rfl) rfl ?_)
  refine SL_s2 2 14 (.string key) 13 (.int .i64 n) (by intro δ w; kernel_rfl) ?_
  refine SL_perm _ (perm_cc (perm_ca (perm_ca (perm_ca (perm_cc perm_cz))))) ?_
  refine SL_cons ⟨rfl, fun _ => rfl⟩ (O_call 67 #[pt F.T.p 0, .int .i64 n, .string key] rfl (by intro δ w; kernel_rfl) ((shapes_Find hH.tree n key).use _) ?_)
  rintro _ σ1 ⟨_, hσ1, rfl⟩
  obtain rfl : σ1 = ((TreeV.ent H.V F.T) ++ ((F.p, .cells 83 6 [Gs.val H.s H.objs.length, Gs.val H.ts H.texts.length, .map (some F.kb), pt F.T.p 0, pt F.cp 0, .int .i64 H.br]) :: ((Gs.ent 89 9 H.s (H.objs.flatMap ObjL.cells)) ++ ((H.objs.flatMap ObjL.ent) ++ ((Gs.ent 9 1 H.ts (H.texts.map encS)) ++ ((F.kb, .map (kvs encS encU H.known)) :: ((CellsL.ent (CellsL.mk F.cp H.cs H.cl)) ++ ([])))))))) := hσ1.trans (rfl)
  refine SL_segT 6 [(8, .bool ((findP (TreeV.abs H.V F.T) n key).2.2)), (7, .int .i64 ((findP (TreeV.abs H.V F.T) n key).2.1)), (6, .int .i64 ((findP (TreeV.abs H.V F.T) n key).1)), (0, pt F.p 0), (1, .int .i64 n), (2, .string key)] (by intro δ w; kernel_rfl) ?_
  refine SL_nil (n_then ?_)
  refine SW_ret ?_
  refine body_end (.tuple #[.int .i64 ((findP (TreeV.abs H.V F.T) n key).1), .int .i64 ((findP (TreeV.abs H.V F.T) n key).2.1), .bool ((findP (TreeV.abs H.V F.T) n key).2.2)]) (fun _ => rfl) ?_
  exact ⟨(), (Own.of_perm (S := ((F.p, .cells 83 6 [Gs.val H.s H.objs.length, Gs.val H.ts H.texts.length, .map (some F.kb), pt F.T.p 0, pt F.cp 0, .int .i64 H.br]) :: ((Gs.ent 89 9 H.s (H.objs.flatMap ObjL.cells)) ++ ((H.objs.flatMap ObjL.ent) ++ ((Gs.ent 9 1 H.ts (H.texts.map encS)) ++ ((F.kb, .map (kvs encS encU H.known)) :: ((TreeV.ent H.V F.T) ++ ((CellsL.ent (CellsL.mk F.cp H.cs H.cl)) ++ ([]))))))))) (List.Perm.trans (perm_a perm_z) (List.Perm.cons _ (List.Perm.trans (perm_ca perm_cz) (List.Perm.append_left _ (List.Perm.trans (perm_ca perm_cz) (List.Perm.append_left _ (List.Perm.trans (perm_ca perm_cz) (List.Perm.append_left _ (List.Perm.trans (perm_a perm_z) (List.Perm.cons _ (List.Perm.refl _)))))))))))), rfl⟩

theorem heap_Get_none {W0 : World} {F : HeapF} {H : HeapV} (hH : H.ok F) {w : Int} (h0 : objAt w H.objs.length = none) (key : ByteArray) : SC Try.prog W0 22 #[.pointer (some ⟨F.p, 0, none⟩), .int .u64 w, .string key] (HeapV.ent H F) (Ret (fun _ : Unit => H.ent F) (fun v _ => v = descR none)) := by
  refine SC_body (fn := Try.f22) (n := 30) Try.func22 rfl (by kernel_rfl) (ρ := [(0, pt F.p 0), (1, .int .u64 w), (2, .string key)]) rfl ?_
  refine SW_sig ((F.p, .cells 83 6 [Gs.val H.s H.objs.length, Gs.val H.ts H.texts.length, .map (some F.kb), pt F.T.p 0, pt F.cp 0, .int .i64 H.br]) :: ((Gs.ent 89 9 H.s (H.objs.flatMap ObjL.cells)) ++ ((H.objs.flatMap ObjL.ent) ++ ((Gs.ent 9 1 H.ts (H.texts.map encS)) ++ ((F.kb, .map (kvs encS encU H.known)) :: ((TreeV.ent H.V F.T) ++ ((CellsL.ent (CellsL.mk F.cp H.cs H.cl)) ++ ([])))))))) rfl ?_
  refine SW_seq ?_
  refine SW_region ?_
  refine SL_cons ⟨rfl, fun _ => rfl⟩ (O_new (fun b => .pointer (some ⟨b, 0, none⟩)) (.cells #[.int .u64 0, .int .u64 0, .int .i64 0] 42 (0, 0)) (.cells 42 3 [.int .u64 0, .int .u64 0, .int .i64 0]) rfl (by intro δ w; kernel_rfl) ⟨rfl, rfl, rfl, rfl⟩ ?_)
  intro b1 hlb1 hnb1
  refine SL_s1 1 7 (.bool false) (by intro δ w; kernel_rfl) ?_
  refine SL_nil (n_then ?_)
  refine SW_seq ?_
  refine SW_region ?_
  refine SL_s2 2 11 (.int .u64 w) 10 (pt F.p 0) (by intro δ w; kernel_rfl) ?_
  refine SL_perm _ (perm_cc (perm_cc (perm_ca (perm_ca (perm_ca (perm_cc (perm_ca perm_cz))))))) ?_
  refine SL_perm _ (perm_ca (perm_cc (perm_cc (perm_ca (perm_ca (perm_ca (perm_cc perm_cz))))))) ?_
  refine SL_perm _ (perm_a (perm_a (perm_c (perm_c (perm_a (perm_a (perm_a perm_z))))))) ?_
  refine SL_perm _ (perm_cc (perm_ca (perm_ca (perm_cc (perm_cc (perm_ca (perm_ca perm_cz))))))) ?_
  refine SL_perm _ (perm_ca (perm_cc (perm_ca (perm_ca (perm_cc (perm_cc (perm_ca perm_cz))))))) ?_
  refine SL_perm _ (perm_ca (perm_ca (perm_cc (perm_ca (perm_ca (perm_cc (perm_cc perm_cz))))))) ?_
  refine SL_perm _ (perm_a (perm_a (perm_a (perm_c (perm_a (perm_a (perm_c perm_z))))))) ?_
  refine SL_sig (((F.p, .cells 83 6 [Gs.val H.s H.objs.length, Gs.val H.ts H.texts.length, .map (some F.kb), pt F.T.p 0, pt F.cp 0, .int .i64 H.br]) :: ((Gs.ent 89 9 H.s (H.objs.flatMap ObjL.cells)) ++ ((H.objs.flatMap ObjL.ent) ++ ((Gs.ent 9 1 H.ts (H.texts.map encS)) ++ ((F.kb, .map (kvs encS encU H.known)) :: ((TreeV.ent H.V F.T) ++ ((CellsL.ent (CellsL.mk F.cp H.cs H.cl)) ++ ([])))))))) ++ ((b1, .cells 42 3 [.int .u64 0, .int .u64 0, .int .i64 0]) :: ([]))) (by simp only [List.cons_append, List.append_assoc, List.nil_append, List.append_nil]) ?_
  refine SL_cons ⟨rfl, fun _ => rfl⟩ (O_call 38 #[pt F.p 0, .int .u64 w] rfl (by intro δ w; kernel_rfl) ((heap_at hH w).use _) ?_)
  rintro v1 σ1 ⟨_, hσ1, hv1⟩
  obtain rfl : v1 = .pointer none := hv1.trans (by rw [h0])
  obtain rfl : σ1 = ((F.p, .cells 83 6 [Gs.val H.s H.objs.length, Gs.val H.ts H.texts.length, .map (some F.kb), pt F.T.p 0, pt F.cp 0, .int .i64 H.br]) :: ((Gs.ent 89 9 H.s (H.objs.flatMap ObjL.cells)) ++ ((H.objs.flatMap ObjL.ent) ++ ((Gs.ent 9 1 H.ts (H.texts.map encS)) ++ ((F.kb, .map (kvs encS encU H.known)) :: ((TreeV.ent H.V F.T) ++ ((CellsL.ent (CellsL.mk F.cp H.cs H.cl)) ++ ((b1, .cells 42 3 [.int .u64 0, .int .u64 0, .int .i64 0]) :: ([]))))))))) := hσ1.trans (by simp only [HeapV.ent, List.cons_append, List.append_assoc, List.nil_append, List.append_nil])
  refine SL_s1 1 8 (.pointer none) (by intro δ w; kernel_rfl) ?_
  refine SL_nil (n_then ?_)
  refine SW_seq ?_
  refine SW_seq ?_
  refine SW_region ?_
  refine SL_s2 2 14 (.bool true) 13 (.pointer none) (by intro δ w; kernel_rfl) ?_
  refine SL_nil (n_then ?_)
  refine SW_true (fun _ => rfl) ?_
  refine SW_seq ?_
  refine SW_region ?_
  refine SL_s1 1 15 (.agg #[.int .u64 0, .int .u64 0, .int .i64 0]) (by intro δ w; kernel_rfl) ?_
  refine SL_perm _ (perm_c (perm_a (perm_a (perm_a (perm_c (perm_a (perm_a perm_z))))))) ?_
  refine SL_cons ⟨rfl, fun _ => rfl⟩ (O_store b1 0 (.agg #[.int .u64 0, .int .u64 0, .int .i64 0]) [.int .u64 0, .int .u64 0, .int .i64 0] (fun _ => rfl) (fun _ => rfl) rfl (by kernel_rfl) rfl (by simp only [List.length_cons, List.length_nil]; omega) rfl ?_)
  refine SL_sig ((b1, .cells 42 3 [.int .u64 0, .int .u64 0, .int .i64 0]) :: ((F.p, .cells 83 6 [Gs.val H.s H.objs.length, Gs.val H.ts H.texts.length, .map (some F.kb), pt F.T.p 0, pt F.cp 0, .int .i64 H.br]) :: ((Gs.ent 89 9 H.s (H.objs.flatMap ObjL.cells)) ++ ((H.objs.flatMap ObjL.ent) ++ ((Gs.ent 9 1 H.ts (H.texts.map encS)) ++ ((F.kb, .map (kvs encS encU H.known)) :: ((TreeV.ent H.V F.T) ++ ((CellsL.ent (CellsL.mk F.cp H.cs H.cl)) ++ ([]))))))))) rfl ?_
  refine SL_segT 1 [(7, .bool false), (14, .bool true), (8, .pointer none), (6, pt b1 0), (0, pt F.p 0), (1, .int .u64 w), (2, .string key)] (by intro δ w; kernel_rfl) ?_
  refine SL_nil (n_then ?_)
  refine SW_ret (r_then ?_)
  refine body_endC [.agg #[.int .u64 0, .int .u64 0, .int .i64 0], .bool false] (fun _ => (.cons ⟨b1, 0, rfl, .inl ⟨[.int .u64 0, .int .u64 0, .int .i64 0], by kernel_rfl, (cells_cons (Cell.own mem_z rfl) (cells_cons (Cell.own mem_z rfl) (cells_cons (Cell.own mem_z rfl) cells_nil))), rfl⟩⟩ (.cons rfl .nil))) ?_
  exact ⟨(), (own_mk (S := ((F.p, .cells 83 6 [Gs.val H.s H.objs.length, Gs.val H.ts H.texts.length, .map (some F.kb), pt F.T.p 0, pt F.cp 0, .int .i64 H.br]) :: ((Gs.ent 89 9 H.s (H.objs.flatMap ObjL.cells)) ++ ((H.objs.flatMap ObjL.ent) ++ ((Gs.ent 9 1 H.ts (H.texts.map encS)) ++ ((F.kb, .map (kvs encS encU H.known)) :: ((TreeV.ent H.V F.T) ++ ((CellsL.ent (CellsL.mk F.cp H.cs H.cl)) ++ ([]))))))))) (J := ((b1, .cells 42 3 [.int .u64 0, .int .u64 0, .int .i64 0]) :: ([]))) (List.Perm.trans (perm_c perm_z) (List.Perm.cons _ (List.Perm.trans (perm_cc perm_cz) (List.Perm.append_left _ (List.Perm.trans (perm_cc perm_cz) (List.Perm.append_left _ (List.Perm.trans (perm_cc perm_cz) (List.Perm.append_left _ (List.Perm.trans (perm_c perm_z) (List.Perm.cons _ (List.Perm.trans (perm_cc perm_cz) (List.Perm.append_left _ (List.Perm.trans (perm_cc perm_cz) (List.Perm.append_left _ (List.Perm.refl _))))))))))))))) (by simp only [List.cons_append, List.append_assoc, List.nil_append, List.append_nil])), rfl⟩

theorem heap_Get_some {W0 : World} {F : HeapF} {H : HeapV} (hH : H.ok F) {w : Int} {n : Nat} {x : ObjL} (h0 : objAt w H.objs.length = some n) (hx : H.objs[n]? = some x) (hI : OInv (H.V.abs F.T) x) (key : ByteArray) : SC Try.prog W0 22 #[.pointer (some ⟨F.p, 0, none⟩), .int .u64 w, .string key] (HeapV.ent H F) (Ret (fun _ : Unit => H.ent F) (fun v _ => v = descR (getO (H.V.abs F.T) x key))) := by
  refine SC_body (fn := Try.f22) (n := 30) Try.func22 rfl (by kernel_rfl) (ρ := [(0, pt F.p 0), (1, .int .u64 w), (2, .string key)]) rfl ?_
  refine SW_sig ((F.p, .cells 83 6 [Gs.val H.s H.objs.length, Gs.val H.ts H.texts.length, .map (some F.kb), pt F.T.p 0, pt F.cp 0, .int .i64 H.br]) :: ((Gs.ent 89 9 H.s (H.objs.flatMap ObjL.cells)) ++ ((H.objs.flatMap ObjL.ent) ++ ((Gs.ent 9 1 H.ts (H.texts.map encS)) ++ ((F.kb, .map (kvs encS encU H.known)) :: ((TreeV.ent H.V F.T) ++ ((CellsL.ent (CellsL.mk F.cp H.cs H.cl)) ++ ([])))))))) rfl ?_
  refine SW_seq ?_
  refine SW_region ?_
  refine SL_cons ⟨rfl, fun _ => rfl⟩ (O_new (fun b => .pointer (some ⟨b, 0, none⟩)) (.cells #[.int .u64 0, .int .u64 0, .int .i64 0] 42 (0, 0)) (.cells 42 3 [.int .u64 0, .int .u64 0, .int .i64 0]) rfl (by intro δ w; kernel_rfl) ⟨rfl, rfl, rfl, rfl⟩ ?_)
  intro b1 hlb1 hnb1
  refine SL_s1 1 7 (.bool false) (by intro δ w; kernel_rfl) ?_
  refine SL_nil (n_then ?_)
  refine SW_seq ?_
  refine SW_region ?_
  refine SL_s2 2 11 (.int .u64 w) 10 (pt F.p 0) (by intro δ w; kernel_rfl) ?_
  refine SL_perm _ (perm_cc (perm_cc (perm_ca (perm_ca (perm_ca (perm_cc (perm_ca perm_cz))))))) ?_
  refine SL_perm _ (perm_ca (perm_cc (perm_cc (perm_ca (perm_ca (perm_ca (perm_cc perm_cz))))))) ?_
  refine SL_perm _ (perm_a (perm_a (perm_c (perm_c (perm_a (perm_a (perm_a perm_z))))))) ?_
  refine SL_perm _ (perm_cc (perm_ca (perm_ca (perm_cc (perm_cc (perm_ca (perm_ca perm_cz))))))) ?_
  refine SL_perm _ (perm_ca (perm_cc (perm_ca (perm_ca (perm_cc (perm_cc (perm_ca perm_cz))))))) ?_
  refine SL_perm _ (perm_ca (perm_ca (perm_cc (perm_ca (perm_ca (perm_cc (perm_cc perm_cz))))))) ?_
  refine SL_perm _ (perm_a (perm_a (perm_a (perm_c (perm_a (perm_a (perm_c perm_z))))))) ?_
  refine SL_sig (((F.p, .cells 83 6 [Gs.val H.s H.objs.length, Gs.val H.ts H.texts.length, .map (some F.kb), pt F.T.p 0, pt F.cp 0, .int .i64 H.br]) :: ((Gs.ent 89 9 H.s (H.objs.flatMap ObjL.cells)) ++ ((H.objs.flatMap ObjL.ent) ++ ((Gs.ent 9 1 H.ts (H.texts.map encS)) ++ ((F.kb, .map (kvs encS encU H.known)) :: ((TreeV.ent H.V F.T) ++ ((CellsL.ent (CellsL.mk F.cp H.cs H.cl)) ++ ([])))))))) ++ ((b1, .cells 42 3 [.int .u64 0, .int .u64 0, .int .i64 0]) :: ([]))) (by simp only [List.cons_append, List.append_assoc, List.nil_append, List.append_nil]) ?_
  refine SL_cons ⟨rfl, fun _ => rfl⟩ (O_call 38 #[pt F.p 0, .int .u64 w] rfl (by intro δ w; kernel_rfl) ((heap_at hH w).use _) ?_)
  rintro v1 σ1 ⟨_, hσ1, hv1⟩
  obtain rfl : v1 = pt (Gs.blk H.s) (n * 9) := hv1.trans (by rw [h0])
  obtain rfl : σ1 = ((F.p, .cells 83 6 [Gs.val H.s H.objs.length, Gs.val H.ts H.texts.length, .map (some F.kb), pt F.T.p 0, pt F.cp 0, .int .i64 H.br]) :: ((Gs.ent 89 9 H.s (H.objs.flatMap ObjL.cells)) ++ ((H.objs.flatMap ObjL.ent) ++ ((Gs.ent 9 1 H.ts (H.texts.map encS)) ++ ((F.kb, .map (kvs encS encU H.known)) :: ((TreeV.ent H.V F.T) ++ ((CellsL.ent (CellsL.mk F.cp H.cs H.cl)) ++ ((b1, .cells 42 3 [.int .u64 0, .int .u64 0, .int .i64 0]) :: ([]))))))))) := hσ1.trans (by simp only [HeapV.ent, List.cons_append, List.append_assoc, List.nil_append, List.append_nil])
  refine SL_s1 1 8 (pt (Gs.blk H.s) (n * 9)) (by intro δ w; kernel_rfl) ?_
  refine SL_nil (n_then ?_)
  refine SW_seq ?_
  refine SW_seq ?_
  refine SW_region ?_
  refine SL_s2 2 14 (.bool false) 13 (pt (Gs.blk H.s) (n * 9)) (by intro δ w; kernel_rfl) ?_
  refine SL_nil (n_then ?_)
  refine SW_false (fun _ => rfl) ?_
  refine SW_skip (n_then ?_)
  refine SW_seq ?_
  refine SW_region ?_
  refine SL_s3 3 18 (.string key) 17 (pt (Gs.blk H.s) (n * 9)) 16 (pt F.p 0) (by intro δ w; kernel_rfl) ?_
  refine SL_perm _ (perm_cc (perm_ca (perm_ca (perm_ca (perm_cc (perm_ca perm_cz)))))) ?_
  refine SL_perm _ (perm_ca (perm_cc (perm_ca (perm_ca (perm_ca (perm_cc perm_cz)))))) ?_
  refine SL_perm _ (perm_a (perm_a (perm_c (perm_a (perm_a (perm_a perm_z)))))) ?_
  refine SL_perm _ (perm_cc (perm_ca (perm_ca (perm_cc (perm_ca (perm_ca perm_cz)))))) ?_
  refine SL_perm _ (perm_ca (perm_cc (perm_ca (perm_ca (perm_cc (perm_ca perm_cz)))))) ?_
  refine SL_perm _ (perm_ca (perm_ca (perm_cc (perm_ca (perm_ca (perm_cc perm_cz)))))) ?_
  refine SL_perm _ (perm_a (perm_a (perm_a (perm_c (perm_a (perm_a perm_z)))))) ?_
  refine SL_sig (((F.p, .cells 83 6 [Gs.val H.s H.objs.length, Gs.val H.ts H.texts.length, .map (some F.kb), pt F.T.p 0, pt F.cp 0, .int .i64 H.br]) :: ((Gs.ent 89 9 H.s (H.objs.flatMap ObjL.cells)) ++ ((H.objs.flatMap ObjL.ent) ++ ((Gs.ent 9 1 H.ts (H.texts.map encS)) ++ ((F.kb, .map (kvs encS encU H.known)) :: ((TreeV.ent H.V F.T) ++ ((CellsL.ent (CellsL.mk F.cp H.cs H.cl)) ++ ([])))))))) ++ ((b1, .cells 42 3 [.int .u64 0, .int .u64 0, .int .i64 0]) :: ([]))) (by simp only [List.cons_append, List.append_assoc, List.nil_append, List.append_nil]) ?_
  refine SL_cons ⟨rfl, fun _ => rfl⟩ (O_call 45 #[pt F.p 0, pt (Gs.blk H.s) (n * 9), .string key] rfl (by intro δ w; kernel_rfl) ((heap_place hH (n := n) hx key).use _) ?_)
  rintro _ σ2 ⟨_, hσ2, rfl⟩
  obtain rfl : σ2 = ((F.p, .cells 83 6 [Gs.val H.s H.objs.length, Gs.val H.ts H.texts.length, .map (some F.kb), pt F.T.p 0, pt F.cp 0, .int .i64 H.br]) :: ((Gs.ent 89 9 H.s (H.objs.flatMap ObjL.cells)) ++ ((H.objs.flatMap ObjL.ent) ++ ((Gs.ent 9 1 H.ts (H.texts.map encS)) ++ ((F.kb, .map (kvs encS encU H.known)) :: ((TreeV.ent H.V F.T) ++ ((CellsL.ent (CellsL.mk F.cp H.cs H.cl)) ++ ((b1, .cells 42 3 [.int .u64 0, .int .u64 0, .int .i64 0]) :: ([]))))))))) := hσ2.trans (by simp only [HeapV.ent, List.cons_append, List.append_assoc, List.nil_append, List.append_nil])
  refine SL_s1 1 9 (.int .i64 (placeO (TreeV.abs H.V F.T) x.shape x.names key)) (by intro δ w; kernel_rfl) ?_
  refine SL_nil (n_then ?_)
  refine SW_seq ?_
  refine SW_seq ?_
  refine SW_region ?_
  refine SL_s2 2 21 (.bool (decide ((placeO (TreeV.abs H.V F.T) x.shape x.names key) < 0))) 20 (.int .i64 (placeO (TreeV.abs H.V F.T) x.shape x.names key)) (by intro δ w; kernel_rfl) ?_
  refine SL_nil (n_then ?_)
  refine SW_cond (decide ((placeO (TreeV.abs H.V F.T) x.shape x.names key) < 0)) (fun _ => rfl) (fun hc2 => ?_) (fun hc2 => ?_)
  · skip
    replace hc2 := of_decide_eq_true hc2
    refine SW_seq ?_
    refine SW_region ?_
    refine SL_s1 1 22 (.agg #[.int .u64 0, .int .u64 0, .int .i64 0]) (by intro δ w; kernel_rfl) ?_
    refine SL_perm _ (perm_c (perm_a (perm_a (perm_a (perm_c (perm_a (perm_a perm_z))))))) ?_
    refine SL_cons ⟨rfl, fun _ => rfl⟩ (O_store b1 0 (.agg #[.int .u64 0, .int .u64 0, .int .i64 0]) [.int .u64 0, .int .u64 0, .int .i64 0] (fun _ => rfl) (fun _ => rfl) rfl (by kernel_rfl) rfl (by simp only [List.length_cons, List.length_nil]; omega) rfl ?_)
    refine SL_sig ((b1, .cells 42 3 [.int .u64 0, .int .u64 0, .int .i64 0]) :: ((F.p, .cells 83 6 [Gs.val H.s H.objs.length, Gs.val H.ts H.texts.length, .map (some F.kb), pt F.T.p 0, pt F.cp 0, .int .i64 H.br]) :: ((Gs.ent 89 9 H.s (H.objs.flatMap ObjL.cells)) ++ ((H.objs.flatMap ObjL.ent) ++ ((Gs.ent 9 1 H.ts (H.texts.map encS)) ++ ((F.kb, .map (kvs encS encU H.known)) :: ((TreeV.ent H.V F.T) ++ ((CellsL.ent (CellsL.mk F.cp H.cs H.cl)) ++ ([]))))))))) rfl ?_
    refine SL_segT 1 [(7, .bool false), (21, .bool (decide ((placeO (TreeV.abs H.V F.T) x.shape x.names key) < 0))), (9, .int .i64 (placeO (TreeV.abs H.V F.T) x.shape x.names key)), (14, .bool false), (8, pt (Gs.blk H.s) (n * 9)), (6, pt b1 0), (0, pt F.p 0), (1, .int .u64 w), (2, .string key)] (by intro δ w; kernel_rfl) ?_
    refine SL_nil (n_then ?_)
    refine SW_ret (r_then ?_)
    refine body_endC [.agg #[.int .u64 0, .int .u64 0, .int .i64 0], .bool false] (fun _ => (.cons ⟨b1, 0, rfl, .inl ⟨[.int .u64 0, .int .u64 0, .int .i64 0], by kernel_rfl, (cells_cons (Cell.own mem_z rfl) (cells_cons (Cell.own mem_z rfl) (cells_cons (Cell.own mem_z rfl) cells_nil))), rfl⟩⟩ (.cons rfl .nil))) ?_
    exact ⟨(), (own_mk (S := ((F.p, .cells 83 6 [Gs.val H.s H.objs.length, Gs.val H.ts H.texts.length, .map (some F.kb), pt F.T.p 0, pt F.cp 0, .int .i64 H.br]) :: ((Gs.ent 89 9 H.s (H.objs.flatMap ObjL.cells)) ++ ((H.objs.flatMap ObjL.ent) ++ ((Gs.ent 9 1 H.ts (H.texts.map encS)) ++ ((F.kb, .map (kvs encS encU H.known)) :: ((TreeV.ent H.V F.T) ++ ((CellsL.ent (CellsL.mk F.cp H.cs H.cl)) ++ ([]))))))))) (J := ((b1, .cells 42 3 [.int .u64 0, .int .u64 0, .int .i64 0]) :: ([]))) (List.Perm.trans (perm_c perm_z) (List.Perm.cons _ (List.Perm.trans (perm_cc perm_cz) (List.Perm.append_left _ (List.Perm.trans (perm_cc perm_cz) (List.Perm.append_left _ (List.Perm.trans (perm_cc perm_cz) (List.Perm.append_left _ (List.Perm.trans (perm_c perm_z) (List.Perm.cons _ (List.Perm.trans (perm_cc perm_cz) (List.Perm.append_left _ (List.Perm.trans (perm_cc perm_cz) (List.Perm.append_left _ (List.Perm.refl _))))))))))))))) (by simp only [List.cons_append, List.append_assoc, List.nil_append, List.append_nil])), by unfold getO; rw [if_pos (by omega)]; rfl⟩
  · skip
    replace hc2 := of_decide_eq_false hc2
    have hpl := placeO_lt hI (key := key) (by omega)
    refine SW_skip (n_then ?_)
    refine SW_seq ?_
    refine SW_region ?_
    refine SL_s3 3 25 (pt (Gs.blk H.s) (n * 9 + 5)) 24 (pt (Gs.blk H.s) (n * 9)) 23 (pt (Gs.blk H.s) (n * 9)) (by intro δ w; kernel_rfl) ?_
    refine SL_cons ⟨rfl, fun _ => rfl⟩ (O_load (Gs.blk H.s) (n * 9 + 5) (Gs.val x.vs x.vals.length) (fun _ => rfl) (by kernel_rfl) (Gs.cell hH.row (fun e he => (mem_c (mem_h he))) (flat_cell ObjL.len hx (j := 5) (by decide) rfl)) rfl ?_)
    refine SL_s1 1 27 (.int .i64 (placeO (TreeV.abs H.V F.T) x.shape x.names key)) (by intro δ w; kernel_rfl) ?_
    refine SL_cons ⟨rfl, fun _ => rfl⟩ (O_indexAddr' (placeO (TreeV.abs H.V F.T) x.shape x.names key) (((placeO (TreeV.abs H.V F.T) x.shape x.names key).toNat) * 3) (Gs.blk x.vs) 0 x.vals.length (Gs.cap x.vs) .i64 3 Try.underlying64 (by kernel_rfl) (fun _ => gs_slice (Gs.ok.ne (HeapV.ok.at hH hx).vs (by first | omega | (simp; omega)))) (fun _ => rfl) (by omega) (by omega) (by omega) rfl ?_)
    obtain ⟨e1, he1⟩ : ∃ y_, x.vals[((placeO (TreeV.abs H.V F.T) x.shape x.names key).toNat)]? = some y_ := ⟨_, List.getElem?_eq_getElem (by omega)⟩
    refine SL_cons ⟨rfl, fun _ => rfl⟩ (O_loads (Gs.blk x.vs) (((placeO (TreeV.abs H.V F.T) x.shape x.names key).toNat) * 3) [.int .u64 e1.1, .int .u64 e1.2.1, .int .i64 e1.2.2] (fun _ => rfl) (by kernel_rfl) (cells_cons (Gs.cell (HeapV.ok.at hH hx).vs (fun e he => (mem_c (mem_a (mem_h ((ObjL.mvs hx) _ he))))) (flat_cell descCells_len he1 (j := 0) (by decide) rfl)) (cells_cons (Gs.cell (HeapV.ok.at hH hx).vs (fun e he => (mem_c (mem_a (mem_h ((ObjL.mvs hx) _ he))))) (flat_cell descCells_len he1 (j := 1) (by decide) rfl)) (cells_cons (Gs.cell (HeapV.ok.at hH hx).vs (fun e he => (mem_c (mem_a (mem_h ((ObjL.mvs hx) _ he))))) (flat_cell descCells_len he1 (j := 2) (by decide) rfl)) cells_nil))) rfl ?_)
    refine SL_perm _ (perm_c (perm_a (perm_a (perm_a (perm_c (perm_a (perm_a perm_z))))))) ?_
    refine SL_cons ⟨rfl, fun _ => rfl⟩ (O_store b1 0 (.agg #[.int .u64 e1.1, .int .u64 e1.2.1, .int .i64 e1.2.2]) [.int .u64 e1.1, .int .u64 e1.2.1, .int .i64 e1.2.2] (fun _ => rfl) (fun _ => rfl) rfl (by kernel_rfl) rfl (by simp only [List.length_cons, List.length_nil]; omega) rfl ?_)
    refine SL_sig ((b1, .cells 42 3 [.int .u64 e1.1, .int .u64 e1.2.1, .int .i64 e1.2.2]) :: ((F.p, .cells 83 6 [Gs.val H.s H.objs.length, Gs.val H.ts H.texts.length, .map (some F.kb), pt F.T.p 0, pt F.cp 0, .int .i64 H.br]) :: ((Gs.ent 89 9 H.s (H.objs.flatMap ObjL.cells)) ++ ((H.objs.flatMap ObjL.ent) ++ ((Gs.ent 9 1 H.ts (H.texts.map encS)) ++ ((F.kb, .map (kvs encS encU H.known)) :: ((TreeV.ent H.V F.T) ++ ((CellsL.ent (CellsL.mk F.cp H.cs H.cl)) ++ ([]))))))))) rfl ?_
    refine SL_segT 1 [(7, .bool true), (21, .bool (decide ((placeO (TreeV.abs H.V F.T) x.shape x.names key) < 0))), (9, .int .i64 (placeO (TreeV.abs H.V F.T) x.shape x.names key)), (14, .bool false), (8, pt (Gs.blk H.s) (n * 9)), (6, pt b1 0), (0, pt F.p 0), (1, .int .u64 w), (2, .string key)] (by intro δ w; kernel_rfl) ?_
    refine SL_nil (n_then ?_)
    refine SW_ret ?_
    refine body_endC [.agg #[.int .u64 e1.1, .int .u64 e1.2.1, .int .i64 e1.2.2], .bool true] (fun _ => (.cons ⟨b1, 0, rfl, .inl ⟨[.int .u64 e1.1, .int .u64 e1.2.1, .int .i64 e1.2.2], by kernel_rfl, (cells_cons (Cell.own mem_z rfl) (cells_cons (Cell.own mem_z rfl) (cells_cons (Cell.own mem_z rfl) cells_nil))), rfl⟩⟩ (.cons rfl .nil))) ?_
    exact ⟨(), (own_mk (S := ((F.p, .cells 83 6 [Gs.val H.s H.objs.length, Gs.val H.ts H.texts.length, .map (some F.kb), pt F.T.p 0, pt F.cp 0, .int .i64 H.br]) :: ((Gs.ent 89 9 H.s (H.objs.flatMap ObjL.cells)) ++ ((H.objs.flatMap ObjL.ent) ++ ((Gs.ent 9 1 H.ts (H.texts.map encS)) ++ ((F.kb, .map (kvs encS encU H.known)) :: ((TreeV.ent H.V F.T) ++ ((CellsL.ent (CellsL.mk F.cp H.cs H.cl)) ++ ([]))))))))) (J := ((b1, .cells 42 3 [.int .u64 e1.1, .int .u64 e1.2.1, .int .i64 e1.2.2]) :: ([]))) (List.Perm.trans (perm_c perm_z) (List.Perm.cons _ (List.Perm.trans (perm_cc perm_cz) (List.Perm.append_left _ (List.Perm.trans (perm_cc perm_cz) (List.Perm.append_left _ (List.Perm.trans (perm_cc perm_cz) (List.Perm.append_left _ (List.Perm.trans (perm_c perm_z) (List.Perm.cons _ (List.Perm.trans (perm_cc perm_cz) (List.Perm.append_left _ (List.Perm.trans (perm_cc perm_cz) (List.Perm.append_left _ (List.Perm.refl _))))))))))))))) (by simp only [List.cons_append, List.append_assoc, List.nil_append, List.append_nil])), by unfold getO; rw [if_neg (by omega), he1]; rfl⟩

end Go.Proofs.Ytdfhbheipagnmaa
