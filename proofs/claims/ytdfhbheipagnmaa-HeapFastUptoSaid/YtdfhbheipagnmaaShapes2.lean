/-
  What functions of shapes do to the memory they own, step by step: each theorem is one function's contract. Conditions: those that each theorem names.
-/
import Derived.Test.YtdfhbheipagnmaaShapes
set_option linter.unusedVariables false
set_option linter.unusedSimpArgs false
set_option maxRecDepth 100000
namespace Go.Proofs.Ytdfhbheipagnmaa
open Go.Sl

theorem shapes_way {W0 : World} {F : TreeF} {V : TreeV} (hV : V.ok F) (n : Int) (hn : 0 ≤ n ∧ n < V.l.length) (c : Bool) (k : ByteArray) (f : Int) {ls : Gs} {l : List PropP} (hl : ls.ok 2 l.length (l.flatMap propCells)) (hlr : l.length ≤ V.l.length) {m : Nat} (hm : m = l.length) : SC Try.prog W0 81 #[.pointer (some ⟨F.p, 0, none⟩), .int .i64 n, .agg #[.bool c, .string k, .int .i64 f], ls.val m] (TreeV.ent V F ++ (Gs.ent 136 2 ls (l.flatMap propCells) ++ [])) (Ret (fun V' : TreeV => V'.ent F) (fun v V' => V'.ok F ∧ Keep V V' ∧ ∃ m' ok', v = two (m', ok') ∧ wayP (V.abs F) n.toNat (c, k, f) l = (V'.abs F, m', ok'))) := by
  subst hm
  refine SC_body (fn := Try.f81) (n := 56) Try.func81 rfl (by kernel_rfl) (ρ := [(0, pt F.p 0), (1, .int .i64 n), (2, .agg #[.bool c, .string k, .int .i64 f]), (3, Gs.val ls l.length)]) rfl ?_
  refine SW_sig ((TreeV.ent V F) ++ ((Gs.ent 136 2 ls (l.flatMap propCells)) ++ ([]))) (by simp only [List.append_nil, List.append_assoc]) ?_
  obtain ⟨e0, he0⟩ : ∃ x, V.l[n.toNat]? = some x := ⟨_, List.getElem?_eq_getElem (by omega)⟩
  refine SW_seq ?_
  refine SW_region ?_
  refine SL_cons ⟨rfl, fun _ => rfl⟩ (O_new (fun b => .pointer (some ⟨b, 0, none⟩)) (.cells #[.bool c, .string k, .int .i64 f] 140 (0, 0)) (.cells 140 3 [.bool c, .string k, .int .i64 f]) rfl (by intro δ w; kernel_rfl) ⟨rfl, rfl, rfl, rfl⟩ ?_)
  intro b1 hlb1 hnb1
  refine SL_s2 2 9 (.bool false) 8 (.int .i64 0) (by intro δ w; kernel_rfl) ?_
  refine SL_nil (n_then ?_)
  refine SW_seq ?_
  refine SW_draw [(F.p, 1, Gs.val V.s V.l.length), ((Gs.blk V.s), n.toNat * 3 + 2, .map (some e0.nb)), (b1, 0, .bool c), (b1, 1, .string k), (b1, 2, .int .i64 f)] [0, 1, 2, 3, 4, 5, 6, 7, 8] (by kernel_rfl) (rd_cons (Cell.own (mem_c (mem_h (TreeV.m0 V F))) rfl) (rd_cons (Gs.cell (TreeV.ok.row hV) (fun e he => (mem_c (mem_h ((TreeV.m1 V F) _ he)))) (flat_cell ShapeL.len he0 (j := 2) (by decide) rfl)) (rd_cons (Cell.own mem_z rfl) (rd_cons (Cell.own mem_z rfl) (rd_cons (Cell.own mem_z rfl) rd_nil))))) ?_
  refine SA_take (li' := #[true, false, false, false, false, false, false, false, false, false, false, false, false, false, false]) 0 _ (pt F.p 0) (fun _ _ _ h => h) rfl (by kernel_rfl) rfl (Or.inl ⟨fun _ => rfl, by intro δ w; kernel_rfl⟩) ?_
  refine SA_take (li' := #[true, true, false, false, false, false, false, false, false, false, false, false, false, false, false]) 1 _ (pt F.p 0) (fun _ _ _ h => h) rfl (by kernel_rfl) rfl (Or.inl ⟨fun _ => rfl, by intro δ w; kernel_rfl⟩) ?_
  refine SA_take (li' := #[true, true, true, false, false, false, false, false, false, false, false, false, false, false, false]) 2 _ (pt F.p 1) (fun _ _ _ h => h) rfl (by kernel_rfl) rfl (Or.inl ⟨fun _ => rfl, by intro δ w; kernel_rfl⟩) ?_
  refine SA_read (li' := #[true, true, true, true, false, false, false, false, false, false, false, false, false, false, false]) 3 _ (Gs.val V.s V.l.length) (fun _ _ _ h => h) rfl (by kernel_rfl) rfl (fun _ => rfl) (fun δ w hr => Rd_load F.p 1 (Gs.val V.s V.l.length) rfl (by kernel_rfl) List.mem_cons_self hr) ?_
  refine SA_take (li' := #[true, true, true, true, true, false, false, false, false, false, false, false, false, false, false]) 4 _ (.int .i64 n) (fun _ _ _ h => h) rfl (by kernel_rfl) rfl (Or.inl ⟨fun _ => rfl, by intro δ w; kernel_rfl⟩) ?_
  refine SA_take (li' := #[true, true, true, true, true, true, false, false, false, false, false, false, false, false, false]) 5 _ (pt (Gs.blk V.s) (n.toNat * 3)) (fun _ _ _ h => h) rfl (by kernel_rfl) rfl (Or.inl ⟨fun _ => rfl, (fun δ w => run_indexAddr n (n.toNat * 3) (Gs.blk V.s) 0 V.l.length (Gs.cap V.s) .i64 3 Try.underlying120 (by kernel_rfl) (fun _ => gs_slice (Gs.ok.ne (TreeV.ok.row hV) (by first | omega | (simp; omega)))) (fun _ => rfl) (by omega) (by omega) (by omega))⟩) ?_
  refine SA_take (li' := #[true, true, true, true, true, true, true, false, false, false, false, false, false, false, false]) 6 _ (pt (Gs.blk V.s) (n.toNat * 3 + 2)) (fun _ _ _ h => h) rfl (by kernel_rfl) rfl (Or.inl ⟨fun _ => rfl, by intro δ w; kernel_rfl⟩) ?_
  refine SA_read (li' := #[true, true, true, true, true, true, true, true, false, false, false, false, false, false, false]) 7 _ (.map (some e0.nb)) (fun _ _ _ h => h) rfl (by kernel_rfl) rfl (fun _ => rfl) (fun δ w hr => Rd_load (Gs.blk V.s) (n.toNat * 3 + 2) (.map (some e0.nb)) rfl (by kernel_rfl) (List.mem_cons_of_mem _ List.mem_cons_self) hr) ?_
  refine SA_read (li' := #[true, true, true, true, true, true, true, true, true, false, false, false, false, false, false]) 8 _ (.agg #[.bool c, .string k, .int .i64 f]) (fun _ _ _ h => h) rfl (by kernel_rfl) rfl (fun _ => rfl) (fun δ w hr => Rd_loads b1 0 [.bool c, .string k, .int .i64 f] rfl (by kernel_rfl) (rdm_cons (List.mem_cons_of_mem _ (List.mem_cons_of_mem _ List.mem_cons_self)) (rdm_cons (List.mem_cons_of_mem _ (List.mem_cons_of_mem _ (List.mem_cons_of_mem _ List.mem_cons_self))) (rdm_cons (List.mem_cons_of_mem _ (List.mem_cons_of_mem _ (List.mem_cons_of_mem _ (List.mem_cons_of_mem _ List.mem_cons_self)))) rdm_nil))) hr) ?_
  rcases hm2 : mget e0.next (c, k, f) with _ | m2
  · skip
    refine SA_one false (li' := #[true, true, true, true, true, true, true, true, true, true, false, false, false, false, false]) 9 _ rfl rfl (by kernel_rfl) ⟨rfl, fun _ => rfl⟩ rfl (O_lookup2 lawStep (e := 3) (m := e0.next) (c, k, f) (z := .int .i64 0) (by kernel_rfl) (by kernel_rfl) (mem_c (mem_h (TreeV.m3 F he0))) (fun _ => rfl) (fun _ => rfl) (.int .i64 0) false (by rw [hm2]) (by rw [hm2]; rfl) rfl ?_)
    refine ⟨fun hnd => (by cases hnd), ?_⟩
    refine SA_trim [(23, .tuple #[.int .i64 0, .bool false]), (9, .bool false), (8, .int .i64 0), (6, pt b1 0), (0, pt F.p 0), (1, .int .i64 n), (2, .agg #[.bool c, .string k, .int .i64 f]), (3, Gs.val ls l.length)] (fun _ => rfl) ?_
    refine SA_take (li' := #[true, true, true, true, true, true, true, true, true, true, true, false, false, false, false]) 10 _ (.tuple #[.int .i64 0, .bool false]) (fun _ _ _ h => h) rfl (by kernel_rfl) rfl (Or.inl ⟨fun _ => rfl, by intro δ w; kernel_rfl⟩) ?_
    refine SA_take (li' := #[true, true, true, true, true, true, true, true, true, true, true, true, false, false, false]) 11 _ (.int .i64 0) (fun _ _ _ h => h) rfl (by kernel_rfl) rfl (Or.inl ⟨fun _ => rfl, by intro δ w; kernel_rfl⟩) ?_
    refine SA_take (li' := #[true, true, true, true, true, true, true, true, true, true, true, true, true, false, false]) 12 _ (.bool false) (fun _ _ _ h => h) rfl (by kernel_rfl) rfl (Or.inl ⟨fun _ => rfl, by intro δ w; kernel_rfl⟩) ?_
    refine SA_take (li' := #[true, true, true, true, true, true, true, true, true, true, true, true, true, true, false]) 13 _ (.int .i64 0) (fun _ _ _ h => h) rfl (by kernel_rfl) rfl (Or.inl ⟨fun _ => rfl, by intro δ w; kernel_rfl⟩) ?_
    refine SA_take (li' := #[true, true, true, true, true, true, true, true, true, true, true, true, true, true, true]) 14 _ (.bool false) (fun _ _ _ h => h) rfl (by kernel_rfl) rfl (Or.inl ⟨fun _ => rfl, by intro δ w; kernel_rfl⟩) ?_
    refine SA_done (by kernel_rfl) (n_then ?_)
    refine SW_seq ?_
    refine SW_seq ?_
    refine SW_region ?_
    refine SL_s1 1 26 (.bool false) (by intro δ w; kernel_rfl) ?_
    refine SL_nil (n_then ?_)
    refine SW_false (fun _ => rfl) ?_
    refine SW_skip (n_then ?_)
    refine SW_seq ?_
    refine SW_region ?_
    refine SL_s4 4 32 (pt F.p 1) 31 (pt F.p 0) 30 (pt F.p 0) 29 (pt F.p 0) (by intro δ w; kernel_rfl) ?_
    refine SL_cons ⟨rfl, fun _ => rfl⟩ (O_load F.p 1 (Gs.val V.s V.l.length) (fun _ => rfl) (by kernel_rfl) (Cell.own (mem_c (mem_h (TreeV.m0 V F))) rfl) rfl ?_)
    refine SL_s1 1 34 (.int .i64 n) (by intro δ w; kernel_rfl) ?_
    refine SL_cons ⟨rfl, fun _ => rfl⟩ (O_indexAddr' n (n.toNat * 3) (Gs.blk V.s) 0 V.l.length (Gs.cap V.s) .i64 3 Try.underlying120 (by kernel_rfl) (fun _ => gs_slice (Gs.ok.ne (TreeV.ok.row hV) (by first | omega | (simp; omega)))) (fun _ => rfl) (by omega) (by omega) (by omega) rfl ?_)
    refine SL_s1 1 36 (pt (Gs.blk V.s) (n.toNat * 3)) (by intro δ w; kernel_rfl) ?_
    refine SL_cons ⟨rfl, fun _ => rfl⟩ (O_load (Gs.blk V.s) (n.toNat * 3) (.int .u64 e0.proto) (fun _ => rfl) (by kernel_rfl) (Gs.cell (TreeV.ok.row hV) (fun e he => (mem_c (mem_h ((TreeV.m1 V F) _ he)))) (flat_cell ShapeL.len he0 (j := 0) (by decide) rfl)) rfl ?_)
    refine SL_segT 2 [(39, .agg #[.int .u64 e0.proto, Gs.val ls l.length, .map none]), (29, pt F.p 0), (26, .bool false), (11, .bool false), (10, .int .i64 0), (9, .bool false), (8, .int .i64 0), (6, pt b1 0), (0, pt F.p 0), (1, .int .i64 n), (2, .agg #[.bool c, .string k, .int .i64 f]), (3, Gs.val ls l.length)] (by intro δ w; kernel_rfl) ?_
    by_cases hp3 : F.most ≤ V.l.length
    · skip
      refine SL_perm _ (perm_cc (perm_ca perm_cz)) ?_
      refine SL_perm _ (perm_ca (perm_cc perm_cz)) ?_
      refine SL_sig (((TreeV.ent V F) ++ ((Gs.ent 136 2 ls (l.flatMap propCells)) ++ ([]))) ++ ((b1, .cells 140 3 [.bool c, .string k, .int .i64 f]) :: ([]))) (by simp only [List.cons_append, List.append_assoc, List.nil_append, List.append_nil]) ?_
      refine SL_cons ⟨rfl, fun _ => rfl⟩ (O_call 90 #[pt F.p 0, .agg #[.int .u64 e0.proto, Gs.val ls l.length, .map none]] rfl (by intro δ w; kernel_rfl) ((shapes_lay_no (ls := ls) (l := l) hV hl e0.proto hp3).use _) ?_)
      rintro _ σ1 ⟨_, hσ1, rfl⟩
      obtain rfl : σ1 = ((TreeV.ent V F) ++ ((b1, .cells 140 3 [.bool c, .string k, .int .i64 f]) :: ([]))) := hσ1.trans (rfl)
      refine SL_segT 5 [(12, .bool false), (10, .int .i64 0), (26, .bool false), (11, .bool false), (9, .bool false), (8, .int .i64 0), (6, pt b1 0), (0, pt F.p 0), (1, .int .i64 n), (2, .agg #[.bool c, .string k, .int .i64 f]), (3, Gs.val ls l.length)] (by intro δ w; kernel_rfl) ?_
      refine SL_nil (n_then ?_)
      refine SW_seq ?_
      refine SW_seq ?_
      refine SW_region ?_
      refine SL_s1 1 43 (.bool false) (by intro δ w; kernel_rfl) ?_
      refine SL_nil (n_then ?_)
      refine SW_false (fun _ => rfl) ?_
      refine SW_skip (n_then ?_)
      refine SW_seq ?_
      refine SW_region ?_
      refine SL_segT 4 [(9, .bool false), (8, .int .i64 0), (43, .bool false), (12, .bool false), (10, .int .i64 0), (26, .bool false), (11, .bool false), (6, pt b1 0), (0, pt F.p 0), (1, .int .i64 n), (2, .agg #[.bool c, .string k, .int .i64 f]), (3, Gs.val ls l.length)] (by intro δ w; kernel_rfl) ?_
      refine SL_nil (n_then ?_)
      refine SW_ret ?_
      refine body_end (.tuple #[.int .i64 0, .bool false]) (fun _ => rfl) ?_
      exact ⟨V, (own_mk (J := ((b1, .cells 140 3 [.bool c, .string k, .int .i64 f]) :: ([]))) (List.Perm.refl _) (by simp only [List.cons_append, List.append_assoc, List.nil_append, List.append_nil])), hV, Keep.refl V, 0, false, rfl, by simp only [wayP, TreeV.abs_at F he0, ShapeL.abs, hm2, layP, TreeV.abs_len, if_pos (show (V.abs F).most ≤ V.l.length from hp3)]⟩
    · skip
      refine SL_perm _ (perm_cc (perm_ca perm_cz)) ?_
      refine SL_perm _ (perm_ca (perm_cc perm_cz)) ?_
      refine SL_sig (((TreeV.ent V F) ++ ((Gs.ent 136 2 ls (l.flatMap propCells)) ++ ([]))) ++ ((b1, .cells 140 3 [.bool c, .string k, .int .i64 f]) :: ([]))) (by simp only [List.cons_append, List.append_assoc, List.nil_append, List.append_nil]) ?_
      refine SL_cons ⟨rfl, fun _ => rfl⟩ (O_call 90 #[pt F.p 0, .agg #[.int .u64 e0.proto, Gs.val ls l.length, .map none]] rfl (by intro δ w; kernel_rfl) ((shapes_lay_yes (ls := ls) (l := l) hV hl e0.proto hp3 hlr).use _) ?_)
      rintro _ σ2 ⟨V1, hσ2, rfl, hV1, g1, nb1, heV1⟩
      obtain rfl : σ2 = ((TreeV.ent V1 F) ++ ((b1, .cells 140 3 [.bool c, .string k, .int .i64 f]) :: ([]))) := hσ2.trans (rfl)
      have he1 : V1.l[n.toNat]? = some e0 := by rw [heV1]; exact (List.getElem?_append_left (List.getElem?_eq_some_iff.1 he0).1).trans he0
      have hlV1 : V1.l.length = V.l.length + 1 := by rw [heV1]; simp
      refine SL_segT 5 [(12, .bool true), (10, .int .i64 (V.l.length : Int)), (26, .bool false), (11, .bool false), (9, .bool false), (8, .int .i64 0), (6, pt b1 0), (0, pt F.p 0), (1, .int .i64 n), (2, .agg #[.bool c, .string k, .int .i64 f]), (3, Gs.val ls l.length)] (by intro δ w; kernel_rfl) ?_
      refine SL_nil (n_then ?_)
      refine SW_seq ?_
      refine SW_seq ?_
      refine SW_region ?_
      refine SL_s1 1 43 (.bool true) (by intro δ w; kernel_rfl) ?_
      refine SL_nil (n_then ?_)
      refine SW_true (fun _ => rfl) ?_
      refine SW_perm ((F.p, .cells 122 3 [.int .i64 F.most, Gs.val V1.s V1.l.length, .map (some F.rb)]) :: ((Gs.ent 133 3 V1.s (V1.l.flatMap ShapeL.cells)) ++ ((Gs.ent 136 2 e0.ls (e0.l.flatMap propCells)) ++ ((e0.nb, .map (kvs stepV encI e0.next)) :: (((V1.l.eraseIdx n.toNat).flatMap ShapeL.ent) ++ ((F.rb, .map (kvs encU encI V1.roots)) :: ((b1, .cells 140 3 [.bool c, .string k, .int .i64 f]) :: ([])))))))) (TreeV.focus F he1 _) ?_
      refine SW_draw [(F.p, 1, Gs.val V1.s V1.l.length), ((Gs.blk V1.s), n.toNat * 3 + 2, .map (some e0.nb)), (b1, 0, .bool c), (b1, 1, .string k), (b1, 2, .int .i64 f)] [0, 1, 2, 3, 4, 5, 6, 7, 8, 9] (by kernel_rfl) (rd_cons (Cell.own mem_z rfl) (rd_cons (Gs.cell (TreeV.ok.row hV1) (fun e he => (mem_c (mem_h he))) (flat_cell ShapeL.len he1 (j := 2) (by decide) rfl)) (rd_cons (Cell.own (mem_c (mem_a (mem_a (mem_c (mem_a (mem_c mem_z)))))) rfl) (rd_cons (Cell.own (mem_c (mem_a (mem_a (mem_c (mem_a (mem_c mem_z)))))) rfl) (rd_cons (Cell.own (mem_c (mem_a (mem_a (mem_c (mem_a (mem_c mem_z)))))) rfl) rd_nil))))) ?_
      refine SA_take (li' := #[true, false, false, false, false, false, false, false, false, false, false]) 0 _ (pt F.p 0) (fun _ _ _ h => h) rfl (by kernel_rfl) rfl (Or.inl ⟨fun _ => rfl, by intro δ w; kernel_rfl⟩) ?_
      refine SA_take (li' := #[true, true, false, false, false, false, false, false, false, false, false]) 1 _ (pt F.p 0) (fun _ _ _ h => h) rfl (by kernel_rfl) rfl (Or.inl ⟨fun _ => rfl, by intro δ w; kernel_rfl⟩) ?_
      refine SA_take (li' := #[true, true, true, false, false, false, false, false, false, false, false]) 2 _ (pt F.p 1) (fun _ _ _ h => h) rfl (by kernel_rfl) rfl (Or.inl ⟨fun _ => rfl, by intro δ w; kernel_rfl⟩) ?_
      refine SA_read (li' := #[true, true, true, true, false, false, false, false, false, false, false]) 3 _ (Gs.val V1.s V1.l.length) (fun _ _ _ h => h) rfl (by kernel_rfl) rfl (fun _ => rfl) (fun δ w hr => Rd_load F.p 1 (Gs.val V1.s V1.l.length) rfl (by kernel_rfl) List.mem_cons_self hr) ?_
      refine SA_take (li' := #[true, true, true, true, true, false, false, false, false, false, false]) 4 _ (.int .i64 n) (fun _ _ _ h => h) rfl (by kernel_rfl) rfl (Or.inl ⟨fun _ => rfl, by intro δ w; kernel_rfl⟩) ?_
      refine SA_take (li' := #[true, true, true, true, true, true, false, false, false, false, false]) 5 _ (pt (Gs.blk V1.s) (n.toNat * 3)) (fun _ _ _ h => h) rfl (by kernel_rfl) rfl (Or.inl ⟨fun _ => rfl, (fun δ w => run_indexAddr n (n.toNat * 3) (Gs.blk V1.s) 0 V1.l.length (Gs.cap V1.s) .i64 3 Try.underlying120 (by kernel_rfl) (fun _ => gs_slice (Gs.ok.ne (TreeV.ok.row hV1) (by first | omega | (simp; omega)))) (fun _ => rfl) (by omega) (by omega) (by omega))⟩) ?_
      refine SA_take (li' := #[true, true, true, true, true, true, true, false, false, false, false]) 6 _ (pt (Gs.blk V1.s) (n.toNat * 3 + 2)) (fun _ _ _ h => h) rfl (by kernel_rfl) rfl (Or.inl ⟨fun _ => rfl, by intro δ w; kernel_rfl⟩) ?_
      refine SA_read (li' := #[true, true, true, true, true, true, true, true, false, false, false]) 7 _ (.map (some e0.nb)) (fun _ _ _ h => h) rfl (by kernel_rfl) rfl (fun _ => rfl) (fun δ w hr => Rd_load (Gs.blk V1.s) (n.toNat * 3 + 2) (.map (some e0.nb)) rfl (by kernel_rfl) (List.mem_cons_of_mem _ List.mem_cons_self) hr) ?_
      refine SA_read (li' := #[true, true, true, true, true, true, true, true, true, false, false]) 8 _ (.agg #[.bool c, .string k, .int .i64 f]) (fun _ _ _ h => h) rfl (by kernel_rfl) rfl (fun _ => rfl) (fun δ w hr => Rd_loads b1 0 [.bool c, .string k, .int .i64 f] rfl (by kernel_rfl) (rdm_cons (List.mem_cons_of_mem _ (List.mem_cons_of_mem _ List.mem_cons_self)) (rdm_cons (List.mem_cons_of_mem _ (List.mem_cons_of_mem _ (List.mem_cons_of_mem _ List.mem_cons_self))) (rdm_cons (List.mem_cons_of_mem _ (List.mem_cons_of_mem _ (List.mem_cons_of_mem _ (List.mem_cons_of_mem _ List.mem_cons_self)))) rdm_nil))) hr) ?_
      refine SA_take (li' := #[true, true, true, true, true, true, true, true, true, true, false]) 9 _ (.int .i64 (V.l.length : Int)) (fun _ _ _ h => h) rfl (by kernel_rfl) rfl (Or.inl ⟨fun _ => rfl, by intro δ w; kernel_rfl⟩) ?_
      refine SA_perm _ (perm_c (perm_a (perm_a perm_z))) ?_
      refine SA_one false (li' := #[true, true, true, true, true, true, true, true, true, true, true]) 10 _ rfl rfl (by kernel_rfl) ⟨rfl, fun _ => rfl⟩ rfl (O_mapUpdate lawStep (e := 3) (m := e0.next) (c, k, f) (V.l.length : Int) (by kernel_rfl) (fun _ => rfl) (fun _ => rfl) (fun _ => rfl) rfl ?_)
      refine ⟨fun hnd => (by cases hnd), ?_⟩
      refine SA_trim [(43, .bool true), (12, .bool true), (10, .int .i64 (V.l.length : Int)), (26, .bool false), (11, .bool false), (9, .bool false), (8, .int .i64 0), (6, pt b1 0), (0, pt F.p 0), (1, .int .i64 n), (2, .agg #[.bool c, .string k, .int .i64 f]), (3, Gs.val ls l.length)] (fun _ => rfl) ?_
      refine SA_done (by kernel_rfl) (n_then ?_)
      refine SW_seq ?_
      refine SW_region ?_
      refine SL_segT 4 [(9, .bool true), (8, .int .i64 (V.l.length : Int)), (43, .bool true), (12, .bool true), (10, .int .i64 (V.l.length : Int)), (26, .bool false), (11, .bool false), (6, pt b1 0), (0, pt F.p 0), (1, .int .i64 n), (2, .agg #[.bool c, .string k, .int .i64 f]), (3, Gs.val ls l.length)] (by intro δ w; kernel_rfl) ?_
      refine SL_nil (n_then ?_)
      refine SW_ret ?_
      refine body_end (.tuple #[.int .i64 (V.l.length : Int), .bool true]) (fun _ => rfl) ?_
      refine ⟨V1.next n.toNat e0 (mset e0.next (c, k, f) V.l.length), ?_, hV1.next he1 _, ?_, V.l.length, true, rfl, ?_⟩
      · refine Own.trans (own_mk (S := ((F.p, .cells 122 3 [.int .i64 F.most, Gs.val V1.s V1.l.length, .map (some F.rb)]) :: ((Gs.ent 133 3 V1.s (V1.l.flatMap ShapeL.cells)) ++ ((Gs.ent 136 2 e0.ls (e0.l.flatMap propCells)) ++ ((e0.nb, .map (kvs stepV encI (mset e0.next (c, k, f) (V.l.length : Int)))) :: (((V1.l.eraseIdx n.toNat).flatMap ShapeL.ent) ++ ((F.rb, .map (kvs encU encI V1.roots)) :: ([])))))))) (J := ((b1, .cells 140 3 [.bool c, .string k, .int .i64 f]) :: ([]))) (List.Perm.trans (perm_c perm_z) (List.Perm.cons _ (List.Perm.trans (perm_cc perm_cz) (List.Perm.append_left _ (List.Perm.trans (perm_cc perm_cz) (List.Perm.append_left _ (List.Perm.refl _))))))) (by simp only [List.cons_append, List.append_assoc, List.nil_append, List.append_nil])) ?_
        exact Own.of_perm (by simpa using TreeV.unfocus F he1 (mset e0.next (c, k, f) V.l.length) [])
      · exact Keep.trans (by subst heV1; exact Keep.snoc rfl) (Keep.set he1 rfl)
      · subst heV1
        simp only [wayP, TreeV.abs_at F he0, ShapeL.abs, hm2, layP, TreeV.abs_len, if_neg (show ¬ (V.abs F).most ≤ V.l.length from hp3)]
        simp [TreeV.abs, List.map_set, ShapeL.abs]
  · skip
    refine SA_one false (li' := #[true, true, true, true, true, true, true, true, true, true, false, false, false, false, false]) 9 _ rfl rfl (by kernel_rfl) ⟨rfl, fun _ => rfl⟩ rfl (O_lookup2 lawStep (e := 3) (m := e0.next) (c, k, f) (z := .int .i64 0) (by kernel_rfl) (by kernel_rfl) (mem_c (mem_h (TreeV.m3 F he0))) (fun _ => rfl) (fun _ => rfl) (.int .i64 m2) true (by rw [hm2]) (by rw [hm2]; rfl) rfl ?_)
    refine ⟨fun hnd => (by cases hnd), ?_⟩
    refine SA_trim [(23, .tuple #[.int .i64 m2, .bool true]), (9, .bool false), (8, .int .i64 0), (6, pt b1 0), (0, pt F.p 0), (1, .int .i64 n), (2, .agg #[.bool c, .string k, .int .i64 f]), (3, Gs.val ls l.length)] (fun _ => rfl) ?_
    refine SA_take (li' := #[true, true, true, true, true, true, true, true, true, true, true, false, false, false, false]) 10 _ (.tuple #[.int .i64 m2, .bool true]) (fun _ _ _ h => h) rfl (by kernel_rfl) rfl (Or.inl ⟨fun _ => rfl, by intro δ w; kernel_rfl⟩) ?_
    refine SA_take (li' := #[true, true, true, true, true, true, true, true, true, true, true, true, false, false, false]) 11 _ (.int .i64 m2) (fun _ _ _ h => h) rfl (by kernel_rfl) rfl (Or.inl ⟨fun _ => rfl, by intro δ w; kernel_rfl⟩) ?_
    refine SA_take (li' := #[true, true, true, true, true, true, true, true, true, true, true, true, true, false, false]) 12 _ (.bool true) (fun _ _ _ h => h) rfl (by kernel_rfl) rfl (Or.inl ⟨fun _ => rfl, by intro δ w; kernel_rfl⟩) ?_
    refine SA_take (li' := #[true, true, true, true, true, true, true, true, true, true, true, true, true, true, false]) 13 _ (.int .i64 m2) (fun _ _ _ h => h) rfl (by kernel_rfl) rfl (Or.inl ⟨fun _ => rfl, by intro δ w; kernel_rfl⟩) ?_
    refine SA_take (li' := #[true, true, true, true, true, true, true, true, true, true, true, true, true, true, true]) 14 _ (.bool true) (fun _ _ _ h => h) rfl (by kernel_rfl) rfl (Or.inl ⟨fun _ => rfl, by intro δ w; kernel_rfl⟩) ?_
    refine SA_done (by kernel_rfl) (n_then ?_)
    refine SW_seq ?_
    refine SW_seq ?_
    refine SW_region ?_
    refine SL_s1 1 26 (.bool true) (by intro δ w; kernel_rfl) ?_
    refine SL_nil (n_then ?_)
    refine SW_true (fun _ => rfl) ?_
    refine SW_seq ?_
    refine SW_region ?_
    refine SL_segT 3 [(9, .bool true), (8, .int .i64 m2), (26, .bool true), (11, .bool true), (10, .int .i64 m2), (6, pt b1 0), (0, pt F.p 0), (1, .int .i64 n), (2, .agg #[.bool c, .string k, .int .i64 f]), (3, Gs.val ls l.length)] (by intro δ w; kernel_rfl) ?_
    refine SL_nil (n_then ?_)
    refine SW_ret (r_then ?_)
    refine body_end (.tuple #[.int .i64 m2, .bool true]) (fun _ => rfl) ?_
    exact ⟨V, (own_mk (J := ((b1, .cells 140 3 [.bool c, .string k, .int .i64 f]) :: ((Gs.ent 136 2 ls (l.flatMap propCells)) ++ ([])))) (List.Perm.trans (perm_cc perm_cz) (List.Perm.append_left _ (List.Perm.refl _))) (by simp only [List.cons_append, List.append_assoc, List.nil_append, List.append_nil])), hV, Keep.refl V, m2, true, rfl, by simp only [wayP, TreeV.abs_at F he0, ShapeL.abs, hm2]⟩

theorem shapes_Add {W0 : World} {F : TreeF} {V : TreeV} (hV : V.ok F) (n : Int) (key : ByteArray) (flags : Int) : SC Try.prog W0 49 #[.pointer (some ⟨F.p, 0, none⟩), .int .i64 n, .string key, .int .i64 flags] (TreeV.ent V F) (Ret (fun V' : TreeV => V'.ent F) (fun v V' => V'.ok F ∧ Keep V V' ∧ ∃ m' ok', v = two (m', ok') ∧ addP (V.abs F) n key flags = (V'.abs F, m', ok'))) := by
  refine SC_body (fn := Try.f49) (n := 49) Try.func49 rfl (by kernel_rfl) (ρ := [(0, pt F.p 0), (1, .int .i64 n), (2, .string key), (3, .int .i64 flags)]) rfl ?_
  refine SW_sig ((TreeV.ent V F) ++ ([])) (by simp only [List.append_nil, List.append_assoc]) ?_
  refine SW_seq ?_
  refine SW_region ?_
  refine SL_s2 2 9 (.bool false) 8 (.int .i64 0) (by intro δ w; kernel_rfl) ?_
  refine SL_nil (n_then ?_)
  refine SW_seq ?_
  refine SW_seq ?_
  refine SW_region ?_
  refine SL_s2 2 12 (.int .i64 n) 11 (pt F.p 0) (by intro δ w; kernel_rfl) ?_
  refine SL_cons ⟨rfl, fun _ => rfl⟩ (O_call 78 #[pt F.p 0, .int .i64 n] rfl (by intro δ w; kernel_rfl) ((shapes_there hV n).use _) ?_)
  rintro _ σ1 ⟨_, hσ1, rfl⟩
  obtain rfl : σ1 = ((TreeV.ent V F) ++ ([])) := hσ1.trans (rfl)
  refine SL_s2 2 15 (.bool (!(decide (0 ≤ n ∧ n < V.l.length)))) 14 (.bool (!(decide (0 ≤ n ∧ n < V.l.length)))) (by intro δ w; kernel_rfl) ?_
  refine SL_tb (!(decide (0 ≤ n ∧ n < V.l.length))) (fun tb_ => [(15, .bool tb_), (14, .bool tb_), (13, .bool (decide (0 ≤ n ∧ n < V.l.length))), (12, .int .i64 n), (11, pt F.p 0), (9, .bool false), (8, .int .i64 0), (0, pt F.p 0), (1, .int .i64 n), (2, .string key), (3, .int .i64 flags)]) (fun hg1 => ?_) (fun hg1 => ?_)
  · skip
    replace hg1 := bnot_t hg1
    replace hg1 := of_decide_eq_false hg1
    refine SL_segT 11 [(26, .bool true), (9, .bool false), (8, .int .i64 0), (0, pt F.p 0), (1, .int .i64 n), (2, .string key), (3, .int .i64 flags)] (by intro δ w; kernel_rfl) ?_
    refine SL_nil (n_then ?_)
    refine SW_true (fun _ => rfl) ?_
    refine SW_seq ?_
    refine SW_region ?_
    refine SL_segT 2 [(9, .bool false), (8, .int .i64 0), (26, .bool true), (0, pt F.p 0), (1, .int .i64 n), (2, .string key), (3, .int .i64 flags)] (by intro δ w; kernel_rfl) ?_
    refine SL_nil (n_then ?_)
    refine SW_ret (r_then ?_)
    refine body_end (.tuple #[.int .i64 0, .bool false]) (fun _ => rfl) ?_
    exact ⟨V, (own_mk (J := ([])) (List.Perm.refl _) (by simp only [List.cons_append, List.append_assoc, List.nil_append, List.append_nil])), hV, Keep.refl V, 0, false, rfl, by simp only [addP, shapeAt_out F hg1]⟩
  · skip
    replace hg1 := bnot_f hg1
    replace hg1 := of_decide_eq_true hg1
    refine SL_s3 3 18 (pt F.p 1) 17 (pt F.p 0) 16 (pt F.p 0) (by intro δ w; kernel_rfl) ?_
    refine SL_cons ⟨rfl, fun _ => rfl⟩ (O_load F.p 1 (Gs.val V.s V.l.length) (fun _ => rfl) (by kernel_rfl) (Cell.own (mem_h (TreeV.m0 V F)) rfl) rfl ?_)
    refine SL_s1 1 20 (.int .i64 n) (by intro δ w; kernel_rfl) ?_
    refine SL_cons ⟨rfl, fun _ => rfl⟩ (O_indexAddr' n (n.toNat * 3) (Gs.blk V.s) 0 V.l.length (Gs.cap V.s) .i64 3 Try.underlying120 (by kernel_rfl) (fun _ => gs_slice (Gs.ok.ne (TreeV.ok.row hV) (by first | omega | (simp; omega)))) (fun _ => rfl) (by omega) (by omega) (by omega) rfl ?_)
    obtain ⟨e1, he1⟩ : ∃ y_, V.l[n.toNat]? = some y_ := ⟨_, List.getElem?_eq_getElem (by omega)⟩
    refine SL_cons ⟨rfl, fun _ => rfl⟩ (O_loads (Gs.blk V.s) (n.toNat * 3) [.int .u64 e1.proto, Gs.val e1.ls e1.l.length, .map (some e1.nb)] (fun _ => rfl) (by kernel_rfl) (cells_cons (Gs.cell (TreeV.ok.row hV) (fun e he => (mem_h ((TreeV.m1 V F) _ he))) (flat_cell ShapeL.len he1 (j := 0) (by decide) rfl)) (cells_cons (Gs.cell (TreeV.ok.row hV) (fun e he => (mem_h ((TreeV.m1 V F) _ he))) (flat_cell ShapeL.len he1 (j := 1) (by decide) rfl)) (cells_cons (Gs.cell (TreeV.ok.row hV) (fun e he => (mem_h ((TreeV.m1 V F) _ he))) (flat_cell ShapeL.len he1 (j := 2) (by decide) rfl)) cells_nil))) rfl ?_)
    refine SL_s1 1 23 (.string key) (by intro δ w; kernel_rfl) ?_
    refine SL_cons ⟨rfl, fun _ => rfl⟩ (O_call 79 #[.agg #[.int .u64 e1.proto, Gs.val e1.ls e1.l.length, .map (some e1.nb)], .string key] rfl (by intro δ w; kernel_rfl) ((shapes_place (σ := (TreeV.ent V F)) (TreeV.ok.at hV he1) (TreeV.m2 F he1) e1.proto e1.nb key).use _) ?_)
    rintro _ σ2 ⟨_, hσ2, rfl⟩
    obtain rfl : σ2 = ((TreeV.ent V F) ++ ([])) := hσ2.trans (rfl)
    refine SL_segT 2 [(26, .bool (decide ((keyIx e1.l key) ≥ 0))), (9, .bool false), (8, .int .i64 0), (0, pt F.p 0), (1, .int .i64 n), (2, .string key), (3, .int .i64 flags)] (by intro δ w; kernel_rfl) ?_
    refine SL_nil (n_then ?_)
    refine SW_cond (decide ((keyIx e1.l key) ≥ 0)) (fun _ => rfl) (fun hc2 => ?_) (fun hc2 => ?_)
    · skip
      replace hc2 := of_decide_eq_true hc2
      refine SW_seq ?_
      refine SW_region ?_
      refine SL_segT 2 [(9, .bool false), (8, .int .i64 0), (26, .bool (decide ((keyIx e1.l key) ≥ 0))), (0, pt F.p 0), (1, .int .i64 n), (2, .string key), (3, .int .i64 flags)] (by intro δ w; kernel_rfl) ?_
      refine SL_nil (n_then ?_)
      refine SW_ret (r_then ?_)
      refine body_end (.tuple #[.int .i64 0, .bool false]) (fun _ => rfl) ?_
      exact ⟨V, (own_mk (J := ([])) (List.Perm.refl _) (by simp only [List.cons_append, List.append_assoc, List.nil_append, List.append_nil])), hV, Keep.refl V, 0, false, rfl, by simp only [addP, shapeAt_in F hg1 he1, ShapeL.abs, if_pos hc2]⟩
    · skip
      replace hc2 := of_decide_eq_false hc2
      refine SW_skip (n_then ?_)
      refine SW_seq ?_
      have hrm0 := hV.room _ _ he1
      have hmany := hV.many
      have hrm : e1.l.length ≤ 1099511627776 := by omega
      refine SW_region ?_
      refine SL_s3 3 29 (.agg #[.string key, .int .i64 flags]) 28 (.int .i64 flags) 27 (.string key) (by intro δ w; kernel_rfl) ?_
      refine SL_cons ⟨rfl, fun _ => rfl⟩ (O_new (fun b => .pointer (some ⟨b, 0, none⟩)) (.cells #[.string ByteArray.empty, .int .i64 0] 136 (0, 0)) (.cells 136 2 [.string ByteArray.empty, .int .i64 0]) rfl (by intro δ w; kernel_rfl) ⟨rfl, rfl, rfl, rfl⟩ ?_)
      intro b3 hlb3 hnb3
      refine SL_cons ⟨rfl, fun _ => rfl⟩ (O_store b3 0 (.agg #[.string key, .int .i64 flags]) [.string key, .int .i64 flags] (fun _ => rfl) (fun _ => rfl) rfl (by kernel_rfl) rfl (by simp only [List.length_cons, List.length_nil]; omega) rfl ?_)
      refine SL_sig ((b3, .cells 136 2 [.string key, .int .i64 flags]) :: ((TreeV.ent V F) ++ ([]))) rfl ?_
      refine SL_nil (n_then ?_)
      refine SW_seq ?_
      refine SW_draw [(b3, 0, .string key), (b3, 1, .int .i64 flags), (F.p, 1, Gs.val V.s V.l.length), ((Gs.blk V.s), n.toNat * 3 + 1, Gs.val e1.ls e1.l.length), (b3, 0, .string key), (b3, 1, .int .i64 flags)] [0, 1, 2, 3, 4, 5, 6, 7, 8, 9, 10, 11, 12, 13, 14, 15] (by kernel_rfl) (rd_cons (Cell.own mem_z rfl) (rd_cons (Cell.own mem_z rfl) (rd_cons (Cell.own (mem_c (mem_h (TreeV.m0 V F))) rfl) (rd_cons (Gs.cell (TreeV.ok.row hV) (fun e he => (mem_c (mem_h ((TreeV.m1 V F) _ he)))) (flat_cell ShapeL.len he1 (j := 1) (by decide) rfl)) (rd_cons (Cell.own mem_z rfl) (rd_cons (Cell.own mem_z rfl) rd_nil)))))) ?_
      refine SA_take (li' := #[true, false, false, false, false, false, false, false, false, false, false, false, false, false, false, false, false, false, false, false, false]) 0 _ (pt F.p 0) (fun _ _ _ h => h) rfl (by kernel_rfl) rfl (Or.inl ⟨fun _ => rfl, by intro δ w; kernel_rfl⟩) ?_
      refine SA_take (li' := #[true, true, false, false, false, false, false, false, false, false, false, false, false, false, false, false, false, false, false, false, false]) 1 _ (.int .i64 n) (fun _ _ _ h => h) rfl (by kernel_rfl) rfl (Or.inl ⟨fun _ => rfl, by intro δ w; kernel_rfl⟩) ?_
      refine SA_read (li' := #[true, true, true, false, false, false, false, false, false, false, false, false, false, false, false, false, false, false, false, false, false]) 2 _ (.agg #[.string key, .int .i64 flags]) (fun _ _ _ h => h) rfl (by kernel_rfl) rfl (fun _ => rfl) (fun δ w hr => Rd_loads b3 0 [.string key, .int .i64 flags] rfl (by kernel_rfl) (rdm_cons List.mem_cons_self (rdm_cons (List.mem_cons_of_mem _ List.mem_cons_self) rdm_nil)) hr) ?_
      refine SA_take (li' := #[true, true, true, true, false, false, false, false, false, false, false, false, false, false, false, false, false, false, false, false, false]) 3 _ (.agg #[.bool false, .string key, .int .i64 flags]) (fun _ _ _ h => h) rfl (by kernel_rfl) rfl (Or.inl ⟨fun _ => rfl, by intro δ w; kernel_rfl⟩) ?_
      refine SA_take (li' := #[true, true, true, true, true, false, false, false, false, false, false, false, false, false, false, false, false, false, false, false, false]) 4 _ (pt F.p 0) (fun _ _ _ h => h) rfl (by kernel_rfl) rfl (Or.inl ⟨fun _ => rfl, by intro δ w; kernel_rfl⟩) ?_
      refine SA_take (li' := #[true, true, true, true, true, true, false, false, false, false, false, false, false, false, false, false, false, false, false, false, false]) 5 _ (pt F.p 0) (fun _ _ _ h => h) rfl (by kernel_rfl) rfl (Or.inl ⟨fun _ => rfl, by intro δ w; kernel_rfl⟩) ?_
      refine SA_take (li' := #[true, true, true, true, true, true, true, false, false, false, false, false, false, false, false, false, false, false, false, false, false]) 6 _ (pt F.p 1) (fun _ _ _ h => h) rfl (by kernel_rfl) rfl (Or.inl ⟨fun _ => rfl, by intro δ w; kernel_rfl⟩) ?_
      refine SA_read (li' := #[true, true, true, true, true, true, true, true, false, false, false, false, false, false, false, false, false, false, false, false, false]) 7 _ (Gs.val V.s V.l.length) (fun _ _ _ h => h) rfl (by kernel_rfl) rfl (fun _ => rfl) (fun δ w hr => Rd_load F.p 1 (Gs.val V.s V.l.length) rfl (by kernel_rfl) (List.mem_cons_of_mem _ (List.mem_cons_of_mem _ List.mem_cons_self)) hr) ?_
      refine SA_take (li' := #[true, true, true, true, true, true, true, true, true, false, false, false, false, false, false, false, false, false, false, false, false]) 8 _ (.int .i64 n) (fun _ _ _ h => h) rfl (by kernel_rfl) rfl (Or.inl ⟨fun _ => rfl, by intro δ w; kernel_rfl⟩) ?_
      refine SA_take (li' := #[true, true, true, true, true, true, true, true, true, true, false, false, false, false, false, false, false, false, false, false, false]) 9 _ (pt (Gs.blk V.s) (n.toNat * 3)) (fun _ _ _ h => h) rfl (by kernel_rfl) rfl (Or.inl ⟨fun _ => rfl, (fun δ w => run_indexAddr n (n.toNat * 3) (Gs.blk V.s) 0 V.l.length (Gs.cap V.s) .i64 3 Try.underlying120 (by kernel_rfl) (fun _ => gs_slice (Gs.ok.ne (TreeV.ok.row hV) (by first | omega | (simp; omega)))) (fun _ => rfl) (by omega) (by omega) (by omega))⟩) ?_
      refine SA_trim [(39, pt (Gs.blk V.s) (n.toNat * 3)), (33, .agg #[.bool false, .string key, .int .i64 flags]), (31, .int .i64 n), (30, pt F.p 0), (10, pt b3 0), (26, .bool (decide ((keyIx e1.l key) ≥ 0))), (9, .bool false), (8, .int .i64 0), (0, pt F.p 0), (1, .int .i64 n), (2, .string key), (3, .int .i64 flags)] (fun _ => rfl) ?_
      refine SA_take (li' := #[true, true, true, true, true, true, true, true, true, true, true, false, false, false, false, false, false, false, false, false, false]) 10 _ (pt (Gs.blk V.s) (n.toNat * 3 + 1)) (fun _ _ _ h => h) rfl (by kernel_rfl) rfl (Or.inl ⟨fun _ => rfl, by intro δ w; kernel_rfl⟩) ?_
      refine SA_read (li' := #[true, true, true, true, true, true, true, true, true, true, true, true, false, false, false, false, false, false, false, false, false]) 11 _ (Gs.val e1.ls e1.l.length) (fun _ _ _ h => h) rfl (by kernel_rfl) rfl (fun _ => rfl) (fun δ w hr => Rd_load (Gs.blk V.s) (n.toNat * 3 + 1) (Gs.val e1.ls e1.l.length) rfl (by kernel_rfl) (List.mem_cons_of_mem _ (List.mem_cons_of_mem _ (List.mem_cons_of_mem _ List.mem_cons_self))) hr) ?_
      refine SA_read (li' := #[true, true, true, true, true, true, true, true, true, true, true, true, false, true, false, false, false, false, false, false, false]) 13 _ (.agg #[.string key, .int .i64 flags]) (fun _ _ _ h => h) rfl (by kernel_rfl) rfl (fun _ => rfl) (fun δ w hr => Rd_loads b3 0 [.string key, .int .i64 flags] rfl (by kernel_rfl) (rdm_cons List.mem_cons_self (rdm_cons (List.mem_cons_of_mem _ List.mem_cons_self) rdm_nil)) hr) ?_
      refine SA_two true true (li1 := #[true, true, true, true, true, true, true, true, true, true, true, true, true, true, false, false, false, false, false, false, false]) (li2 := #[true, true, true, true, true, true, true, true, true, true, true, true, false, true, true, false, false, false, false, false, false]) 12 14 _ _ rfl rfl rfl (by kernel_rfl) ⟨rfl, fun _ => rfl⟩ ⟨rfl, fun _ => rfl⟩ rfl rfl ?_ ?_
      · skip
        refine SO_perm _ (perm_cc perm_cz) ?_
        refine O_call 80 #[Gs.val e1.ls e1.l.length] rfl (by intro δ w; kernel_rfl) ((shapes_Clone (σ := (TreeV.ent V F)) (TreeV.ok.at hV he1) (TreeV.m2 F he1) hrm).use _) ?_
        rintro _ σ7 ⟨cs3, hσ7, rfl, hcs3⟩
        obtain rfl : σ7 = ((Gs.ent 136 2 cs3 (e1.l.flatMap propCells)) ++ ((TreeV.ent V F) ++ ((b3, .cells 136 2 [.string key, .int .i64 flags]) :: ([])))) := hσ7.trans (by simp only [List.cons_append, List.append_assoc, List.nil_append, List.append_nil])
        refine ⟨fun hnd => (rd_cons (Cell.own (mem_a (mem_a mem_z)) rfl) (rd_cons (Cell.own (mem_a (mem_a mem_z)) rfl) (rd_cons (Cell.own (mem_a (mem_h (TreeV.m0 V F))) rfl) (rd_cons (Gs.cell (TreeV.ok.row hV) (fun e he => (mem_a (mem_h ((TreeV.m1 V F) _ he)))) (flat_cell ShapeL.len he1 (j := 1) (by decide) rfl)) (rd_cons (Cell.own (mem_a (mem_a mem_z)) rfl) (rd_cons (Cell.own (mem_a (mem_a mem_z)) rfl) rd_nil)))))), ?_⟩
        refine SA_one true (li' := #[true, true, true, true, true, true, true, true, true, true, true, true, true, true, true, false, false, false, false, false, false]) 14 _ rfl rfl (by kernel_rfl) ⟨rfl, fun _ => rfl⟩ rfl (O_new (fun b => .slice (some ⟨b, 0, none⟩) 1 1) (.cells #[.string key, .int .i64 flags] 136 (0, 0)) (.cells 136 2 [.string key, .int .i64 flags]) rfl (by intro δ w; kernel_rfl) ⟨rfl, rfl, rfl, rfl⟩ ?_)
        intro b4 hlb4 hnb4
        refine ⟨fun hnd => (rd_cons (Cell.own (mem_c (mem_a (mem_a mem_z))) rfl) (rd_cons (Cell.own (mem_c (mem_a (mem_a mem_z))) rfl) (rd_cons (Cell.own (mem_c (mem_a (mem_h (TreeV.m0 V F)))) rfl) (rd_cons (Gs.cell (TreeV.ok.row hV) (fun e he => (mem_c (mem_a (mem_h ((TreeV.m1 V F) _ he))))) (flat_cell ShapeL.len he1 (j := 1) (by decide) rfl)) (rd_cons (Cell.own (mem_c (mem_a (mem_a mem_z))) rfl) (rd_cons (Cell.own (mem_c (mem_a (mem_a mem_z))) rfl) rd_nil)))))), ?_⟩
        refine SA_perm _ (perm_cc perm_cz) ?_
        refine SA_one true (li' := #[true, true, true, true, true, true, true, true, true, true, true, true, true, true, true, true, false, false, false, false, false]) 15 _ rfl rfl (by kernel_rfl) ⟨rfl, fun _ => rfl⟩ rfl (O_append (size := 2) (bytes := 24) (z := .agg #[.string ByteArray.empty, .int .i64 0]) cs3 e1.l.length 1 (some ⟨b4, 0, none⟩) 1 (e1.l.flatMap propCells) ([.string key, .int .i64 flags]) ((e1.l ++ [(key, flags)]).flatMap propCells) (flat_snoc _ (key, flags) rfl) (fun _ => rfl) (fun _ => rfl) Try.underlying130 (by kernel_rfl) rfl (by decide) hcs3 rfl (.inr ⟨b4, 0, rfl, Cells.own (mem_a mem_z) rfl⟩) rfl (by omega) (by decide) rfl ?_)
        intro s5 hks5 hfs5
        rw [show e1.l.length + 1 = (e1.l ++ [(key, flags)]).length from by simp]
        rw [show e1.l.length + 1 = (e1.l ++ [(key, flags)]).length from by simp] at hks5
        have hls5 : (e1.l ++ [(key, flags)]).length = e1.l.length + 1 := by simp
        refine ⟨fun hnd => (rd_cons (Cell.own (mem_a (mem_c (mem_a mem_z))) rfl) (rd_cons (Cell.own (mem_a (mem_c (mem_a mem_z))) rfl) (rd_cons (Cell.own (mem_a (mem_c (mem_h (TreeV.m0 V F)))) rfl) (rd_cons (Gs.cell (TreeV.ok.row hV) (fun e he => (mem_a (mem_c (mem_h ((TreeV.m1 V F) _ he))))) (flat_cell ShapeL.len he1 (j := 1) (by decide) rfl)) (rd_cons (Cell.own (mem_a (mem_c (mem_a mem_z))) rfl) (rd_cons (Cell.own (mem_a (mem_c (mem_a mem_z))) rfl) rd_nil)))))), ?_⟩
        refine SA_perm _ (perm_ca (perm_cc perm_cz)) ?_
        refine SA_sig (((TreeV.ent V F) ++ ((Gs.ent 136 2 s5 ((e1.l ++ [(key, flags)]).flatMap propCells)) ++ ([]))) ++ ((b4, .cells 136 2 [.string key, .int .i64 flags]) :: ((b3, .cells 136 2 [.string key, .int .i64 flags]) :: ([])))) (by simp only [List.cons_append, List.append_assoc, List.nil_append, List.append_nil]) ?_
        refine SA_one false (li' := #[true, true, true, true, true, true, true, true, true, true, true, true, true, true, true, true, true, false, false, false, false]) 16 _ rfl rfl (by kernel_rfl) ⟨rfl, fun _ => rfl⟩ rfl (O_call 81 #[pt F.p 0, .int .i64 n, .agg #[.bool false, .string key, .int .i64 flags], Gs.val s5 ((e1.l ++ [(key, flags)]).length)] rfl (by intro δ w; kernel_rfl) ((shapes_way hV n hg1 false key flags hks5 (by simp only [List.length_append, List.length_singleton]; omega) (by simp)).use _) ?_)
        rintro _ σ8 ⟨V3, hσ8, hV3, hkV3, rV3, okV3, rfl, hrV3⟩
        obtain rfl : σ8 = ((TreeV.ent V3 F) ++ ((b4, .cells 136 2 [.string key, .int .i64 flags]) :: ((b3, .cells 136 2 [.string key, .int .i64 flags]) :: ([])))) := hσ8.trans (rfl)
        refine ⟨fun hnd => (by cases hnd), ?_⟩
        refine SA_trim [(46, .tuple #[.int .i64 rV3, .bool okV3]), (10, pt b3 0), (26, .bool (decide ((keyIx e1.l key) ≥ 0))), (9, .bool false), (8, .int .i64 0), (0, pt F.p 0), (1, .int .i64 n), (2, .string key), (3, .int .i64 flags)] (fun _ => rfl) ?_
        refine SA_take (li' := #[true, true, true, true, true, true, true, true, true, true, true, true, true, true, true, true, true, true, false, false, false]) 17 _ (.int .i64 rV3) (fun _ _ _ h => h) rfl (by kernel_rfl) rfl (Or.inl ⟨fun _ => rfl, by intro δ w; kernel_rfl⟩) ?_
        refine SA_take (li' := #[true, true, true, true, true, true, true, true, true, true, true, true, true, true, true, true, true, true, true, false, false]) 18 _ (.bool okV3) (fun _ _ _ h => h) rfl (by kernel_rfl) rfl (Or.inl ⟨fun _ => rfl, by intro δ w; kernel_rfl⟩) ?_
        refine SA_take (li' := #[true, true, true, true, true, true, true, true, true, true, true, true, true, true, true, true, true, true, true, true, false]) 19 _ (.int .i64 rV3) (fun _ _ _ h => h) rfl (by kernel_rfl) rfl (Or.inl ⟨fun _ => rfl, by intro δ w; kernel_rfl⟩) ?_
        refine SA_trim [(8, .int .i64 rV3), (48, .bool okV3), (10, pt b3 0), (26, .bool (decide ((keyIx e1.l key) ≥ 0))), (9, .bool false), (0, pt F.p 0), (1, .int .i64 n), (2, .string key), (3, .int .i64 flags)] (fun _ => rfl) ?_
        refine SA_take (li' := #[true, true, true, true, true, true, true, true, true, true, true, true, true, true, true, true, true, true, true, true, true]) 20 _ (.bool okV3) (fun _ _ _ h => h) rfl (by kernel_rfl) rfl (Or.inl ⟨fun _ => rfl, by intro δ w; kernel_rfl⟩) ?_
        refine SA_trim [(9, .bool okV3), (8, .int .i64 rV3), (10, pt b3 0), (26, .bool (decide ((keyIx e1.l key) ≥ 0))), (0, pt F.p 0), (1, .int .i64 n), (2, .string key), (3, .int .i64 flags)] (fun _ => rfl) ?_
        refine SA_done (by kernel_rfl) (n_then ?_)
        refine SW_ret ?_
        refine body_end (.tuple #[.int .i64 rV3, .bool okV3]) (fun _ => rfl) ?_
        exact ⟨V3, (own_mk (J := ((b4, .cells 136 2 [.string key, .int .i64 flags]) :: ((b3, .cells 136 2 [.string key, .int .i64 flags]) :: ([])))) (List.Perm.refl _) (by simp only [List.cons_append, List.append_assoc, List.nil_append, List.append_nil])), hV3, hkV3, rV3, okV3, rfl, by simp only [addP, shapeAt_in F hg1 he1, ShapeL.abs, if_neg hc2]; exact hrV3⟩
      · skip
        refine O_new (fun b => .slice (some ⟨b, 0, none⟩) 1 1) (.cells #[.string key, .int .i64 flags] 136 (0, 0)) (.cells 136 2 [.string key, .int .i64 flags]) rfl (by intro δ w; kernel_rfl) ⟨rfl, rfl, rfl, rfl⟩ ?_
        intro b6 hlb6 hnb6
        refine ⟨fun hnd => (rd_cons (Cell.own (mem_c mem_z) rfl) (rd_cons (Cell.own (mem_c mem_z) rfl) (rd_cons (Cell.own (mem_c (mem_c (mem_h (TreeV.m0 V F)))) rfl) (rd_cons (Gs.cell (TreeV.ok.row hV) (fun e he => (mem_c (mem_c (mem_h ((TreeV.m1 V F) _ he))))) (flat_cell ShapeL.len he1 (j := 1) (by decide) rfl)) (rd_cons (Cell.own (mem_c mem_z) rfl) (rd_cons (Cell.own (mem_c mem_z) rfl) rd_nil)))))), ?_⟩
        refine SA_perm _ (perm_cc (perm_cc perm_cz)) ?_
        refine SA_one true (li' := #[true, true, true, true, true, true, true, true, true, true, true, true, true, true, true, false, false, false, false, false, false]) 12 _ rfl rfl (by kernel_rfl) ⟨rfl, fun _ => rfl⟩ rfl (O_call 80 #[Gs.val e1.ls e1.l.length] rfl (by intro δ w; kernel_rfl) ((shapes_Clone (σ := (TreeV.ent V F)) (TreeV.ok.at hV he1) (TreeV.m2 F he1) hrm).use _) ?_)
        rintro _ σ9 ⟨cs4, hσ9, rfl, hcs4⟩
        obtain rfl : σ9 = ((Gs.ent 136 2 cs4 (e1.l.flatMap propCells)) ++ ((TreeV.ent V F) ++ ((b6, .cells 136 2 [.string key, .int .i64 flags]) :: ((b3, .cells 136 2 [.string key, .int .i64 flags]) :: ([]))))) := hσ9.trans (by simp only [List.cons_append, List.append_assoc, List.nil_append, List.append_nil])
        refine ⟨fun hnd => (rd_cons (Cell.own (mem_a (mem_a (mem_c mem_z))) rfl) (rd_cons (Cell.own (mem_a (mem_a (mem_c mem_z))) rfl) (rd_cons (Cell.own (mem_a (mem_h (TreeV.m0 V F))) rfl) (rd_cons (Gs.cell (TreeV.ok.row hV) (fun e he => (mem_a (mem_h ((TreeV.m1 V F) _ he)))) (flat_cell ShapeL.len he1 (j := 1) (by decide) rfl)) (rd_cons (Cell.own (mem_a (mem_a (mem_c mem_z))) rfl) (rd_cons (Cell.own (mem_a (mem_a (mem_c mem_z))) rfl) rd_nil)))))), ?_⟩
        refine SA_one true (li' := #[true, true, true, true, true, true, true, true, true, true, true, true, true, true, true, true, false, false, false, false, false]) 15 _ rfl rfl (by kernel_rfl) ⟨rfl, fun _ => rfl⟩ rfl (O_append (size := 2) (bytes := 24) (z := .agg #[.string ByteArray.empty, .int .i64 0]) cs4 e1.l.length 1 (some ⟨b6, 0, none⟩) 1 (e1.l.flatMap propCells) ([.string key, .int .i64 flags]) ((e1.l ++ [(key, flags)]).flatMap propCells) (flat_snoc _ (key, flags) rfl) (fun _ => rfl) (fun _ => rfl) Try.underlying130 (by kernel_rfl) rfl (by decide) hcs4 rfl (.inr ⟨b6, 0, rfl, Cells.own (mem_a (mem_a mem_z)) rfl⟩) rfl (by omega) (by decide) rfl ?_)
        intro s7 hks7 hfs7
        rw [show e1.l.length + 1 = (e1.l ++ [(key, flags)]).length from by simp]
        rw [show e1.l.length + 1 = (e1.l ++ [(key, flags)]).length from by simp] at hks7
        have hls7 : (e1.l ++ [(key, flags)]).length = e1.l.length + 1 := by simp
        refine ⟨fun hnd => (rd_cons (Cell.own (mem_a (mem_a (mem_c mem_z))) rfl) (rd_cons (Cell.own (mem_a (mem_a (mem_c mem_z))) rfl) (rd_cons (Cell.own (mem_a (mem_h (TreeV.m0 V F))) rfl) (rd_cons (Gs.cell (TreeV.ok.row hV) (fun e he => (mem_a (mem_h ((TreeV.m1 V F) _ he)))) (flat_cell ShapeL.len he1 (j := 1) (by decide) rfl)) (rd_cons (Cell.own (mem_a (mem_a (mem_c mem_z))) rfl) (rd_cons (Cell.own (mem_a (mem_a (mem_c mem_z))) rfl) rd_nil)))))), ?_⟩
        refine SA_perm _ (perm_ca perm_cz) ?_
        refine SA_sig (((TreeV.ent V F) ++ ((Gs.ent 136 2 s7 ((e1.l ++ [(key, flags)]).flatMap propCells)) ++ ([]))) ++ ((b6, .cells 136 2 [.string key, .int .i64 flags]) :: ((b3, .cells 136 2 [.string key, .int .i64 flags]) :: ([])))) (by simp only [List.cons_append, List.append_assoc, List.nil_append, List.append_nil]) ?_
        refine SA_one false (li' := #[true, true, true, true, true, true, true, true, true, true, true, true, true, true, true, true, true, false, false, false, false]) 16 _ rfl rfl (by kernel_rfl) ⟨rfl, fun _ => rfl⟩ rfl (O_call 81 #[pt F.p 0, .int .i64 n, .agg #[.bool false, .string key, .int .i64 flags], Gs.val s7 ((e1.l ++ [(key, flags)]).length)] rfl (by intro δ w; kernel_rfl) ((shapes_way hV n hg1 false key flags hks7 (by simp only [List.length_append, List.length_singleton]; omega) (by simp)).use _) ?_)
        rintro _ σ10 ⟨V4, hσ10, hV4, hkV4, rV4, okV4, rfl, hrV4⟩
        obtain rfl : σ10 = ((TreeV.ent V4 F) ++ ((b6, .cells 136 2 [.string key, .int .i64 flags]) :: ((b3, .cells 136 2 [.string key, .int .i64 flags]) :: ([])))) := hσ10.trans (rfl)
        refine ⟨fun hnd => (by cases hnd), ?_⟩
        refine SA_trim [(46, .tuple #[.int .i64 rV4, .bool okV4]), (10, pt b3 0), (26, .bool (decide ((keyIx e1.l key) ≥ 0))), (9, .bool false), (8, .int .i64 0), (0, pt F.p 0), (1, .int .i64 n), (2, .string key), (3, .int .i64 flags)] (fun _ => rfl) ?_
        refine SA_take (li' := #[true, true, true, true, true, true, true, true, true, true, true, true, true, true, true, true, true, true, false, false, false]) 17 _ (.int .i64 rV4) (fun _ _ _ h => h) rfl (by kernel_rfl) rfl (Or.inl ⟨fun _ => rfl, by intro δ w; kernel_rfl⟩) ?_
        refine SA_take (li' := #[true, true, true, true, true, true, true, true, true, true, true, true, true, true, true, true, true, true, true, false, false]) 18 _ (.bool okV4) (fun _ _ _ h => h) rfl (by kernel_rfl) rfl (Or.inl ⟨fun _ => rfl, by intro δ w; kernel_rfl⟩) ?_
        refine SA_take (li' := #[true, true, true, true, true, true, true, true, true, true, true, true, true, true, true, true, true, true, true, true, false]) 19 _ (.int .i64 rV4) (fun _ _ _ h => h) rfl (by kernel_rfl) rfl (Or.inl ⟨fun _ => rfl, by intro δ w; kernel_rfl⟩) ?_
        refine SA_trim [(8, .int .i64 rV4), (48, .bool okV4), (10, pt b3 0), (26, .bool (decide ((keyIx e1.l key) ≥ 0))), (9, .bool false), (0, pt F.p 0), (1, .int .i64 n), (2, .string key), (3, .int .i64 flags)] (fun _ => rfl) ?_
        refine SA_take (li' := #[true, true, true, true, true, true, true, true, true, true, true, true, true, true, true, true, true, true, true, true, true]) 20 _ (.bool okV4) (fun _ _ _ h => h) rfl (by kernel_rfl) rfl (Or.inl ⟨fun _ => rfl, by intro δ w; kernel_rfl⟩) ?_
        refine SA_trim [(9, .bool okV4), (8, .int .i64 rV4), (10, pt b3 0), (26, .bool (decide ((keyIx e1.l key) ≥ 0))), (0, pt F.p 0), (1, .int .i64 n), (2, .string key), (3, .int .i64 flags)] (fun _ => rfl) ?_
        refine SA_done (by kernel_rfl) (n_then ?_)
        refine SW_ret ?_
        refine body_end (.tuple #[.int .i64 rV4, .bool okV4]) (fun _ => rfl) ?_
        exact ⟨V4, (own_mk (J := ((b6, .cells 136 2 [.string key, .int .i64 flags]) :: ((b3, .cells 136 2 [.string key, .int .i64 flags]) :: ([])))) (List.Perm.refl _) (by simp only [List.cons_append, List.append_assoc, List.nil_append, List.append_nil])), hV4, hkV4, rV4, okV4, rfl, by simp only [addP, shapeAt_in F hg1 he1, ShapeL.abs, if_neg hc2]; exact hrV4⟩

theorem shapes_Change {W0 : World} {F : TreeF} {V : TreeV} (hV : V.ok F) (n : Int) (key : ByteArray) (flags : Int) : SC Try.prog W0 46 #[.pointer (some ⟨F.p, 0, none⟩), .int .i64 n, .string key, .int .i64 flags] (TreeV.ent V F) (Ret (fun V' : TreeV => V'.ent F) (fun v V' => V'.ok F ∧ Keep V V' ∧ ∃ m' ok', v = two (m', ok') ∧ changeP (V.abs F) n key flags = (V'.abs F, m', ok'))) := by
  refine SC_body (fn := Try.f46) (n := 67) Try.func46 rfl (by kernel_rfl) (ρ := [(0, pt F.p 0), (1, .int .i64 n), (2, .string key), (3, .int .i64 flags)]) rfl ?_
  refine SW_sig ((TreeV.ent V F) ++ ([])) (by simp only [List.append_nil, List.append_assoc]) ?_
  refine SW_seq ?_
  refine SW_region ?_
  refine SL_s2 2 9 (.bool false) 8 (.int .i64 0) (by intro δ w; kernel_rfl) ?_
  refine SL_nil (n_then ?_)
  refine SW_seq ?_
  refine SW_seq ?_
  refine SW_region ?_
  refine SL_s2 2 13 (.int .i64 n) 12 (pt F.p 0) (by intro δ w; kernel_rfl) ?_
  refine SL_cons ⟨rfl, fun _ => rfl⟩ (O_call 78 #[pt F.p 0, .int .i64 n] rfl (by intro δ w; kernel_rfl) ((shapes_there hV n).use _) ?_)
  rintro _ σ1 ⟨_, hσ1, rfl⟩
  obtain rfl : σ1 = ((TreeV.ent V F) ++ ([])) := hσ1.trans (rfl)
  refine SL_s1 1 15 (.bool (!(decide (0 ≤ n ∧ n < V.l.length)))) (by intro δ w; kernel_rfl) ?_
  refine SL_nil (n_then ?_)
  refine SW_cond (!(decide (0 ≤ n ∧ n < V.l.length))) (fun _ => rfl) (fun hc1 => ?_) (fun hc1 => ?_)
  · skip
    replace hc1 := bnot_t hc1
    replace hc1 := of_decide_eq_false hc1
    refine SW_seq ?_
    refine SW_region ?_
    refine SL_segT 2 [(9, .bool false), (8, .int .i64 0), (15, .bool (!(decide (0 ≤ n ∧ n < V.l.length)))), (0, pt F.p 0), (1, .int .i64 n), (2, .string key), (3, .int .i64 flags)] (by intro δ w; kernel_rfl) ?_
    refine SL_nil (n_then ?_)
    refine SW_ret (r_then ?_)
    refine body_end (.tuple #[.int .i64 0, .bool false]) (fun _ => rfl) ?_
    exact ⟨V, (own_mk (J := ([])) (List.Perm.refl _) (by simp only [List.cons_append, List.append_assoc, List.nil_append, List.append_nil])), hV, Keep.refl V, 0, false, rfl, by simp only [changeP, shapeAt_out F hc1]⟩
  · skip
    replace hc1 := bnot_f hc1
    replace hc1 := of_decide_eq_true hc1
    refine SW_skip (n_then ?_)
    refine SW_seq ?_
    refine SW_region ?_
    refine SL_s3 3 18 (pt F.p 1) 17 (pt F.p 0) 16 (pt F.p 0) (by intro δ w; kernel_rfl) ?_
    refine SL_cons ⟨rfl, fun _ => rfl⟩ (O_load F.p 1 (Gs.val V.s V.l.length) (fun _ => rfl) (by kernel_rfl) (Cell.own (mem_h (TreeV.m0 V F)) rfl) rfl ?_)
    refine SL_s1 1 20 (.int .i64 n) (by intro δ w; kernel_rfl) ?_
    refine SL_cons ⟨rfl, fun _ => rfl⟩ (O_indexAddr' n (n.toNat * 3) (Gs.blk V.s) 0 V.l.length (Gs.cap V.s) .i64 3 Try.underlying120 (by kernel_rfl) (fun _ => gs_slice (Gs.ok.ne (TreeV.ok.row hV) (by first | omega | (simp; omega)))) (fun _ => rfl) (by omega) (by omega) (by omega) rfl ?_)
    obtain ⟨e1, he1⟩ : ∃ y_, V.l[n.toNat]? = some y_ := ⟨_, List.getElem?_eq_getElem (by omega)⟩
    refine SL_cons ⟨rfl, fun _ => rfl⟩ (O_loads (Gs.blk V.s) (n.toNat * 3) [.int .u64 e1.proto, Gs.val e1.ls e1.l.length, .map (some e1.nb)] (fun _ => rfl) (by kernel_rfl) (cells_cons (Gs.cell (TreeV.ok.row hV) (fun e he => (mem_h ((TreeV.m1 V F) _ he))) (flat_cell ShapeL.len he1 (j := 0) (by decide) rfl)) (cells_cons (Gs.cell (TreeV.ok.row hV) (fun e he => (mem_h ((TreeV.m1 V F) _ he))) (flat_cell ShapeL.len he1 (j := 1) (by decide) rfl)) (cells_cons (Gs.cell (TreeV.ok.row hV) (fun e he => (mem_h ((TreeV.m1 V F) _ he))) (flat_cell ShapeL.len he1 (j := 2) (by decide) rfl)) cells_nil))) rfl ?_)
    refine SL_s1 1 23 (.string key) (by intro δ w; kernel_rfl) ?_
    refine SL_cons ⟨rfl, fun _ => rfl⟩ (O_call 79 #[.agg #[.int .u64 e1.proto, Gs.val e1.ls e1.l.length, .map (some e1.nb)], .string key] rfl (by intro δ w; kernel_rfl) ((shapes_place (σ := (TreeV.ent V F)) (TreeV.ok.at hV he1) (TreeV.m2 F he1) e1.proto e1.nb key).use _) ?_)
    rintro _ σ2 ⟨_, hσ2, rfl⟩
    obtain rfl : σ2 = ((TreeV.ent V F) ++ ([])) := hσ2.trans (rfl)
    refine SL_s1 1 10 (.int .i64 (keyIx e1.l key)) (by intro δ w; kernel_rfl) ?_
    refine SL_nil (n_then ?_)
    refine SW_seq ?_
    refine SW_seq ?_
    refine SW_region ?_
    refine SL_segT 2 [(26, .bool (decide ((keyIx e1.l key) < 0))), (10, .int .i64 (keyIx e1.l key)), (15, .bool (!(decide (0 ≤ n ∧ n < V.l.length)))), (9, .bool false), (8, .int .i64 0), (0, pt F.p 0), (1, .int .i64 n), (2, .string key), (3, .int .i64 flags)] (by intro δ w; kernel_rfl) ?_
    refine SL_nil (n_then ?_)
    refine SW_cond (decide ((keyIx e1.l key) < 0)) (fun _ => rfl) (fun hc2 => ?_) (fun hc2 => ?_)
    · skip
      replace hc2 := of_decide_eq_true hc2
      refine SW_seq ?_
      refine SW_region ?_
      refine SL_segT 2 [(9, .bool false), (8, .int .i64 0), (26, .bool (decide ((keyIx e1.l key) < 0))), (10, .int .i64 (keyIx e1.l key)), (15, .bool (!(decide (0 ≤ n ∧ n < V.l.length)))), (0, pt F.p 0), (1, .int .i64 n), (2, .string key), (3, .int .i64 flags)] (by intro δ w; kernel_rfl) ?_
      refine SL_nil (n_then ?_)
      refine SW_ret (r_then ?_)
      refine body_end (.tuple #[.int .i64 0, .bool false]) (fun _ => rfl) ?_
      exact ⟨V, (own_mk (J := ([])) (List.Perm.refl _) (by simp only [List.cons_append, List.append_assoc, List.nil_append, List.append_nil])), hV, Keep.refl V, 0, false, rfl, by simp only [changeP, shapeAt_in F hc1 he1, ShapeL.abs, if_pos hc2]⟩
    · skip
      replace hc2 := of_decide_eq_false hc2
      have hix : keyIx e1.l key < e1.l.length := keyIx_lt (by omega)
      refine SW_skip (n_then ?_)
      refine SW_seq ?_
      refine SW_seq ?_
      refine SW_region ?_
      refine SL_s3 3 29 (pt F.p 1) 28 (pt F.p 0) 27 (pt F.p 0) (by intro δ w; kernel_rfl) ?_
      refine SL_cons ⟨rfl, fun _ => rfl⟩ (O_load F.p 1 (Gs.val V.s V.l.length) (fun _ => rfl) (by kernel_rfl) (Cell.own (mem_h (TreeV.m0 V F)) rfl) rfl ?_)
      refine SL_s1 1 31 (.int .i64 n) (by intro δ w; kernel_rfl) ?_
      refine SL_cons ⟨rfl, fun _ => rfl⟩ (O_indexAddr' n (n.toNat * 3) (Gs.blk V.s) 0 V.l.length (Gs.cap V.s) .i64 3 Try.underlying120 (by kernel_rfl) (fun _ => gs_slice (Gs.ok.ne (TreeV.ok.row hV) (by first | omega | (simp; omega)))) (fun _ => rfl) (by omega) (by omega) (by omega) rfl ?_)
      refine SL_s1 1 33 (pt (Gs.blk V.s) (n.toNat * 3 + 1)) (by intro δ w; kernel_rfl) ?_
      refine SL_cons ⟨rfl, fun _ => rfl⟩ (O_load (Gs.blk V.s) (n.toNat * 3 + 1) (Gs.val e1.ls e1.l.length) (fun _ => rfl) (by kernel_rfl) (Gs.cell (TreeV.ok.row hV) (fun e he => (mem_h ((TreeV.m1 V F) _ he))) (flat_cell ShapeL.len he1 (j := 1) (by decide) rfl)) rfl ?_)
      refine SL_s1 1 35 (.int .i64 (keyIx e1.l key)) (by intro δ w; kernel_rfl) ?_
      refine SL_cons ⟨rfl, fun _ => rfl⟩ (O_indexAddr' (keyIx e1.l key) (((keyIx e1.l key).toNat) * 2) (Gs.blk e1.ls) 0 e1.l.length (Gs.cap e1.ls) .i64 2 Try.underlying130 (by kernel_rfl) (fun _ => gs_slice (Gs.ok.ne (TreeV.ok.at hV he1) (by first | omega | (simp; omega)))) (fun _ => rfl) (by omega) (by omega) (by omega) rfl ?_)
      refine SL_s1 1 37 (pt (Gs.blk e1.ls) (((keyIx e1.l key).toNat) * 2 + 1)) (by intro δ w; kernel_rfl) ?_
      obtain ⟨e2, he2⟩ : ∃ y_, e1.l[((keyIx e1.l key).toNat)]? = some y_ := ⟨_, List.getElem?_eq_getElem (by omega)⟩
      refine SL_cons ⟨rfl, fun _ => rfl⟩ (O_load (Gs.blk e1.ls) (((keyIx e1.l key).toNat) * 2 + 1) (.int .i64 e2.2) (fun _ => rfl) (by kernel_rfl) (Gs.cell (TreeV.ok.at hV he1) (fun e he => (mem_h ((TreeV.m2 F he1) _ he))) (flat_cell propCells_len he2 (j := 1) (by decide) rfl)) rfl ?_)
      refine SL_segT 2 [(40, .bool (e2.2 == flags)), (26, .bool (decide ((keyIx e1.l key) < 0))), (10, .int .i64 (keyIx e1.l key)), (15, .bool (!(decide (0 ≤ n ∧ n < V.l.length)))), (9, .bool false), (8, .int .i64 0), (0, pt F.p 0), (1, .int .i64 n), (2, .string key), (3, .int .i64 flags)] (by intro δ w; kernel_rfl) ?_
      refine SL_nil (n_then ?_)
      refine SW_cond (e2.2 == flags) (fun _ => rfl) (fun hc3 => ?_) (fun hc3 => ?_)
      · skip
        refine SW_seq ?_
        refine SW_region ?_
        refine SL_segT 3 [(9, .bool true), (8, .int .i64 n), (40, .bool (e2.2 == flags)), (26, .bool (decide ((keyIx e1.l key) < 0))), (10, .int .i64 (keyIx e1.l key)), (15, .bool (!(decide (0 ≤ n ∧ n < V.l.length)))), (0, pt F.p 0), (1, .int .i64 n), (2, .string key), (3, .int .i64 flags)] (by intro δ w; kernel_rfl) ?_
        refine SL_nil (n_then ?_)
        refine SW_ret (r_then ?_)
        refine body_end (.tuple #[.int .i64 n, .bool true]) (fun _ => rfl) ?_
        exact ⟨V, (own_mk (J := ([])) (List.Perm.refl _) (by simp only [List.cons_append, List.append_assoc, List.nil_append, List.append_nil])), hV, Keep.refl V, n, true, rfl, by simp only [changeP, shapeAt_in F hc1 he1, ShapeL.abs, if_neg hc2, he2, if_pos hc3]⟩
      · skip
        refine SW_skip (n_then ?_)
        refine SW_seq ?_
        have hrm0 := hV.room _ _ he1
        have hmany := hV.many
        have hrm : e1.l.length ≤ 1099511627776 := by omega
        refine SW_region ?_
        refine SL_s3 3 44 (pt F.p 1) 43 (pt F.p 0) 42 (pt F.p 0) (by intro δ w; kernel_rfl) ?_
        refine SL_cons ⟨rfl, fun _ => rfl⟩ (O_load F.p 1 (Gs.val V.s V.l.length) (fun _ => rfl) (by kernel_rfl) (Cell.own (mem_h (TreeV.m0 V F)) rfl) rfl ?_)
        refine SL_s1 1 46 (.int .i64 n) (by intro δ w; kernel_rfl) ?_
        refine SL_cons ⟨rfl, fun _ => rfl⟩ (O_indexAddr' n (n.toNat * 3) (Gs.blk V.s) 0 V.l.length (Gs.cap V.s) .i64 3 Try.underlying120 (by kernel_rfl) (fun _ => gs_slice (Gs.ok.ne (TreeV.ok.row hV) (by first | omega | (simp; omega)))) (fun _ => rfl) (by omega) (by omega) (by omega) rfl ?_)
        refine SL_s1 1 48 (pt (Gs.blk V.s) (n.toNat * 3 + 1)) (by intro δ w; kernel_rfl) ?_
        refine SL_cons ⟨rfl, fun _ => rfl⟩ (O_load (Gs.blk V.s) (n.toNat * 3 + 1) (Gs.val e1.ls e1.l.length) (fun _ => rfl) (by kernel_rfl) (Gs.cell (TreeV.ok.row hV) (fun e he => (mem_h ((TreeV.m1 V F) _ he))) (flat_cell ShapeL.len he1 (j := 1) (by decide) rfl)) rfl ?_)
        refine SL_cons ⟨rfl, fun _ => rfl⟩ (O_call 80 #[Gs.val e1.ls e1.l.length] rfl (by intro δ w; kernel_rfl) ((shapes_Clone (σ := (TreeV.ent V F)) (TreeV.ok.at hV he1) (TreeV.m2 F he1) hrm).use _) ?_)
        rintro _ σ3 ⟨cs1, hσ3, rfl, hcs1⟩
        obtain rfl : σ3 = ((Gs.ent 136 2 cs1 (e1.l.flatMap propCells)) ++ ((TreeV.ent V F) ++ ([]))) := hσ3.trans (by simp only [List.cons_append, List.append_assoc, List.nil_append, List.append_nil])
        refine SL_s1 1 11 (Gs.val cs1 e1.l.length) (by intro δ w; kernel_rfl) ?_
        refine SL_nil (n_then ?_)
        refine SW_seq ?_
        refine SW_region ?_
        refine SL_s3 3 53 (.int .i64 flags) 52 (.int .i64 (keyIx e1.l key)) 51 (Gs.val cs1 e1.l.length) (by intro δ w; kernel_rfl) ?_
        refine SL_cons ⟨rfl, fun _ => rfl⟩ (O_indexAddr' (keyIx e1.l key) (((keyIx e1.l key).toNat) * 2) (Gs.blk cs1) 0 e1.l.length (Gs.cap cs1) .i64 2 Try.underlying130 (by kernel_rfl) (fun _ => gs_slice (Gs.ok.ne hcs1 (by first | omega | (simp; omega)))) (fun _ => rfl) (by omega) (by omega) (by omega) rfl ?_)
        refine SL_s1 1 55 (pt (Gs.blk cs1) (((keyIx e1.l key).toNat) * 2 + 1)) (by intro δ w; kernel_rfl) ?_
        have hok1 := Gs.ok.relen (ys := ((e1.l.set ((keyIx e1.l key).toNat) (e2.1, flags)).flatMap propCells)) hcs1 (by simp [flat_len propCells_len])
        refine SL_cons ⟨rfl, fun _ => rfl⟩ (O_storeG (ys := ((e1.l.set ((keyIx e1.l key).toNat) (e2.1, flags)).flatMap propCells)) cs1 (((keyIx e1.l key).toNat) * 2 + 1) (.int .i64 flags) [.int .i64 flags] (Gs.ok.ne hcs1 (by first | omega | (simp; omega))) (fun _ => rfl) (fun _ => rfl) rfl (by kernel_rfl) rfl (by rw [flat_len propCells_len]; simp; omega) (row_lay (j := 1) propCells_len (e2.1, flags) he2 (Nat.le_of_ble_eq_true rfl) rfl) rfl ?_)
        refine SL_nil (n_then ?_)
        refine SW_seq ?_
        refine SW_region ?_
        refine SL_segT 4 [(59, .int .i64 (keyIx e1.l key)), (58, Gs.val cs1 e1.l.length), (57, .int .i64 n), (56, pt F.p 0), (11, Gs.val cs1 e1.l.length), (40, .bool (e2.2 == flags)), (26, .bool (decide ((keyIx e1.l key) < 0))), (10, .int .i64 (keyIx e1.l key)), (15, .bool (!(decide (0 ≤ n ∧ n < V.l.length)))), (9, .bool false), (8, .int .i64 0), (0, pt F.p 0), (1, .int .i64 n), (2, .string key), (3, .int .i64 flags)] (by intro δ w; kernel_rfl) ?_
        refine SL_cons ⟨rfl, fun _ => rfl⟩ (O_indexAddr' (keyIx e1.l key) (((keyIx e1.l key).toNat) * 2) (Gs.blk cs1) 0 e1.l.length (Gs.cap cs1) .i64 2 Try.underlying130 (by kernel_rfl) (fun _ => gs_slice (Gs.ok.ne hok1 (by first | omega | (simp; omega)))) (fun _ => rfl) (by omega) (by omega) (by omega) rfl ?_)
        refine SL_cons ⟨rfl, fun _ => rfl⟩ (O_loads (Gs.blk cs1) (((keyIx e1.l key).toNat) * 2) [.string e2.1, .int .i64 flags] (fun _ => rfl) (by kernel_rfl) (cells_cons (Gs.cell hok1 (fun e he => (mem_h he)) (flat_cell propCells_len (get_set he2) (j := 0) (by decide) rfl)) (cells_cons (Gs.cell hok1 (fun e he => (mem_h he)) (flat_cell propCells_len (get_set he2) (j := 1) (by decide) rfl)) cells_nil)) rfl ?_)
        refine SL_s2 2 63 (Gs.val cs1 e1.l.length) 62 (.agg #[.bool true, .string e2.1, .int .i64 flags]) (by intro δ w; kernel_rfl) ?_
        refine SL_perm _ (perm_ca perm_cz) ?_
        refine SL_sig (((TreeV.ent V F) ++ ((Gs.ent 136 2 cs1 ((e1.l.set ((keyIx e1.l key).toNat) (e2.1, flags)).flatMap propCells)) ++ ([]))) ++ ([])) (by simp only [List.cons_append, List.append_assoc, List.nil_append, List.append_nil]) ?_
        refine SL_cons ⟨rfl, fun _ => rfl⟩ (O_call 81 #[pt F.p 0, .int .i64 n, .agg #[.bool true, .string e2.1, .int .i64 flags], Gs.val cs1 e1.l.length] rfl (by intro δ w; kernel_rfl) ((shapes_way hV n hc1 true e2.1 flags (by simpa using hok1) (by simp; omega) (by simp)).use _) ?_)
        rintro _ σ4 ⟨V1, hσ4, hV1, hkV1, rV1, okV1, rfl, hrV1⟩
        obtain rfl : σ4 = ((TreeV.ent V1 F) ++ ([])) := hσ4.trans (rfl)
        refine SL_segT 4 [(9, .bool okV1), (8, .int .i64 rV1), (11, Gs.val cs1 e1.l.length), (40, .bool (e2.2 == flags)), (26, .bool (decide ((keyIx e1.l key) < 0))), (10, .int .i64 (keyIx e1.l key)), (15, .bool (!(decide (0 ≤ n ∧ n < V.l.length)))), (0, pt F.p 0), (1, .int .i64 n), (2, .string key), (3, .int .i64 flags)] (by intro δ w; kernel_rfl) ?_
        refine SL_nil (n_then ?_)
        refine SW_ret ?_
        refine body_end (.tuple #[.int .i64 rV1, .bool okV1]) (fun _ => rfl) ?_
        exact ⟨V1, (own_mk (J := ([])) (List.Perm.refl _) (by simp only [List.cons_append, List.append_assoc, List.nil_append, List.append_nil])), hV1, hkV1, rV1, okV1, rfl, by simp only [changeP, shapeAt_in F hc1 he1, ShapeL.abs, if_neg hc2, he2, hc3, Bool.false_eq_true, if_false]; exact hrV1⟩

theorem shapes_Move {W0 : World} {F : TreeF} {V : TreeV} (hV : V.ok F) (n : Int) (pr : Int) : SC Try.prog W0 84 #[.pointer (some ⟨F.p, 0, none⟩), .int .i64 n, .int .u64 pr] (TreeV.ent V F) (Ret (fun V' : TreeV => V'.ent F) (fun v V' => V'.ok F ∧ Keep V V' ∧ ∃ m' ok', v = two (m', ok') ∧ moveP (V.abs F) n pr = (V'.abs F, m', ok'))) := by
  refine SC_body (fn := Try.f84) (n := 52) Try.func84 rfl (by kernel_rfl) (ρ := [(0, pt F.p 0), (1, .int .i64 n), (2, .int .u64 pr)]) rfl ?_
  refine SW_sig ((TreeV.ent V F) ++ ([])) (by simp only [List.append_nil, List.append_assoc]) ?_
  refine SW_seq ?_
  refine SW_region ?_
  refine SL_s2 2 7 (.bool false) 6 (.int .i64 0) (by intro δ w; kernel_rfl) ?_
  refine SL_nil (n_then ?_)
  refine SW_seq ?_
  refine SW_seq ?_
  refine SW_region ?_
  refine SL_s2 2 14 (.int .i64 n) 13 (pt F.p 0) (by intro δ w; kernel_rfl) ?_
  refine SL_cons ⟨rfl, fun _ => rfl⟩ (O_call 78 #[pt F.p 0, .int .i64 n] rfl (by intro δ w; kernel_rfl) ((shapes_there hV n).use _) ?_)
  rintro _ σ1 ⟨_, hσ1, rfl⟩
  obtain rfl : σ1 = ((TreeV.ent V F) ++ ([])) := hσ1.trans (rfl)
  refine SL_s1 1 16 (.bool (!(decide (0 ≤ n ∧ n < V.l.length)))) (by intro δ w; kernel_rfl) ?_
  refine SL_nil (n_then ?_)
  refine SW_cond (!(decide (0 ≤ n ∧ n < V.l.length))) (fun _ => rfl) (fun hc1 => ?_) (fun hc1 => ?_)
  · skip
    replace hc1 := bnot_t hc1
    replace hc1 := of_decide_eq_false hc1
    refine SW_seq ?_
    refine SW_region ?_
    refine SL_segT 2 [(7, .bool false), (6, .int .i64 0), (16, .bool (!(decide (0 ≤ n ∧ n < V.l.length)))), (0, pt F.p 0), (1, .int .i64 n), (2, .int .u64 pr)] (by intro δ w; kernel_rfl) ?_
    refine SL_nil (n_then ?_)
    refine SW_ret (r_then ?_)
    refine body_end (.tuple #[.int .i64 0, .bool false]) (fun _ => rfl) ?_
    exact ⟨V, (own_mk (J := ([])) (List.Perm.refl _) (by simp only [List.cons_append, List.append_assoc, List.nil_append, List.append_nil])), hV, Keep.refl V, 0, false, rfl, by simp only [moveP, shapeAt_out F hc1]⟩
  · skip
    replace hc1 := bnot_f hc1
    replace hc1 := of_decide_eq_true hc1
    refine SW_skip (n_then ?_)
    refine SW_seq ?_
    refine SW_region ?_
    refine SL_s3 3 19 (pt F.p 1) 18 (pt F.p 0) 17 (pt F.p 0) (by intro δ w; kernel_rfl) ?_
    refine SL_cons ⟨rfl, fun _ => rfl⟩ (O_load F.p 1 (Gs.val V.s V.l.length) (fun _ => rfl) (by kernel_rfl) (Cell.own (mem_h (TreeV.m0 V F)) rfl) rfl ?_)
    refine SL_s1 1 21 (.int .i64 n) (by intro δ w; kernel_rfl) ?_
    refine SL_cons ⟨rfl, fun _ => rfl⟩ (O_indexAddr' n (n.toNat * 3) (Gs.blk V.s) 0 V.l.length (Gs.cap V.s) .i64 3 Try.underlying120 (by kernel_rfl) (fun _ => gs_slice (Gs.ok.ne (TreeV.ok.row hV) (by first | omega | (simp; omega)))) (fun _ => rfl) (by omega) (by omega) (by omega) rfl ?_)
    refine SL_s1 1 23 (pt (Gs.blk V.s) (n.toNat * 3 + 1)) (by intro δ w; kernel_rfl) ?_
    obtain ⟨e1, he1⟩ : ∃ y_, V.l[n.toNat]? = some y_ := ⟨_, List.getElem?_eq_getElem (by omega)⟩
    refine SL_cons ⟨rfl, fun _ => rfl⟩ (O_load (Gs.blk V.s) (n.toNat * 3 + 1) (Gs.val e1.ls e1.l.length) (fun _ => rfl) (by kernel_rfl) (Gs.cell (TreeV.ok.row hV) (fun e he => (mem_h ((TreeV.m1 V F) _ he))) (flat_cell ShapeL.len he1 (j := 1) (by decide) rfl)) rfl ?_)
    refine SL_s1 1 8 (Gs.val e1.ls e1.l.length) (by intro δ w; kernel_rfl) ?_
    refine SL_nil (n_then ?_)
    refine SW_seq ?_
    refine SW_region ?_
    refine SL_s2 2 27 (.int .u64 pr) 26 (pt F.p 0) (by intro δ w; kernel_rfl) ?_
    refine SL_cons ⟨rfl, fun _ => rfl⟩ (O_call 73 #[pt F.p 0, .int .u64 pr] rfl (by intro δ w; kernel_rfl) ((shapes_Root hV pr).use _) ?_)
    rintro _ σ2 ⟨V1, hσ2, hV1, hkV1, rV1, okV1, rfl, hrV1⟩
    obtain rfl : σ2 = ((TreeV.ent V1 F) ++ ([])) := hσ2.trans (rfl)
    refine SL_segT 5 [(10, .bool okV1), (9, .int .i64 rV1), (8, Gs.val e1.ls e1.l.length), (16, .bool (!(decide (0 ≤ n ∧ n < V.l.length)))), (7, .bool false), (6, .int .i64 0), (0, pt F.p 0), (1, .int .i64 n), (2, .int .u64 pr)] (by intro δ w; kernel_rfl) ?_
    refine SL_nil (n_then ?_)
    refine SW_seq ?_
    refine SW_seq ?_
    refine SW_region ?_
    refine SL_s3 3 33 (.int .i64 0) 32 (.int .i64 (e1.l.length : Int)) 31 (Gs.val e1.ls e1.l.length) (by intro δ w; kernel_rfl) ?_
    refine SL_nil (n_then ?_)
    refine SW_block ?_
    have hroom := hV.room _ _ he1
    have hmany := hV.many
    refine SW_loop (α := Nat × TreeV × Int × Bool) (fun z_ ρ_ σ_ => Fits ρ_ σ_ [(33, .int .i64 (z_.1 : Int)), (32, .int .i64 (e1.l.length : Int)), (31, Gs.val e1.ls e1.l.length), (0, pt F.p 0), (9, .int .i64 z_.2.2.1), (10, .bool z_.2.2.2)] ((TreeV.ent z_.2.1 F) ++ ([])) ∧ z_.1 ≤ e1.l.length ∧ TreeV.ok z_.2.1 F ∧ Keep V z_.2.1 ∧ moveGo (TreeV.abs z_.2.1 F) z_.2.2.1 z_.2.2.2 (e1.l.drop z_.1) = moveP (V.abs F) n pr) (fun z_ => e1.l.length - z_.1) (0, V1, rV1, okV1) ⟨⟨fun _ => rfl, (own_mk (J := ([])) (List.Perm.refl _) (by simp only [List.cons_append, List.append_assoc, List.nil_append, List.append_nil]))⟩, Nat.zero_le _, hV1, hkV1, by simp only [moveP, shapeAt_in F hc1 he1, ShapeL.abs, hrV1, List.drop_zero]⟩ ?_
    rintro ⟨i, X, m, ok⟩ ρ_ σ_ ⟨hfit, hi0, hi1, hi2, hi3⟩
    refine SW_fits hfit ?_
    clear hfit
    simp only [] at hi0 hi1 hi2 hi3 ⊢
    have hX := hi1
    obtain ⟨s9, hs9, hls9, hl9⟩ := hi2 n.toNat e1 he1
    have hm9 : ∀ e ∈ e1.ls.ent 136 2 (e1.l.flatMap propCells), e ∈ X.ent F := by rw [← hls9, ← hl9]; exact TreeV.m2 F hs9
    refine SW_seq ?_
    refine SW_region ?_
    refine SL_s1 1 34 (.bool (decide ((i : Int) < (e1.l.length : Int)))) (by intro δ w; kernel_rfl) ?_
    refine SL_nil (n_then ?_)
    refine SW_seq ?_
    refine SW_cond (decide ((i : Int) < (e1.l.length : Int))) (fun _ => rfl) (fun hc2 => ?_) (fun hc2 => ?_)
    · skip
      replace hc2 := of_decide_eq_true hc2
      refine SW_skip (n_then ?_)
      refine SW_seq ?_
      refine SW_block ?_
      refine SW_seq ?_
      refine SW_region ?_
      refine SL_cons ⟨rfl, fun _ => rfl⟩ (O_indexAddr' (i : Int) (i * 2) (Gs.blk e1.ls) 0 e1.l.length (Gs.cap e1.ls) .i64 2 Try.underlying130 (by kernel_rfl) (fun _ => gs_slice (Gs.ok.ne (TreeV.ok.at hV he1) (by first | omega | (simp; omega)))) (fun _ => rfl) (by omega) (by omega) (by omega) rfl ?_)
      obtain ⟨e2, he2⟩ : ∃ y_, e1.l[i]? = some y_ := ⟨_, List.getElem?_eq_getElem (by omega)⟩
      refine SL_cons ⟨rfl, fun _ => rfl⟩ (O_loads (Gs.blk e1.ls) (i * 2) [.string e2.1, .int .i64 e2.2] (fun _ => rfl) (by kernel_rfl) (cells_cons (Gs.cell (TreeV.ok.at hV he1) (fun e he => (mem_h (hm9 _ he))) (flat_cell propCells_len he2 (j := 0) (by decide) rfl)) (cells_cons (Gs.cell (TreeV.ok.at hV he1) (fun e he => (mem_h (hm9 _ he))) (flat_cell propCells_len he2 (j := 1) (by decide) rfl)) cells_nil)) rfl ?_)
      refine SL_cons ⟨rfl, fun _ => rfl⟩ (O_new (fun b => .pointer (some ⟨b, 0, none⟩)) (.cells #[.string ByteArray.empty, .int .i64 0] 136 (0, 0)) (.cells 136 2 [.string ByteArray.empty, .int .i64 0]) rfl (by intro δ w; kernel_rfl) ⟨rfl, rfl, rfl, rfl⟩ ?_)
      intro b3 hlb3 hnb3
      refine SL_cons ⟨rfl, fun _ => rfl⟩ (O_store b3 0 (.agg #[.string e2.1, .int .i64 e2.2]) [.string e2.1, .int .i64 e2.2] (fun _ => rfl) (fun _ => rfl) rfl (by kernel_rfl) rfl (by simp only [List.length_cons, List.length_nil]; omega) rfl ?_)
      refine SL_sig ((b3, .cells 136 2 [.string e2.1, .int .i64 e2.2]) :: ((TreeV.ent X F) ++ ([]))) rfl ?_
      refine SL_nil (n_then ?_)
      refine SW_seq ?_
      refine SW_seq ?_
      refine SW_region ?_
      refine SL_s2 2 38 (.bool (!ok)) 37 (.bool ok) (by intro δ w; kernel_rfl) ?_
      refine SL_nil (n_then ?_)
      refine SW_cond (!ok) (fun _ => rfl) (fun hc4 => ?_) (fun hc4 => ?_)
      · skip
        replace hc4 := bnot_t hc4
        refine SW_seq ?_
        refine SW_region ?_
        refine SL_s2 2 7 (.bool false) 6 (.int .i64 0) (by intro δ w; kernel_rfl) ?_
        refine SL_nil (n_then ?_)
        refine SW_ret (r_then (r_in (r_then (r_then (r_in (r_then ?_))))))
        refine body_end (.tuple #[.int .i64 0, .bool false]) (fun _ => rfl) ?_
        exact ⟨X, (own_mk (J := ((b3, .cells 136 2 [.string e2.1, .int .i64 e2.2]) :: ([]))) (List.Perm.trans (perm_cc perm_cz) (List.Perm.append_left _ (List.Perm.refl _))) (by simp only [List.cons_append, List.append_assoc, List.nil_append, List.append_nil])), hi1, hi2, 0, false, rfl, by rw [← hi3]; exact moveGo_stop he2 hc4⟩
      · skip
        replace hc4 := bnot_f hc4
        refine SW_skip (n_then ?_)
        refine SW_region ?_
        refine SL_s3 3 42 (pt b3 0) 41 (.int .i64 m) 40 (pt F.p 0) (by intro δ w; kernel_rfl) ?_
        refine SL_cons ⟨rfl, fun _ => rfl⟩ (O_load b3 0 (.string e2.1) (fun _ => rfl) (by kernel_rfl) (Cell.own mem_z rfl) rfl ?_)
        refine SL_s1 1 44 (pt b3 1) (by intro δ w; kernel_rfl) ?_
        refine SL_cons ⟨rfl, fun _ => rfl⟩ (O_load b3 1 (.int .i64 e2.2) (fun _ => rfl) (by kernel_rfl) (Cell.own mem_z rfl) rfl ?_)
        refine SL_perm _ (perm_cc perm_cz) ?_
        refine SL_cons ⟨rfl, fun _ => rfl⟩ (O_call 49 #[pt F.p 0, .int .i64 m, .string e2.1, .int .i64 e2.2] rfl (by intro δ w; kernel_rfl) ((shapes_Add hX m e2.1 e2.2).use _) ?_)
        rintro _ σ3 ⟨V2, hσ3, hV2, hkV2, rV2, okV2, rfl, hrV2⟩
        obtain rfl : σ3 = ((TreeV.ent V2 F) ++ ((b3, .cells 136 2 [.string e2.1, .int .i64 e2.2]) :: ([]))) := hσ3.trans (rfl)
        refine SL_segT 5 [(10, .bool okV2), (9, .int .i64 rV2), (38, .bool (!ok)), (12, pt b3 0), (34, .bool (decide ((i : Int) < (e1.l.length : Int)))), (33, .int .i64 (i : Int)), (32, .int .i64 (e1.l.length : Int)), (31, Gs.val e1.ls e1.l.length), (0, pt F.p 0)] (by intro δ w; kernel_rfl) ?_
        refine SL_nil (n_in (n_then ?_))
        refine SW_region ?_
        refine SL_s1 1 49 (.int .i64 (IntKind.wrap .i64 ((i : Int) + 1))) (by intro δ w; kernel_rfl) ?_
        rw [show IntKind.wrap .i64 ((i : Int) + 1) = (i : Int) + 1 from IntWalk.i64_in _ (by omega)]
        refine SL_segT 1 [(33, .int .i64 ((i : Int) + 1)), (10, .bool okV2), (9, .int .i64 rV2), (38, .bool (!ok)), (12, pt b3 0), (34, .bool (decide ((i : Int) < (e1.l.length : Int)))), (32, .int .i64 (e1.l.length : Int)), (31, Gs.val e1.ls e1.l.length), (0, pt F.p 0)] (by intro δ w; kernel_rfl) ?_
        refine SL_nil (n_then ?_)
        exact ⟨(i + 1, V2, rV2, okV2), by simp only []; omega, ⟨fun _ => rfl, (own_mk (J := ((b3, .cells 136 2 [.string e2.1, .int .i64 e2.2]) :: ([]))) (List.Perm.refl _) (by simp only [List.cons_append, List.append_assoc, List.nil_append, List.append_nil]))⟩, by simp only []; omega, hV2, hi2.trans hkV2, by simp only []; rw [← hi3]; exact (moveGo_step he2 hc4 hrV2).symm⟩
    · skip
      replace hc2 := of_decide_eq_false hc2
      refine SW_exit (x_then (x_then (x_in (n_then ?_))))
      refine SW_seq ?_
      refine SW_region ?_
      refine SL_s4 4 7 (.bool ok) 6 (.int .i64 m) 51 (.bool ok) 50 (.int .i64 m) (by intro δ w; kernel_rfl) ?_
      refine SL_nil (n_then ?_)
      refine SW_ret ?_
      refine body_end (.tuple #[.int .i64 m, .bool ok]) (fun _ => rfl) ?_
      exact ⟨X, (own_mk (J := ([])) (List.Perm.refl _) (by simp only [List.cons_append, List.append_assoc, List.nil_append, List.append_nil])), hi1, hi2, m, ok, rfl, by rw [← hi3]; exact moveGo_end (by omega)⟩

end Go.Proofs.Ytdfhbheipagnmaa
