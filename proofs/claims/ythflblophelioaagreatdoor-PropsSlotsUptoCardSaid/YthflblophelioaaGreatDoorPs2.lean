/-
  What functions of cells do to the memory they own, step by step: each theorem is one function's contract. Conditions: those that each theorem names.
-/
import Derived.Test.YthflblophelioaaGreatDoorPs1
import Derived.Test.YthflblophelioaaGreatDoorProg
set_option linter.unusedVariables false
set_option maxRecDepth 100000
set_option linter.unusedSimpArgs false
set_option maxHeartbeats 4000000
namespace Go.Proofs.YthflblophelioaaGreatDoor
open Go.Sl

theorem cells_there {W0 : World} {C : CellsL} (hC : C.ok) {σ : Qp} (hm : ∀ e ∈ C.ent, e ∈ σ) (n : Int) : SC Tryz.prog W0 146 #[.pointer (some ⟨C.p, 0, none⟩), .int .i64 n] σ (fun v σ' => v = .bool (decide (0 ≤ n ∧ n < C.l.length)) ∧ σ' = σ) := by
 refine SC_body (fn := Tryz.f146) (n := 16) Tryz.func146 rfl (by kernel_rfl) (ρ := [(0, .pointer (some ⟨C.p, 0, none⟩)), (1, .int .i64 n)]) rfl ?_
 refine SW_seq ?_
 refine Qn ?_
 refine SL_segT 1 [(4, .bool false), (0, .pointer (some ⟨C.p, 0, none⟩)), (1, .int .i64 n)] (by intro δ w; kernel_rfl) ?_
 refine SL_nil (Qj ?_)
 refine SW_seq ?_
 refine Qn ?_
 refine SL_segT 3 [(7, .bool (decide (n ≥ 0))), (4, .bool false), (0, .pointer (some ⟨C.p, 0, none⟩)), (1, .int .i64 n)] (by intro δ w; kernel_rfl) ?_
 refine SL_tb (decide (n ≥ 0)) (fun x => [(7, .bool x), (4, .bool false), (0, .pointer (some ⟨C.p, 0, none⟩)), (1, .int .i64 n)]) (fun hg1 => ?_) (fun hg1 => ?_)
 · skip
   replace hg1 := of_decide_eq_true hg1
   refine SL_segT 4 [(11, .pointer (some ⟨C.p, 0, none⟩)), (8, .int .i64 n), (7, .bool true), (4, .bool false), (0, .pointer (some ⟨C.p, 0, none⟩)), (1, .int .i64 n)] (by intro δ w; kernel_rfl) ?_
   refine SL_cons ⟨rfl, fun _ => rfl⟩ (O_load C.p 0 (Gs.val C.s C.l.length) (fun _ => rfl) (by kernel_rfl) (Cell.own (hm _ C.head) rfl) rfl ?_)
   refine SL_segT 4 [(4, .bool (decide (n < (C.l.length : Int)))), (0, .pointer (some ⟨C.p, 0, none⟩)), (1, .int .i64 n)] (by intro δ w; kernel_rfl) ?_
   refine SL_nil (Qj ?_)
   refine Qi ?_
   refine Qg (.bool (decide (n < (C.l.length : Int)))) (fun _ => rfl) ?_
   exact ⟨congrArg Value.bool (by simp; omega), rfl⟩
 · skip
   replace hg1 := of_decide_eq_false hg1
   refine SL_segT 9 [(4, .bool false), (0, .pointer (some ⟨C.p, 0, none⟩)), (1, .int .i64 n)] (by intro δ w; kernel_rfl) ?_
   refine SL_nil (Qj ?_)
   refine Qi ?_
   refine Qg (.bool false) (fun _ => rfl) ?_
   exact ⟨congrArg Value.bool (by simp; omega), rfl⟩

theorem cells_Valid {W0 : World} {C : CellsL} (hC : C.ok) {σ : Qp} (hm : ∀ e ∈ C.ent, e ∈ σ) (n : Int) : SC Tryz.prog W0 134 #[.pointer (some ⟨C.p, 0, none⟩), .int .i64 n] σ (fun v σ' => v = .bool (C.isV n) ∧ σ' = σ) := by
 refine SC_body (fn := Tryz.f134) (n := 18) Tryz.func134 rfl (by kernel_rfl) (ρ := [(0, .pointer (some ⟨C.p, 0, none⟩)), (1, .int .i64 n)]) rfl ?_
 refine SW_seq ?_
 refine Qn ?_
 refine SL_segT 1 [(4, .bool false), (0, .pointer (some ⟨C.p, 0, none⟩)), (1, .int .i64 n)] (by intro δ w; kernel_rfl) ?_
 refine SL_nil (Qj ?_)
 refine SW_seq ?_
 refine Qn ?_
 refine SL_segT 2 [(6, .int .i64 n), (5, .pointer (some ⟨C.p, 0, none⟩)), (4, .bool false), (0, .pointer (some ⟨C.p, 0, none⟩)), (1, .int .i64 n)] (by intro δ w; kernel_rfl) ?_
 refine SL_cons ⟨rfl, fun _ => rfl⟩ (O_call 146 #[.pointer (some ⟨C.p, 0, none⟩), .int .i64 n] rfl (by intro δ w; kernel_rfl) (cells_there hC hm n) ?_)
 rintro _ _ ⟨rfl, rfl⟩
 refine SL_segT 1 [(8, .bool (decide (0 ≤ n ∧ n < C.l.length))), (4, .bool false), (0, .pointer (some ⟨C.p, 0, none⟩)), (1, .int .i64 n)] (by intro δ w; kernel_rfl) ?_
 refine SL_tb (decide (0 ≤ n ∧ n < C.l.length)) (fun x => [(8, .bool x), (4, .bool false), (0, .pointer (some ⟨C.p, 0, none⟩)), (1, .int .i64 n)]) (fun hg1 => ?_) (fun hg1 => ?_)
 · skip
   replace hg1 := of_decide_eq_true hg1
   obtain ⟨c, hc⟩ := CellsL.get hg1
   refine SL_segT 3 [(11, .pointer (some ⟨C.p, 0, none⟩)), (8, .bool true), (4, .bool false), (0, .pointer (some ⟨C.p, 0, none⟩)), (1, .int .i64 n)] (by intro δ w; kernel_rfl) ?_
   refine SL_cons ⟨rfl, fun _ => rfl⟩ (O_load C.p 0 (Gs.val C.s C.l.length) (fun _ => rfl) (by kernel_rfl) (Cell.own (hm _ C.head) rfl) rfl ?_)
   refine SL_segT 1 [(13, .int .i64 n), (12, Gs.val C.s C.l.length), (8, .bool true), (4, .bool false), (0, .pointer (some ⟨C.p, 0, none⟩)), (1, .int .i64 n)] (by intro δ w; kernel_rfl) ?_
   refine SL_cons ⟨rfl, fun _ => rfl⟩ (O_indexAddr' n (((n).toNat) * 2) (Gs.blk C.s) 0 C.l.length (Gs.cap C.s) .i64 2 Tryz.underlying117 (by kernel_rfl) (fun _ => gs_slice (hC.ne (i := n) (by omega) (by omega))) (fun _ => rfl) (by omega) (by omega) (by omega) rfl ?_)
   refine SL_segT 1 [(15, .pointer (some ⟨(Gs.blk C.s), ((n).toNat) * 2, none⟩)), (8, .bool true), (4, .bool false), (0, .pointer (some ⟨C.p, 0, none⟩)), (1, .int .i64 n)] (by intro δ w; kernel_rfl) ?_
   refine SL_cons ⟨rfl, fun _ => rfl⟩ (O_load (Gs.blk C.s) (((n).toNat) * 2) (.bool c.valid) (fun _ => rfl) (by kernel_rfl) (CellsL.at hC hm (j := 0) hc (by decide) rfl) rfl ?_)
   refine SL_segT 2 [(4, .bool c.valid), (0, .pointer (some ⟨C.p, 0, none⟩)), (1, .int .i64 n)] (by intro δ w; kernel_rfl) ?_
   refine SL_nil (Qj ?_)
   refine Qi ?_
   refine Qg (.bool c.valid) (fun _ => rfl) ?_
   exact ⟨by rw [CellsL.isV_of hg1 hc], rfl⟩
 · skip
   replace hg1 := of_decide_eq_false hg1
   refine SL_segT 10 [(4, .bool false), (0, .pointer (some ⟨C.p, 0, none⟩)), (1, .int .i64 n)] (by intro δ w; kernel_rfl) ?_
   refine SL_nil (Qj ?_)
   refine Qi ?_
   refine Qg (.bool false) (fun _ => rfl) ?_
   exact ⟨by rw [CellsL.isV_out hg1], rfl⟩

theorem cells_New {W0 : World}  : SC Tryz.prog W0 30 #[] [] (fun v σ' => ∃ C : CellsL, σ'.Perm C.ent ∧ C.ok ∧ C.l = [] ∧ v = .pointer (some ⟨C.p, 0, none⟩)) := by
 refine SC_body (fn := Tryz.f30) (n := 3) Tryz.func30 rfl (by kernel_rfl) (ρ := []) rfl ?_
 refine SW_seq ?_
 refine Qn ?_
 refine SL_segT 1 [(0, .pointer none)] (by intro δ w; kernel_rfl) ?_
 refine SL_nil (Qj ?_)
 refine SW_seq ?_
 refine Qn ?_
 refine SL_segT 1 [(1, .agg #[.slice none 0 0]), (0, .pointer none)] (by intro δ w; kernel_rfl) ?_
 refine SL_cons ⟨rfl, fun _ => rfl⟩ (O_new (fun b => .pointer (some ⟨b, 0, none⟩)) (.cells #[.slice none 0 0] 119 (0, 0)) (.cells 119 1 [.slice none 0 0]) rfl (by intro δ w; kernel_rfl) ⟨rfl, rfl, rfl, rfl⟩ ?_)
 intro b1 hlb1 hnb1
 refine SL_segT 1 [(0, .pointer (some ⟨b1, 0, none⟩))] (by intro δ w; kernel_rfl) ?_
 refine SL_nil (Qj ?_)
 refine Qi ?_
 refine Qg (.pointer (some ⟨b1, 0, none⟩)) (fun _ => rfl) ?_
 exact ⟨⟨b1, .nil, []⟩, by simp [CellsL.ent, Gs.ent, Gs.val, Gs.addr, Gs.cap], ⟨⟨rfl, rfl⟩, by simp⟩, rfl, rfl⟩

theorem cells_Break {W0 : World} {C : CellsL} (hC : C.ok) (hab : abv C.abs ≤ 1099511627776) (n : Int) : SC Tryz.prog W0 120 #[.pointer (some ⟨C.p, 0, none⟩), .int .i64 n] C.ent (fun v σ' => ∃ (m : Int) (l : List CellL), Own σ' (CellsL.ent ⟨C.p, C.s, l⟩) ∧ CellsL.ok ⟨C.p, C.s, l⟩ ∧ v = .int .i64 m ∧ Broke C.abs (l.map CellL.abs) n) := by
 refine SC_body (fn := Tryz.f120) (n := 47) Tryz.func120 rfl (by kernel_rfl) (ρ := [(0, .pointer (some ⟨C.p, 0, none⟩)), (1, .int .i64 n)]) rfl ?_
 refine SW_sig ((C.p, .cells 119 1 [Gs.val C.s C.l.length]) :: ((Gs.ent 202 2 C.s C.row) ++ ((C.l.flatMap CellL.ent) ++ ([])))) (by simp [CellsL.ent]) ?_
 refine SW_seq ?_
 refine Qn ?_
 refine SL_segT 1 [(4, .int .i64 0), (0, .pointer (some ⟨C.p, 0, none⟩)), (1, .int .i64 n)] (by intro δ w; kernel_rfl) ?_
 refine SL_nil (Qj ?_)
 refine SW_scope ?_
 refine SW_seq ?_
 refine Qn ?_
 refine SL_segT 1 [(5, .int .i64 0), (4, .int .i64 0), (0, .pointer (some ⟨C.p, 0, none⟩)), (1, .int .i64 n)] (by intro δ w; kernel_rfl) ?_
 refine SL_nil (Qj ?_)
 refine SW_seq ?_
 refine Qn ?_
 refine SL_segT 1 [(7, .int .i64 n), (5, .int .i64 0), (4, .int .i64 0), (0, .pointer (some ⟨C.p, 0, none⟩)), (1, .int .i64 n)] (by intro δ w; kernel_rfl) ?_
 refine SL_cons ⟨rfl, fun _ => rfl⟩ (O_new (fun b => .slice (some ⟨b, 0, none⟩) 1 1) (.cells #[.int .i64 n] 3 (0, 0)) (.cells 3 1 [.int .i64 n]) rfl (by intro δ w; kernel_rfl) ⟨rfl, rfl, rfl, rfl⟩ ?_)
 intro b1 hlb1 hnb1
 refine SL_segT 1 [(6, .slice (some ⟨b1, 0, none⟩) 1 1), (5, .int .i64 0), (4, .int .i64 0), (0, .pointer (some ⟨C.p, 0, none⟩)), (1, .int .i64 n)] (by intro δ w; kernel_rfl) ?_
 refine SL_nil (Qj ?_)
 refine SW_seq ?_
 refine SW_label (Qj ?_)
 refine SW_seq ?_
 refine SW_block ?_
 refine SW_sig ((Gs.ent 3 1 (Gs.at b1 1) ([n].map (Value.int .i64))) ++ ((C.p, .cells 119 1 [Gs.val C.s C.l.length]) :: ((Gs.ent 202 2 C.s C.row) ++ ((C.l.flatMap CellL.ent) ++ ([]))))) rfl ?_
 refine SW_loop (α := BrkS) (fun x ρ σ => Fits ρ σ [(6, Gs.val x.s ((x.todo).length)), (5, .int .i64 x.m), (0, .pointer (some ⟨C.p, 0, none⟩)), (1, .int .i64 x.j), (4, .int .i64 0)] ((C.p, .cells 119 1 [Gs.val C.s ((x.l).length)]) :: ((Gs.ent 202 2 C.s ((x.l).flatMap CellL.cells)) ++ (((x.l).flatMap CellL.ent) ++ ((Gs.ent 3 1 x.s (x.todo.map (Value.int .i64))) ++ ([]))))) ∧ BrkI C n x) (BrkS.μ C) ⟨C.l, .at b1 1, [n], 0, n⟩ ⟨⟨fun _ => rfl, (own_mk (X := ((C.p, .cells 119 1 [Gs.val C.s C.l.length]) :: ((Gs.ent 202 2 C.s C.row) ++ ((C.l.flatMap CellL.ent) ++ ((Gs.ent 3 1 (Gs.at b1 1) ([n].map (Value.int .i64))) ++ ([])))))) (J := ([])) (List.Perm.trans (perm_a perm_z) (List.Perm.cons _ (List.Perm.trans (perm_ca perm_cz) (List.Perm.append_left _ (List.Perm.trans (perm_ca perm_cz) (List.Perm.append_left _ (List.Perm.refl _))))))) (by simp [CellsL.row]))⟩, BInv.start _ _, hC, rfl, ⟨Nat.le_refl _, by unfold maxLen; omega, rfl⟩⟩ ?_
 rintro ⟨l, s, todo, m, j0⟩ ρ σ ⟨hfit, hI⟩
 refine SW_fits hfit ?_
 clear hfit
 simp only [] at hI ⊢
 refine SW_seq ?_
 refine SW_seq ?_
 refine Qn ?_
 refine SL_segT 3 [(11, .bool (decide (((((todo).length : Nat)) : Int) > 0))), (6, Gs.val s ((todo).length)), (5, .int .i64 m), (0, .pointer (some ⟨C.p, 0, none⟩)), (1, .int .i64 j0), (4, .int .i64 0)] (by intro δ w; kernel_rfl) ?_
 refine SL_nil (Qj ?_)
 refine SW_cond (decide (((((todo).length : Nat)) : Int) > 0)) (fun _ => rfl) (fun hc2 => ?_) (fun hc2 => ?_)
 · skip
   replace hc2 := of_decide_eq_true hc2
   obtain ⟨t, j, rfl⟩ : ∃ t j, todo = t ++ [j] := by
     rcases List.eq_nil_or_concat todo with rfl | ⟨t, j, rfl⟩
     · simp at hc2
     · exact ⟨t, j, by simp⟩
   have hlj : (t ++ [j]).length = t.length + 1 := by simp
   have hcap : (t ++ [j]).length ≤ s.cap := hI.cap
   have htm : t.length ≤ 2199023255552 := by have := hI.inv.room; have h2 := hab; simp only [List.length_append, List.length_singleton] at this; omega
   refine SW_sig ((C.p, .cells 119 1 [Gs.val C.s ((l).length)]) :: ((Gs.ent 202 2 C.s ((l).flatMap CellL.cells)) ++ (((l).flatMap CellL.ent) ++ ((Gs.ent 3 1 s (t.map (Value.int .i64) ++ [.int .i64 j])) ++ ([]))))) (by simp) ?_
   refine Ql (Qj ?_)
   refine SW_block ?_
   refine SW_seq ?_
   refine SW_draw [((Gs.blk s), t.length, .int .i64 j)] [0, 1, 2, 3, 4, 5, 6, 7, 8, 9, 10, 11, 12] (by kernel_rfl) (Qf (Gs.cell (by simpa using hI.sok) (fun e he => (Qc (Qa (Qa (mem_h he))))) (by rw [show (t.length) = t.length from by omega]; simp)) rd_nil) ?_
   refine SA_take (li' := #[true, false, false, false, false, false, false, false, false, false, false, false, false]) 0 _ (Gs.val s ((t ++ [j]).length)) (fun _ _ _ h => h) rfl (by kernel_rfl) rfl (Or.inl ⟨fun _ => rfl, by intro δ w; kernel_rfl⟩) ?_
   refine SA_take (li' := #[true, true, false, false, false, false, false, false, false, false, false, false, false]) 1 _ (Gs.val s ((t ++ [j]).length)) (fun _ _ _ h => h) rfl (by kernel_rfl) rfl (Or.inl ⟨fun _ => rfl, by intro δ w; kernel_rfl⟩) ?_
   refine SA_take (li' := #[true, true, true, false, false, false, false, false, false, false, false, false, false]) 2 _ (.int .i64 ((((t ++ [j]).length : Nat)) : Int)) (fun _ _ _ h => h) rfl (by kernel_rfl) rfl (Or.inl ⟨fun _ => rfl, by intro δ w; kernel_rfl⟩) ?_
   refine SA_trim [(14, .int .i64 ((((t ++ [j]).length : Nat)) : Int)), (12, Gs.val s ((t ++ [j]).length)), (6, Gs.val s ((t ++ [j]).length)), (5, .int .i64 m), (0, .pointer (some ⟨C.p, 0, none⟩)), (1, .int .i64 j0), (4, .int .i64 0)] (fun _ => rfl) ?_
   refine SA_take (li' := #[true, true, true, true, false, false, false, false, false, false, false, false, false]) 3 _ (.int .i64 (IntKind.wrap .i64 (((((t ++ [j]).length : Nat)) : Int) - 1))) (fun _ _ _ h => h) rfl (by kernel_rfl) rfl (Or.inl ⟨fun _ => rfl, by intro δ w; kernel_rfl⟩) ?_
   rw [show IntKind.wrap .i64 (((((t ++ [j]).length : Nat)) : Int) - 1) = ((((t ++ [j]).length : Nat)) : Int) - 1 from IntWalk.i64_in _ (by omega)]
   refine SA_trim [(15, .int .i64 (((((t ++ [j]).length : Nat)) : Int) - 1)), (12, Gs.val s ((t ++ [j]).length)), (6, Gs.val s ((t ++ [j]).length)), (5, .int .i64 m), (0, .pointer (some ⟨C.p, 0, none⟩)), (1, .int .i64 j0), (4, .int .i64 0)] (fun _ => rfl) ?_
   refine SA_take (li' := #[true, true, true, true, true, false, false, false, false, false, false, false, false]) 4 _ (.pointer (some ⟨(Gs.blk s), t.length, none⟩)) (fun _ _ _ h => h) rfl (by kernel_rfl) rfl (Or.inl ⟨fun _ => rfl, (fun δ w => run_indexAddr (((((t ++ [j]).length : Nat)) : Int) - 1) (t.length) (Gs.blk s) 0 ((t ++ [j]).length) (Gs.cap s) .i64 1 Tryz.underlying200 (by kernel_rfl) (fun _ => gs_slice (Gs.ok.ne hI.sok (by simp))) (fun _ => rfl) (by omega) (by omega) (by omega))⟩) ?_
   refine SA_trim [(16, .pointer (some ⟨(Gs.blk s), t.length, none⟩)), (6, Gs.val s ((t ++ [j]).length)), (5, .int .i64 m), (0, .pointer (some ⟨C.p, 0, none⟩)), (1, .int .i64 j0), (4, .int .i64 0)] (fun _ => rfl) ?_
   refine SA_read (li' := #[true, true, true, true, true, true, false, false, false, false, false, false, false]) 5 _ (.int .i64 j) (fun _ _ _ h => h) rfl (by kernel_rfl) rfl (fun _ => rfl) (fun δ w hr => Rd_load (Gs.blk s) t.length (.int .i64 j) rfl (by kernel_rfl) List.mem_cons_self hr) ?_
   refine SA_trim [(17, .int .i64 j), (6, Gs.val s ((t ++ [j]).length)), (5, .int .i64 m), (0, .pointer (some ⟨C.p, 0, none⟩)), (1, .int .i64 j0), (4, .int .i64 0)] (fun _ => rfl) ?_
   refine SA_take (li' := #[true, true, true, true, true, true, true, false, false, false, false, false, false]) 6 _ (Gs.val s ((t ++ [j]).length)) (fun _ _ _ h => h) rfl (by kernel_rfl) rfl (Or.inl ⟨fun _ => rfl, by intro δ w; kernel_rfl⟩) ?_
   refine SA_take (li' := #[true, true, true, true, true, true, true, true, false, false, false, false, false]) 7 _ (Gs.val s ((t ++ [j]).length)) (fun _ _ _ h => h) rfl (by kernel_rfl) rfl (Or.inl ⟨fun _ => rfl, by intro δ w; kernel_rfl⟩) ?_
   refine SA_take (li' := #[true, true, true, true, true, true, true, true, true, false, false, false, false]) 8 _ (.int .i64 ((((t ++ [j]).length : Nat)) : Int)) (fun _ _ _ h => h) rfl (by kernel_rfl) rfl (Or.inl ⟨fun _ => rfl, by intro δ w; kernel_rfl⟩) ?_
   refine SA_trim [(20, .int .i64 ((((t ++ [j]).length : Nat)) : Int)), (18, Gs.val s ((t ++ [j]).length)), (17, .int .i64 j), (6, Gs.val s ((t ++ [j]).length)), (5, .int .i64 m), (0, .pointer (some ⟨C.p, 0, none⟩)), (1, .int .i64 j0), (4, .int .i64 0)] (fun _ => rfl) ?_
   refine SA_take (li' := #[true, true, true, true, true, true, true, true, true, true, false, false, false]) 9 _ (.int .i64 (IntKind.wrap .i64 (((((t ++ [j]).length : Nat)) : Int) - 1))) (fun _ _ _ h => h) rfl (by kernel_rfl) rfl (Or.inl ⟨fun _ => rfl, by intro δ w; kernel_rfl⟩) ?_
   rw [show IntKind.wrap .i64 (((((t ++ [j]).length : Nat)) : Int) - 1) = ((((t ++ [j]).length : Nat)) : Int) - 1 from IntWalk.i64_in _ (by omega)]
   refine SA_trim [(21, .int .i64 (((((t ++ [j]).length : Nat)) : Int) - 1)), (18, Gs.val s ((t ++ [j]).length)), (17, .int .i64 j), (6, Gs.val s ((t ++ [j]).length)), (5, .int .i64 m), (0, .pointer (some ⟨C.p, 0, none⟩)), (1, .int .i64 j0), (4, .int .i64 0)] (fun _ => rfl) ?_
   refine SA_take (li' := #[true, true, true, true, true, true, true, true, true, true, true, false, false]) 10 _ (.slice (Gs.addr s) (((((t ++ [j]).length : Nat)) : Int) - 1).toNat (Gs.cap s)) (fun _ _ _ h => h) rfl (by kernel_rfl) rfl (Or.inl ⟨fun _ => rfl, (fun δ w => run_slice_to (((((t ++ [j]).length : Nat)) : Int) - 1) (Gs.addr s) ((t ++ [j]).length) (Gs.cap s) .i64 Tryz.underlying200 (by kernel_rfl) rfl rfl (by omega) (by omega))⟩) ?_
   rw [show (((((t ++ [j]).length : Nat)) : Int) - 1).toNat = t.length from by omega]
   refine SA_trim [(22, Gs.val s t.length), (17, .int .i64 j), (6, Gs.val s ((t ++ [j]).length)), (5, .int .i64 m), (0, .pointer (some ⟨C.p, 0, none⟩)), (1, .int .i64 j0), (4, .int .i64 0)] (fun _ => rfl) ?_
   refine SA_take (li' := #[true, true, true, true, true, true, true, true, true, true, true, true, false]) 11 _ (.int .i64 j) (fun _ _ _ h => h) rfl (by kernel_rfl) rfl (Or.inl ⟨fun _ => rfl, by intro δ w; kernel_rfl⟩) ?_
   refine SA_trim [(1, .int .i64 j), (22, Gs.val s t.length), (6, Gs.val s ((t ++ [j]).length)), (5, .int .i64 m), (0, .pointer (some ⟨C.p, 0, none⟩)), (4, .int .i64 0)] (fun _ => rfl) ?_
   refine SA_take (li' := #[true, true, true, true, true, true, true, true, true, true, true, true, true]) 12 _ (Gs.val s t.length) (fun _ _ _ h => h) rfl (by kernel_rfl) rfl (Or.inl ⟨fun _ => rfl, by intro δ w; kernel_rfl⟩) ?_
   refine SA_trim [(6, Gs.val s t.length), (1, .int .i64 j), (5, .int .i64 m), (0, .pointer (some ⟨C.p, 0, none⟩)), (4, .int .i64 0)] (fun _ => rfl) ?_
   refine SA_done (by kernel_rfl) (Qj ?_)
   refine SW_seq ?_
   refine SW_seq ?_
   refine SW_perm ((Gs.ent 3 1 s (t.map (Value.int .i64) ++ [.int .i64 j])) ++ ((C.p, .cells 119 1 [Gs.val C.s ((l).length)]) :: ((Gs.ent 202 2 C.s ((l).flatMap CellL.cells)) ++ (((l).flatMap CellL.ent) ++ ([]))))) (perm_cc (perm_ca (perm_ca perm_cz))) ?_
   refine SW_weakG ?_
   refine Qn ?_
   refine SL_segT 2 [(24, .int .i64 j), (23, .pointer (some ⟨C.p, 0, none⟩)), (6, Gs.val s t.length), (1, .int .i64 j), (5, .int .i64 m), (0, .pointer (some ⟨C.p, 0, none⟩)), (4, .int .i64 0)] (by intro δ w; kernel_rfl) ?_
   refine SL_cons ⟨rfl, fun _ => rfl⟩ (O_call 134 #[.pointer (some ⟨C.p, 0, none⟩), .int .i64 j] rfl (by intro δ w; kernel_rfl) (cells_Valid (C := ⟨C.p, C.s, l⟩) hI.ok (fun e he => (List.mem_cons.1 he).elim (fun h => h ▸ (Qa Qe)) (fun h => (List.mem_append.1 h).elim (fun h => (Qa (Qc (mem_h h)))) (fun h => (Qa (Qc (Qa (mem_h h))))))) j) ?_)
   rintro _ _ ⟨rfl, rfl⟩
   refine SL_segT 1 [(26, .bool (!(CellsL.isV ⟨C.p, C.s, l⟩ j))), (6, Gs.val s t.length), (1, .int .i64 j), (5, .int .i64 m), (0, .pointer (some ⟨C.p, 0, none⟩)), (4, .int .i64 0)] (by intro δ w; kernel_rfl) ?_
   refine SL_nil (Qj ?_)
   refine SW_cond (!(CellsL.isV ⟨C.p, C.s, l⟩ j)) (fun _ => rfl) (fun hc3 => ?_) (fun hc3 => ?_)
   · skip
     replace hc3 : (CellsL.isV ⟨C.p, C.s, l⟩ j) = false := by simpa using hc3
     have hv := hc3
     refine SW_exit (x_then (x_in (Qj ?_)))
     exact ⟨⟨l, s, t, m, j⟩, (brk_skip hI hv).1, ⟨fun _ => rfl, (own_mk (X := ((C.p, .cells 119 1 [Gs.val C.s ((l).length)]) :: ((Gs.ent 202 2 C.s ((l).flatMap CellL.cells)) ++ (((l).flatMap CellL.ent) ++ ((Gs.ent 3 1 s (t.map (Value.int .i64))) ++ ([])))))) (J := ([])) (List.Perm.trans (perm_a perm_z) (List.Perm.cons _ (List.Perm.trans (perm_ca perm_cz) (List.Perm.append_left _ (List.Perm.trans (perm_ca perm_cz) (List.Perm.append_left _ (List.Perm.refl _))))))) (by simp [CellL.ent]))⟩, (brk_skip hI hv).2⟩
   · skip
     replace hc3 : (CellsL.isV ⟨C.p, C.s, l⟩ j) = true := by simpa using hc3
     obtain ⟨c, hj, hc, hcv⟩ := CellsL.isV_true hc3
     simp only [] at hc hj
     obtain ⟨l1, l2, rfl, hlen⟩ := split_at hc
     obtain ⟨hrm, hrm2⟩ := brk_room hI hlen hj.1 hcv
     have hcok : c.ok := hI.ok.each c (by simp [BrkS.at])
     refine SW_own (S := ((C.p, .cells 119 1 [Gs.val C.s ((l1 ++ c :: l2).length)]) :: ((Gs.ent 202 2 C.s ((l1 ++ c :: l2).flatMap CellL.cells)) ++ ((l1.flatMap CellL.ent) ++ ((Gs.ent 3 1 c.ab (c.above.map (Value.int .i64))) ++ ((l2.flatMap CellL.ent) ++ ((Gs.ent 3 1 s (t.map (Value.int .i64))) ++ ([])))))))) (own_mk (X := ((C.p, .cells 119 1 [Gs.val C.s ((l1 ++ c :: l2).length)]) :: ((Gs.ent 202 2 C.s ((l1 ++ c :: l2).flatMap CellL.cells)) ++ (((l1 ++ c :: l2).flatMap CellL.ent) ++ ((Gs.ent 3 1 s (t.map (Value.int .i64))) ++ ([])))))) (J := ([])) (List.Perm.trans (perm_a perm_z) (List.Perm.cons _ (List.Perm.trans (perm_ca perm_cz) (List.Perm.append_left _ (List.Perm.trans (perm_ca perm_cz) (List.Perm.append_left _ (List.Perm.refl _))))))) (by simp [CellL.ent])) ?_
     refine Ql (Qj ?_)
     refine SW_seq ?_
     refine Qn ?_
     refine SL_segT 3 [(29, .pointer (some ⟨C.p, 0, none⟩)), (6, Gs.val s t.length), (1, .int .i64 j), (5, .int .i64 m), (0, .pointer (some ⟨C.p, 0, none⟩)), (4, .int .i64 0)] (by intro δ w; kernel_rfl) ?_
     refine SL_cons ⟨rfl, fun _ => rfl⟩ (O_load C.p 0 (Gs.val C.s ((l1 ++ c :: l2).length)) (fun _ => rfl) (by kernel_rfl) (Cell.own Qe rfl) rfl ?_)
     refine SL_segT 1 [(31, .int .i64 j), (30, Gs.val C.s ((l1 ++ c :: l2).length)), (6, Gs.val s t.length), (1, .int .i64 j), (5, .int .i64 m), (0, .pointer (some ⟨C.p, 0, none⟩)), (4, .int .i64 0)] (by intro δ w; kernel_rfl) ?_
     refine SL_cons ⟨rfl, fun _ => rfl⟩ (O_indexAddr' j (((j).toNat) * 2) (Gs.blk C.s) 0 ((l1 ++ c :: l2).length) (Gs.cap C.s) .i64 2 Tryz.underlying117 (by kernel_rfl) (fun _ => gs_slice (Gs.ok.ne hI.ok.row (by simp [BrkS.at]; omega))) (fun _ => rfl) (by omega) (by omega) (by omega) rfl ?_)
     refine SL_segT 1 [(33, .pointer (some ⟨(Gs.blk C.s), ((j).toNat) * 2, none⟩)), (6, Gs.val s t.length), (1, .int .i64 j), (5, .int .i64 m), (0, .pointer (some ⟨C.p, 0, none⟩)), (4, .int .i64 0)] (by intro δ w; kernel_rfl) ?_
     refine SL_perm ((Gs.ent 202 2 C.s ((l1 ++ c :: l2).flatMap CellL.cells)) ++ ((C.p, .cells 119 1 [Gs.val C.s ((l1 ++ c :: l2).length)]) :: ((l1.flatMap CellL.ent) ++ ((Gs.ent 3 1 c.ab (c.above.map (Value.int .i64))) ++ ((l2.flatMap CellL.ent) ++ ((Gs.ent 3 1 s (t.map (Value.int .i64))) ++ ([]))))))) (perm_cc perm_cz) ?_
     refine SL_cons ⟨rfl, fun _ => rfl⟩ (O_storeG (ys := ((l1 ++ ⟨false, c.ab, c.above⟩ :: l2).flatMap CellL.cells)) C.s (((j).toNat) * 2) (.bool false) [.bool false] (Gs.ok.ne hI.ok.row (by simp [BrkS.at]; omega)) (fun _ => rfl) (fun _ => rfl) rfl (by kernel_rfl) rfl (by rw [flat_len CellL.len]; simp; omega) (flat_lay' (a := c) (j := 0) (vs := [.bool false]) CellL.len ⟨false, c.ab, c.above⟩ hlen (by simp) (by simp [lay, CellL.cells])) rfl ?_)
     refine SL_nil (Qj ?_)
     refine SW_seq ?_
     refine Qn ?_
     refine SL_segT 3 [(5, .int .i64 (IntKind.wrap .i64 (m + 1))), (6, Gs.val s t.length), (1, .int .i64 j), (0, .pointer (some ⟨C.p, 0, none⟩)), (4, .int .i64 0)] (by intro δ w; kernel_rfl) ?_
     refine SL_nil (Qj ?_)
     refine Qn ?_
     refine SL_segT 4 [(39, .pointer (some ⟨C.p, 0, none⟩)), (36, Gs.val s t.length), (5, .int .i64 (IntKind.wrap .i64 (m + 1))), (6, Gs.val s t.length), (1, .int .i64 j), (0, .pointer (some ⟨C.p, 0, none⟩)), (4, .int .i64 0)] (by intro δ w; kernel_rfl) ?_
     refine SL_cons ⟨rfl, fun _ => rfl⟩ (O_load C.p 0 (Gs.val C.s ((l1 ++ c :: l2).length)) (fun _ => rfl) (by kernel_rfl) (Cell.own (Qa Qe) rfl) rfl ?_)
     refine SL_segT 1 [(41, .int .i64 j), (40, Gs.val C.s ((l1 ++ c :: l2).length)), (36, Gs.val s t.length), (5, .int .i64 (IntKind.wrap .i64 (m + 1))), (6, Gs.val s t.length), (1, .int .i64 j), (0, .pointer (some ⟨C.p, 0, none⟩)), (4, .int .i64 0)] (by intro δ w; kernel_rfl) ?_
     refine SL_cons ⟨rfl, fun _ => rfl⟩ (O_indexAddr' j (((j).toNat) * 2) (Gs.blk C.s) 0 ((l1 ++ c :: l2).length) (Gs.cap C.s) .i64 2 Tryz.underlying117 (by kernel_rfl) (fun _ => gs_slice (Gs.ok.ne hI.ok.row (by simp [BrkS.at]; omega))) (fun _ => rfl) (by omega) (by omega) (by omega) rfl ?_)
     refine SL_segT 1 [(43, .pointer (some ⟨(Gs.blk C.s), ((j).toNat) * 2 + 1, none⟩)), (36, Gs.val s t.length), (5, .int .i64 (IntKind.wrap .i64 (m + 1))), (6, Gs.val s t.length), (1, .int .i64 j), (0, .pointer (some ⟨C.p, 0, none⟩)), (4, .int .i64 0)] (by intro δ w; kernel_rfl) ?_
     refine SL_cons ⟨rfl, fun _ => rfl⟩ (O_load (Gs.blk C.s) (((j).toNat) * 2 + 1) (Gs.val c.ab c.above.length) (fun _ => rfl) (by kernel_rfl) (Gs.cell (Gs.ok.relen hI.ok.row (by simp [BrkS.at, CellsL.row, flat_len CellL.len, CellL.cells])) (fun e he => (mem_h he)) (flat_get CellL.len _ _ 1 ⟨false, c.ab, c.above⟩ (split_get hlen) (by decide))) rfl ?_)
     refine SL_perm ((Gs.ent 3 1 s (t.map (Value.int .i64))) ++ ((Gs.ent 202 2 C.s ((l1 ++ ⟨false, c.ab, c.above⟩ :: l2).flatMap CellL.cells)) ++ ((C.p, .cells 119 1 [Gs.val C.s ((l1 ++ c :: l2).length)]) :: ((l1.flatMap CellL.ent) ++ ((Gs.ent 3 1 c.ab (c.above.map (Value.int .i64))) ++ ((l2.flatMap CellL.ent) ++ ([]))))))) (perm_ca (perm_cc (perm_ca (perm_ca (perm_ca perm_cz))))) ?_
     refine SL_cons ⟨rfl, fun _ => rfl⟩ (O_append (size := 1) (bytes := 8) (z := .int .i64 0) s t.length c.above.length (Gs.addr c.ab) (Gs.cap c.ab) (t.map (Value.int .i64)) (c.above.map (Value.int .i64)) ((t ++ c.above).map (Value.int .i64)) (by simp) (fun _ => rfl) (fun _ => rfl) Tryz.underlying200 (by kernel_rfl) rfl (by decide) (Gs.ok_pop (by simpa using hI.sok) (by simp)) (Gs.ok.len hcok) (Gs.src hcok (fun e he => (Qa (Qa (Qc (Qa (mem_h he))))))) (by simp [Value.oneCell']) (by omega) (by decide) rfl ?_)
     intro s4 hks4 hfs4
     rw [show t.length + c.above.length = (t ++ c.above).length from (by simp)]
     rw [show t.length + c.above.length = (t ++ c.above).length from (by simp)] at hks4
     refine SL_segT 1 [(6, Gs.val s4 ((t ++ c.above).length)), (5, .int .i64 (IntKind.wrap .i64 (m + 1))), (1, .int .i64 j), (0, .pointer (some ⟨C.p, 0, none⟩)), (4, .int .i64 0)] (by intro δ w; kernel_rfl) ?_
     refine SL_nil (n_in (Qj ?_))
     exact ⟨⟨l1 ++ ⟨false, c.ab, c.above⟩ :: l2, s4, t ++ c.above, _, j⟩, (brk_step hI hlen hj.1 hcv s4 _ j (by simpa using hks4)).1, ⟨fun _ => rfl, (own_mk (X := ((C.p, .cells 119 1 [Gs.val C.s ((l1 ++ c :: l2).length)]) :: ((Gs.ent 202 2 C.s ((l1 ++ ⟨false, c.ab, c.above⟩ :: l2).flatMap CellL.cells)) ++ ((l1.flatMap CellL.ent) ++ ((Gs.ent 3 1 c.ab (c.above.map (Value.int .i64))) ++ ((l2.flatMap CellL.ent) ++ ((Gs.ent 3 1 s4 ((t ++ c.above).map (Value.int .i64))) ++ ([])))))))) (J := ([])) (List.Perm.trans (perm_a (perm_a perm_z)) (List.Perm.cons _ (List.Perm.trans (perm_ca perm_cz) (List.Perm.append_left _ (List.Perm.trans (perm_ca perm_cz) (List.Perm.append_left _ (List.Perm.trans (perm_ca perm_cz) (List.Perm.append_left _ (List.Perm.trans (perm_ca perm_cz) (List.Perm.append_left _ (List.Perm.refl _))))))))))) (by simp [CellL.ent]))⟩, (brk_step hI hlen hj.1 hcv _ _ _ (by simpa using hks4)).2⟩
 · skip
   replace hc2 := of_decide_eq_false hc2
   obtain rfl : todo = [] := by cases todo with
     | nil => rfl
     | cons a b => simp at hc2
   refine SW_exit (x_then (x_then (x_in (Qj ?_))))
   refine SW_seq ?_
   refine Qn ?_
   refine SL_segT 2 [(4, .int .i64 m), (6, Gs.val s (([] : List Int).length)), (5, .int .i64 m), (0, .pointer (some ⟨C.p, 0, none⟩)), (1, .int .i64 j0)] (by intro δ w; kernel_rfl) ?_
   refine SL_nil (Qj ?_)
   refine Qi (r_scope ?_)
   refine Qg (.int .i64 m) (fun _ => rfl) ?_
   exact ⟨_, l, (own_mk (X := ((C.p, .cells 119 1 [Gs.val C.s ((l).length)]) :: ((Gs.ent 202 2 C.s ((l).flatMap CellL.cells)) ++ (((l).flatMap CellL.ent) ++ ((Gs.ent 3 1 s (([] : List Int).map (Value.int .i64))) ++ ([])))))) (J := ((Gs.ent 3 1 s (([] : List Int).map (Value.int .i64))) ++ ([]))) (List.Perm.refl _) (by simp [CellsL.ent, CellsL.row])), hI.ok, rfl, hI.inv.broke⟩

end Go.Proofs.YthflblophelioaaGreatDoor
namespace Go.Proofs.YthflblophelioaaGreatDoor
open Go.Sl

abbrev DescP := Int × Int × Int
def Qk (d : DescP) : List Value := [.int .u64 d.1, .int .u64 d.2.1, .int .i64 d.2.2]
theorem descCells_len (d : DescP) : (Qk d).length = 3 := rfl
structure ObjL where
  kind : Int
  proto : Int
  shut : Bool
  shape : Int
  ns : Gs
  names : List ByteArray
  vs : Gs
  vals : List DescP
  es : Gs
  elems : List Int
  is : Gs
  inner : List Int
  cell : Int
def ObjL.cells (x : ObjL) : List Value := [.int .i64 x.kind, .int .u64 x.proto, .bool x.shut, .int .i64 x.shape, x.ns.val x.names.length, x.vs.val x.vals.length, x.es.val x.elems.length, x.is.val x.inner.length, .int .i64 x.cell]
theorem ObjL.len (x : ObjL) : x.cells.length = 9 := rfl
abbrev ObjL.nsE (x : ObjL) : Qp := x.ns.ent 9 1 (x.names.map encS)
abbrev ObjL.vsE (x : ObjL) : Qp := x.vs.ent 45 3 (x.vals.flatMap Qk)
abbrev ObjL.esE (x : ObjL) : Qp := x.es.ent 33 1 (x.elems.map encU)
abbrev ObjL.isE (x : ObjL) : Qp := x.is.ent 33 1 (x.inner.map encU)
def ObjL.ent (x : ObjL) : Qp := x.nsE ++ (x.vsE ++ (x.esE ++ x.isE))
structure ObjL.ok (x : ObjL) : Prop where
  ns : x.ns.ok 1 x.names.length (x.names.map encS)
  vs : x.vs.ok 3 x.vals.length (x.vals.flatMap Qk)
  es : x.es.ok 1 x.elems.length (x.elems.map encU)
  is : x.is.ok 1 x.inner.length (x.inner.map encU)
structure HeapF where
  p : Nat
  kb : Nat
  T : TreeF
  cp : Nat
structure HeapV where
  s : Gs
  objs : List ObjL
  ts : Gs
  texts : List ByteArray
  known : List (ByteArray × Int)
  V : TreeV
  cs : Gs
  cl : List CellL
  br : Int
abbrev HeapV.head (H : HeapV) (F : HeapF) : List Value := [H.s.val H.objs.length, H.ts.val H.texts.length, .map (some F.kb), .pointer (some ⟨F.T.p, 0, none⟩), .pointer (some ⟨F.cp, 0, none⟩), .int .i64 H.br]
abbrev HeapV.row (H : HeapV) : Qp := H.s.ent 102 9 (H.objs.flatMap ObjL.cells)
def HeapV.ent (H : HeapV) (F : HeapF) : Qp := (F.p, .cells 75 6 (H.head F)) :: (H.row ++ (H.objs.flatMap ObjL.ent ++ (H.ts.ent 9 1 (H.texts.map encS) ++ ((F.kb, .map (kvs encS encU H.known)) :: (H.V.ent F.T ++ (CellsL.ent ⟨F.cp, H.cs, H.cl⟩ ++ []))))))
structure HeapV.ok (H : HeapV) (F : HeapF) : Prop where
  row : H.s.ok 9 H.objs.length (H.objs.flatMap ObjL.cells)
  each : ∀ x ∈ H.objs, x.ok
  ts : H.ts.ok 1 H.texts.length (H.texts.map encS)
  tree : H.V.ok F.T
  cells : CellsL.ok ⟨F.cp, H.cs, H.cl⟩
  objs : H.objs.length ≤ 65536
  texts : H.texts.length ≤ 16384
  small : ∀ x ∈ H.objs, x.elems.length ≤ 4096
variable {H : HeapV} {F : HeapF} {n : Nat} {x : ObjL}
theorem HeapV.eq {H : HeapV} {F : HeapF} {τ : Qp} : H.ent F ++ τ = (F.p, .cells 75 6 [H.s.val H.objs.length, H.ts.val H.texts.length, .map (some F.kb), pt F.T.p 0, pt F.cp 0, .int .i64 H.br]) :: (H.s.ent 102 9 (H.objs.flatMap ObjL.cells) ++ (H.objs.flatMap ObjL.ent ++ (H.ts.ent 9 1 (H.texts.map encS) ++ ((F.kb, .map (kvs encS encU H.known)) :: (H.V.ent F.T ++ (CellsL.ent ⟨F.cp, H.cs, H.cl⟩ ++ τ)))))) := by
 simp only [HeapV.ent, List.cons_append, List.append_assoc, List.nil_append]
theorem HeapV.eq0 {H : HeapV} {F : HeapF} : H.ent F = (F.p, .cells 75 6 [H.s.val H.objs.length, H.ts.val H.texts.length, .map (some F.kb), pt F.T.p 0, pt F.cp 0, .int .i64 H.br]) :: (H.s.ent 102 9 (H.objs.flatMap ObjL.cells) ++ (H.objs.flatMap ObjL.ent ++ (H.ts.ent 9 1 (H.texts.map encS) ++ ((F.kb, .map (kvs encS encU H.known)) :: (H.V.ent F.T ++ (CellsL.ent ⟨F.cp, H.cs, H.cl⟩ ++ [])))))) := rfl
theorem HeapV.pm {H : HeapV} {F : HeapF} {σ τ : Qp} (h : σ.Perm ((F.p, .cells 75 6 [H.s.val H.objs.length, H.ts.val H.texts.length, .map (some F.kb), pt F.T.p 0, pt F.cp 0, .int .i64 H.br]) :: (H.s.ent 102 9 (H.objs.flatMap ObjL.cells) ++ (H.objs.flatMap ObjL.ent ++ (H.ts.ent 9 1 (H.texts.map encS) ++ ((F.kb, .map (kvs encS encU H.known)) :: (H.V.ent F.T ++ (CellsL.ent ⟨F.cp, H.cs, H.cl⟩ ++ τ))))))) := by exact fn2) : σ.Perm (H.ent F ++ τ) := by rw [HeapV.eq]; exact h
theorem HeapV.own {H : HeapV} {F : HeapF} {σ J : Qp} (h : σ.Perm ((F.p, .cells 75 6 [H.s.val H.objs.length, H.ts.val H.texts.length, .map (some F.kb), pt F.T.p 0, pt F.cp 0, .int .i64 H.br]) :: (H.s.ent 102 9 (H.objs.flatMap ObjL.cells) ++ (H.objs.flatMap ObjL.ent ++ (H.ts.ent 9 1 (H.texts.map encS) ++ ((F.kb, .map (kvs encS encU H.known)) :: (H.V.ent F.T ++ (CellsL.ent ⟨F.cp, H.cs, H.cl⟩ ++ J))))))) := by exact fn2) : Own σ (H.ent F) := ⟨J, HeapV.pm h⟩
theorem HeapV.m0 (H : HeapV) (F : HeapF) : (F.p, Blk.cells 75 6 (H.head F)) ∈ H.ent F := List.mem_cons_self
theorem HeapV.m1 (H : HeapV) (F : HeapF) : ∀ e ∈ H.row, e ∈ H.ent F := fun e he => Qc (mem_h he)
theorem HeapV.m2 (H : HeapV) (F : HeapF) : ∀ e ∈ H.objs.flatMap ObjL.ent, e ∈ H.ent F := fun e he => Qc (Qa (mem_h he))
theorem HeapV.m3 (H : HeapV) (F : HeapF) : ∀ e ∈ H.ts.ent 9 1 (H.texts.map encS), e ∈ H.ent F := fun e he => Qc (Qa (Qa (mem_h he)))
theorem HeapV.m4 (H : HeapV) (F : HeapF) : (F.kb, Blk.map (kvs encS encU H.known)) ∈ H.ent F := Qc (Qa (Qa (Qa Qe)))
theorem ObjL.mns {l : List ObjL} (hx : l[n]? = some x) : ∀ e ∈ x.nsE, e ∈ l.flatMap ObjL.ent := fun e he => List.mem_flatMap.2 ⟨x, List.mem_of_getElem? hx, mem_h he⟩
theorem ObjL.mvs {l : List ObjL} (hx : l[n]? = some x) : ∀ e ∈ x.vsE, e ∈ l.flatMap ObjL.ent := fun e he => List.mem_flatMap.2 ⟨x, List.mem_of_getElem? hx, Qa (mem_h he)⟩
theorem ObjL.mes {l : List ObjL} (hx : l[n]? = some x) : ∀ e ∈ x.esE, e ∈ l.flatMap ObjL.ent := fun e he => List.mem_flatMap.2 ⟨x, List.mem_of_getElem? hx, Qa (Qa (mem_h he))⟩
theorem HeapV.ok.at (h : H.ok F) (hx : H.objs[n]? = some x) : x.ok := h.each x (List.mem_of_getElem? hx)
theorem obj_focus {l : List ObjL} (hx : l[n]? = some x) (τ : Qp) : (l.flatMap ObjL.ent ++ τ).Perm (x.nsE ++ (x.vsE ++ (x.esE ++ (x.isE ++ ((l.eraseIdx n).flatMap ObjL.ent ++ τ))))) := by
 have h := (flat_focus (f := ObjL.ent) hx).append_right τ
 simpa only [ObjL.ent, List.append_assoc] using h
theorem obj_unfocus {l : List ObjL} (hx : l[n]? = some x) (x' : ObjL) (τ : Qp) : (x'.nsE ++ (x'.vsE ++ (x'.esE ++ (x'.isE ++ ((l.eraseIdx n).flatMap ObjL.ent ++ τ))))).Perm ((l.set n x').flatMap ObjL.ent ++ τ) := by
 have h := (flat_unfocus (f := ObjL.ent) x' hx).append_right τ
 simpa only [ObjL.ent, List.append_assoc] using h
abbrev HeapV.put (H : HeapV) (n : Nat) (x : ObjL) : HeapV := ⟨H.s, H.objs.set n x, H.ts, H.texts, H.known, H.V, H.cs, H.cl, H.br⟩
abbrev HeapV.tree (H : HeapV) (V : TreeV) : HeapV := ⟨H.s, H.objs, H.ts, H.texts, H.known, V, H.cs, H.cl, H.br⟩
abbrev HeapV.break (H : HeapV) (cl : List CellL) (br : Int) : HeapV := ⟨H.s, H.objs, H.ts, H.texts, H.known, H.V, H.cs, cl, br⟩
theorem HeapV.ok.put (h : H.ok F) (hx : H.objs[n]? = some x) {x' : ObjL} (ho : x'.ok) (hs : x'.elems.length ≤ 4096) : (H.put n x').ok F := by
 refine ⟨?_, fun y hy => ?_, h.ts, h.tree, h.cells, by simpa using h.objs, h.texts, fun y hy => ?_⟩
 · simp only [List.length_set]
   exact Gs.ok.relen h.row (by simp [flat_len ObjL.len])
 · rcases List.mem_or_eq_of_mem_set hy with h1 | rfl
   · exact h.each y h1
   · exact ho
 · rcases List.mem_or_eq_of_mem_set hy with h1 | rfl
   · exact h.small y h1
   · exact hs
theorem HeapV.ok.withTree (h : H.ok F) {V : TreeV} (hV : V.ok F.T) : (H.tree V).ok F := ⟨h.row, h.each, h.ts, hV, h.cells, h.objs, h.texts, h.small⟩
theorem HeapV.ok.withCells (h : H.ok F) {cl : List CellL} (hc : CellsL.ok ⟨F.cp, H.cs, cl⟩) (br : Int) : (H.break cl br).ok F := ⟨h.row, h.each, h.ts, h.tree, hc, h.objs, h.texts, h.small⟩

theorem HeapV.back (F : HeapF) (hx : H.objs[n]? = some x) (x' : ObjL) : ((F.p, Blk.cells 75 6 (H.head F)) :: (H.s.ent 102 9 ((H.objs.set n x').flatMap ObjL.cells) ++ (x'.nsE ++ (x'.vsE ++ (x'.esE ++ (x'.isE ++ ((H.objs.eraseIdx n).flatMap ObjL.ent ++
   (H.ts.ent 9 1 (H.texts.map encS) ++ ((F.kb, .map (kvs encS encU H.known)) :: (H.V.ent F.T ++ (CellsL.ent ⟨F.cp, H.cs, H.cl⟩ ++ []))))))))))).Perm ((H.put n x').ent F) := by
 simp only [HeapV.ent, HeapV.head, HeapV.row, List.length_set]
 exact ((obj_unfocus hx x' _).append_left _).cons _

def tagOf (w tag : Int) : Option Nat := if w / 4294967296 = tag * 65536 then some (w % 4294967296).toNat else none
theorem or_add {t n : Int} (ht : 0 ≤ t ∧ t < 65536) (hn : 0 ≤ n ∧ n < 4294967296) : IntKind.wrap .u64 ((BitVec.ofInt 64 (t * 281474976710656) ||| BitVec.ofInt 64 n).toNat) = t * 281474976710656 + n := by
 obtain ⟨a, rfl⟩ := Int.eq_ofNat_of_zero_le ht.1
 obtain ⟨b, rfl⟩ := Int.eq_ofNat_of_zero_le hn.1
 have h1 : (BitVec.ofInt 64 ((a : Int) * 281474976710656)).toNat = 2 ^ 48 * a := by
   rw [BitVec.toNat_ofInt]; omega
 have h2 : (BitVec.ofInt 64 (b : Int)).toNat = b := by
   rw [BitVec.toNat_ofInt]; omega
 rw [BitVec.toNat_or, h1, h2, ← Nat.two_pow_add_eq_or_of_lt (by omega)]
 simp only [IntKind.wrap, IntKind.bits, IntKind.signed]
 simp
 omega
theorem tagOf_mk {t : Int} {n : Nat} (h0 : 0 ≤ t) (hn : n < 4294967296) : tagOf (t * 281474976710656 + n) t = some n := by
 unfold tagOf
 rw [if_pos (by omega)]
 congr 1; omega
theorem tagOf_lt {w tag : Int} {n : Nat} (h : tagOf w tag = some n) : n < 4294967296 := by
 unfold tagOf at h
 split at h
 · simp only [Option.some.injEq] at h; omega
 · cases h
def rootKey (proto kind : Int) : Int := IntKind.wrap .u64 ((BitVec.ofInt 64 (IntKind.wrap .u64 (proto * 8)) ||| BitVec.ofInt 64 (IntKind.wrap .u64 kind)).toNat)
def objAt (w : Int) (len : Nat) : Option Nat := match tagOf w 65530 with
 | some n => if n < len then some n else none
 | none => none
theorem objAt_tag {w : Int} {len n : Nat} (h : objAt w len = some n) : tagOf w 65530 = some n ∧ n < len := by
 unfold objAt at h
 cases ht : tagOf w 65530 with
 | none => rw [ht] at h; cases h
 | some m =>
   rw [ht] at h
   simp only [] at h
   by_cases hl : m < len
   · rw [if_pos hl] at h; cases h; exact ⟨rfl, hl⟩
   · rw [if_neg hl] at h; cases h
abbrev ObjL.chg (x : ObjL) : ObjL := ⟨x.kind, x.proto, x.shut, x.shape, x.ns, x.names, x.vs, x.vals, x.es, x.elems, x.is, x.inner, if 0 ≤ x.cell then -1 else x.cell⟩
abbrev ObjL.withShape (x : ObjL) (m : Int) : ObjL := ⟨x.kind, x.proto, x.shut, m, x.ns, x.names, x.vs, x.vals, x.es, x.elems, x.is, x.inner, x.cell⟩
abbrev ObjL.loosed (x : ObjL) (g : Gs) (ks : List ByteArray) : ObjL := ⟨x.kind, x.proto, x.shut, -1, g, ks, x.vs, x.vals, x.es, x.elems, x.is, x.inner, x.cell⟩
def ixS (l : List ByteArray) (key : ByteArray) : Int := ixFrom (fun a => decide (a = key)) l 0
def placeO (t : TreeP) (shape : Int) (names : List ByteArray) (key : ByteArray) : Int :=
 if shape < 0 then ixS names key else if (findP t shape key).2.2 = true then (findP t shape key).1 else -1
def Chg (cell : Int) (l l' : List CellL) : Prop := if 0 ≤ cell then Broke (l.map CellL.abs) (l'.map CellL.abs) cell else l' = l
theorem cells_break {W0 : World} {p : Nat} {s : Gs} {l : List CellL} (hC : CellsL.ok ⟨p, s, l⟩) (hab : abv (l.map CellL.abs) ≤ 1099511627776) (n : Int) : SC Tryz.prog W0 120 #[.pointer (some ⟨p, 0, none⟩), .int .i64 n] (CellsL.ent ⟨p, s, l⟩)
   (Ret (fun r : List CellL × Int => CellsL.ent ⟨p, s, r.1⟩) (fun v r => v = .int .i64 r.2 ∧ CellsL.ok ⟨p, s, r.1⟩ ∧ Broke (l.map CellL.abs) (r.1.map CellL.abs) n)) := by
 refine (cells_Break hC hab n).mono fun v σ' h => ?_
 obtain ⟨m, l', ho, hok, hv, hb⟩ := h
 exact ⟨(l', m), ho, hv, hok, hb⟩
theorem cells_new {W0 : World} : SC Tryz.prog W0 30 #[] [] (Ret (fun r : Nat × Gs => CellsL.ent ⟨r.1, r.2, []⟩) (fun v r => v = .pointer (some ⟨r.1, 0, none⟩) ∧ CellsL.ok ⟨r.1, r.2, []⟩)) := by
 refine (cells_New).mono fun v σ' h => ?_
 obtain ⟨⟨p, s, l⟩, ho, hok, hl, hv⟩ := h
 simp only [] at hl
 subst hl
 exact ⟨(p, s), .of_perm ho, hv, hok⟩
structure HeapV.bud (H : HeapV) (k : Nat) : Prop where
  vals : ∀ x ∈ H.objs, x.vals.length ≤ k
  cl : H.cl.length ≤ k * 65537
  abv : abv (H.cl.map CellL.abs) ≤ H.cl.length
  each : ∀ c ∈ H.cl, c.above.length ≤ H.cl.length
def mayMake (H : HeapV) (kind proto : Int) : Prop := (0 ≤ kind ∧ kind ≤ 6) ∧ (proto = 18445336698825998337 ∨ objAt proto H.objs.length ≠ none) ∧ H.objs.length < 65536
abbrev newObj (kind proto shape : Int) : ObjL := ⟨kind, proto, false, shape, .nil, [], .nil, [], .nil, [], .nil, [], -1⟩
abbrev HeapV.add (H : HeapV) (s : Gs) (x : ObjL) (V : TreeV) : HeapV := ⟨s, H.objs ++ [x], H.ts, H.texts, H.known, V, H.cs, H.cl, H.br⟩
theorem newObj_ent (kind proto shape : Int) : (newObj kind proto shape).ent = [] := rfl
theorem newObj_ok (kind proto shape : Int) : (newObj kind proto shape).ok := ⟨⟨rfl, rfl⟩, ⟨rfl, rfl⟩, ⟨rfl, rfl⟩, ⟨rfl, rfl⟩⟩
theorem HeapV.ok.add (h : H.ok F) {s : Gs} {x : ObjL} {V : TreeV} (hs : s.ok 9 (H.objs ++ [x]).length ((H.objs ++ [x]).flatMap ObjL.cells)) (hx : x.ok) (he : x.elems.length ≤ 4096) (hV : V.ok F.T) (hl : H.objs.length < 65536) : (H.add s x V).ok F := by
 refine ⟨hs, fun y hy => ?_, h.ts, hV, h.cells, by simp only [List.length_append, List.length_singleton]; omega, h.texts, fun y hy => ?_⟩
 · rcases List.mem_append.1 hy with h1 | h1
   · exact h.each y h1
   · rw [List.mem_singleton.1 h1]; exact hx
 · rcases List.mem_append.1 hy with h1 | h1
   · exact h.small y h1
   · rw [List.mem_singleton.1 h1]; exact he
def keysOf (t : TreeP) (x : ObjL) : List ByteArray := if x.shape < 0 then x.names else keysP t x.shape
structure OInv (t : TreeP) (x : ObjL) : Prop where
  fast : 0 ≤ x.shape → ∃ s, shapeAt t x.shape = some s ∧ s.proto = rootKey x.proto x.kind ∧ s.l.map (·.2) = x.vals.map (·.2.2)
  len : (keysOf t x).length = x.vals.length
  nodup : (keysOf t x).Nodup
  stale : 0 ≤ x.shape → x.names = []
theorem placeO_lt {t : TreeP} {x : ObjL} {key : ByteArray} (h : OInv t x) (h0 : 0 ≤ placeO t x.shape x.names key) : placeO t x.shape x.names key < x.vals.length := by
 have hl := h.len
 unfold placeO at *
 unfold keysOf at hl
 by_cases hs : x.shape < 0
 · rw [if_pos hs] at *
   rw [← hl]; exact ixFrom_lt h0
 · rw [if_neg hs] at *
   obtain ⟨s, h1, h2, h3⟩ := h.fast (by omega)
   simp only [findP, h1] at *
   by_cases hk : keyIx s.l key < 0
   · simp [if_pos hk] at h0
   · simp only [if_neg hk] at *
     have h4 := keyIx_lt (l := s.l) (key := key) (by omega)
     have h5 : s.l.length = x.vals.length := by have := congrArg List.length h3; simpa using this
     cases hg : s.l[(keyIx s.l key).toNat]? with
     | none => rw [hg] at h0; simp at h0
     | some p => rw [hg] at *; simp only [if_true] at *; omega
abbrev descV (d : DescP) : Value := .agg #[.int .u64 d.1, .int .u64 d.2.1, .int .i64 d.2.2]
def descR : Option DescP → Value
 | some d => .tuple #[descV d, .bool true]
 | none => .tuple #[descV (0, 0, 0), .bool false]
def getO (t : TreeP) (x : ObjL) (key : ByteArray) : Option DescP := if placeO t x.shape x.names key < 0 then none else x.vals[(placeO t x.shape x.names key).toNat]?
def slotO (x : ObjL) (n : Int) : Option DescP := if 0 ≤ n ∧ n < x.vals.length then x.vals[n.toNat]? else none
def elemO (l : List Int) (n : Int) : Int × Bool := if 0 ≤ n ∧ n < l.length then (match l[n.toNat]? with | some w => if w = 18445336698825998340 then (18445336698825998336, false) else (w, true) | none => (18445336698825998336, false)) else (18445336698825998336, false)
def setLenL (l : List Int) (n : Nat) : List Int := l.take n ++ List.replicate (n - l.length) 18445336698825998340
theorem setLenL_le {l : List Int} {n : Nat} (h : n ≤ l.length) : setLenL l n = l.take n := by unfold setLenL; rw [show n - l.length = 0 by omega]; simp
theorem setLenL_len (l : List Int) (n : Nat) : (setLenL l n).length = n := by unfold setLenL; simp; omega
theorem setLenL_self (l : List Int) : setLenL l l.length = l := by rw [setLenL_le (Nat.le_refl _), List.take_length]
theorem setLenL_snoc {l : List Int} {n : Nat} (h : l.length ≤ n) : setLenL l n ++ [18445336698825998340] = setLenL l (n + 1) := by
 unfold setLenL
 rw [List.take_of_length_le h, List.take_of_length_le (by omega), show n + 1 - l.length = (n - l.length) + 1 by omega, List.replicate_succ', List.append_assoc]
abbrev ObjL.withElems (x : ObjL) (g : Gs) (l : List Int) : ObjL := ⟨x.kind, x.proto, x.shut, x.shape, x.ns, x.names, x.vs, x.vals, g, l, x.is, x.inner, x.cell⟩
def fl15 (f : Int) : Int := IntKind.wrap .i64 ((BitVec.ofInt 64 f &&& BitVec.ofInt 64 15).toNat)
def normF (f : Int) : Int := if (IntKind.wrap .i64 ((BitVec.ofInt 64 (fl15 f) &&& BitVec.ofInt 64 8).toNat) != 0) = true then IntKind.wrap .i64 ((BitVec.ofInt 64 (fl15 f) &&& ~~~BitVec.ofInt 64 1).toNat) else fl15 f
structure PS where
  shape : Int
  names : List ByteArray
  vals : List DescP
def looseS (t : TreeP) (p : PS) : PS := if 0 ≤ p.shape then ⟨-1, keysP t p.shape, p.vals⟩ else p
def stepS (t : TreeP) (p : PS) (m : Int) (ok : Bool) : PS := if ok = true then ⟨m, p.names, p.vals⟩ else looseS t p
def putOld (t : TreeP) (p : PS) (key : ByteArray) (d o : DescP) : TreeP × PS :=
 if 0 ≤ p.shape ∧ (o.2.2 != d.2.2) = true then ((changeP t p.shape key d.2.2).1, stepS (changeP t p.shape key d.2.2).1 p (changeP t p.shape key d.2.2).2.1 (changeP t p.shape key d.2.2).2.2) else (t, p)
def putFast (t : TreeP) (p : PS) (key : ByteArray) (d : DescP) : TreeP × PS :=
 if 0 ≤ p.shape then ((addP t p.shape key d.2.2).1, stepS (addP t p.shape key d.2.2).1 p (addP t p.shape key d.2.2).2.1 (addP t p.shape key d.2.2).2.2) else (t, p)
def putName (p : PS) (key : ByteArray) : PS := if p.shape < 0 then ⟨p.shape, p.names ++ [key], p.vals⟩ else p
def putNew (t : TreeP) (p : PS) (key : ByteArray) (d : DescP) : TreeP × PS :=
 ((putFast t (if 16 ≤ p.vals.length then looseS t p else p) key d).1, ⟨(putName (putFast t (if 16 ≤ p.vals.length then looseS t p else p) key d).2 key).shape, (putName (putFast t (if 16 ≤ p.vals.length then looseS t p else p) key d).2 key).names, p.vals ++ [d]⟩)
def putS (t : TreeP) (p : PS) (key : ByteArray) (d : DescP) : TreeP × PS :=
 if 0 ≤ placeO t p.shape p.names key then
   match p.vals[(placeO t p.shape p.names key).toNat]? with
   | none => (t, p)
   | some o => ((putOld t p key d o).1, ⟨(putOld t p key d o).2.shape, (putOld t p key d o).2.names, p.vals.set (placeO t p.shape p.names key).toNat d⟩)
 else putNew t p key d
abbrev ObjL.ps (x : ObjL) : PS := ⟨x.shape, x.names, x.vals⟩
theorem HeapV.ok.chg (h : H.ok F) (hx : H.objs[n]? = some x) {cl : List CellL} (hc : CellsL.ok ⟨F.cp, H.cs, cl⟩) (br : Int) : ((H.break cl br).put n x.chg).ok F :=
 (h.withCells hc br).put (x := x) hx ⟨(h.at hx).ns, (h.at hx).vs, (h.at hx).es, (h.at hx).is⟩ (h.small x (List.mem_of_getElem? hx))
structure Same (x x' : ObjL) : Prop where
  kind : x'.kind = x.kind
  proto : x'.proto = x.proto
  shut : x'.shut = x.shut
  es : x'.es = x.es
  elems : x'.elems = x.elems
  is : x'.is = x.is
  inner : x'.inner = x.inner
  cell : x'.cell = if 0 ≤ x.cell then -1 else x.cell
abbrev HeapV.upd (H : HeapV) (n : Nat) (x : ObjL) (V : TreeV) (cl : List CellL) (br : Int) : HeapV := ⟨H.s, H.objs.set n x, H.ts, H.texts, H.known, V, H.cs, cl, br⟩
theorem keysP_len {V : TreeV} {T : TreeF} (h : V.ok T) (m : Int) : (keysP (V.abs T) m).length ≤ 1048576 := by
 unfold keysP shapeAt
 by_cases hm : 0 ≤ m ∧ m < (V.abs T).l.length
 · rw [if_pos hm]
   cases hs : (V.abs T).l[m.toNat]? with
   | none => simp
   | some s =>
     simp only [List.length_map]
     simp only [TreeV.abs, List.getElem?_map, Option.map_eq_some_iff] at hs
     obtain ⟨y, hy, rfl⟩ := hs
     have h1 := h.room _ _ hy
     have h2 := h.many
     have h3 := (List.getElem?_eq_some_iff.1 hy).1
     simp only [ShapeL.abs]; omega
 · rw [if_neg hm]; simp
theorem OInv.names {t : TreeP} {x : ObjL} (h : OInv t x) (hs : x.shape < 0) : x.names.length = x.vals.length := by
 have := h.len
 unfold keysOf at this
 rwa [if_pos hs] at this
theorem set_cells {l : List ObjL} {n : Nat} {a b : ObjL} (h : b.cells = a.cells) : (l.set n b).flatMap ObjL.cells = (l.set n a).flatMap ObjL.cells := by
 simp only [List.flatMap_def, List.map_set, h]
end Go.Proofs.YthflblophelioaaGreatDoor
namespace Go.Proofs.YthflblophelioaaGreatDoor
open Go.Sl

theorem keyIx_ixS (key : ByteArray) : ∀ (l : List PropP) (k : Nat), ixFrom (fun p : PropP => decide (p.1 = key)) l k = ixFrom (fun a : ByteArray => decide (a = key)) (l.map (·.1)) k
 | [], k => rfl
 | a :: r, k => by simp only [List.map_cons, ixFrom, keyIx_ixS key r (k + 1)]
theorem keyIx_eq (l : List PropP) (key : ByteArray) : keyIx l key = ixS (l.map (·.1)) key := keyIx_ixS key l 0
theorem ixS_none {l : List ByteArray} {key : ByteArray} : ixS l key < 0 ↔ key ∉ l := by
 unfold ixS
 rcases ixFrom_spec (p := fun a : ByteArray => decide (a = key)) l 0 with ⟨h1, h2⟩ | ⟨i, x, h1, h2, h3, _⟩
 · refine ⟨fun _ hm => ?_, fun _ => by omega⟩
   have := h2 key hm
   simp at this
 · refine ⟨fun h => by omega, fun h => absurd (List.mem_of_getElem? h2) ?_⟩
   simp only [decide_eq_true_eq] at h3
   subst h3; exact h
theorem ixS_some {l : List ByteArray} {key : ByteArray} (h : 0 ≤ ixS l key) : l[(ixS l key).toNat]? = some key := by
 unfold ixS at *
 rcases ixFrom_spec (p := fun a : ByteArray => decide (a = key)) l 0 with ⟨h1, h2⟩ | ⟨i, x, h1, h2, h3, _⟩
 · omega
 · simp only [decide_eq_true_eq] at h3
   subst h3
   rw [h1]; simpa using h2
theorem ixS_nn {l : List ByteArray} {key : ByteArray} (h : ¬ ixS l key < 0) : 0 ≤ ixS l key := by omega
theorem shapeAt_iff {t : TreeP} {n : Int} {s : ShapeP} : shapeAt t n = some s ↔ 0 ≤ n ∧ t.l[n.toNat]? = some s := by
 unfold shapeAt
 by_cases h : 0 ≤ n ∧ n < t.l.length
 · rw [if_pos h]; exact ⟨fun q => ⟨h.1, q⟩, fun q => q.2⟩
 · rw [if_neg h]
   refine ⟨fun q => absurd q (by simp), fun q => ?_⟩
   have := (List.getElem?_eq_some_iff.1 q.2).1
   omega
def stepL (l : List PropP) : StepP → List PropP
 | (false, k, f) => l ++ [(k, f)]
 | (true, k, f) => l.set (keyIx l k).toNat (k, f)
structure TInv (t : TreeP) : Prop where
  next : ∀ (i : Nat) s, t.l[i]? = some s → ∀ x m, mget s.next x = some m → 0 ≤ m ∧ ∃ s', t.l[m.toNat]? = some s' ∧ s'.proto = s.proto ∧ s'.l = stepL s.l x
  roots : ∀ p m, mget t.roots p = some m → 0 ≤ m ∧ ∃ s', t.l[m.toNat]? = some s' ∧ s'.proto = p ∧ s'.l = []
  nodup : ∀ (i : Nat) s, t.l[i]? = some s → (s.l.map (·.1)).Nodup
theorem TInv.nil (most : Int) : TInv ⟨most, [], []⟩ := ⟨fun i s h => by simp at h, fun p m h => by simp [mget] at h, fun i s h => by simp at h⟩
structure Ext (t t' : TreeP) : Prop where
  most : t'.most = t.most
  stay : ∀ (i : Nat) s, t.l[i]? = some s → ∃ s', t'.l[i]? = some s' ∧ s'.proto = s.proto ∧ s'.l = s.l
theorem Ext.refl (t : TreeP) : Ext t t := ⟨rfl, fun i s h => ⟨s, h, rfl, rfl⟩⟩
theorem Ext.trans {t t' t2 : TreeP} (h : Ext t t') (k : Ext t' t2) : Ext t t2 := ⟨k.most.trans h.most, fun i s hs => by
 obtain ⟨s', h1, h2, h3⟩ := h.stay i s hs
 obtain ⟨s2, k1, k2, k3⟩ := k.stay i s' h1
 exact ⟨s2, k1, k2.trans h2, k3.trans h3⟩⟩
theorem Ext.shape {t t' : TreeP} (h : Ext t t') {n : Int} {s : ShapeP} (hs : shapeAt t n = some s) : ∃ s', shapeAt t' n = some s' ∧ s'.proto = s.proto ∧ s'.l = s.l := by
 obtain ⟨h0, h1⟩ := shapeAt_iff.1 hs
 obtain ⟨s', h2, h3⟩ := h.stay _ _ h1
 exact ⟨s', shapeAt_iff.2 ⟨h0, h2⟩, h3⟩
structure Got (t t' : TreeP) (m : Int) (ok : Bool) (pr : Int) (l : List PropP) : Prop where
  inv : TInv t'
  ext : Ext t t'
  it : ok = true → ∃ s', shapeAt t' m = some s' ∧ s'.proto = pr ∧ s'.l = l
  more : t'.l.length ≤ t.l.length + 1
  full : (t.l.length : Int) < t.most → ok = true
theorem lay_inv {t : TreeP} (h : TInv t) {new : ShapeP} (hn : new.next = []) (hd : (new.l.map (·.1)).Nodup) (r : List (Int × Int)) (hr : ∀ p m, mget r p = some m → mget t.roots p = some m ∨ (m = t.l.length ∧ new.proto = p ∧ new.l = [])) :
   TInv ⟨t.most, t.l ++ [new], r⟩ ∧ Ext t ⟨t.most, t.l ++ [new], r⟩ := by
 have up : ∀ (i : Nat) s, t.l[i]? = some s → (t.l ++ [new])[i]? = some s := fun i s hs => by
   rw [List.getElem?_append_left (List.getElem?_eq_some_iff.1 hs).1]; exact hs
 have hnew : (t.l ++ [new])[t.l.length]? = some new := by simp
 have hat : ∀ (i : Nat) y, (t.l ++ [new])[i]? = some y → t.l[i]? = some y ∨ y = new := fun i y hy => by
   by_cases hi : i < t.l.length
   · rw [List.getElem?_append_left hi] at hy; exact .inl hy
   · rw [List.getElem?_append_right (by omega)] at hy
     have := (List.getElem?_eq_some_iff.1 hy).1
     simp at this
     rw [show i - t.l.length = 0 by omega] at hy
     simp at hy; exact .inr hy.symm
 refine ⟨⟨fun i y hy x m hm => ?_, fun p m hm => ?_, fun i y hy => ?_⟩, rfl, fun i s hs => ⟨s, up i s hs, rfl, rfl⟩⟩
 · rcases hat i y hy with h1 | rfl
   · obtain ⟨h0, s', h2, h3⟩ := h.next i y h1 x m hm
     exact ⟨h0, s', up _ _ h2, h3⟩
   · rw [hn] at hm; cases hm
 · rcases hr p m hm with h1 | ⟨rfl, h2, h3⟩
   · obtain ⟨h0, s', h2, h3⟩ := h.roots p m h1
     exact ⟨h0, s', up _ _ h2, h3⟩
   · exact ⟨by omega, new, by simp, h2, h3⟩
 · rcases hat i y hy with h1 | rfl
   · exact h.nodup i y h1
   · exact hd
theorem set_inv {t : TreeP} (h : TInv t) {n : Nat} {s : ShapeP} (hs : t.l[n]? = some s) {x : StepP} {m : Int} (hm : 0 ≤ m ∧ ∃ s', t.l[m.toNat]? = some s' ∧ s'.proto = s.proto ∧ s'.l = stepL s.l x) :
   TInv ⟨t.most, t.l.set n ⟨s.proto, s.l, mset s.next x m⟩, t.roots⟩ ∧ Ext t ⟨t.most, t.l.set n ⟨s.proto, s.l, mset s.next x m⟩, t.roots⟩ := by
 have hlt := (List.getElem?_eq_some_iff.1 hs).1
 have up : ∀ (i : Nat) y, t.l[i]? = some y → ∃ y', (t.l.set n ⟨s.proto, s.l, mset s.next x m⟩)[i]? = some y' ∧ y'.proto = y.proto ∧ y'.l = y.l := fun i y hy => by
   by_cases e : n = i
   · subst e; rw [hs] at hy; cases hy; exact ⟨_, List.getElem?_set_self hlt, rfl, rfl⟩
   · exact ⟨y, by rw [List.getElem?_set_ne e]; exact hy, rfl, rfl⟩
 have hat : ∀ (i : Nat) y, (t.l.set n ⟨s.proto, s.l, mset s.next x m⟩)[i]? = some y → (i = n ∧ y = ⟨s.proto, s.l, mset s.next x m⟩) ∨ t.l[i]? = some y := fun i y hy => by
   by_cases e : n = i
   · subst e; rw [List.getElem?_set_self hlt] at hy; exact .inl ⟨rfl, by simpa using hy.symm⟩
   · rw [List.getElem?_set_ne e] at hy; exact .inr hy
 have go : ∀ (k : Int) (a : Int) (b : List PropP), (0 ≤ k ∧ ∃ s', t.l[k.toNat]? = some s' ∧ s'.proto = a ∧ s'.l = b) → 0 ≤ k ∧ ∃ s', (t.l.set n ⟨s.proto, s.l, mset s.next x m⟩)[k.toNat]? = some s' ∧ s'.proto = a ∧ s'.l = b := fun k a b ⟨h0, s', h1, h2, h3⟩ => by
   obtain ⟨y, g1, g2, g3⟩ := up _ _ h1
   exact ⟨h0, y, g1, g2.trans h2, g3.trans h3⟩
 refine ⟨⟨fun i y hy x' m' hm' => ?_, fun p k hk => go _ _ _ (h.roots p k hk), fun i y hy => ?_⟩, rfl, up⟩
 · rcases hat i y hy with ⟨rfl, rfl⟩ | h1
   · simp only [mget_mset] at hm'
     by_cases e : x = x'
     · subst e; rw [if_pos rfl] at hm'; cases hm'; exact go _ _ _ hm
     · rw [if_neg e] at hm'; exact go _ _ _ (h.next i s hs x' m' hm')
   · exact go _ _ _ (h.next i y h1 x' m' hm')
 · rcases hat i y hy with ⟨rfl, rfl⟩ | h1
   · exact h.nodup i s hs
   · exact h.nodup i y h1
theorem wayP_got {t : TreeP} (h : TInv t) {n : Nat} {s : ShapeP} (hs : t.l[n]? = some s) {x : StepP} {l : List PropP} (hl : l = stepL s.l x) (hd : (l.map (·.1)).Nodup) :
   Got t (wayP t n x l).1 (wayP t n x l).2.1 (wayP t n x l).2.2 s.proto l := by
 unfold wayP
 rw [hs]
 simp only []
 cases hm : mget s.next x with
 | some m =>
   obtain ⟨h0, s', h1, h2, h3⟩ := h.next n s hs x m hm
   exact ⟨h, Ext.refl t, fun _ => ⟨s', shapeAt_iff.2 ⟨h0, h1⟩, h2, by rw [h3, hl]⟩, by simp, fun _ => rfl⟩
 | none =>
   unfold layP
   by_cases hf : t.most ≤ t.l.length
   · simp only [if_pos hf]
     exact ⟨h, Ext.refl t, fun q => (by cases q), by simp, fun q => by omega⟩
   · simp only [if_neg hf]
     obtain ⟨h1, h2⟩ := lay_inv h (new := ⟨s.proto, l, []⟩) rfl hd t.roots (fun p m q => .inl q)
     have hlt := (List.getElem?_eq_some_iff.1 hs).1
     have hs1 : (t.l ++ [(⟨s.proto, l, []⟩ : ShapeP)])[n]? = some s := by rw [List.getElem?_append_left hlt]; exact hs
     have hnew : (t.l ++ [(⟨s.proto, l, []⟩ : ShapeP)])[t.l.length]? = some ⟨s.proto, l, []⟩ := by simp
     obtain ⟨h3, h4⟩ := set_inv h1 hs1 (x := x) (m := (t.l.length : Int)) ⟨by omega, ⟨s.proto, l, []⟩, by simp, rfl, hl⟩
     refine ⟨h3, h2.trans h4, fun _ => ⟨⟨s.proto, l, []⟩, shapeAt_iff.2 ⟨by omega, ?_⟩, rfl, rfl⟩, by simp, fun _ => rfl⟩
     simp only [Int.toNat_natCast]
     rw [List.getElem?_set_ne (by omega)]
     exact hnew
theorem addP_got {t : TreeP} (h : TInv t) {n : Int} {s : ShapeP} (hs : shapeAt t n = some s) {key : ByteArray} (flags : Int) (hk : key ∉ s.l.map (·.1)) :
   Got t (addP t n key flags).1 (addP t n key flags).2.1 (addP t n key flags).2.2 s.proto (s.l ++ [(key, flags)]) := by
 have hk' : ¬ keyIx s.l key ≥ 0 := by have := ixS_none.2 hk; rw [keyIx_eq]; omega
 unfold addP
 rw [hs]
 simp only [if_neg hk']
 obtain ⟨h0, h1⟩ := shapeAt_iff.1 hs
 refine wayP_got h h1 rfl ?_
 rw [List.map_append, List.nodup_append]
 refine ⟨h.nodup _ _ h1, by simp, fun a ha b hb => ?_⟩
 simp only [List.map_cons, List.map_nil, List.mem_singleton] at hb
 subst hb
 rintro rfl
 exact hk ha
theorem set_keys {l : List PropP} {i : Nat} {p : PropP} (hp : l[i]? = some p) (f : Int) : (l.set i (p.1, f)).map (·.1) = l.map (·.1) := by
 rw [List.map_set]
 exact set_same (by simp [hp])
theorem changeP_got {t : TreeP} (h : TInv t) {n : Int} {s : ShapeP} (hs : shapeAt t n = some s) {key : ByteArray} (flags : Int) (hk : key ∈ s.l.map (·.1)) :
   Got t (changeP t n key flags).1 (changeP t n key flags).2.1 (changeP t n key flags).2.2 s.proto (s.l.set (keyIx s.l key).toNat (key, flags)) := by
 have h0 : 0 ≤ ixS (s.l.map (·.1)) key := by
   by_cases q : ixS (s.l.map (·.1)) key < 0
   · exact absurd hk (ixS_none.1 q)
   · omega
 have h1 := ixS_some h0
 have hk' : ¬ keyIx s.l key < 0 := by rw [keyIx_eq]; omega
 rw [← keyIx_eq, List.getElem?_map, Option.map_eq_some_iff] at h1
 obtain ⟨p, h2, h3⟩ := h1
 unfold changeP
 rw [hs]
 simp only [if_neg hk', h2]
 obtain ⟨g0, g1⟩ := shapeAt_iff.1 hs
 by_cases he : (p.2 == flags) = true
 · rw [if_pos he]
   have e : s.l.set (keyIx s.l key).toNat (key, flags) = s.l := by
     refine set_same ?_
     rw [h2]
     simp only [beq_iff_eq] at he
     rw [← he, ← h3]
   rw [e]
   exact ⟨h, Ext.refl t, fun _ => ⟨s, hs, rfl, rfl⟩, by simp, fun _ => rfl⟩
 · rw [if_neg he]
   have := wayP_got h g1 (x := (true, p.1, flags)) (l := s.l.set (keyIx s.l key).toNat (p.1, flags)) (by rw [h3]; rfl) (by rw [set_keys h2]; exact h.nodup _ _ g1)
   rw [h3] at this ⊢
   exact this
theorem rootP_got {t : TreeP} (h : TInv t) (pr : Int) : Got t (rootP t pr).1 (rootP t pr).2.1 (rootP t pr).2.2 pr [] := by
 unfold rootP
 cases hm : mget t.roots pr with
 | some m =>
   obtain ⟨h0, s', h1, h2, h3⟩ := h.roots pr m hm
   exact ⟨h, Ext.refl t, fun _ => ⟨s', shapeAt_iff.2 ⟨h0, h1⟩, h2, h3⟩, by simp, fun _ => rfl⟩
 | none =>
   unfold layP
   by_cases hf : t.most ≤ t.l.length
   · simp only [if_pos hf]
     exact ⟨h, Ext.refl t, fun q => (by cases q), by simp, fun q => by omega⟩
   · simp only [if_neg hf]
     obtain ⟨h1, h2⟩ := lay_inv h (new := ⟨pr, [], []⟩) rfl (by simp) (mset t.roots pr t.l.length) (fun p m q => by
       rw [mget_mset] at q
       by_cases e : pr = p
       · rw [if_pos e] at q; cases q; exact .inr ⟨rfl, e, rfl⟩
       · rw [if_neg e] at q; exact .inl q)
     exact ⟨h1, h2, fun _ => ⟨⟨pr, [], []⟩, shapeAt_iff.2 ⟨by omega, by simp⟩, rfl, rfl⟩, by simp, fun _ => rfl⟩
theorem moveGo_got {pr : Int} : ∀ (rest pre : List PropP) (t : TreeP) (m : Int) (ok : Bool), TInv t → (ok = true → ∃ s', shapeAt t m = some s' ∧ s'.proto = pr ∧ s'.l = pre) → ((pre ++ rest).map (·.1)).Nodup →
   TInv (moveGo t m ok rest).1 ∧ Ext t (moveGo t m ok rest).1 ∧ ((moveGo t m ok rest).2.2 = true → ∃ s', shapeAt (moveGo t m ok rest).1 (moveGo t m ok rest).2.1 = some s' ∧ s'.proto = pr ∧ s'.l = pre ++ rest)
 | [], pre, t, m, ok, h, hi, hd => ⟨h, Ext.refl t, fun q => by simpa [moveGo] using hi q⟩
 | p :: rest, pre, t, m, ok, h, hi, hd => by
   unfold moveGo
   by_cases hok : ok = false
   · rw [if_pos hok]; exact ⟨h, Ext.refl t, fun q => by cases q⟩
   · rw [if_neg hok]
     obtain ⟨s', h1, h2, h3⟩ := hi (by simpa using hok)
     have hn : p.1 ∉ s'.l.map (·.1) := by
       rw [h3]
       rw [List.map_append, List.nodup_append] at hd
       intro hm
       exact hd.2.2 _ hm p.1 (by simp) rfl
     have g := addP_got h h1 p.2 hn
     obtain ⟨a, b, c⟩ := moveGo_got (pr := pr) rest (pre ++ [p]) _ _ _ g.inv (fun q => by
       obtain ⟨s2, q1, q2, q3⟩ := g.it q
       exact ⟨s2, q1, q2.trans h2, by rw [q3, h3]⟩) (by simpa using hd)
     exact ⟨a, g.ext.trans b, fun q => by simpa using c q⟩
theorem moveP_got {t : TreeP} (h : TInv t) {n : Int} {s : ShapeP} (hs : shapeAt t n = some s) (pr : Int) :
   TInv (moveP t n pr).1 ∧ Ext t (moveP t n pr).1 ∧ ((moveP t n pr).2.2 = true → ∃ s', shapeAt (moveP t n pr).1 (moveP t n pr).2.1 = some s' ∧ s'.proto = pr ∧ s'.l = s.l) := by
 unfold moveP
 rw [hs]
 simp only []
 have g := rootP_got h pr
 obtain ⟨a, b, c⟩ := moveGo_got (pr := pr) s.l [] _ _ _ g.inv g.it (by simpa using h.nodup _ _ (shapeAt_iff.1 hs).2)
 exact ⟨a, g.ext.trans b, by simpa using c⟩

def keysPS (t : TreeP) (p : PS) : List ByteArray := if p.shape < 0 then p.names else keysP t p.shape
structure PInv (t : TreeP) (rk : Int) (p : PS) : Prop where
  fast : 0 ≤ p.shape → ∃ s, shapeAt t p.shape = some s ∧ s.proto = rk ∧ s.l.map (·.2) = p.vals.map (·.2.2)
  len : (keysPS t p).length = p.vals.length
  nodup : (keysPS t p).Nodup
  stale : 0 ≤ p.shape → p.names = []
theorem OInv.ps {t : TreeP} {x : ObjL} (h : OInv t x) : PInv t (rootKey x.proto x.kind) x.ps := ⟨h.fast, h.len, h.nodup, h.stale⟩
theorem PInv.obj {t : TreeP} {x : ObjL} (h : PInv t (rootKey x.proto x.kind) x.ps) : OInv t x := ⟨h.fast, h.len, h.nodup, h.stale⟩
theorem keysP_at {t : TreeP} {n : Int} {s : ShapeP} (hs : shapeAt t n = some s) : keysP t n = s.l.map (·.1) := by unfold keysP; rw [hs]
theorem keysPS_fast {t : TreeP} {p : PS} {s : ShapeP} (h0 : 0 ≤ p.shape) (hs : shapeAt t p.shape = some s) : keysPS t p = s.l.map (·.1) := by unfold keysPS; rw [if_neg (by omega), keysP_at hs]
theorem keysPS_slow {t : TreeP} {p : PS} (h0 : p.shape < 0) : keysPS t p = p.names := by unfold keysPS; rw [if_pos h0]
theorem keysP_ext {t t' : TreeP} (he : Ext t t') {n : Int} {s : ShapeP} (hs : shapeAt t n = some s) : keysP t' n = keysP t n := by
 obtain ⟨s', h1, h2, h3⟩ := he.shape hs
 rw [keysP_at hs, keysP_at h1, h3]
theorem PInv.ext {t t' : TreeP} {rk : Int} {p : PS} (h : PInv t rk p) (he : Ext t t') : PInv t' rk p ∧ keysPS t' p = keysPS t p := by
 have hk : keysPS t' p = keysPS t p := by
   unfold keysPS
   by_cases hs : p.shape < 0
   · rw [if_pos hs, if_pos hs]
   · rw [if_neg hs, if_neg hs]
     obtain ⟨s, h1, h2, h3⟩ := h.fast (by omega)
     exact keysP_ext he h1
 refine ⟨⟨fun h0 => ?_, by rw [hk]; exact h.len, by rw [hk]; exact h.nodup, h.stale⟩, hk⟩
 obtain ⟨s, h1, h2, h3⟩ := h.fast h0
 obtain ⟨s', g1, g2, g3⟩ := he.shape h1
 exact ⟨s', g1, g2.trans h2, by rw [g3]; exact h3⟩
theorem OInv.ext {t t' : TreeP} {x : ObjL} (h : OInv t x) (he : Ext t t') : OInv t' x ∧ keysOf t' x = keysOf t x := by
 obtain ⟨a, b⟩ := h.ps.ext he
 exact ⟨a.obj, b⟩
theorem placePS {t : TreeP} {rk : Int} {p : PS} (h : PInv t rk p) (key : ByteArray) : placeO t p.shape p.names key = (if ixS (keysPS t p) key < 0 then -1 else ixS (keysPS t p) key) := by
 have hneg : ∀ l : List ByteArray, ixS l key < 0 → ixS l key = -1 := fun l h => by
   unfold ixS at *
   rcases ixFrom_spec (p := fun a : ByteArray => decide (a = key)) l 0 with ⟨h1, h2⟩ | ⟨i, x, h1, h2, h3, _⟩
   · exact h1
   · omega
 unfold placeO keysPS
 by_cases hs : p.shape < 0
 · rw [if_pos hs, if_pos hs]
   split
   · next q => exact hneg _ q
   · rfl
 · rw [if_neg hs, if_neg hs]
   obtain ⟨s, h1, h2, h3⟩ := h.fast (by omega)
   rw [keysP_at h1]
   unfold findP
   rw [h1]
   simp only [keyIx_eq]
   by_cases hk : ixS (s.l.map (·.1)) key < 0
   · simp [if_pos hk]
   · rw [if_neg hk, if_neg hk]
     have := ixS_some (l := s.l.map (·.1)) (key := key) (by omega)
     rw [List.getElem?_map, Option.map_eq_some_iff] at this
     obtain ⟨q, hq, _⟩ := this
     rw [hq]; simp
theorem PInv.loose {t : TreeP} {rk : Int} {p : PS} (h : PInv t rk p) : PInv t rk (looseS t p) ∧ keysPS t (looseS t p) = keysPS t p ∧ (looseS t p).vals = p.vals ∧ (looseS t p).shape < 0 := by
 unfold looseS
 by_cases h0 : 0 ≤ p.shape
 · rw [if_pos h0]
   have hk : keysPS t ⟨-1, keysP t p.shape, p.vals⟩ = keysPS t p := by unfold keysPS; rw [if_pos (by simp), if_neg (by omega)]
   exact ⟨⟨fun q => absurd q (by simp), by rw [hk]; exact h.len, by rw [hk]; exact h.nodup, fun q => absurd q (by simp)⟩, hk, rfl, by simp⟩
 · rw [if_neg h0]; exact ⟨h, rfl, rfl, by omega⟩
theorem flags_set {vals : List DescP} {l : List Int} {i : Nat} {d : DescP} (h : l = vals.map (·.2.2)) : l.set i d.2.2 = (vals.set i d).map (·.2.2) := by rw [h, List.map_set]
structure Put (t t' : TreeP) (rk : Int) (p p' : PS) (key : ByteArray) (d : DescP) : Prop where
  inv : TInv t'
  ext : Ext t t'
  obj : PInv t' rk p'
  keys : keysPS t' p' = if ixS (keysPS t p) key < 0 then keysPS t p ++ [key] else keysPS t p
  vals : p'.vals = if ixS (keysPS t p) key < 0 then p.vals ++ [d] else p.vals.set (ixS (keysPS t p) key).toNat d
  more : t'.l.length ≤ t.l.length + 1
theorem PInv.shape_l {t : TreeP} {rk : Int} {p : PS} (h : PInv t rk p) (h0 : 0 ≤ p.shape) : ∃ s, shapeAt t p.shape = some s ∧ s.proto = rk ∧ s.l.map (·.2) = p.vals.map (·.2.2) ∧ keysPS t p = s.l.map (·.1) := by
 obtain ⟨s, h1, h2, h3⟩ := h.fast h0
 exact ⟨s, h1, h2, h3, by unfold keysPS; rw [if_neg (by omega), keysP_at h1]⟩
theorem putS_put {t : TreeP} (hT : TInv t) {rk : Int} {p : PS} (h : PInv t rk p) (key : ByteArray) (d : DescP) : Put t (putS t p key d).1 rk p (putS t p key d).2 key d := by
 unfold putS
 rw [placePS h]
 by_cases hk : ixS (keysPS t p) key < 0
 · rw [if_pos hk, if_neg (by decide)]
   have hkn := ixS_none.1 hk
   unfold putNew
   -- the object, loosed or not
   obtain ⟨p0, hp0, h0, k0, v0⟩ : ∃ p0, p0 = (if 16 ≤ p.vals.length then looseS t p else p) ∧ PInv t rk p0 ∧ keysPS t p0 = keysPS t p ∧ p0.vals = p.vals := by
     refine ⟨_, rfl, ?_⟩
     split
     · obtain ⟨a, b, c, _⟩ := h.loose; exact ⟨a, b, c⟩
     · exact ⟨h, rfl, rfl⟩
   rw [← hp0]
   -- the tree, and the object behind it
   obtain ⟨t1, p1, e1, hi1, he1, hm1, hc⟩ : ∃ t1 p1, putFast t p0 key d = (t1, p1) ∧ TInv t1 ∧ Ext t t1 ∧ t1.l.length ≤ t.l.length + 1 ∧
       ((p1.shape < 0 ∧ p1.names = keysPS t p) ∨ (0 ≤ p1.shape ∧ p1.names = [] ∧ ∃ s, shapeAt t1 p1.shape = some s ∧ s.proto = rk ∧ s.l.map (·.2) = p.vals.map (·.2.2) ++ [d.2.2] ∧ s.l.map (·.1) = keysPS t p ++ [key])) := by
     unfold putFast
     by_cases hs : 0 ≤ p0.shape
     · rw [if_pos hs]
       obtain ⟨s, g1, g2, g3, g4⟩ := h0.shape_l hs
       have g := addP_got hT g1 (key := key) d.2.2 (by rw [← g4, k0]; exact hkn)
       refine ⟨_, _, rfl, g.inv, g.ext, g.more, ?_⟩
       unfold stepS
       by_cases hok : (addP t p0.shape key d.2.2).2.2 = true
       · rw [if_pos hok]
         obtain ⟨s', a1, a2, a3⟩ := g.it hok
         refine .inr ⟨(shapeAt_iff.1 a1).1, h0.stale hs, s', a1, a2.trans g2, ?_, ?_⟩
         · rw [a3, List.map_append, g3, v0]; rfl
         · rw [a3, List.map_append, ← g4, k0]; rfl
       · rw [if_neg hok]
         unfold looseS
         rw [if_pos hs]
         refine .inl ⟨by simp, ?_⟩
         rw [← k0]
         simp only []
         rw [keysP_ext g.ext g1]
         unfold keysPS
         rw [if_neg (by omega)]
     · rw [if_neg hs]
       refine ⟨_, _, rfl, hT, Ext.refl t, by omega, .inl ⟨by omega, ?_⟩⟩
       rw [← k0]
       unfold keysPS
       rw [if_pos (by omega)]
   rw [e1]
   simp only []
   have hnd : (keysPS t p ++ [key]).Nodup := by
     rw [List.nodup_append]
     refine ⟨h.nodup, by simp, fun a ha b hb => ?_⟩
     simp only [List.mem_singleton] at hb
     subst hb
     rintro rfl
     exact hkn ha
   have hln : (keysPS t p ++ [key]).length = (p.vals ++ [d]).length := by simp [h.len]
   rcases hc with ⟨c1, c2⟩ | ⟨c1, c2, s, c3, c4, c5, c6⟩
   · have e2 : putName p1 key = ⟨p1.shape, p1.names ++ [key], p1.vals⟩ := by unfold putName; rw [if_pos c1]
     rw [e2]
     have hkk : keysPS t1 ⟨p1.shape, p1.names ++ [key], p.vals ++ [d]⟩ = keysPS t p ++ [key] := (keysPS_slow (p := ⟨p1.shape, p1.names ++ [key], p.vals ++ [d]⟩) c1).trans (by rw [c2])
     exact ⟨hi1, he1, ⟨fun q => absurd q (by simp only []; omega), by rw [hkk]; exact hln, by rw [hkk]; exact hnd, fun q => absurd q (by simp only []; omega)⟩, by rw [if_pos hk]; exact hkk, by rw [if_pos hk], hm1⟩
   · have e2 : putName p1 key = p1 := by unfold putName; rw [if_neg (by omega)]
     rw [e2]
     have hkk : keysPS t1 ⟨p1.shape, p1.names, p.vals ++ [d]⟩ = keysPS t p ++ [key] := (keysPS_fast (p := ⟨p1.shape, p1.names, p.vals ++ [d]⟩) c1 c3).trans c6
     exact ⟨hi1, he1, ⟨fun _ => ⟨s, c3, c4, by rw [c5]; simp⟩, by rw [hkk]; exact hln, by rw [hkk]; exact hnd, fun _ => c2⟩, by rw [if_pos hk]; exact hkk, by rw [if_pos hk], hm1⟩
 · rw [if_neg hk, if_pos (by omega)]
   have hlt : (ixS (keysPS t p) key).toNat < p.vals.length := by
     have := (List.getElem?_eq_some_iff.1 (ixS_some (ixS_nn hk))).1
     rw [h.len] at this; exact this
   obtain ⟨o, ho⟩ : ∃ o, p.vals[(ixS (keysPS t p) key).toNat]? = some o := ⟨_, List.getElem?_eq_getElem hlt⟩
   rw [ho]
   simp only []
   have hkm : key ∈ keysPS t p := List.mem_of_getElem? (ixS_some (ixS_nn hk))
   obtain ⟨t1, p1, e1, hi1, he1, hm1, hc⟩ : ∃ t1 p1, putOld t p key d o = (t1, p1) ∧ TInv t1 ∧ Ext t t1 ∧ t1.l.length ≤ t.l.length + 1 ∧
       ((p1.shape < 0 ∧ p1.names = keysPS t p) ∨ (0 ≤ p1.shape ∧ p1.names = [] ∧ ∃ s, shapeAt t1 p1.shape = some s ∧ s.proto = rk ∧ s.l.map (·.2) = (p.vals.set (ixS (keysPS t p) key).toNat d).map (·.2.2) ∧ s.l.map (·.1) = keysPS t p)) := by
     unfold putOld
     by_cases hs : 0 ≤ p.shape
     · obtain ⟨s, g1, g2, g3, g4⟩ := h.shape_l hs
       by_cases hne : (o.2.2 != d.2.2) = true
       · rw [if_pos ⟨hs, hne⟩]
         have g := changeP_got hT g1 (key := key) d.2.2 (by rw [← g4]; exact hkm)
         refine ⟨_, _, rfl, g.inv, g.ext, g.more, ?_⟩
         unfold stepS
         by_cases hok : (changeP t p.shape key d.2.2).2.2 = true
         · rw [if_pos hok]
           obtain ⟨s', a1, a2, a3⟩ := g.it hok
           refine .inr ⟨(shapeAt_iff.1 a1).1, h.stale hs, s', a1, a2.trans g2, ?_, ?_⟩
           · rw [a3, List.map_set, g3, keyIx_eq, ← g4]; exact flags_set rfl
           · rw [a3, g4]
             have h1 := ixS_some (ixS_nn hk)
             rw [g4, List.getElem?_map, Option.map_eq_some_iff, ← keyIx_eq] at h1
             obtain ⟨q, h2, h3⟩ := h1
             rw [← h3] at h2 ⊢
             exact set_keys h2 _
         · rw [if_neg hok]
           unfold looseS
           rw [if_pos hs]
           refine .inl ⟨by simp, ?_⟩
           simp only []
           rw [keysP_ext g.ext g1]
           unfold keysPS
           rw [if_neg (by omega)]
       · rw [if_neg (fun q => hne q.2)]
         refine ⟨_, _, rfl, hT, Ext.refl t, by omega, .inr ⟨hs, h.stale hs, s, g1, g2, ?_, g4.symm⟩⟩
         rw [g3, List.map_set]
         simp only [bne_iff_ne, ne_eq, Decidable.not_not] at hne
         exact (set_same (by simp [ho, hne])).symm
     · rw [if_neg (fun q => hs q.1)]
       exact ⟨_, _, rfl, hT, Ext.refl t, by omega, .inl ⟨by omega, by unfold keysPS; rw [if_pos (by omega)]⟩⟩
   rw [e1]
   simp only []
   have hln : (keysPS t p).length = (p.vals.set (ixS (keysPS t p) key).toNat d).length := by simp [h.len]
   rcases hc with ⟨c1, c2⟩ | ⟨c1, c2, s, c3, c4, c5, c6⟩
   · have hkk : keysPS t1 ⟨p1.shape, p1.names, p.vals.set (ixS (keysPS t p) key).toNat d⟩ = keysPS t p := (keysPS_slow (p := ⟨p1.shape, p1.names, p.vals.set (ixS (keysPS t p) key).toNat d⟩) c1).trans c2
     exact ⟨hi1, he1, ⟨fun q => absurd q (by simp only []; omega), by rw [hkk]; exact hln, by rw [hkk]; exact h.nodup, fun q => absurd q (by simp only []; omega)⟩, by rw [if_neg hk]; exact hkk, by rw [if_neg hk], hm1⟩
   · have hkk : keysPS t1 ⟨p1.shape, p1.names, p.vals.set (ixS (keysPS t p) key).toNat d⟩ = keysPS t p := (keysPS_fast (p := ⟨p1.shape, p1.names, p.vals.set (ixS (keysPS t p) key).toNat d⟩) c1 c3).trans c6
     exact ⟨hi1, he1, ⟨fun _ => ⟨s, c3, c4, c5⟩, by rw [hkk]; exact hln, by rw [hkk]; exact h.nodup, fun _ => c2⟩, by rw [if_neg hk]; exact hkk, by rw [if_neg hk], hm1⟩
end Go.Proofs.YthflblophelioaaGreatDoor
namespace Go.Proofs.YthflblophelioaaGreatDoor
open Go.Sl

theorem word_payload {W0 : World} {w tag : Int} (ht : 0 ≤ tag ∧ tag < 65536) : SC Tryz.prog W0 110 #[.int .u64 w, .int .u64 tag] [] (Ret (fun _ : Unit => []) (fun v _ => v = (match tagOf w tag with | some n => .tuple #[.int .u32 (n : Int), .bool true] | none => .tuple #[.int .u32 0, .bool false]))) := by
 refine SC_body (fn := Tryz.f110) (n := 13) Tryz.func110 rfl (by kernel_rfl) (ρ := [(0, .int .u64 w), (1, .int .u64 tag)]) rfl ?_
 refine sr ?_
 refine os 2 ?_
 refine nq ?_
 refine sr ?_
 refine os 1 ?_
 refine oX (.int .u64 (Int.fdiv w 4294967296)) (.int .u64 (w / 4294967296)) (congrArg (Value.int .u64) (Int.fdiv_eq_ediv_of_nonneg _ (by omega))) ?_
 refine os 1 ?_
 refine oX (.int .u64 (IntKind.wrap .u64 (tag * 65536))) (.int .u64 (tag * 65536)) (congrArg (Value.int .u64) (IntWalk.u64_in _ (by omega))) ?_
 refine os 1 ?_
 refine kp [10, 5, 4, 0, 1] ?_
 refine nt ?_
 refine cd (fun hc1 : ((w / 4294967296) != (tag * 65536)) = true => ?_) (fun hc1 => ?_)
 ·refine sr ?_
  refine os 2 ?_
  refine nt ?_
  refine Qi (Qm ?_)
  refine Qg (.tuple #[.int .u32 0, .bool false]) (fun _ => rfl) ?_
  exact ⟨(), Own.of_perm (List.Perm.refl _), by simp only [tagOf, if_neg (show ¬ (w / 4294967296 = tag * 65536) from by simp at hc1; omega)]⟩
 refine Ql (Qj ?_)
 refine sr ?_
 refine os 1 ?_
 refine oV (.int .u32 (IntKind.wrap .u32 (w))) ?_
 refine os 2 ?_
 refine nt ?_
 refine Qi ?_
 refine Qg (.tuple #[.int .u32 (IntKind.wrap .u32 (w)), .bool true]) (fun _ => rfl) ?_
 exact ⟨(), Own.of_perm (List.Perm.refl _), by simp only [tagOf, if_pos (show w / 4294967296 = tag * 65536 from by simp at hc1; omega)]; rw [Int.toNat_of_nonneg (by omega)]; simp [IntKind.wrap, IntKind.bits, IntKind.signed]⟩

theorem word_IsObject {W0 : World} {w : Int} : SC Tryz.prog W0 85 #[.int .u64 w] [] (Ret (fun _ : Unit => []) (fun v _ => v = (match tagOf w 65530 with | some n => .tuple #[.int .u32 (n : Int), .bool true] | none => .tuple #[.int .u32 0, .bool false]))) := by
 refine SC_body (fn := Tryz.f85) (n := 8) Tryz.func85 rfl (by kernel_rfl) (ρ := [(0, .int .u64 w)]) rfl ?_
 refine sr ?_
 refine os 2 ?_
 refine nsr ?_
 refine os 1 ?_
 rcases hm1 : tagOf w 65530 with _ | m1
 ·refine L (cl (word_payload (w := w) (tag := 65530) (by omega)) ?_)
  rintro v1 _ hv1
  obtain rfl : v1 = .tuple #[.int .u32 0, .bool false] := hv1.trans (by rw [hm1])
  refine un ?_
  refine os 4 ?_
  refine kp [3, 2, 0] ?_
  refine nt ?_
  refine Qi ?_
  refine Qg (.tuple #[.int .u32 0, .bool false]) (fun _ => rfl) ?_
  exact ⟨(), Own.of_perm (List.Perm.refl _), rfl⟩
 refine L (cl (word_payload (w := w) (tag := 65530) (by omega)) ?_)
 rintro v2 _ hv2
 obtain rfl : v2 = .tuple #[.int .u32 (m1 : Int), .bool true] := hv2.trans (by rw [hm1])
 refine un ?_
 refine os 4 ?_
 refine kp [3, 2, 0] ?_
 refine nt ?_
 refine Qi ?_
 refine Qg (.tuple #[.int .u32 (m1 : Int), .bool true]) (fun _ => rfl) ?_
 exact ⟨(), Own.of_perm (List.Perm.refl _), rfl⟩

theorem word_tagged {W0 : World} {tag : Int} (ht : 0 ≤ tag ∧ tag < 65536) {n : Int} (hn : 0 ≤ n ∧ n < 4294967296) : SC Tryz.prog W0 86 #[.int .u64 tag, .int .u32 n] [] (Ret (fun _ : Unit => []) (fun v _ => v = .int .u64 (tag * 281474976710656 + n))) := by
 refine SC_body (fn := Tryz.f86) (n := 10) Tryz.func86 rfl (by kernel_rfl) (ρ := [(0, .int .u64 tag), (1, .int .u32 n)]) rfl ?_
 refine sr ?_
 refine os 1 ?_
 refine nsr ?_
 refine os 1 ?_
 refine oX (.int .u64 (IntKind.wrap .u64 (tag * 281474976710656))) (.int .u64 (tag * 281474976710656)) (congrArg (Value.int .u64) (IntWalk.u64_in _ (by omega))) ?_
 refine os 2 ?_
 refine oX (.int .u64 (IntKind.wrap .u64 ((BitVec.ofInt 64 (tag * 281474976710656) ||| BitVec.ofInt 64 n).toNat))) (.int .u64 (tag * 281474976710656 + n)) (congrArg (Value.int .u64) (or_add ht hn)) ?_
 refine os 1 ?_
 refine kp [4, 0, 1] ?_
 refine nt ?_
 refine Qi ?_
 refine Qg (.int .u64 (tag * 281474976710656 + n)) (fun _ => rfl) ?_
 exact ⟨(), Own.of_perm (List.Perm.refl _), rfl⟩

theorem word_Object {W0 : World} {n : Int} (hn : 0 ≤ n ∧ n < 4294967296) : SC Tryz.prog W0 61 #[.int .u32 n] [] (Ret (fun _ : Unit => []) (fun v _ => v = .int .u64 (65530 * 281474976710656 + n))) := by
 refine SC_body (fn := Tryz.f61) (n := 5) Tryz.func61 rfl (by kernel_rfl) (ρ := [(0, .int .u32 n)]) rfl ?_
 refine sr ?_
 refine os 1 ?_
 refine nsr ?_
 refine os 1 ?_
 refine L (cl (word_tagged (tag := 65530) (n := n) (by omega) hn) ?_)
 rintro _ _ rfl
 refine un ?_
 refine os 1 ?_
 refine nt ?_
 refine Qi ?_
 refine Qg (.int .u64 (65530 * 281474976710656 + n)) (fun _ => rfl) ?_
 exact ⟨(), Own.of_perm (List.Perm.refl _), rfl⟩

end Go.Proofs.YthflblophelioaaGreatDoor
namespace Go.Proofs.YthflblophelioaaGreatDoor
open Go.Sl

theorem heap_at {W0 : World} {F : HeapF} {H : HeapV} (hH : H.ok F) (w : Int) : SC Tryz.prog W0 48 #[.pointer (some ⟨F.p, 0, none⟩), .int .u64 w] (HeapV.ent H F) (Ret (fun _ : Unit => H.ent F) (fun v _ => v = match objAt w H.objs.length with | some n => .pointer (some ⟨H.s.blk, n * 9, none⟩) | none => .pointer none)) := by
 refine SC_body (fn := Tryz.f48) (n := 30) Tryz.func48 rfl (by kernel_rfl) (ρ := [(0, pt F.p 0), (1, .int .u64 w)]) rfl ?_
 refine SW_sig _ HeapV.eq0 ?_
 refine sr ?_
 refine os 1 ?_
 refine nsr ?_
 refine os 1 ?_
 rcases hm1 : tagOf w 65530 with _ | m1
 ·refine L (cl (word_IsObject (w := w)) ?_)
  rintro v1 _ hv1
  obtain rfl : v1 = .tuple #[.int .u32 0, .bool false] := hv1.trans (by rw [hm1])
  refine un ?_
  refine os 5 ?_
  refine kp [6, 5, 4, 0, 1] ?_
  refine nq ?_
  refine sr ?_
  refine os 1 ?_
  refine oV (.bool true) ?_
  refine os 10 ?_
  refine kp [23, 6, 5, 4, 0, 1] ?_
  refine nt ?_
  refine ct ?_
  refine sr ?_
  refine os 1 ?_
  refine nt ?_
  refine Qi (Qm ?_)
  refine Qg (.pointer none) (fun _ => rfl) ?_
  exact ⟨(), HeapV.own, by simp only [objAt, hm1]⟩
 have hlt := tagOf_lt hm1
 refine L (cl (word_IsObject (w := w)) ?_)
 rintro v2 _ hv2
 obtain rfl : v2 = .tuple #[.int .u32 (m1 : Int), .bool true] := hv2.trans (by rw [hm1])
 refine un ?_
 refine os 5 ?_
 refine kp [6, 5, 4, 0, 1] ?_
 refine nq ?_
 refine sr ?_
 refine os 1 ?_
 refine oV (.bool false) ?_
 refine os 6 ?_
 refine L (ld ?_)
 refine os 3 ?_
 refine kp [23, 6, 5, 4, 0, 1] ?_
 refine nt ?_
 refine cdp (fun hc1 : (m1 : Int) ≥ (H.objs.length : Int) => ?_) (fun hc1 => ?_)
 ·refine sr ?_
  refine os 1 ?_
  refine nt ?_
  refine Qi (Qm ?_)
  refine Qg (.pointer none) (fun _ => rfl) ?_
  exact ⟨(), HeapV.own, by simp only [objAt, hm1]; rw [if_neg (by omega)]⟩
 refine Ql (Qj ?_)
 refine sr ?_
 refine os 3 ?_
 refine L (ld ?_)
 refine os 1 ?_
 refine L (ixg (m1 : Int) (m1 * 9) hH.row Tryz.underlying73 ?_)
 refine os 1 ?_
 refine kp [4, 23, 6, 5, 0, 1] ?_
 refine nt ?_
 refine Qi ?_
 refine Qg (pt (Gs.blk H.s) (m1 * 9)) (fun _ => rfl) ?_
 exact ⟨(), HeapV.own, by simp only [objAt, hm1]; rw [if_pos (by omega)]⟩

theorem heap_Kind_none {W0 : World} {F : HeapF} {H : HeapV} (hH : H.ok F) {w : Int} (h0 : objAt w H.objs.length = none)  : SC Tryz.prog W0 62 #[.pointer (some ⟨F.p, 0, none⟩), .int .u64 w] (HeapV.ent H F) (Ret (fun _ : Unit => H.ent F) (fun v _ => v = two (0, false))) := by
 refine SC_body (fn := Tryz.f62) (n := 16) Tryz.func62 rfl (by kernel_rfl) (ρ := [(0, pt F.p 0), (1, .int .u64 w)]) rfl ?_
 refine SW_sig _ HeapV.eq0 ?_
 refine sr ?_
 refine os 2 ?_
 refine nsr ?_
 refine os 2 ?_
 refine L (cl (heap_at hH w) ?_ (hp := HeapV.pm))
 rintro v1 _ hv1
 obtain rfl : v1 = .pointer none := hv1.trans (by rw [h0])
 refine SL_sig _ HeapV.eq ?_
 refine os 1 ?_
 refine kp [6, 5, 4, 0, 1] ?_
 refine nq ?_
 refine sr ?_
 refine os 1 ?_
 refine oV (.bool true) ?_
 refine nt ?_
 refine ct ?_
 refine sr ?_
 refine os 2 ?_
 refine nt ?_
 refine Qi (Qm ?_)
 refine Qg (.tuple #[.int .i64 0, .bool false]) (fun _ => rfl) ?_
 exact ⟨(), HeapV.own, rfl⟩

theorem heap_Kind_some {W0 : World} {F : HeapF} {H : HeapV} (hH : H.ok F) {w : Int} {n : Nat} {x : ObjL} (h0 : objAt w H.objs.length = some n) (hx : H.objs[n]? = some x)  : SC Tryz.prog W0 62 #[.pointer (some ⟨F.p, 0, none⟩), .int .u64 w] (HeapV.ent H F) (Ret (fun _ : Unit => H.ent F) (fun v _ => v = two (x.kind, true))) := by
 refine SC_body (fn := Tryz.f62) (n := 16) Tryz.func62 rfl (by kernel_rfl) (ρ := [(0, pt F.p 0), (1, .int .u64 w)]) rfl ?_
 refine SW_sig _ HeapV.eq0 ?_
 refine sr ?_
 refine os 2 ?_
 refine nsr ?_
 refine os 2 ?_
 refine L (cl (heap_at hH w) ?_ (hp := HeapV.pm))
 rintro v1 _ hv1
 obtain rfl : v1 = pt (Gs.blk H.s) (n * 9) := hv1.trans (by rw [h0])
 refine SL_sig _ HeapV.eq ?_
 refine os 1 ?_
 refine kp [6, 5, 4, 0, 1] ?_
 refine nq ?_
 refine sr ?_
 refine os 1 ?_
 refine oV (.bool false) ?_
 refine nt ?_
 refine cf ?_
 refine Ql (Qj ?_)
 refine sr ?_
 refine os 3 ?_
 refine L (ld ?_ (hc := Gs.cell hH.row (fun e he => (Qc (mem_h he))) (Qh ObjL.len hx (j := 0) (by decide) rfl)))
 refine os 2 ?_
 refine kp [5, 4, 11, 6, 0, 1] ?_
 refine nt ?_
 refine Qi ?_
 refine Qg (.tuple #[.int .i64 x.kind, .bool true]) (fun _ => rfl) ?_
 exact ⟨(), HeapV.own, rfl⟩

theorem heap_Proto_none {W0 : World} {F : HeapF} {H : HeapV} (hH : H.ok F) {w : Int} (h0 : objAt w H.objs.length = none)  : SC Tryz.prog W0 18 #[.pointer (some ⟨F.p, 0, none⟩), .int .u64 w] (HeapV.ent H F) (Ret (fun _ : Unit => H.ent F) (fun v _ => v = .int .u64 18445336698825998337)) := by
 refine SC_body (fn := Tryz.f18) (n := 15) Tryz.func18 rfl (by kernel_rfl) (ρ := [(0, pt F.p 0), (1, .int .u64 w)]) rfl ?_
 refine SW_sig _ HeapV.eq0 ?_
 refine sr ?_
 refine os 1 ?_
 refine nsr ?_
 refine os 2 ?_
 refine L (cl (heap_at hH w) ?_ (hp := HeapV.pm))
 rintro v1 _ hv1
 obtain rfl : v1 = .pointer none := hv1.trans (by rw [h0])
 refine SL_sig _ HeapV.eq ?_
 refine os 1 ?_
 refine kp [5, 4, 0, 1] ?_
 refine nq ?_
 refine sr ?_
 refine os 1 ?_
 refine oV (.bool true) ?_
 refine nt ?_
 refine ct ?_
 refine sr ?_
 refine os 1 ?_
 refine nt ?_
 refine Qi (Qm ?_)
 refine Qg (.int .u64 18445336698825998337) (fun _ => rfl) ?_
 exact ⟨(), HeapV.own, rfl⟩

theorem heap_Proto_some {W0 : World} {F : HeapF} {H : HeapV} (hH : H.ok F) {w : Int} {n : Nat} {x : ObjL} (h0 : objAt w H.objs.length = some n) (hx : H.objs[n]? = some x)  : SC Tryz.prog W0 18 #[.pointer (some ⟨F.p, 0, none⟩), .int .u64 w] (HeapV.ent H F) (Ret (fun _ : Unit => H.ent F) (fun v _ => v = .int .u64 x.proto)) := by
 refine SC_body (fn := Tryz.f18) (n := 15) Tryz.func18 rfl (by kernel_rfl) (ρ := [(0, pt F.p 0), (1, .int .u64 w)]) rfl ?_
 refine SW_sig _ HeapV.eq0 ?_
 refine sr ?_
 refine os 1 ?_
 refine nsr ?_
 refine os 2 ?_
 refine L (cl (heap_at hH w) ?_ (hp := HeapV.pm))
 rintro v1 _ hv1
 obtain rfl : v1 = pt (Gs.blk H.s) (n * 9) := hv1.trans (by rw [h0])
 refine SL_sig _ HeapV.eq ?_
 refine os 1 ?_
 refine kp [5, 4, 0, 1] ?_
 refine nq ?_
 refine sr ?_
 refine os 1 ?_
 refine oV (.bool false) ?_
 refine nt ?_
 refine cf ?_
 refine Ql (Qj ?_)
 refine sr ?_
 refine os 3 ?_
 refine L (ld ?_ (hc := Gs.cell hH.row (fun e he => (Qc (mem_h he))) (Qh ObjL.len hx (j := 1) (by decide) rfl)))
 refine os 1 ?_
 refine kp [4, 10, 5, 0, 1] ?_
 refine nt ?_
 refine Qi ?_
 refine Qg (.int .u64 x.proto) (fun _ => rfl) ?_
 exact ⟨(), HeapV.own, rfl⟩

theorem heap_Open_none {W0 : World} {F : HeapF} {H : HeapV} (hH : H.ok F) {w : Int} (h0 : objAt w H.objs.length = none)  : SC Tryz.prog W0 45 #[.pointer (some ⟨F.p, 0, none⟩), .int .u64 w] (HeapV.ent H F) (Ret (fun _ : Unit => H.ent F) (fun v _ => v = .bool false)) := by
 refine SC_body (fn := Tryz.f45) (n := 18) Tryz.func45 rfl (by kernel_rfl) (ρ := [(0, pt F.p 0), (1, .int .u64 w)]) rfl ?_
 refine SW_sig _ HeapV.eq0 ?_
 refine sr ?_
 refine os 1 ?_
 refine nsr ?_
 refine os 2 ?_
 refine L (cl (heap_at hH w) ?_ (hp := HeapV.pm))
 rintro v1 _ hv1
 obtain rfl : v1 = .pointer none := hv1.trans (by rw [h0])
 refine SL_sig _ HeapV.eq ?_
 refine os 1 ?_
 refine kp [5, 4, 0, 1] ?_
 refine nsr ?_
 refine os 1 ?_
 refine oV (.bool false) ?_
 refine os 8 ?_
 refine kp [4, 5, 0, 1] ?_
 refine nt ?_
 refine Qi ?_
 refine Qg (.bool false) (fun _ => rfl) ?_
 exact ⟨(), HeapV.own, rfl⟩

theorem heap_Open_some {W0 : World} {F : HeapF} {H : HeapV} (hH : H.ok F) {w : Int} {n : Nat} {x : ObjL} (h0 : objAt w H.objs.length = some n) (hx : H.objs[n]? = some x)  : SC Tryz.prog W0 45 #[.pointer (some ⟨F.p, 0, none⟩), .int .u64 w] (HeapV.ent H F) (Ret (fun _ : Unit => H.ent F) (fun v _ => v = .bool (!x.shut))) := by
 refine SC_body (fn := Tryz.f45) (n := 18) Tryz.func45 rfl (by kernel_rfl) (ρ := [(0, pt F.p 0), (1, .int .u64 w)]) rfl ?_
 refine SW_sig _ HeapV.eq0 ?_
 refine sr ?_
 refine os 1 ?_
 refine nsr ?_
 refine os 2 ?_
 refine L (cl (heap_at hH w) ?_ (hp := HeapV.pm))
 rintro v1 _ hv1
 obtain rfl : v1 = pt (Gs.blk H.s) (n * 9) := hv1.trans (by rw [h0])
 refine SL_sig _ HeapV.eq ?_
 refine os 1 ?_
 refine kp [5, 4, 0, 1] ?_
 refine nsr ?_
 refine os 1 ?_
 refine oV (.bool true) ?_
 refine os 4 ?_
 refine L (ld ?_ (hc := Gs.cell hH.row (fun e he => (Qc (mem_h he))) (Qh ObjL.len hx (j := 2) (by decide) rfl)))
 refine os 3 ?_
 refine kp [4, 5, 0, 1] ?_
 refine nt ?_
 refine Qi ?_
 refine Qg (.bool (!x.shut)) (fun _ => rfl) ?_
 exact ⟨(), HeapV.own, rfl⟩

theorem heap_Len_none {W0 : World} {F : HeapF} {H : HeapV} (hH : H.ok F) {w : Int} (h0 : objAt w H.objs.length = none)  : SC Tryz.prog W0 52 #[.pointer (some ⟨F.p, 0, none⟩), .int .u64 w] (HeapV.ent H F) (Ret (fun _ : Unit => H.ent F) (fun v _ => v = .int .i64 0)) := by
 refine SC_body (fn := Tryz.f52) (n := 16) Tryz.func52 rfl (by kernel_rfl) (ρ := [(0, pt F.p 0), (1, .int .u64 w)]) rfl ?_
 refine SW_sig _ HeapV.eq0 ?_
 refine sr ?_
 refine os 1 ?_
 refine nsr ?_
 refine os 2 ?_
 refine L (cl (heap_at hH w) ?_ (hp := HeapV.pm))
 rintro v1 _ hv1
 obtain rfl : v1 = .pointer none := hv1.trans (by rw [h0])
 refine SL_sig _ HeapV.eq ?_
 refine os 1 ?_
 refine kp [5, 4, 0, 1] ?_
 refine nq ?_
 refine sr ?_
 refine os 1 ?_
 refine oV (.bool true) ?_
 refine nt ?_
 refine ct ?_
 refine sr ?_
 refine os 1 ?_
 refine nt ?_
 refine Qi (Qm ?_)
 refine Qg (.int .i64 0) (fun _ => rfl) ?_
 exact ⟨(), HeapV.own, rfl⟩

theorem heap_Len_some {W0 : World} {F : HeapF} {H : HeapV} (hH : H.ok F) {w : Int} {n : Nat} {x : ObjL} (h0 : objAt w H.objs.length = some n) (hx : H.objs[n]? = some x)  : SC Tryz.prog W0 52 #[.pointer (some ⟨F.p, 0, none⟩), .int .u64 w] (HeapV.ent H F) (Ret (fun _ : Unit => H.ent F) (fun v _ => v = .int .i64 x.elems.length)) := by
 refine SC_body (fn := Tryz.f52) (n := 16) Tryz.func52 rfl (by kernel_rfl) (ρ := [(0, pt F.p 0), (1, .int .u64 w)]) rfl ?_
 refine SW_sig _ HeapV.eq0 ?_
 refine sr ?_
 refine os 1 ?_
 refine nsr ?_
 refine os 2 ?_
 refine L (cl (heap_at hH w) ?_ (hp := HeapV.pm))
 rintro v1 _ hv1
 obtain rfl : v1 = pt (Gs.blk H.s) (n * 9) := hv1.trans (by rw [h0])
 refine SL_sig _ HeapV.eq ?_
 refine os 1 ?_
 refine kp [5, 4, 0, 1] ?_
 refine nq ?_
 refine sr ?_
 refine os 1 ?_
 refine oV (.bool false) ?_
 refine nt ?_
 refine cf ?_
 refine Ql (Qj ?_)
 refine sr ?_
 refine os 3 ?_
 refine L (ld ?_ (hc := Gs.cell hH.row (fun e he => (Qc (mem_h he))) (Qh ObjL.len hx (j := 6) (by decide) rfl)))
 refine os 2 ?_
 refine kp [4, 10, 5, 0, 1] ?_
 refine nt ?_
 refine Qi ?_
 refine Qg (.int .i64 (x.elems.length : Int)) (fun _ => rfl) ?_
 exact ⟨(), HeapV.own, rfl⟩

theorem heap_Shape_some {W0 : World} {F : HeapF} {H : HeapV} (hH : H.ok F) {w : Int} {n : Nat} {x : ObjL} (h0 : objAt w H.objs.length = some n) (hx : H.objs[n]? = some x)  : SC Tryz.prog W0 25 #[.pointer (some ⟨F.p, 0, none⟩), .int .u64 w] (HeapV.ent H F) (Ret (fun _ : Unit => H.ent F) (fun v _ => v = (if x.shape < 0 then two (0, false) else two (x.shape, true)))) := by
 refine SC_body (fn := Tryz.f25) (n := 23) Tryz.func25 rfl (by kernel_rfl) (ρ := [(0, pt F.p 0), (1, .int .u64 w)]) rfl ?_
 refine SW_sig _ HeapV.eq0 ?_
 refine sr ?_
 refine os 2 ?_
 refine nsr ?_
 refine os 2 ?_
 refine L (cl (heap_at hH w) ?_ (hp := HeapV.pm))
 rintro v1 _ hv1
 obtain rfl : v1 = pt (Gs.blk H.s) (n * 9) := hv1.trans (by rw [h0])
 refine SL_sig _ HeapV.eq ?_
 refine os 1 ?_
 refine kp [6, 5, 4, 0, 1] ?_
 refine nq ?_
 refine sr ?_
 refine os 1 ?_
 refine oV (.bool false) ?_
 refine os 4 ?_
 refine L (ld ?_ (hc := Gs.cell hH.row (fun e he => (Qc (mem_h he))) (Qh ObjL.len hx (j := 3) (by decide) rfl)))
 refine os 2 ?_
 refine kp [18, 6, 5, 4, 0, 1] ?_
 refine nt ?_
 refine cdp (fun hc1 : x.shape < 0 => ?_) (fun hc1 => ?_)
 ·refine sr ?_
  refine os 2 ?_
  refine nt ?_
  refine Qi (Qm ?_)
  refine Qg (.tuple #[.int .i64 0, .bool false]) (fun _ => rfl) ?_
  exact ⟨(), HeapV.own, by rw [if_pos (by omega)]⟩
 refine Ql (Qj ?_)
 refine sr ?_
 refine os 3 ?_
 refine L (ld ?_ (hc := Gs.cell hH.row (fun e he => (Qc (mem_h he))) (Qh ObjL.len hx (j := 3) (by decide) rfl)))
 refine os 2 ?_
 refine kp [5, 4, 18, 6, 0, 1] ?_
 refine nt ?_
 refine Qi ?_
 refine Qg (.tuple #[.int .i64 x.shape, .bool true]) (fun _ => rfl) ?_
 exact ⟨(), HeapV.own, by rw [if_neg (by omega)]⟩

theorem heap_Objects {W0 : World} {F : HeapF} {H : HeapV} (hH : H.ok F) : SC Tryz.prog W0 58 #[.pointer (some ⟨F.p, 0, none⟩)] (HeapV.ent H F) (Ret (fun _ : Unit => H.ent F) (fun v _ => v = .int .i64 H.objs.length)) := by
 refine SC_body (fn := Tryz.f58) (n := 8) Tryz.func58 rfl (by kernel_rfl) (ρ := [(0, pt F.p 0)]) rfl ?_
 refine SW_sig _ HeapV.eq0 ?_
 refine sr ?_
 refine os 1 ?_
 refine nsr ?_
 refine os 3 ?_
 refine L (ld ?_)
 refine os 2 ?_
 refine kp [2, 0] ?_
 refine nt ?_
 refine Qi ?_
 refine Qg (.int .i64 (H.objs.length : Int)) (fun _ => rfl) ?_
 exact ⟨(), HeapV.own, rfl⟩

end Go.Proofs.YthflblophelioaaGreatDoor
namespace Go.Proofs.YthflblophelioaaGreatDoor
open Go.Sl

theorem heap_changed {W0 : World} {F : HeapF} {H : HeapV} (hH : H.ok F) {n : Nat} {x : ObjL} (hx : H.objs[n]? = some x) {k : Nat} (hB : H.bud k) (hk : k ≤ 8000000) : SC Tryz.prog W0 97 #[.pointer (some ⟨F.p, 0, none⟩), .pointer (some ⟨Gs.blk H.s, n * 9, none⟩)] (HeapV.ent H F) (Ret (fun r : List CellL × Int => ((H.break r.1 r.2).put n x.chg).ent F) (fun v r => v = .tuple #[] ∧ CellsL.ok ⟨F.cp, H.cs, r.1⟩ ∧ Chg x.cell H.cl r.1)) := by
 have hnl := (List.getElem?_eq_some_iff.1 hx).1
 refine SC_body (fn := Tryz.f97) (n := 28) Tryz.func97 rfl (by kernel_rfl) (ρ := [(0, pt F.p 0), (1, pt (Gs.blk H.s) (n * 9))]) rfl ?_
 refine SW_sig _ HeapV.eq0 ?_
 refine sr ?_
 refine os 3 ?_
 refine L (ld ?_ (hc := Gs.cell hH.row (fun e he => (Qc (mem_h he))) (Qh ObjL.len hx (j := 8) (by decide) rfl)))
 refine os 1 ?_
 refine kp [8, 0, 1] ?_
 refine nt ?_
 refine cdp (fun hc1 : x.cell ≥ 0 => ?_) (fun hc1 => ?_)
 ·refine SW_seq ?_
  refine SW_draw [(F.p, 5, .int .i64 H.br), (F.p, 4, pt F.cp 0), ((Gs.blk H.s), n * 9 + 8, .int .i64 x.cell)] [0, 1, 2, 3, 4, 5, 6, 7, 8, 9, 10, 11, 12] (by kernel_rfl) (Qf (Cell.own Qe rfl) (Qf (Cell.own Qe rfl) (Qf (Gs.cell hH.row (fun e he => (Qc (mem_h he))) (Qh ObjL.len hx (j := 8) (by decide) rfl)) rd_nil))) ?_
  refine aS 0 ?_
  refine aS 1 ?_
  refine aF 2 ?_
  refine aL 3 ?_
  refine aS 4 ?_
  refine aS 5 ?_
  refine aF 6 ?_
  refine aL 7 ?_
  refine aS 8 ?_
  refine aS 9 ?_
  refine aF 10 ?_
  refine aL 11 ?_
  refine kpA [20, 16, 12, 9, 8, 0, 1] ?_
  refine sa1 true 12 (h := cl (cells_break hH.cells (Nat.le_trans hB.abv (Nat.le_trans hB.cl (by omega))) x.cell) ?_)
  rintro _ r ⟨rfl, hrok, hrb⟩
  refine ⟨fun hnd => (Qf (Cell.own (Qa Qe) rfl) (Qf (Cell.own (Qa Qe) rfl) (Qf (Gs.cell hH.row (fun e he => (Qa (Qc (mem_h he)))) (Qh ObjL.len hx (j := 8) (by decide) rfl)) rd_nil))), ?_⟩
  refine tk 13 (.int .i64 (IntKind.wrap .i64 (H.br + r.2))) ?_
  refine aS 14 ?_
  refine aF 15 ?_
  refine sa1 false 16 (h := st [Gs.val H.s H.objs.length, Gs.val H.ts H.texts.length, .map (some F.kb), pt F.T.p 0, pt F.cp 0, .int .i64 (IntKind.wrap .i64 (H.br + r.2))] ?_)
  refine ⟨fun hnd => (by cases hnd), ?_⟩
  refine kpA [8, 0, 1] ?_
  refine SA_done (by kernel_rfl) (Qj ?_)
  refine Qn ?_
  refine os 3 ?_
  have hok1 := Gs.ok.relen (ys := ((H.objs.set n (ObjL.mk x.kind x.proto x.shut x.shape x.ns x.names x.vs x.vals x.es x.elems x.is x.inner (-1))).flatMap ObjL.cells)) hH.row (by simp [flat_len ObjL.len])
  refine SL_perm _ (perm_cc (perm_ca perm_cz)) ?_
  refine L (O_storeG (ys := ((H.objs.set n (ObjL.mk x.kind x.proto x.shut x.shape x.ns x.names x.vs x.vals x.es x.elems x.is x.inner (-1))).flatMap ObjL.cells)) H.s (n * 9 + 8) (.int .i64 (-1)) [.int .i64 (-1)] (Gs.ok.ne hH.row (by first | omega | (simp; omega))) (fun _ => rfl) (fun _ => rfl) rfl (by kernel_rfl) rfl (by rw [flat_len ObjL.len]; simp; omega) (row_lay (j := 8) ObjL.len (ObjL.mk x.kind x.proto x.shut x.shape x.ns x.names x.vs x.vals x.es x.elems x.is x.inner (-1)) hx (Nat.le_of_ble_eq_true rfl) rfl) rfl ?_)
  refine SL_nil ?_
  refine body_end' (.tuple #[]) (fun _ => rfl) ?_
  refine ⟨(r.1, IntKind.wrap .i64 (H.br + r.2)), ?_, rfl, hrok, by unfold Chg; rw [if_pos (by omega)]; exact hrb⟩
  have e : ObjL.chg x = ObjL.mk x.kind x.proto x.shut x.shape x.ns x.names x.vs x.vals x.es x.elems x.is x.inner (-1) := by unfold ObjL.chg; rw [if_pos (by omega)]
  simp only [HeapV.put, HeapV.break, e]
  refine Own.trans (ow (S := ((F.p, .cells 75 6 [Gs.val H.s H.objs.length, Gs.val H.ts H.texts.length, .map (some F.kb), pt F.T.p 0, pt F.cp 0, .int .i64 (IntKind.wrap .i64 (H.br + r.2))]) :: ((Gs.ent 102 9 H.s ((H.objs.set n (ObjL.mk x.kind x.proto x.shut x.shape x.ns x.names x.vs x.vals x.es x.elems x.is x.inner (-1))).flatMap ObjL.cells)) ++ ((H.objs.flatMap ObjL.ent) ++ ((Gs.ent 9 1 H.ts (H.texts.map encS)) ++ ((F.kb, .map (kvs encS encU H.known)) :: ((TreeV.ent H.V F.T) ++ ((CellsL.ent (CellsL.mk F.cp H.cs r.1)) ++ ([])))))))))) ?_
  exact Own.of_perm (List.Perm.of_eq (by simp only [HeapV.ent, HeapV.head, HeapV.row, List.length_set, flat_same (f := ObjL.ent) (x' := ObjL.mk x.kind x.proto x.shut x.shape x.ns x.names x.vs x.vals x.es x.elems x.is x.inner (-1)) hx rfl]))
 refine Ql ?_
 refine body_end' (.tuple #[]) (fun _ => rfl) ?_
 refine ⟨(H.cl, H.br), ?_, rfl, hH.cells, by unfold Chg; rw [if_neg (by omega)]⟩
 have e : ObjL.chg x = x := by unfold ObjL.chg; rw [if_neg (by omega)]
 simp only [HeapV.put, HeapV.break, e, set_same hx]
 exact HeapV.own

theorem slices_index {W0 : World} {σ : Qp} {g : Gs} {l : List ByteArray} (hl : g.ok 1 l.length (l.map encS)) (hm : ∀ e ∈ g.ent 9 1 (l.map encS), e ∈ σ) (key : ByteArray) : SC Tryz.prog W0 113 #[g.val l.length, .string key] σ (Ret (fun _ : Unit => σ) (fun v _ => v = .int .i64 (ixS l key))) := by
 refine SC_body (fn := Tryz.f113) (n := 19) Tryz.func113 rfl (by kernel_rfl) (ρ := [(0, Gs.val g l.length), (1, .string key)]) rfl ?_
 refine SW_sig (σ ++ ([])) (by simp only [List.append_nil, List.append_assoc]) ?_
 have hcap : l.length ≤ maxLen := Nat.le_trans (Gs.ok.cap_le hl) (Gs.ok.cap_max hl)
 unfold maxLen at hcap
 refine sr ?_
 refine os 1 ?_
 refine nq ?_
 refine sr ?_
 refine os 3 ?_
 refine nt ?_
 refine SW_block ?_
 refine SW_loop (α := Nat) (fun z_ ρ_ σ_ => Fits ρ_ σ_ [(8, .int .i64 (z_ : Int)), (7, .int .i64 (l.length : Int)), (1, .string key), (0, Gs.val g l.length)] (σ ++ ([])) ∧ z_ ≤ l.length ∧ ixS l key = ixFrom (fun a : ByteArray => decide (a = key)) (l.drop z_) z_) (fun z_ => l.length - z_) 0 ⟨⟨fun _ => rfl, ow⟩, Nat.zero_le _, rfl⟩ ?_
 rintro i ρ_ σ_ ⟨hfit, hi0, hi1⟩
 refine SW_fits hfit ?_
 clear hfit
 refine sr ?_
 refine os 1 ?_
 refine nq ?_
 refine cdp (fun hc1 : (i : Int) < (l.length : Int) => ?_) (fun hc1 => ?_)
 ·refine Ql (Qj ?_)
  refine SW_seq ?_
  refine SW_block ?_
  refine sr ?_
  refine os 2 ?_
  refine nsr ?_
  refine os 3 ?_
  refine L (ixg (i : Int) (i) hl Tryz.underlying26 ?_)
  obtain ⟨e1, he1⟩ : ∃ y_, l[i]? = some y_ := ⟨_, List.getElem?_eq_getElem (by omega)⟩
  refine L (ld ?_ (hc := Gs.cell hl (fun e he => (mem_h (hm _ he))) (map_cell he1 rfl)))
  refine oX (.bool (key.toList == e1.toList)) (.bool (decide (key = e1))) (congrArg Value.bool (by rw [str_eq])) ?_
  refine kp [16, 5, 9, 8, 7, 1, 0] ?_
  refine nt ?_
  refine cdp (fun hc2 : key = e1 => ?_) (fun hc2 => ?_)
  ·refine sr ?_
   refine os 2 ?_
   refine nt ?_
   refine Qi (r_in (Qm (Qm (r_in (Qm ?_)))))
   refine Qg (.int .i64 (i : Int)) (fun _ => rfl) ?_
   exact ⟨(), ow, congrArg (Value.int .i64) (by rw [hi1, ixFrom_at he1, if_pos (by simp [hc2])])⟩
  refine Ql (n_in (Qj ?_))
  refine Qn ?_
  refine os 2 ?_
  refine nt ?_
  exact ⟨i + 1, by omega, ⟨fun _ => rfl, ow⟩, by omega, by rw [hi1, ixFrom_at he1, if_neg (by simp; exact fun h => hc2 h.symm)]⟩
 refine SW_exit (x_then (x_then (x_in (Qj ?_))))
 refine sr ?_
 refine os 1 ?_
 refine nt ?_
 refine Qi ?_
 refine Qg (.int .i64 (-1)) (fun _ => rfl) ?_
 exact ⟨(), ow, congrArg (Value.int .i64) (by rw [hi1, ixFrom_end (by omega)])⟩

theorem heap_place {W0 : World} {F : HeapF} {H : HeapV} (hH : H.ok F) {n : Nat} {x : ObjL} (hx : H.objs[n]? = some x) (key : ByteArray) : SC Tryz.prog W0 88 #[.pointer (some ⟨F.p, 0, none⟩), .pointer (some ⟨Gs.blk H.s, n * 9, none⟩), .string key] (HeapV.ent H F) (Ret (fun _ : Unit => H.ent F) (fun v _ => v = .int .i64 (placeO (H.V.abs F.T) x.shape x.names key))) := by
 have hnl := (List.getElem?_eq_some_iff.1 hx).1
 refine SC_body (fn := Tryz.f88) (n := 38) Tryz.func88 rfl (by kernel_rfl) (ρ := [(0, pt F.p 0), (1, pt (Gs.blk H.s) (n * 9)), (2, .string key)]) rfl ?_
 refine SW_sig _ HeapV.eq0 ?_
 refine sr ?_
 refine os 1 ?_
 refine nq ?_
 refine sr ?_
 refine os 3 ?_
 refine L (ld ?_ (hc := Gs.cell hH.row (fun e he => (Qc (mem_h he))) (Qh ObjL.len hx (j := 3) (by decide) rfl)))
 refine os 1 ?_
 refine kp [14, 6, 0, 1, 2] ?_
 refine nt ?_
 refine cdp (fun hc1 : x.shape < 0 => ?_) (fun hc1 => ?_)
 ·refine sr ?_
  refine os 3 ?_
  refine L (ld ?_ (hc := Gs.cell hH.row (fun e he => (Qc (mem_h he))) (Qh ObjL.len hx (j := 4) (by decide) rfl)))
  refine os 1 ?_
  refine L (clA (slices_index (σ := _) (HeapV.ok.at hH hx).ns (fun e he => (Qc (Qa (mem_h ((ObjL.mns hx) _ he))))) key) ?_)
  rintro _ _ rfl
  refine un ?_
  refine os 1 ?_
  refine kp [6, 14, 0, 1, 2] ?_
  refine nt ?_
  refine Qi (Qm ?_)
  refine Qg (.int .i64 (ixS x.names key)) (fun _ => rfl) ?_
  exact ⟨(), HeapV.own, congrArg (Value.int .i64) (by unfold placeO; rw [if_pos (by omega)])⟩
 refine Ql (Qj ?_)
 refine SW_seq ?_
 refine SW_draw [(F.p, 3, pt F.T.p 0), ((Gs.blk H.s), n * 9 + 3, .int .i64 x.shape)] [0, 1, 2, 3, 4, 5, 6, 7, 8] (by kernel_rfl) (Qf (Cell.own Qe rfl) (Qf (Gs.cell hH.row (fun e he => (Qc (mem_h he))) (Qh ObjL.len hx (j := 3) (by decide) rfl)) rd_nil)) ?_
 refine aS 0 ?_
 refine aS 1 ?_
 refine aF 2 ?_
 refine aL 3 ?_
 refine aS 4 ?_
 refine aS 5 ?_
 refine aF 6 ?_
 refine aL 7 ?_
 refine aS 8 ?_
 refine sa1 false 9 (h := cl (shapes_Find hH.tree x.shape key) ?_)
 rintro _ _ rfl
 refine ⟨fun hnd => (by cases hnd), ?_⟩
 refine kpA [31, 14, 6, 0, 1, 2] ?_
 refine aS 10 ?_
 refine aS 11 ?_
 refine aS 12 ?_
 refine aS 13 ?_
 refine aS 14 ?_
 refine aS 15 ?_
 refine aS 16 ?_
 refine SA_done (by kernel_rfl) (Qj ?_)
 refine SW_seq ?_
 refine sr ?_
 refine os 2 ?_
 refine kp [36, 9, 7, 14, 6, 0, 1, 2] ?_
 refine nt ?_
 refine cd (fun hc2 : (!((findP (TreeV.abs H.V F.T) x.shape key).2.2)) = true => ?_) (fun hc2 => ?_)
 ·replace hc2 := bnot_t hc2
  refine sr ?_
  refine os 1 ?_
  refine nt ?_
  refine Qi (Qm ?_)
  refine Qg (.int .i64 (-1)) (fun _ => rfl) ?_
  exact ⟨(), HeapV.own, congrArg (Value.int .i64) (by unfold placeO; rw [if_neg (by omega), if_neg (by simp [hc2])])⟩
 replace hc2 := bnot_f hc2
 refine Ql (Qj ?_)
 refine sr ?_
 refine os 2 ?_
 refine nt ?_
 refine Qi ?_
 refine Qg (.int .i64 ((findP (TreeV.abs H.V F.T) x.shape key).1)) (fun _ => rfl) ?_
 exact ⟨(), HeapV.own, congrArg (Value.int .i64) (by unfold placeO; rw [if_neg (by omega), if_pos hc2])⟩

theorem heap_loose_no {W0 : World} {F : HeapF} {H : HeapV} (hH : H.ok F) {n : Nat} {x : ObjL} (hx : H.objs[n]? = some x) (hs : x.shape < 0) : SC Tryz.prog W0 100 #[.pointer (some ⟨F.p, 0, none⟩), .pointer (some ⟨Gs.blk H.s, n * 9, none⟩)] (HeapV.ent H F) (Ret (fun _ : Unit => H.ent F) (fun v _ => v = .tuple #[])) := by
 have hnl := (List.getElem?_eq_some_iff.1 hx).1
 refine SC_body (fn := Tryz.f100) (n := 24) Tryz.func100 rfl (by kernel_rfl) (ρ := [(0, pt F.p 0), (1, pt (Gs.blk H.s) (n * 9))]) rfl ?_
 refine SW_sig _ HeapV.eq0 ?_
 refine sr ?_
 refine os 3 ?_
 refine L (ld ?_ (hc := Gs.cell hH.row (fun e he => (Qc (mem_h he))) (Qh ObjL.len hx (j := 3) (by decide) rfl)))
 refine os 1 ?_
 refine kp [8, 0, 1] ?_
 refine nt ?_
 refine SW_false (fun _ => (congrArg Value.bool (show (decide (x.shape ≥ 0)) = false from (by simp; omega)))) ?_
 refine Ql ?_
 refine body_end' (.tuple #[]) (fun _ => rfl) ?_
 exact ⟨(), HeapV.own, rfl⟩

theorem heap_loose_yes {W0 : World} {F : HeapF} {H : HeapV} (hH : H.ok F) {n : Nat} {x : ObjL} (hx : H.objs[n]? = some x) (hs : 0 ≤ x.shape) : SC Tryz.prog W0 100 #[.pointer (some ⟨F.p, 0, none⟩), .pointer (some ⟨Gs.blk H.s, n * 9, none⟩)] (HeapV.ent H F) (Ret (fun g : Gs => (H.put n (x.loosed g (keysP (H.V.abs F.T) x.shape))).ent F) (fun v g => v = .tuple #[] ∧ g.ok 1 (keysP (H.V.abs F.T) x.shape).length ((keysP (H.V.abs F.T) x.shape).map encS))) := by
 have hnl := (List.getElem?_eq_some_iff.1 hx).1
 refine SC_body (fn := Tryz.f100) (n := 24) Tryz.func100 rfl (by kernel_rfl) (ρ := [(0, pt F.p 0), (1, pt (Gs.blk H.s) (n * 9))]) rfl ?_
 refine SW_sig _ HeapV.eq0 ?_
 refine SW_seq ?_
 refine SW_perm _ (perm_cc (perm_ca perm_cz)) ?_
 refine SW_perm ((Gs.ent 9 1 x.ns (x.names.map encS)) ++ ((Gs.ent 45 3 x.vs (x.vals.flatMap Qk)) ++ ((Gs.ent 33 1 x.es (x.elems.map encU)) ++ ((Gs.ent 33 1 x.is (x.inner.map encU)) ++ (((List.eraseIdx H.objs n).flatMap ObjL.ent) ++ ((F.p, .cells 75 6 [Gs.val H.s H.objs.length, Gs.val H.ts H.texts.length, .map (some F.kb), pt F.T.p 0, pt F.cp 0, .int .i64 H.br]) :: ((Gs.ent 102 9 H.s (H.objs.flatMap ObjL.cells)) ++ ((Gs.ent 9 1 H.ts (H.texts.map encS)) ++ ((F.kb, .map (kvs encS encU H.known)) :: ((TreeV.ent H.V F.T) ++ ((CellsL.ent (CellsL.mk F.cp H.cs H.cl)) ++ ([])))))))))))) (obj_focus hx _) ?_
 refine Qn ?_
 refine os 3 ?_
 refine L (ld ?_ (hc := Gs.cell hH.row (fun e he => (Qa (Qa (Qa (Qa (Qa (Qc (mem_h he)))))))) (Qh ObjL.len hx (j := 3) (by decide) rfl)))
 refine os 1 ?_
 refine kp [8, 0, 1] ?_
 refine nt ?_
 refine SW_true (fun _ => (congrArg Value.bool (show (decide (x.shape ≥ 0)) = true from (by simp; omega)))) ?_
 refine SW_draw [(F.p, 3, pt F.T.p 0), ((Gs.blk H.s), n * 9 + 3, .int .i64 x.shape)] [0, 1, 2, 3, 4, 5, 6, 7, 8, 9] (by kernel_rfl) (Qf (Cell.own (Qa (Qa (Qa (Qa (Qa Qe))))) rfl) (Qf (Gs.cell hH.row (fun e he => (Qa (Qa (Qa (Qa (Qa (Qc (mem_h he)))))))) (Qh ObjL.len hx (j := 3) (by decide) rfl)) rd_nil)) ?_
 refine aS 0 ?_
 refine aS 1 ?_
 refine aS 2 ?_
 refine aS 3 ?_
 refine aF 4 ?_
 refine aL 5 ?_
 refine aS 6 ?_
 refine aS 7 ?_
 refine aF 8 ?_
 refine aL 9 ?_
 refine sa1 false 10 (h := cl (shapes_Keys hH.tree x.shape) ?_)
 rintro _ kg1 ⟨rfl, hkg1⟩
 try simp only [List.cons_append, List.append_assoc, List.nil_append]
 refine ⟨fun hnd => (by cases hnd), ?_⟩
 refine kpA [19, 10, 9, 8, 0, 1] ?_
 refine aS 11 ?_
 refine aF 12 ?_
 have hok3 := Gs.ok.relen (ys := ((H.objs.set n (ObjL.mk x.kind x.proto x.shut x.shape kg1 (keysP (TreeV.abs H.V F.T) x.shape) x.vs x.vals x.es x.elems x.is x.inner x.cell)).flatMap ObjL.cells)) hH.row (by simp [flat_len ObjL.len])
 refine SA_perm _ (perm_ca (perm_ca (perm_ca (perm_ca (perm_ca (perm_ca (perm_ca (perm_cc perm_cz)))))))) ?_
 refine sa1 false 13 (h := O_storeG (ys := ((H.objs.set n (ObjL.mk x.kind x.proto x.shut x.shape kg1 (keysP (TreeV.abs H.V F.T) x.shape) x.vs x.vals x.es x.elems x.is x.inner x.cell)).flatMap ObjL.cells)) H.s (n * 9 + 4) (Gs.val kg1 ((keysP (TreeV.abs H.V F.T) x.shape).length)) [Gs.val kg1 ((keysP (TreeV.abs H.V F.T) x.shape).length)] (Gs.ok.ne hH.row (by first | omega | (simp; omega))) (fun _ => rfl) (fun _ => rfl) rfl (by kernel_rfl) rfl (by rw [flat_len ObjL.len]; simp; omega) (row_lay (j := 4) ObjL.len (ObjL.mk x.kind x.proto x.shut x.shape kg1 (keysP (TreeV.abs H.V F.T) x.shape) x.vs x.vals x.es x.elems x.is x.inner x.cell) hx (Nat.le_of_ble_eq_true rfl) rfl) rfl ?_)
 refine ⟨fun hnd => (by cases hnd), ?_⟩
 refine aS 14 ?_
 refine aF 15 ?_
 have hok4 := Gs.ok.relen (ys := ((H.objs.set n (ObjL.mk x.kind x.proto x.shut (-1) kg1 (keysP (TreeV.abs H.V F.T) x.shape) x.vs x.vals x.es x.elems x.is x.inner x.cell)).flatMap ObjL.cells)) hok3 (by simp [flat_len ObjL.len])
 refine sa1 false 16 (h := O_storeG (ys := ((H.objs.set n (ObjL.mk x.kind x.proto x.shut (-1) kg1 (keysP (TreeV.abs H.V F.T) x.shape) x.vs x.vals x.es x.elems x.is x.inner x.cell)).flatMap ObjL.cells)) H.s (n * 9 + 3) (.int .i64 (-1)) [.int .i64 (-1)] (Gs.ok.ne hok3 (by first | omega | (simp; omega))) (fun _ => rfl) (fun _ => rfl) rfl (by kernel_rfl) rfl (by rw [flat_len ObjL.len]; simp; omega) ((row_lay (j := 3) ObjL.len (ObjL.mk x.kind x.proto x.shut (-1) kg1 (keysP (TreeV.abs H.V F.T) x.shape) x.vs x.vals x.es x.elems x.is x.inner x.cell) (Qd hx) (Nat.le_of_ble_eq_true rfl) rfl).trans (by rw [List.set_set])) rfl ?_)
 refine ⟨fun hnd => (by cases hnd), ?_⟩
 refine SA_done (by kernel_rfl) ?_
 refine body_end' (.tuple #[]) (fun _ => rfl) ?_
 exact ⟨kg1, (Own.trans (ow (S := ((F.p, .cells 75 6 [Gs.val H.s H.objs.length, Gs.val H.ts H.texts.length, .map (some F.kb), pt F.T.p 0, pt F.cp 0, .int .i64 H.br]) :: ((Gs.ent 102 9 H.s ((H.objs.set n (ObjL.mk x.kind x.proto x.shut (-1) kg1 (keysP (TreeV.abs H.V F.T) x.shape) x.vs x.vals x.es x.elems x.is x.inner x.cell)).flatMap ObjL.cells)) ++ ((Gs.ent 9 1 kg1 ((keysP (TreeV.abs H.V F.T) x.shape).map encS)) ++ ((Gs.ent 45 3 x.vs (x.vals.flatMap Qk)) ++ ((Gs.ent 33 1 x.es (x.elems.map encU)) ++ ((Gs.ent 33 1 x.is (x.inner.map encU)) ++ (((List.eraseIdx H.objs n).flatMap ObjL.ent) ++ ((Gs.ent 9 1 H.ts (H.texts.map encS)) ++ ((F.kb, .map (kvs encS encU H.known)) :: ((TreeV.ent H.V F.T) ++ ((CellsL.ent (CellsL.mk F.cp H.cs H.cl)) ++ ([])))))))))))))) (Own.of_perm (HeapV.back (H := (HeapV.mk H.s H.objs H.ts H.texts H.known H.V H.cs H.cl H.br)) F hx (x.loosed kg1 (keysP (TreeV.abs H.V F.T) x.shape))))), rfl, hkg1⟩

end Go.Proofs.YthflblophelioaaGreatDoor
