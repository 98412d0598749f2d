/-
  What functions of cells do to the memory they own, step by step: each theorem is one function's contract. Conditions: those that each theorem names.
-/
import Derived.Test.YtdfhbheipagnmaaCellsD
import Derived.Test.YtdfhbheipagnmaaProg
set_option linter.unusedVariables false
set_option maxRecDepth 100000
namespace Go.Proofs.Ytdfhbheipagnmaa
open Go.Sl

theorem cells_there {W0 : World} {C : CellsL} (hC : C.ok) {σ : Heaplet} (hm : ∀ e ∈ C.ent, e ∈ σ) (n : Int) : SC Try.prog W0 87 #[.pointer (some ⟨C.p, 0, none⟩), .int .i64 n] σ (fun v σ' => v = .bool (decide (0 ≤ n ∧ n < C.l.length)) ∧ σ' = σ) := by
  refine SC_body (fn := Try.f87) (n := 16) Try.func87 rfl (by kernel_rfl) (ρ := [(0, .pointer (some ⟨C.p, 0, none⟩)), (1, .int .i64 n)]) rfl ?_
  refine SW_seq ?_
  refine SW_region ?_
  refine SL_segT 1 [(4, .bool false), (0, .pointer (some ⟨C.p, 0, none⟩)), (1, .int .i64 n)] (by intro δ w; kernel_rfl) ?_
  refine SL_nil (n_then ?_)
  refine SW_seq ?_
  refine SW_region ?_
  refine SL_segT 3 [(7, .bool (decide (n ≥ 0))), (4, .bool false), (0, .pointer (some ⟨C.p, 0, none⟩)), (1, .int .i64 n)] (by intro δ w; kernel_rfl) ?_
  refine SL_tb (decide (n ≥ 0)) (fun x => [(7, .bool x), (4, .bool false), (0, .pointer (some ⟨C.p, 0, none⟩)), (1, .int .i64 n)]) (fun hg1 => ?_) (fun hg1 => ?_)
  · skip
    replace hg1 := of_decide_eq_true hg1
    refine SL_segT 4 [(11, .pointer (some ⟨C.p, 0, none⟩)), (8, .int .i64 n), (7, .bool true), (4, .bool false), (0, .pointer (some ⟨C.p, 0, none⟩)), (1, .int .i64 n)] (by intro δ w; kernel_rfl) ?_
    refine SL_cons ⟨rfl, fun _ => rfl⟩ (O_load C.p 0 (Gs.val C.s C.l.length) (fun _ => rfl) (by kernel_rfl) (Cell.own (hm _ C.head) rfl) rfl ?_)
    refine SL_segT 4 [(4, .bool (decide (n < (C.l.length : Int)))), (0, .pointer (some ⟨C.p, 0, none⟩)), (1, .int .i64 n)] (by intro δ w; kernel_rfl) ?_
    refine SL_nil (n_then ?_)
    refine SW_ret ?_
    refine body_end (.bool (decide (n < (C.l.length : Int)))) (fun _ => rfl) ?_
    exact ⟨congrArg Value.bool (by simp; omega), rfl⟩
  · skip
    replace hg1 := of_decide_eq_false hg1
    refine SL_segT 9 [(4, .bool false), (0, .pointer (some ⟨C.p, 0, none⟩)), (1, .int .i64 n)] (by intro δ w; kernel_rfl) ?_
    refine SL_nil (n_then ?_)
    refine SW_ret ?_
    refine body_end (.bool false) (fun _ => rfl) ?_
    exact ⟨congrArg Value.bool (by simp; omega), rfl⟩

theorem cells_Valid {W0 : World} {C : CellsL} (hC : C.ok) {σ : Heaplet} (hm : ∀ e ∈ C.ent, e ∈ σ) (n : Int) : SC Try.prog W0 68 #[.pointer (some ⟨C.p, 0, none⟩), .int .i64 n] σ (fun v σ' => v = .bool (C.isV n) ∧ σ' = σ) := by
  refine SC_body (fn := Try.f68) (n := 18) Try.func68 rfl (by kernel_rfl) (ρ := [(0, .pointer (some ⟨C.p, 0, none⟩)), (1, .int .i64 n)]) rfl ?_
  refine SW_seq ?_
  refine SW_region ?_
  refine SL_segT 1 [(4, .bool false), (0, .pointer (some ⟨C.p, 0, none⟩)), (1, .int .i64 n)] (by intro δ w; kernel_rfl) ?_
  refine SL_nil (n_then ?_)
  refine SW_seq ?_
  refine SW_region ?_
  refine SL_segT 2 [(6, .int .i64 n), (5, .pointer (some ⟨C.p, 0, none⟩)), (4, .bool false), (0, .pointer (some ⟨C.p, 0, none⟩)), (1, .int .i64 n)] (by intro δ w; kernel_rfl) ?_
  refine SL_cons ⟨rfl, fun _ => rfl⟩ (O_call 87 #[.pointer (some ⟨C.p, 0, none⟩), .int .i64 n] rfl (by intro δ w; kernel_rfl) (cells_there hC hm n) ?_)
  rintro _ _ ⟨rfl, rfl⟩
  refine SL_segT 1 [(8, .bool (decide (0 ≤ n ∧ n < C.l.length))), (4, .bool false), (0, .pointer (some ⟨C.p, 0, none⟩)), (1, .int .i64 n)] (by intro δ w; kernel_rfl) ?_
  refine SL_tb (decide (0 ≤ n ∧ n < C.l.length)) (fun x => [(8, .bool x), (4, .bool false), (0, .pointer (some ⟨C.p, 0, none⟩)), (1, .int .i64 n)]) (fun hg1 => ?_) (fun hg1 => ?_)
  · skip
    replace hg1 := of_decide_eq_true hg1
    obtain ⟨c, hc⟩ := CellsL.get hg1
    refine SL_segT 3 [(11, .pointer (some ⟨C.p, 0, none⟩)), (8, .bool true), (4, .bool false), (0, .pointer (some ⟨C.p, 0, none⟩)), (1, .int .i64 n)] (by intro δ w; kernel_rfl) ?_
    refine SL_cons ⟨rfl, fun _ => rfl⟩ (O_load C.p 0 (Gs.val C.s C.l.length) (fun _ => rfl) (by kernel_rfl) (Cell.own (hm _ C.head) rfl) rfl ?_)
    refine SL_segT 1 [(13, .int .i64 n), (12, Gs.val C.s C.l.length), (8, .bool true), (4, .bool false), (0, .pointer (some ⟨C.p, 0, none⟩)), (1, .int .i64 n)] (by intro δ w; kernel_rfl) ?_
    refine SL_cons ⟨rfl, fun _ => rfl⟩ (O_indexAddr' n (((n).toNat) * 2) (Gs.blk C.s) 0 C.l.length (Gs.cap C.s) .i64 2 Try.underlying123 (by kernel_rfl) (fun _ => gs_slice (hC.ne (i := n) (by omega) (by omega))) (fun _ => rfl) (by omega) (by omega) (by omega) rfl ?_)
    refine SL_segT 1 [(15, .pointer (some ⟨(Gs.blk C.s), ((n).toNat) * 2, none⟩)), (8, .bool true), (4, .bool false), (0, .pointer (some ⟨C.p, 0, none⟩)), (1, .int .i64 n)] (by intro δ w; kernel_rfl) ?_
    refine SL_cons ⟨rfl, fun _ => rfl⟩ (O_load (Gs.blk C.s) (((n).toNat) * 2) (.bool c.valid) (fun _ => rfl) (by kernel_rfl) (CellsL.at hC hm (j := 0) hc (by decide) rfl) rfl ?_)
    refine SL_segT 2 [(4, .bool c.valid), (0, .pointer (some ⟨C.p, 0, none⟩)), (1, .int .i64 n)] (by intro δ w; kernel_rfl) ?_
    refine SL_nil (n_then ?_)
    refine SW_ret ?_
    refine body_end (.bool c.valid) (fun _ => rfl) ?_
    exact ⟨by rw [CellsL.isV_of hg1 hc], rfl⟩
  · skip
    replace hg1 := of_decide_eq_false hg1
    refine SL_segT 10 [(4, .bool false), (0, .pointer (some ⟨C.p, 0, none⟩)), (1, .int .i64 n)] (by intro δ w; kernel_rfl) ?_
    refine SL_nil (n_then ?_)
    refine SW_ret ?_
    refine body_end (.bool false) (fun _ => rfl) ?_
    exact ⟨by rw [CellsL.isV_out hg1], rfl⟩

theorem cells_New {W0 : World}  : SC Try.prog W0 36 #[] [] (fun v σ' => ∃ C : CellsL, σ'.Perm C.ent ∧ C.ok ∧ C.l = [] ∧ v = .pointer (some ⟨C.p, 0, none⟩)) := by
  refine SC_body (fn := Try.f36) (n := 3) Try.func36 rfl (by kernel_rfl) (ρ := []) rfl ?_
  refine SW_seq ?_
  refine SW_region ?_
  refine SL_segT 1 [(0, .pointer none)] (by intro δ w; kernel_rfl) ?_
  refine SL_nil (n_then ?_)
  refine SW_seq ?_
  refine SW_region ?_
  refine SL_segT 1 [(1, .agg #[.slice none 0 0]), (0, .pointer none)] (by intro δ w; kernel_rfl) ?_
  refine SL_cons ⟨rfl, fun _ => rfl⟩ (O_new (fun b => .pointer (some ⟨b, 0, none⟩)) (.cells #[.slice none 0 0] 125 (0, 0)) (.cells 125 1 [.slice none 0 0]) rfl (by intro δ w; kernel_rfl) ⟨rfl, rfl, rfl, rfl⟩ ?_)
  intro b1 hlb1 hnb1
  refine SL_segT 1 [(0, .pointer (some ⟨b1, 0, none⟩))] (by intro δ w; kernel_rfl) ?_
  refine SL_nil (n_then ?_)
  refine SW_ret ?_
  refine body_end (.pointer (some ⟨b1, 0, none⟩)) (fun _ => rfl) ?_
  exact ⟨⟨b1, .nil, []⟩, by simp [CellsL.ent, Gs.ent, Gs.val, Gs.addr, Gs.cap], ⟨⟨rfl, rfl⟩, by simp⟩, rfl, rfl⟩

theorem cells_Make {W0 : World} {C : CellsL} (hC : C.ok) (hr : C.l.length ≤ 1099511627776) (hab : ∀ c ∈ C.l, c.above.length ≤ C.l.length) (n : Int) : SC Try.prog W0 69 #[.pointer (some ⟨C.p, 0, none⟩), .int .i64 n] C.ent (fun v σ' => ∃ C' : CellsL, σ'.Perm C'.ent ∧ C'.ok ∧ C'.p = C.p ∧ v = .int .i64 C.l.length ∧ C'.abs = mkP C.abs n) := by
  refine SC_body (fn := Try.f69) (n := 55) Try.func69 rfl (by kernel_rfl) (ρ := [(0, .pointer (some ⟨C.p, 0, none⟩)), (1, .int .i64 n)]) rfl ?_
  refine SW_sig ((C.p, .cells 125 1 [Gs.val C.s C.l.length]) :: ((Gs.ent 145 2 C.s C.row) ++ ((C.l.flatMap CellL.ent) ++ ([])))) (by simp [CellsL.ent]) ?_
  refine SW_seq ?_
  refine SW_region ?_
  refine SL_segT 1 [(4, .int .i64 0), (0, .pointer (some ⟨C.p, 0, none⟩)), (1, .int .i64 n)] (by intro δ w; kernel_rfl) ?_
  refine SL_nil (n_then ?_)
  refine SW_seq ?_
  refine SW_region ?_
  refine SL_segT 3 [(9, .pointer (some ⟨C.p, 0, none⟩)), (4, .int .i64 0), (0, .pointer (some ⟨C.p, 0, none⟩)), (1, .int .i64 n)] (by intro δ w; kernel_rfl) ?_
  refine SL_cons ⟨rfl, fun _ => rfl⟩ (O_load C.p 0 (Gs.val C.s C.l.length) (fun _ => rfl) (by kernel_rfl) (Cell.own mem_z rfl) rfl ?_)
  refine SL_segT 2 [(5, .int .i64 (C.l.length : Int)), (4, .int .i64 0), (0, .pointer (some ⟨C.p, 0, none⟩)), (1, .int .i64 n)] (by intro δ w; kernel_rfl) ?_
  refine SL_nil (n_then ?_)
  refine SW_seq ?_
  refine SW_region ?_
  refine SL_segT 3 [(6, .bool (n == (-1))), (5, .int .i64 (C.l.length : Int)), (4, .int .i64 0), (0, .pointer (some ⟨C.p, 0, none⟩)), (1, .int .i64 n)] (by intro δ w; kernel_rfl) ?_
  refine SL_nil (n_then ?_)
  refine SW_seq ?_
  refine SW_seq ?_
  refine SW_region ?_
  refine SL_segT 2 [(15, .int .i64 n), (14, .pointer (some ⟨C.p, 0, none⟩)), (6, .bool (n == (-1))), (5, .int .i64 (C.l.length : Int)), (4, .int .i64 0), (0, .pointer (some ⟨C.p, 0, none⟩)), (1, .int .i64 n)] (by intro δ w; kernel_rfl) ?_
  refine SL_cons ⟨rfl, fun _ => rfl⟩ (O_call 87 #[.pointer (some ⟨C.p, 0, none⟩), .int .i64 n] rfl (by intro δ w; kernel_rfl) (cells_there hC (fun e he => by simpa [CellsL.ent] using he) n) ?_)
  rintro _ _ ⟨rfl, rfl⟩
  refine SL_nil (n_then ?_)
  refine SW_cond (decide (0 ≤ n ∧ n < C.l.length)) (fun _ => rfl) (fun hc1 => ?_) (fun hc1 => ?_)
  · skip
    replace hc1 := of_decide_eq_true hc1
    obtain ⟨c, hc⟩ := CellsL.get hc1
    obtain ⟨l1, l2, hl, hlen⟩ := split_at hc
    have hcok : c.ok := hC.each c (by rw [hl]; simp)
    have hble := hab c (by rw [hl]; simp)
    have hfl : C.l.flatMap CellL.ent = l1.flatMap CellL.ent ++ (CellL.ent c ++ l2.flatMap CellL.ent) := by rw [hl]; simp
    refine SW_sig ((C.p, .cells 125 1 [Gs.val C.s C.l.length]) :: ((Gs.ent 145 2 C.s C.row) ++ ((l1.flatMap CellL.ent) ++ ((Gs.ent 3 1 c.ab (c.above.map (Value.int .i64))) ++ ((l2.flatMap CellL.ent) ++ ([])))))) (by rw [hfl]; simp [CellL.ent]) ?_
    refine SW_seq ?_
    refine SW_region ?_
    refine SL_segT 3 [(19, .pointer (some ⟨C.p, 0, none⟩)), (16, .bool (decide (0 ≤ n ∧ n < C.l.length))), (6, .bool (n == (-1))), (5, .int .i64 (C.l.length : Int)), (4, .int .i64 0), (0, .pointer (some ⟨C.p, 0, none⟩)), (1, .int .i64 n)] (by intro δ w; kernel_rfl) ?_
    refine SL_cons ⟨rfl, fun _ => rfl⟩ (O_load C.p 0 (Gs.val C.s C.l.length) (fun _ => rfl) (by kernel_rfl) (Cell.own mem_z rfl) rfl ?_)
    refine SL_segT 1 [(21, .int .i64 n), (20, Gs.val C.s C.l.length), (16, .bool (decide (0 ≤ n ∧ n < C.l.length))), (6, .bool (n == (-1))), (5, .int .i64 (C.l.length : Int)), (4, .int .i64 0), (0, .pointer (some ⟨C.p, 0, none⟩)), (1, .int .i64 n)] (by intro δ w; kernel_rfl) ?_
    refine SL_cons ⟨rfl, fun _ => rfl⟩ (O_indexAddr' n (((n).toNat) * 2) (Gs.blk C.s) 0 C.l.length (Gs.cap C.s) .i64 2 Try.underlying123 (by kernel_rfl) (fun _ => gs_slice (hC.ne (i := n) (by omega) (by omega))) (fun _ => rfl) (by omega) (by omega) (by omega) rfl ?_)
    refine SL_segT 1 [(23, .pointer (some ⟨(Gs.blk C.s), ((n).toNat) * 2, none⟩)), (16, .bool (decide (0 ≤ n ∧ n < C.l.length))), (6, .bool (n == (-1))), (5, .int .i64 (C.l.length : Int)), (4, .int .i64 0), (0, .pointer (some ⟨C.p, 0, none⟩)), (1, .int .i64 n)] (by intro δ w; kernel_rfl) ?_
    refine SL_cons ⟨rfl, fun _ => rfl⟩ (O_load (Gs.blk C.s) (((n).toNat) * 2) (.bool c.valid) (fun _ => rfl) (by kernel_rfl) (Gs.cell hC.row (fun e he => (mem_c (mem_h he))) (by rw [CellsL.row]; exact flat_get CellL.len C.l _ 0 c hc (by decide))) rfl ?_)
    refine SL_segT 1 [(6, .bool c.valid), (16, .bool (decide (0 ≤ n ∧ n < C.l.length))), (5, .int .i64 (C.l.length : Int)), (4, .int .i64 0), (0, .pointer (some ⟨C.p, 0, none⟩)), (1, .int .i64 n)] (by intro δ w; kernel_rfl) ?_
    refine SL_nil (n_then ?_)
    refine SW_draw [(C.p, 0, Gs.val C.s C.l.length), (C.p, 0, Gs.val C.s C.l.length), ((Gs.blk C.s), ((n).toNat) * 2 + 1, Gs.val c.ab c.above.length)] [0, 1, 2, 3, 4, 5, 6, 7, 8, 9, 10, 11, 12, 13, 14, 15, 16, 17] (by kernel_rfl) (rd_cons (Cell.own mem_z rfl) (rd_cons (Cell.own mem_z rfl) (rd_cons (Gs.cell hC.row (fun e he => (mem_c (mem_h he))) (by rw [CellsL.row]; exact flat_get CellL.len C.l _ 1 c hc (by decide))) rd_nil))) ?_
    refine SA_take (li' := #[true, false, false, false, false, false, false, false, false, false, false, false, false, false, false, false, false, false, false]) 0 _ (.pointer (some ⟨C.p, 0, none⟩)) (fun _ _ _ h => h) rfl (by kernel_rfl) rfl (Or.inl ⟨fun _ => rfl, by intro δ w; kernel_rfl⟩) ?_
    refine SA_take (li' := #[true, true, false, false, false, false, false, false, false, false, false, false, false, false, false, false, false, false, false]) 1 _ (.pointer (some ⟨C.p, 0, none⟩)) (fun _ _ _ h => h) rfl (by kernel_rfl) rfl (Or.inl ⟨fun _ => rfl, by intro δ w; kernel_rfl⟩) ?_
    refine SA_trim [(26, .pointer (some ⟨C.p, 0, none⟩)), (6, .bool c.valid), (16, .bool (decide (0 ≤ n ∧ n < C.l.length))), (5, .int .i64 (C.l.length : Int)), (4, .int .i64 0), (0, .pointer (some ⟨C.p, 0, none⟩)), (1, .int .i64 n)] (fun _ => rfl) ?_
    refine SA_take (li' := #[true, true, true, false, false, false, false, false, false, false, false, false, false, false, false, false, false, false, false]) 2 _ (.pointer (some ⟨C.p, 0, none⟩)) (fun _ _ _ h => h) rfl (by kernel_rfl) rfl (Or.inl ⟨fun _ => rfl, by intro δ w; kernel_rfl⟩) ?_
    refine SA_trim [(27, .pointer (some ⟨C.p, 0, none⟩)), (6, .bool c.valid), (16, .bool (decide (0 ≤ n ∧ n < C.l.length))), (5, .int .i64 (C.l.length : Int)), (4, .int .i64 0), (0, .pointer (some ⟨C.p, 0, none⟩)), (1, .int .i64 n)] (fun _ => rfl) ?_
    refine SA_read (li' := #[true, true, true, true, false, false, false, false, false, false, false, false, false, false, false, false, false, false, false]) 3 _ (Gs.val C.s C.l.length) (fun _ _ _ h => h) rfl (by kernel_rfl) rfl (fun _ => rfl) (fun δ w hr => Rd_load C.p 0 (Gs.val C.s C.l.length) rfl (by kernel_rfl) List.mem_cons_self hr) ?_
    refine SA_trim [(28, Gs.val C.s C.l.length), (6, .bool c.valid), (16, .bool (decide (0 ≤ n ∧ n < C.l.length))), (5, .int .i64 (C.l.length : Int)), (4, .int .i64 0), (0, .pointer (some ⟨C.p, 0, none⟩)), (1, .int .i64 n)] (fun _ => rfl) ?_
    refine SA_take (li' := #[true, true, true, true, true, false, false, false, false, false, false, false, false, false, false, false, false, false, false]) 4 _ (.int .i64 n) (fun _ _ _ h => h) rfl (by kernel_rfl) rfl (Or.inl ⟨fun _ => rfl, by intro δ w; kernel_rfl⟩) ?_
    refine SA_take (li' := #[true, true, true, true, true, true, false, false, false, false, false, false, false, false, false, false, false, false, false]) 5 _ (.pointer (some ⟨C.p, 0, none⟩)) (fun _ _ _ h => h) rfl (by kernel_rfl) rfl (Or.inl ⟨fun _ => rfl, by intro δ w; kernel_rfl⟩) ?_
    refine SA_take (li' := #[true, true, true, true, true, true, true, false, false, false, false, false, false, false, false, false, false, false, false]) 6 _ (.pointer (some ⟨C.p, 0, none⟩)) (fun _ _ _ h => h) rfl (by kernel_rfl) rfl (Or.inl ⟨fun _ => rfl, by intro δ w; kernel_rfl⟩) ?_
    refine SA_trim [(31, .pointer (some ⟨C.p, 0, none⟩)), (29, .int .i64 n), (28, Gs.val C.s C.l.length), (6, .bool c.valid), (16, .bool (decide (0 ≤ n ∧ n < C.l.length))), (5, .int .i64 (C.l.length : Int)), (4, .int .i64 0), (0, .pointer (some ⟨C.p, 0, none⟩)), (1, .int .i64 n)] (fun _ => rfl) ?_
    refine SA_take (li' := #[true, true, true, true, true, true, true, true, false, false, false, false, false, false, false, false, false, false, false]) 7 _ (.pointer (some ⟨C.p, 0, none⟩)) (fun _ _ _ h => h) rfl (by kernel_rfl) rfl (Or.inl ⟨fun _ => rfl, by intro δ w; kernel_rfl⟩) ?_
    refine SA_trim [(32, .pointer (some ⟨C.p, 0, none⟩)), (29, .int .i64 n), (28, Gs.val C.s C.l.length), (6, .bool c.valid), (16, .bool (decide (0 ≤ n ∧ n < C.l.length))), (5, .int .i64 (C.l.length : Int)), (4, .int .i64 0), (0, .pointer (some ⟨C.p, 0, none⟩)), (1, .int .i64 n)] (fun _ => rfl) ?_
    refine SA_read (li' := #[true, true, true, true, true, true, true, true, true, false, false, false, false, false, false, false, false, false, false]) 8 _ (Gs.val C.s C.l.length) (fun _ _ _ h => h) rfl (by kernel_rfl) rfl (fun _ => rfl) (fun δ w hr => Rd_load C.p 0 (Gs.val C.s C.l.length) rfl (by kernel_rfl) List.mem_cons_self hr) ?_
    refine SA_trim [(33, Gs.val C.s C.l.length), (29, .int .i64 n), (28, Gs.val C.s C.l.length), (6, .bool c.valid), (16, .bool (decide (0 ≤ n ∧ n < C.l.length))), (5, .int .i64 (C.l.length : Int)), (4, .int .i64 0), (0, .pointer (some ⟨C.p, 0, none⟩)), (1, .int .i64 n)] (fun _ => rfl) ?_
    refine SA_take (li' := #[true, true, true, true, true, true, true, true, true, true, false, false, false, false, false, false, false, false, false]) 9 _ (.int .i64 n) (fun _ _ _ h => h) rfl (by kernel_rfl) rfl (Or.inl ⟨fun _ => rfl, by intro δ w; kernel_rfl⟩) ?_
    refine SA_take (li' := #[true, true, true, true, true, true, true, true, true, true, true, false, false, false, false, false, false, false, false]) 10 _ (.pointer (some ⟨(Gs.blk C.s), ((n).toNat) * 2, none⟩)) (fun _ _ _ h => h) rfl (by kernel_rfl) rfl (Or.inl ⟨fun _ => rfl, (fun δ w => run_indexAddr n (((n).toNat) * 2) (Gs.blk C.s) 0 C.l.length (Gs.cap C.s) .i64 2 Try.underlying123 (by kernel_rfl) (fun _ => gs_slice (hC.ne (i := n) (by omega) (by omega))) (fun _ => rfl) (by omega) (by omega) (by omega))⟩) ?_
    refine SA_trim [(35, .pointer (some ⟨(Gs.blk C.s), ((n).toNat) * 2, none⟩)), (29, .int .i64 n), (28, Gs.val C.s C.l.length), (6, .bool c.valid), (16, .bool (decide (0 ≤ n ∧ n < C.l.length))), (5, .int .i64 (C.l.length : Int)), (4, .int .i64 0), (0, .pointer (some ⟨C.p, 0, none⟩)), (1, .int .i64 n)] (fun _ => rfl) ?_
    refine SA_take (li' := #[true, true, true, true, true, true, true, true, true, true, true, true, false, false, false, false, false, false, false]) 11 _ (.pointer (some ⟨(Gs.blk C.s), ((n).toNat) * 2 + 1, none⟩)) (fun _ _ _ h => h) rfl (by kernel_rfl) rfl (Or.inl ⟨fun _ => rfl, by intro δ w; kernel_rfl⟩) ?_
    refine SA_trim [(36, .pointer (some ⟨(Gs.blk C.s), ((n).toNat) * 2 + 1, none⟩)), (29, .int .i64 n), (28, Gs.val C.s C.l.length), (6, .bool c.valid), (16, .bool (decide (0 ≤ n ∧ n < C.l.length))), (5, .int .i64 (C.l.length : Int)), (4, .int .i64 0), (0, .pointer (some ⟨C.p, 0, none⟩)), (1, .int .i64 n)] (fun _ => rfl) ?_
    refine SA_read (li' := #[true, true, true, true, true, true, true, true, true, true, true, true, true, false, false, false, false, false, false]) 12 _ (Gs.val c.ab c.above.length) (fun _ _ _ h => h) rfl (by kernel_rfl) rfl (fun _ => rfl) (fun δ w hr => Rd_load (Gs.blk C.s) (((n).toNat) * 2 + 1) (Gs.val c.ab c.above.length) rfl (by kernel_rfl) (List.mem_cons_of_mem _ (List.mem_cons_of_mem _ List.mem_cons_self)) hr) ?_
    refine SA_trim [(37, Gs.val c.ab c.above.length), (29, .int .i64 n), (28, Gs.val C.s C.l.length), (6, .bool c.valid), (16, .bool (decide (0 ≤ n ∧ n < C.l.length))), (5, .int .i64 (C.l.length : Int)), (4, .int .i64 0), (0, .pointer (some ⟨C.p, 0, none⟩)), (1, .int .i64 n)] (fun _ => rfl) ?_
    refine SA_take (li' := #[true, true, true, true, true, true, true, true, true, true, true, true, true, true, false, false, false, false, false]) 13 _ (.int .i64 (C.l.length : Int)) (fun _ _ _ h => h) rfl (by kernel_rfl) rfl (Or.inl ⟨fun _ => rfl, by intro δ w; kernel_rfl⟩) ?_
    refine SA_one true (li' := #[true, true, true, true, true, true, true, true, true, true, true, true, true, true, true, false, false, false, false]) 14 _ rfl rfl (by kernel_rfl) ⟨rfl, fun _ => rfl⟩ rfl (O_new (fun b => .slice (some ⟨b, 0, none⟩) 1 1) (.cells #[.int .i64 (C.l.length : Int)] 3 (0, 0)) (.cells 3 1 [.int .i64 (C.l.length : Int)]) rfl (by intro δ w; kernel_rfl) ⟨rfl, rfl, rfl, rfl⟩ ?_)
    intro b2 hlb2 hnb2
    refine ⟨fun hnd => (rd_cons (Cell.own (mem_c mem_z) rfl) (rd_cons (Cell.own (mem_c mem_z) rfl) (rd_cons (Gs.cell hC.row (fun e he => (mem_c (mem_c (mem_h he)))) (by rw [CellsL.row]; exact flat_get CellL.len C.l _ 1 c hc (by decide))) rd_nil))), ?_⟩
    refine SA_trim [(39, .slice (some ⟨b2, 0, none⟩) 1 1), (37, Gs.val c.ab c.above.length), (29, .int .i64 n), (28, Gs.val C.s C.l.length), (6, .bool c.valid), (16, .bool (decide (0 ≤ n ∧ n < C.l.length))), (5, .int .i64 (C.l.length : Int)), (4, .int .i64 0), (0, .pointer (some ⟨C.p, 0, none⟩)), (1, .int .i64 n)] (fun _ => rfl) ?_
    refine SA_perm ((Gs.ent 3 1 c.ab (c.above.map (Value.int .i64))) ++ ((b2, .cells 3 1 [.int .i64 (C.l.length : Int)]) :: ((C.p, .cells 125 1 [Gs.val C.s C.l.length]) :: ((Gs.ent 145 2 C.s C.row) ++ ((l1.flatMap CellL.ent) ++ ((l2.flatMap CellL.ent) ++ ([]))))))) (perm_cc (perm_cc (perm_ca (perm_ca perm_cz)))) ?_
    refine SA_one true (li' := #[true, true, true, true, true, true, true, true, true, true, true, true, true, true, true, true, false, false, false]) 15 _ rfl rfl (by kernel_rfl) ⟨rfl, fun _ => rfl⟩ rfl (O_append (size := 1) (bytes := 8) (z := .int .i64 0) c.ab c.above.length 1 (some ⟨b2, 0, none⟩) 1 (c.above.map (Value.int .i64)) ([.int .i64 (C.l.length : Int)]) ((c.above ++ [(C.l.length : Int)]).map (Value.int .i64)) (by simp) (fun _ => rfl) (fun _ => rfl) Try.underlying50 (by kernel_rfl) rfl (by decide) hcok rfl (.inr ⟨b2, 0, rfl, Cells.own (mem_a mem_z) rfl⟩) rfl (by omega) (by decide) rfl ?_)
    intro s3 hks3 hfs3
    refine ⟨fun hnd => (rd_cons (Cell.own (mem_a (mem_c mem_z)) rfl) (rd_cons (Cell.own (mem_a (mem_c mem_z)) rfl) (rd_cons (Gs.cell hC.row (fun e he => (mem_a (mem_c (mem_c (mem_h he))))) (by rw [CellsL.row]; exact flat_get CellL.len C.l _ 1 c hc (by decide))) rd_nil))), ?_⟩
    refine SA_trim [(40, Gs.val s3 (c.above.length + 1)), (29, .int .i64 n), (28, Gs.val C.s C.l.length), (6, .bool c.valid), (16, .bool (decide (0 ≤ n ∧ n < C.l.length))), (5, .int .i64 (C.l.length : Int)), (4, .int .i64 0), (0, .pointer (some ⟨C.p, 0, none⟩)), (1, .int .i64 n)] (fun _ => rfl) ?_
    refine SA_take (li' := #[true, true, true, true, true, true, true, true, true, true, true, true, true, true, true, true, true, false, false]) 16 _ (.pointer (some ⟨(Gs.blk C.s), ((n).toNat) * 2, none⟩)) (fun _ _ _ h => h) rfl (by kernel_rfl) rfl (Or.inl ⟨fun _ => rfl, (fun δ w => run_indexAddr n (((n).toNat) * 2) (Gs.blk C.s) 0 C.l.length (Gs.cap C.s) .i64 2 Try.underlying123 (by kernel_rfl) (fun _ => gs_slice (hC.ne (i := n) (by omega) (by omega))) (fun _ => rfl) (by omega) (by omega) (by omega))⟩) ?_
    refine SA_trim [(41, .pointer (some ⟨(Gs.blk C.s), ((n).toNat) * 2, none⟩)), (40, Gs.val s3 (c.above.length + 1)), (6, .bool c.valid), (16, .bool (decide (0 ≤ n ∧ n < C.l.length))), (5, .int .i64 (C.l.length : Int)), (4, .int .i64 0), (0, .pointer (some ⟨C.p, 0, none⟩)), (1, .int .i64 n)] (fun _ => rfl) ?_
    refine SA_take (li' := #[true, true, true, true, true, true, true, true, true, true, true, true, true, true, true, true, true, true, false]) 17 _ (.pointer (some ⟨(Gs.blk C.s), ((n).toNat) * 2 + 1, none⟩)) (fun _ _ _ h => h) rfl (by kernel_rfl) rfl (Or.inl ⟨fun _ => rfl, by intro δ w; kernel_rfl⟩) ?_
    refine SA_trim [(42, .pointer (some ⟨(Gs.blk C.s), ((n).toNat) * 2 + 1, none⟩)), (40, Gs.val s3 (c.above.length + 1)), (6, .bool c.valid), (16, .bool (decide (0 ≤ n ∧ n < C.l.length))), (5, .int .i64 (C.l.length : Int)), (4, .int .i64 0), (0, .pointer (some ⟨C.p, 0, none⟩)), (1, .int .i64 n)] (fun _ => rfl) ?_
    refine SA_perm ((Gs.ent 145 2 C.s C.row) ++ ((Gs.ent 3 1 s3 ((c.above ++ [(C.l.length : Int)]).map (Value.int .i64))) ++ ((b2, .cells 3 1 [.int .i64 (C.l.length : Int)]) :: ((C.p, .cells 125 1 [Gs.val C.s C.l.length]) :: ((l1.flatMap CellL.ent) ++ ((l2.flatMap CellL.ent) ++ ([]))))))) (perm_ca (perm_cc (perm_cc perm_cz))) ?_
    refine SA_one false (li' := #[true, true, true, true, true, true, true, true, true, true, true, true, true, true, true, true, true, true, true]) 18 _ rfl rfl (by kernel_rfl) ⟨rfl, fun _ => rfl⟩ rfl (O_storeG (ys := (l1 ++ (CellL.mk c.valid s3 (c.above ++ [(C.l.length : Int)])) :: l2).flatMap CellL.cells) C.s (((n).toNat) * 2 + 1) (Gs.val s3 (c.above.length + 1)) [Gs.val s3 (c.above.length + 1)] (hC.ne (i := n) (by omega) (by omega)) (fun _ => rfl) (fun _ => rfl) rfl (by kernel_rfl) rfl (by rw [CellsL.row, flat_len CellL.len]; simp; omega) (by rw [show C.row = (l1 ++ c :: l2).flatMap CellL.cells from by rw [CellsL.row, hl]]; exact flat_lay' (a := c) (j := 1) (vs := [Gs.val s3 (c.above.length + 1)]) CellL.len (CellL.mk c.valid s3 (c.above ++ [(C.l.length : Int)])) hlen (by simp) (by simp [lay, CellL.cells])) rfl ?_)
    refine ⟨fun hnd => (by cases hnd), ?_⟩
    refine SA_trim [(6, .bool c.valid), (16, .bool (decide (0 ≤ n ∧ n < C.l.length))), (5, .int .i64 (C.l.length : Int)), (4, .int .i64 0), (0, .pointer (some ⟨C.p, 0, none⟩)), (1, .int .i64 n)] (fun _ => rfl) ?_
    refine SA_done (by kernel_rfl) (n_then ?_)
    refine SW_seq ?_
    refine SW_region ?_
    refine SL_segT 4 [(46, .pointer (some ⟨C.p, 0, none⟩)), (43, .pointer (some ⟨C.p, 0, none⟩)), (6, .bool c.valid), (16, .bool (decide (0 ≤ n ∧ n < C.l.length))), (5, .int .i64 (C.l.length : Int)), (4, .int .i64 0), (0, .pointer (some ⟨C.p, 0, none⟩)), (1, .int .i64 n)] (by intro δ w; kernel_rfl) ?_
    refine SL_cons ⟨rfl, fun _ => rfl⟩ (O_load C.p 0 (Gs.val C.s C.l.length) (fun _ => rfl) (by kernel_rfl) (Cell.own (mem_a (mem_a (mem_c mem_z))) rfl) rfl ?_)
    refine SL_segT 2 [(49, .agg #[.bool c.valid, .slice none 0 0]), (47, Gs.val C.s C.l.length), (43, .pointer (some ⟨C.p, 0, none⟩)), (6, .bool c.valid), (16, .bool (decide (0 ≤ n ∧ n < C.l.length))), (5, .int .i64 (C.l.length : Int)), (4, .int .i64 0), (0, .pointer (some ⟨C.p, 0, none⟩)), (1, .int .i64 n)] (by intro δ w; kernel_rfl) ?_
    refine SL_cons ⟨rfl, fun _ => rfl⟩ (O_new (fun b => .slice (some ⟨b, 0, none⟩) 1 1) (.cells #[.bool c.valid, .slice none 0 0] 145 (0, 0)) (.cells 145 2 [.bool c.valid, .slice none 0 0]) rfl (by intro δ w; kernel_rfl) ⟨rfl, rfl, rfl, rfl⟩ ?_)
    intro b4 hlb4 hnb4
    refine SL_perm ((Gs.ent 145 2 C.s ((l1 ++ (CellL.mk c.valid s3 (c.above ++ [(C.l.length : Int)])) :: l2).flatMap CellL.cells)) ++ ((b4, .cells 145 2 [.bool c.valid, .slice none 0 0]) :: ((Gs.ent 3 1 s3 ((c.above ++ [(C.l.length : Int)]).map (Value.int .i64))) ++ ((b2, .cells 3 1 [.int .i64 (C.l.length : Int)]) :: ((C.p, .cells 125 1 [Gs.val C.s C.l.length]) :: ((l1.flatMap CellL.ent) ++ ((l2.flatMap CellL.ent) ++ ([])))))))) (perm_cc perm_cz) ?_
    refine SL_cons ⟨rfl, fun _ => rfl⟩ (O_append (size := 2) (bytes := 32) (z := .agg #[.bool false, .slice none 0 0]) C.s C.l.length 1 (some ⟨b4, 0, none⟩) 1 ((l1 ++ (CellL.mk c.valid s3 (c.above ++ [(C.l.length : Int)])) :: l2).flatMap CellL.cells) ([.bool c.valid, .slice none 0 0]) ((l1 ++ (CellL.mk c.valid s3 (c.above ++ [(C.l.length : Int)])) :: l2).flatMap CellL.cells ++ CellL.cells (CellL.mk c.valid Gs.nil [])) rfl (fun _ => rfl) (fun _ => rfl) Try.underlying123 (by kernel_rfl) rfl (by decide) (Gs.ok.relen hC.row (by rw [CellsL.row, hl, flat_len CellL.len, flat_len CellL.len]; simp)) rfl (.inr ⟨b4, 0, rfl, Cells.own (mem_a mem_z) rfl⟩) rfl (by omega) (by decide) rfl ?_)
    intro s5 hks5 hfs5
    refine SL_segT 2 [(53, .pointer (some ⟨C.p, 0, none⟩)), (51, Gs.val s5 (C.l.length + 1)), (6, .bool c.valid), (16, .bool (decide (0 ≤ n ∧ n < C.l.length))), (5, .int .i64 (C.l.length : Int)), (4, .int .i64 0), (0, .pointer (some ⟨C.p, 0, none⟩)), (1, .int .i64 n)] (by intro δ w; kernel_rfl) ?_
    refine SL_perm ((C.p, .cells 125 1 [Gs.val C.s C.l.length]) :: ((Gs.ent 145 2 s5 ((l1 ++ (CellL.mk c.valid s3 (c.above ++ [(C.l.length : Int)])) :: l2).flatMap CellL.cells ++ CellL.cells (CellL.mk c.valid Gs.nil []))) ++ ((b4, .cells 145 2 [.bool c.valid, .slice none 0 0]) :: ((Gs.ent 3 1 s3 ((c.above ++ [(C.l.length : Int)]).map (Value.int .i64))) ++ ((b2, .cells 3 1 [.int .i64 (C.l.length : Int)]) :: ((l1.flatMap CellL.ent) ++ ((l2.flatMap CellL.ent) ++ ([])))))))) (perm_a (perm_c (perm_a (perm_c perm_z)))) ?_
    refine SL_cons ⟨rfl, fun _ => rfl⟩ (O_store C.p 0 (Gs.val s5 (C.l.length + 1)) [Gs.val s5 (C.l.length + 1)] (fun _ => rfl) (fun _ => rfl) rfl (by kernel_rfl) rfl (by simp only [List.length_cons, List.length_nil]; omega) rfl ?_)
    refine SL_sig ((C.p, .cells 125 1 [Gs.val s5 (C.l.length + 1)]) :: ((Gs.ent 145 2 s5 ((l1 ++ (CellL.mk c.valid s3 (c.above ++ [(C.l.length : Int)])) :: l2).flatMap CellL.cells ++ CellL.cells (CellL.mk c.valid Gs.nil []))) ++ ((b4, .cells 145 2 [.bool c.valid, .slice none 0 0]) :: ((Gs.ent 3 1 s3 ((c.above ++ [(C.l.length : Int)]).map (Value.int .i64))) ++ ((b2, .cells 3 1 [.int .i64 (C.l.length : Int)]) :: ((l1.flatMap CellL.ent) ++ ((l2.flatMap CellL.ent) ++ ([])))))))) rfl ?_
    refine SL_nil (n_then ?_)
    refine SW_seq ?_
    refine SW_region ?_
    refine SL_segT 2 [(4, .int .i64 (C.l.length : Int)), (6, .bool c.valid), (16, .bool (decide (0 ≤ n ∧ n < C.l.length))), (5, .int .i64 (C.l.length : Int)), (0, .pointer (some ⟨C.p, 0, none⟩)), (1, .int .i64 n)] (by intro δ w; kernel_rfl) ?_
    refine SL_nil (n_then ?_)
    refine SW_perm ((b4, .cells 145 2 [.bool c.valid, .slice none 0 0]) :: ((C.p, .cells 125 1 [Gs.val s5 (C.l.length + 1)]) :: ((Gs.ent 145 2 s5 ((l1 ++ (CellL.mk c.valid s3 (c.above ++ [(C.l.length : Int)])) :: l2).flatMap CellL.cells ++ CellL.cells (CellL.mk c.valid Gs.nil []))) ++ ((Gs.ent 3 1 s3 ((c.above ++ [(C.l.length : Int)]).map (Value.int .i64))) ++ ((b2, .cells 3 1 [.int .i64 (C.l.length : Int)]) :: ((l1.flatMap CellL.ent) ++ ((l2.flatMap CellL.ent) ++ ([])))))))) (perm_c (perm_a perm_z)) ?_
    refine SW_forget ?_
    refine SW_perm ((b2, .cells 3 1 [.int .i64 (C.l.length : Int)]) :: ((C.p, .cells 125 1 [Gs.val s5 (C.l.length + 1)]) :: ((Gs.ent 145 2 s5 ((l1 ++ (CellL.mk c.valid s3 (c.above ++ [(C.l.length : Int)])) :: l2).flatMap CellL.cells ++ CellL.cells (CellL.mk c.valid Gs.nil []))) ++ ((Gs.ent 3 1 s3 ((c.above ++ [(C.l.length : Int)]).map (Value.int .i64))) ++ ((l1.flatMap CellL.ent) ++ ((l2.flatMap CellL.ent) ++ ([]))))))) (perm_c (perm_a (perm_a perm_z))) ?_
    refine SW_forget ?_
    refine SW_perm ((l2.flatMap CellL.ent) ++ ((C.p, .cells 125 1 [Gs.val s5 (C.l.length + 1)]) :: ((Gs.ent 145 2 s5 ((l1 ++ (CellL.mk c.valid s3 (c.above ++ [(C.l.length : Int)])) :: l2).flatMap CellL.cells ++ CellL.cells (CellL.mk c.valid Gs.nil []))) ++ ((Gs.ent 3 1 s3 ((c.above ++ [(C.l.length : Int)]).map (Value.int .i64))) ++ ((l1.flatMap CellL.ent) ++ ([])))))) (perm_cc (perm_ca (perm_ca (perm_ca perm_cz)))) ?_
    refine SW_perm ((Gs.ent 3 1 s3 ((c.above ++ [(C.l.length : Int)]).map (Value.int .i64))) ++ ((l2.flatMap CellL.ent) ++ ((C.p, .cells 125 1 [Gs.val s5 (C.l.length + 1)]) :: ((Gs.ent 145 2 s5 ((l1 ++ (CellL.mk c.valid s3 (c.above ++ [(C.l.length : Int)])) :: l2).flatMap CellL.cells ++ CellL.cells (CellL.mk c.valid Gs.nil []))) ++ ((l1.flatMap CellL.ent) ++ ([])))))) (perm_ca (perm_cc (perm_ca perm_cz))) ?_
    refine SW_perm ((l1.flatMap CellL.ent) ++ ((Gs.ent 3 1 s3 ((c.above ++ [(C.l.length : Int)]).map (Value.int .i64))) ++ ((l2.flatMap CellL.ent) ++ ((C.p, .cells 125 1 [Gs.val s5 (C.l.length + 1)]) :: ((Gs.ent 145 2 s5 ((l1 ++ (CellL.mk c.valid s3 (c.above ++ [(C.l.length : Int)])) :: l2).flatMap CellL.cells ++ CellL.cells (CellL.mk c.valid Gs.nil []))) ++ ([])))))) (perm_ca (perm_ca (perm_cc (perm_ca perm_cz)))) ?_
    refine SW_perm ((Gs.ent 145 2 s5 ((l1 ++ (CellL.mk c.valid s3 (c.above ++ [(C.l.length : Int)])) :: l2).flatMap CellL.cells ++ CellL.cells (CellL.mk c.valid Gs.nil []))) ++ ((l1.flatMap CellL.ent) ++ ((Gs.ent 3 1 s3 ((c.above ++ [(C.l.length : Int)]).map (Value.int .i64))) ++ ((l2.flatMap CellL.ent) ++ ((C.p, .cells 125 1 [Gs.val s5 (C.l.length + 1)]) :: ([])))))) (perm_ca (perm_ca (perm_ca (perm_cc perm_cz)))) ?_
    refine SW_perm ((C.p, .cells 125 1 [Gs.val s5 (C.l.length + 1)]) :: ((Gs.ent 145 2 s5 ((l1 ++ (CellL.mk c.valid s3 (c.above ++ [(C.l.length : Int)])) :: l2).flatMap CellL.cells ++ CellL.cells (CellL.mk c.valid Gs.nil []))) ++ ((l1.flatMap CellL.ent) ++ ((Gs.ent 3 1 s3 ((c.above ++ [(C.l.length : Int)]).map (Value.int .i64))) ++ ((l2.flatMap CellL.ent) ++ ([])))))) (perm_a (perm_a (perm_a (perm_a perm_z)))) ?_
    refine SW_ret ?_
    refine body_end (.int .i64 (C.l.length : Int)) (fun _ => rfl) ?_
    refine ⟨⟨C.p, s5, (l1 ++ (CellL.mk c.valid s3 (c.above ++ [(C.l.length : Int)])) :: l2) ++ [CellL.mk c.valid Gs.nil []]⟩, List.Perm.of_eq (by simp [CellsL.ent, CellsL.row, CellL.ent, Gs.ent, hl, Nat.add_assoc]), ⟨?_, ?_⟩, rfl, rfl, mkP_in hc1 hl hlen _ _⟩
    · simpa [CellsL.row, hl, Nat.add_assoc] using hks5
    · intro d hd
      simp only [List.mem_append, List.mem_cons, List.not_mem_nil, or_false] at hd
      rcases hd with (hd | rfl | hd) | rfl
      · exact hC.each d (by rw [hl]; simp [hd])
      · simpa [CellL.ok] using hks3
      · exact hC.each d (by rw [hl]; simp [hd])
      · exact ⟨rfl, rfl⟩
  · skip
    replace hc1 := of_decide_eq_false hc1
    refine SW_skip (n_then ?_)
    refine SW_seq ?_
    refine SW_region ?_
    refine SL_segT 4 [(46, .pointer (some ⟨C.p, 0, none⟩)), (43, .pointer (some ⟨C.p, 0, none⟩)), (16, .bool (decide (0 ≤ n ∧ n < C.l.length))), (6, .bool (n == (-1))), (5, .int .i64 (C.l.length : Int)), (4, .int .i64 0), (0, .pointer (some ⟨C.p, 0, none⟩)), (1, .int .i64 n)] (by intro δ w; kernel_rfl) ?_
    refine SL_cons ⟨rfl, fun _ => rfl⟩ (O_load C.p 0 (Gs.val C.s C.l.length) (fun _ => rfl) (by kernel_rfl) (Cell.own mem_z rfl) rfl ?_)
    refine SL_segT 2 [(49, .agg #[.bool (n == (-1)), .slice none 0 0]), (47, Gs.val C.s C.l.length), (43, .pointer (some ⟨C.p, 0, none⟩)), (16, .bool (decide (0 ≤ n ∧ n < C.l.length))), (6, .bool (n == (-1))), (5, .int .i64 (C.l.length : Int)), (4, .int .i64 0), (0, .pointer (some ⟨C.p, 0, none⟩)), (1, .int .i64 n)] (by intro δ w; kernel_rfl) ?_
    refine SL_cons ⟨rfl, fun _ => rfl⟩ (O_new (fun b => .slice (some ⟨b, 0, none⟩) 1 1) (.cells #[.bool (n == (-1)), .slice none 0 0] 145 (0, 0)) (.cells 145 2 [.bool (n == (-1)), .slice none 0 0]) rfl (by intro δ w; kernel_rfl) ⟨rfl, rfl, rfl, rfl⟩ ?_)
    intro b6 hlb6 hnb6
    refine SL_perm ((Gs.ent 145 2 C.s C.row) ++ ((b6, .cells 145 2 [.bool (n == (-1)), .slice none 0 0]) :: ((C.p, .cells 125 1 [Gs.val C.s C.l.length]) :: ((C.l.flatMap CellL.ent) ++ ([]))))) (perm_cc (perm_cc perm_cz)) ?_
    refine SL_cons ⟨rfl, fun _ => rfl⟩ (O_append (size := 2) (bytes := 32) (z := .agg #[.bool false, .slice none 0 0]) C.s C.l.length 1 (some ⟨b6, 0, none⟩) 1 C.row ([.bool (n == (-1)), .slice none 0 0]) (C.row ++ CellL.cells (CellL.mk (n == (-1)) Gs.nil [])) rfl (fun _ => rfl) (fun _ => rfl) Try.underlying123 (by kernel_rfl) rfl (by decide) hC.row rfl (.inr ⟨b6, 0, rfl, Cells.own (mem_a mem_z) rfl⟩) rfl (by omega) (by decide) rfl ?_)
    intro s7 hks7 hfs7
    refine SL_segT 2 [(53, .pointer (some ⟨C.p, 0, none⟩)), (51, Gs.val s7 (C.l.length + 1)), (16, .bool (decide (0 ≤ n ∧ n < C.l.length))), (6, .bool (n == (-1))), (5, .int .i64 (C.l.length : Int)), (4, .int .i64 0), (0, .pointer (some ⟨C.p, 0, none⟩)), (1, .int .i64 n)] (by intro δ w; kernel_rfl) ?_
    refine SL_perm ((C.p, .cells 125 1 [Gs.val C.s C.l.length]) :: ((Gs.ent 145 2 s7 (C.row ++ CellL.cells (CellL.mk (n == (-1)) Gs.nil []))) ++ ((b6, .cells 145 2 [.bool (n == (-1)), .slice none 0 0]) :: ((C.l.flatMap CellL.ent) ++ ([]))))) (perm_a (perm_c perm_z)) ?_
    refine SL_cons ⟨rfl, fun _ => rfl⟩ (O_store C.p 0 (Gs.val s7 (C.l.length + 1)) [Gs.val s7 (C.l.length + 1)] (fun _ => rfl) (fun _ => rfl) rfl (by kernel_rfl) rfl (by simp only [List.length_cons, List.length_nil]; omega) rfl ?_)
    refine SL_sig ((C.p, .cells 125 1 [Gs.val s7 (C.l.length + 1)]) :: ((Gs.ent 145 2 s7 (C.row ++ CellL.cells (CellL.mk (n == (-1)) Gs.nil []))) ++ ((b6, .cells 145 2 [.bool (n == (-1)), .slice none 0 0]) :: ((C.l.flatMap CellL.ent) ++ ([]))))) rfl ?_
    refine SL_nil (n_then ?_)
    refine SW_seq ?_
    refine SW_region ?_
    refine SL_segT 2 [(4, .int .i64 (C.l.length : Int)), (16, .bool (decide (0 ≤ n ∧ n < C.l.length))), (6, .bool (n == (-1))), (5, .int .i64 (C.l.length : Int)), (0, .pointer (some ⟨C.p, 0, none⟩)), (1, .int .i64 n)] (by intro δ w; kernel_rfl) ?_
    refine SL_nil (n_then ?_)
    refine SW_perm ((b6, .cells 145 2 [.bool (n == (-1)), .slice none 0 0]) :: ((C.p, .cells 125 1 [Gs.val s7 (C.l.length + 1)]) :: ((Gs.ent 145 2 s7 (C.row ++ CellL.cells (CellL.mk (n == (-1)) Gs.nil []))) ++ ((C.l.flatMap CellL.ent) ++ ([]))))) (perm_c (perm_a perm_z)) ?_
    refine SW_forget ?_
    refine SW_perm ((C.l.flatMap CellL.ent) ++ ((C.p, .cells 125 1 [Gs.val s7 (C.l.length + 1)]) :: ((Gs.ent 145 2 s7 (C.row ++ CellL.cells (CellL.mk (n == (-1)) Gs.nil []))) ++ ([])))) (perm_cc (perm_ca perm_cz)) ?_
    refine SW_perm ((Gs.ent 145 2 s7 (C.row ++ CellL.cells (CellL.mk (n == (-1)) Gs.nil []))) ++ ((C.l.flatMap CellL.ent) ++ ((C.p, .cells 125 1 [Gs.val s7 (C.l.length + 1)]) :: ([])))) (perm_ca (perm_cc perm_cz)) ?_
    refine SW_perm ((C.p, .cells 125 1 [Gs.val s7 (C.l.length + 1)]) :: ((Gs.ent 145 2 s7 (C.row ++ CellL.cells (CellL.mk (n == (-1)) Gs.nil []))) ++ ((C.l.flatMap CellL.ent) ++ ([])))) (perm_a (perm_a perm_z)) ?_
    refine SW_ret ?_
    refine body_end (.int .i64 (C.l.length : Int)) (fun _ => rfl) ?_
    refine ⟨⟨C.p, s7, C.l ++ [CellL.mk (n == (-1)) Gs.nil []]⟩, List.Perm.of_eq (by simp [CellsL.ent, CellsL.row, CellL.ent, Gs.ent]), ⟨?_, ?_⟩, rfl, rfl, mkP_out hc1 _⟩
    · simpa [CellsL.row] using hks7
    · intro d hd
      simp only [List.mem_append, List.mem_cons, List.not_mem_nil, or_false] at hd
      rcases hd with hd | rfl
      · exact hC.each d hd
      · exact ⟨rfl, rfl⟩

theorem cells_Break {W0 : World} {C : CellsL} (hC : C.ok) (hab : abv C.abs ≤ 1099511627776) (n : Int) : SC Try.prog W0 76 #[.pointer (some ⟨C.p, 0, none⟩), .int .i64 n] C.ent (fun v σ' => ∃ (m : Int) (l : List CellL), Own σ' (CellsL.ent ⟨C.p, C.s, l⟩) ∧ CellsL.ok ⟨C.p, C.s, l⟩ ∧ v = .int .i64 m ∧ Broke C.abs (l.map CellL.abs) n) := by
  refine SC_body (fn := Try.f76) (n := 47) Try.func76 rfl (by kernel_rfl) (ρ := [(0, .pointer (some ⟨C.p, 0, none⟩)), (1, .int .i64 n)]) rfl ?_
  refine SW_sig ((C.p, .cells 125 1 [Gs.val C.s C.l.length]) :: ((Gs.ent 145 2 C.s C.row) ++ ((C.l.flatMap CellL.ent) ++ ([])))) (by simp [CellsL.ent]) ?_
  refine SW_seq ?_
  refine SW_region ?_
  refine SL_segT 1 [(4, .int .i64 0), (0, .pointer (some ⟨C.p, 0, none⟩)), (1, .int .i64 n)] (by intro δ w; kernel_rfl) ?_
  refine SL_nil (n_then ?_)
  refine SW_scope ?_
  refine SW_seq ?_
  refine SW_region ?_
  refine SL_segT 1 [(5, .int .i64 0), (4, .int .i64 0), (0, .pointer (some ⟨C.p, 0, none⟩)), (1, .int .i64 n)] (by intro δ w; kernel_rfl) ?_
  refine SL_nil (n_then ?_)
  refine SW_seq ?_
  refine SW_region ?_
  refine SL_segT 1 [(7, .int .i64 n), (5, .int .i64 0), (4, .int .i64 0), (0, .pointer (some ⟨C.p, 0, none⟩)), (1, .int .i64 n)] (by intro δ w; kernel_rfl) ?_
  refine SL_cons ⟨rfl, fun _ => rfl⟩ (O_new (fun b => .slice (some ⟨b, 0, none⟩) 1 1) (.cells #[.int .i64 n] 3 (0, 0)) (.cells 3 1 [.int .i64 n]) rfl (by intro δ w; kernel_rfl) ⟨rfl, rfl, rfl, rfl⟩ ?_)
  intro b1 hlb1 hnb1
  refine SL_segT 1 [(6, .slice (some ⟨b1, 0, none⟩) 1 1), (5, .int .i64 0), (4, .int .i64 0), (0, .pointer (some ⟨C.p, 0, none⟩)), (1, .int .i64 n)] (by intro δ w; kernel_rfl) ?_
  refine SL_nil (n_then ?_)
  refine SW_seq ?_
  refine SW_label (n_then ?_)
  refine SW_seq ?_
  refine SW_block ?_
  refine SW_sig ((Gs.ent 3 1 (Gs.at b1 1) ([n].map (Value.int .i64))) ++ ((C.p, .cells 125 1 [Gs.val C.s C.l.length]) :: ((Gs.ent 145 2 C.s C.row) ++ ((C.l.flatMap CellL.ent) ++ ([]))))) rfl ?_
  refine SW_loop (α := BrkS) (fun x ρ σ => Fits ρ σ [(6, Gs.val x.s ((x.todo).length)), (5, .int .i64 x.m), (0, .pointer (some ⟨C.p, 0, none⟩)), (1, .int .i64 x.j), (4, .int .i64 0)] ((C.p, .cells 125 1 [Gs.val C.s ((x.l).length)]) :: ((Gs.ent 145 2 C.s ((x.l).flatMap CellL.cells)) ++ (((x.l).flatMap CellL.ent) ++ ((Gs.ent 3 1 x.s (x.todo.map (Value.int .i64))) ++ ([]))))) ∧ BrkI C n x) (BrkS.μ C) ⟨C.l, .at b1 1, [n], 0, n⟩ ⟨⟨fun _ => rfl, (own_mk (X := ((C.p, .cells 125 1 [Gs.val C.s C.l.length]) :: ((Gs.ent 145 2 C.s C.row) ++ ((C.l.flatMap CellL.ent) ++ ((Gs.ent 3 1 (Gs.at b1 1) ([n].map (Value.int .i64))) ++ ([])))))) (J := ([])) (List.Perm.trans (perm_a perm_z) (List.Perm.cons _ (List.Perm.trans (perm_ca perm_cz) (List.Perm.append_left _ (List.Perm.trans (perm_ca perm_cz) (List.Perm.append_left _ (List.Perm.refl _))))))) (by simp [CellsL.row]))⟩, BInv.start _ _, hC, rfl, ⟨Nat.le_refl _, by unfold maxLen; omega, rfl⟩⟩ ?_
  rintro ⟨l, s, todo, m, j0⟩ ρ σ ⟨hfit, hI⟩
  refine SW_fits hfit ?_
  clear hfit
  simp only [] at hI ⊢
  refine SW_seq ?_
  refine SW_seq ?_
  refine SW_region ?_
  refine SL_segT 3 [(11, .bool (decide (((((todo).length : Nat)) : Int) > 0))), (6, Gs.val s ((todo).length)), (5, .int .i64 m), (0, .pointer (some ⟨C.p, 0, none⟩)), (1, .int .i64 j0), (4, .int .i64 0)] (by intro δ w; kernel_rfl) ?_
  refine SL_nil (n_then ?_)
  refine SW_cond (decide (((((todo).length : Nat)) : Int) > 0)) (fun _ => rfl) (fun hc2 => ?_) (fun hc2 => ?_)
  · skip
    replace hc2 := of_decide_eq_true hc2
    obtain ⟨t, j, rfl⟩ : ∃ t j, todo = t ++ [j] := by
      rcases List.eq_nil_or_concat todo with rfl | ⟨t, j, rfl⟩
      · simp at hc2
      · exact ⟨t, j, by simp⟩
    have hlj : (t ++ [j]).length = t.length + 1 := by simp
    have hcap : (t ++ [j]).length ≤ s.cap := hI.cap
    have htm : t.length ≤ 2199023255552 := by have := hI.inv.room; have h2 := hab; simp only [List.length_append, List.length_singleton] at this; omega
    refine SW_sig ((C.p, .cells 125 1 [Gs.val C.s ((l).length)]) :: ((Gs.ent 145 2 C.s ((l).flatMap CellL.cells)) ++ (((l).flatMap CellL.ent) ++ ((Gs.ent 3 1 s (t.map (Value.int .i64) ++ [.int .i64 j])) ++ ([]))))) (by simp) ?_
    refine SW_skip (n_then ?_)
    refine SW_block ?_
    refine SW_seq ?_
    refine SW_draw [((Gs.blk s), t.length, .int .i64 j)] [0, 1, 2, 3, 4, 5, 6, 7, 8, 9, 10, 11, 12] (by kernel_rfl) (rd_cons (Gs.cell (by simpa using hI.sok) (fun e he => (mem_c (mem_a (mem_a (mem_h he))))) (by rw [show (t.length) = t.length from by omega]; simp)) rd_nil) ?_
    refine SA_take (li' := #[true, false, false, false, false, false, false, false, false, false, false, false, false]) 0 _ (Gs.val s ((t ++ [j]).length)) (fun _ _ _ h => h) rfl (by kernel_rfl) rfl (Or.inl ⟨fun _ => rfl, by intro δ w; kernel_rfl⟩) ?_
    refine SA_take (li' := #[true, true, false, false, false, false, false, false, false, false, false, false, false]) 1 _ (Gs.val s ((t ++ [j]).length)) (fun _ _ _ h => h) rfl (by kernel_rfl) rfl (Or.inl ⟨fun _ => rfl, by intro δ w; kernel_rfl⟩) ?_
    refine SA_take (li' := #[true, true, true, false, false, false, false, false, false, false, false, false, false]) 2 _ (.int .i64 ((((t ++ [j]).length : Nat)) : Int)) (fun _ _ _ h => h) rfl (by kernel_rfl) rfl (Or.inl ⟨fun _ => rfl, by intro δ w; kernel_rfl⟩) ?_
    refine SA_trim [(14, .int .i64 ((((t ++ [j]).length : Nat)) : Int)), (12, Gs.val s ((t ++ [j]).length)), (6, Gs.val s ((t ++ [j]).length)), (5, .int .i64 m), (0, .pointer (some ⟨C.p, 0, none⟩)), (1, .int .i64 j0), (4, .int .i64 0)] (fun _ => rfl) ?_
    refine SA_take (li' := #[true, true, true, true, false, false, false, false, false, false, false, false, false]) 3 _ (.int .i64 (IntKind.wrap .i64 (((((t ++ [j]).length : Nat)) : Int) - 1))) (fun _ _ _ h => h) rfl (by kernel_rfl) rfl (Or.inl ⟨fun _ => rfl, by intro δ w; kernel_rfl⟩) ?_
    rw [show IntKind.wrap .i64 (((((t ++ [j]).length : Nat)) : Int) - 1) = ((((t ++ [j]).length : Nat)) : Int) - 1 from IntWalk.i64_in _ (by omega)]
    refine SA_trim [(15, .int .i64 (((((t ++ [j]).length : Nat)) : Int) - 1)), (12, Gs.val s ((t ++ [j]).length)), (6, Gs.val s ((t ++ [j]).length)), (5, .int .i64 m), (0, .pointer (some ⟨C.p, 0, none⟩)), (1, .int .i64 j0), (4, .int .i64 0)] (fun _ => rfl) ?_
    refine SA_take (li' := #[true, true, true, true, true, false, false, false, false, false, false, false, false]) 4 _ (.pointer (some ⟨(Gs.blk s), t.length, none⟩)) (fun _ _ _ h => h) rfl (by kernel_rfl) rfl (Or.inl ⟨fun _ => rfl, (fun δ w => run_indexAddr (((((t ++ [j]).length : Nat)) : Int) - 1) (t.length) (Gs.blk s) 0 ((t ++ [j]).length) (Gs.cap s) .i64 1 Try.underlying50 (by kernel_rfl) (fun _ => gs_slice (Gs.ok.ne hI.sok (by simp))) (fun _ => rfl) (by omega) (by omega) (by omega))⟩) ?_
    refine SA_trim [(16, .pointer (some ⟨(Gs.blk s), t.length, none⟩)), (6, Gs.val s ((t ++ [j]).length)), (5, .int .i64 m), (0, .pointer (some ⟨C.p, 0, none⟩)), (1, .int .i64 j0), (4, .int .i64 0)] (fun _ => rfl) ?_
    refine SA_read (li' := #[true, true, true, true, true, true, false, false, false, false, false, false, false]) 5 _ (.int .i64 j) (fun _ _ _ h => h) rfl (by kernel_rfl) rfl (fun _ => rfl) (fun δ w hr => Rd_load (Gs.blk s) t.length (.int .i64 j) rfl (by kernel_rfl) List.mem_cons_self hr) ?_
    refine SA_trim [(17, .int .i64 j), (6, Gs.val s ((t ++ [j]).length)), (5, .int .i64 m), (0, .pointer (some ⟨C.p, 0, none⟩)), (1, .int .i64 j0), (4, .int .i64 0)] (fun _ => rfl) ?_
    refine SA_take (li' := #[true, true, true, true, true, true, true, false, false, false, false, false, false]) 6 _ (Gs.val s ((t ++ [j]).length)) (fun _ _ _ h => h) rfl (by kernel_rfl) rfl (Or.inl ⟨fun _ => rfl, by intro δ w; kernel_rfl⟩) ?_
    refine SA_take (li' := #[true, true, true, true, true, true, true, true, false, false, false, false, false]) 7 _ (Gs.val s ((t ++ [j]).length)) (fun _ _ _ h => h) rfl (by kernel_rfl) rfl (Or.inl ⟨fun _ => rfl, by intro δ w; kernel_rfl⟩) ?_
    refine SA_take (li' := #[true, true, true, true, true, true, true, true, true, false, false, false, false]) 8 _ (.int .i64 ((((t ++ [j]).length : Nat)) : Int)) (fun _ _ _ h => h) rfl (by kernel_rfl) rfl (Or.inl ⟨fun _ => rfl, by intro δ w; kernel_rfl⟩) ?_
    refine SA_trim [(20, .int .i64 ((((t ++ [j]).length : Nat)) : Int)), (18, Gs.val s ((t ++ [j]).length)), (17, .int .i64 j), (6, Gs.val s ((t ++ [j]).length)), (5, .int .i64 m), (0, .pointer (some ⟨C.p, 0, none⟩)), (1, .int .i64 j0), (4, .int .i64 0)] (fun _ => rfl) ?_
    refine SA_take (li' := #[true, true, true, true, true, true, true, true, true, true, false, false, false]) 9 _ (.int .i64 (IntKind.wrap .i64 (((((t ++ [j]).length : Nat)) : Int) - 1))) (fun _ _ _ h => h) rfl (by kernel_rfl) rfl (Or.inl ⟨fun _ => rfl, by intro δ w; kernel_rfl⟩) ?_
    rw [show IntKind.wrap .i64 (((((t ++ [j]).length : Nat)) : Int) - 1) = ((((t ++ [j]).length : Nat)) : Int) - 1 from IntWalk.i64_in _ (by omega)]
    refine SA_trim [(21, .int .i64 (((((t ++ [j]).length : Nat)) : Int) - 1)), (18, Gs.val s ((t ++ [j]).length)), (17, .int .i64 j), (6, Gs.val s ((t ++ [j]).length)), (5, .int .i64 m), (0, .pointer (some ⟨C.p, 0, none⟩)), (1, .int .i64 j0), (4, .int .i64 0)] (fun _ => rfl) ?_
    refine SA_take (li' := #[true, true, true, true, true, true, true, true, true, true, true, false, false]) 10 _ (.slice (Gs.addr s) (((((t ++ [j]).length : Nat)) : Int) - 1).toNat (Gs.cap s)) (fun _ _ _ h => h) rfl (by kernel_rfl) rfl (Or.inl ⟨fun _ => rfl, (fun δ w => run_slice_to (((((t ++ [j]).length : Nat)) : Int) - 1) (Gs.addr s) ((t ++ [j]).length) (Gs.cap s) .i64 Try.underlying50 (by kernel_rfl) rfl rfl (by omega) (by omega))⟩) ?_
    rw [show (((((t ++ [j]).length : Nat)) : Int) - 1).toNat = t.length from by omega]
    refine SA_trim [(22, Gs.val s t.length), (17, .int .i64 j), (6, Gs.val s ((t ++ [j]).length)), (5, .int .i64 m), (0, .pointer (some ⟨C.p, 0, none⟩)), (1, .int .i64 j0), (4, .int .i64 0)] (fun _ => rfl) ?_
    refine SA_take (li' := #[true, true, true, true, true, true, true, true, true, true, true, true, false]) 11 _ (.int .i64 j) (fun _ _ _ h => h) rfl (by kernel_rfl) rfl (Or.inl ⟨fun _ => rfl, by intro δ w; kernel_rfl⟩) ?_
    refine SA_trim [(1, .int .i64 j), (22, Gs.val s t.length), (6, Gs.val s ((t ++ [j]).length)), (5, .int .i64 m), (0, .pointer (some ⟨C.p, 0, none⟩)), (4, .int .i64 0)] (fun _ => rfl) ?_
    refine SA_take (li' := #[true, true, true, true, true, true, true, true, true, true, true, true, true]) 12 _ (Gs.val s t.length) (fun _ _ _ h => h) rfl (by kernel_rfl) rfl (Or.inl ⟨fun _ => rfl, by intro δ w; kernel_rfl⟩) ?_
    refine SA_trim [(6, Gs.val s t.length), (1, .int .i64 j), (5, .int .i64 m), (0, .pointer (some ⟨C.p, 0, none⟩)), (4, .int .i64 0)] (fun _ => rfl) ?_
    refine SA_done (by kernel_rfl) (n_then ?_)
    refine SW_seq ?_
    refine SW_seq ?_
    refine SW_perm ((Gs.ent 3 1 s (t.map (Value.int .i64) ++ [.int .i64 j])) ++ ((C.p, .cells 125 1 [Gs.val C.s ((l).length)]) :: ((Gs.ent 145 2 C.s ((l).flatMap CellL.cells)) ++ (((l).flatMap CellL.ent) ++ ([]))))) (perm_cc (perm_ca (perm_ca perm_cz))) ?_
    refine SW_weakG ?_
    refine SW_region ?_
    refine SL_segT 2 [(24, .int .i64 j), (23, .pointer (some ⟨C.p, 0, none⟩)), (6, Gs.val s t.length), (1, .int .i64 j), (5, .int .i64 m), (0, .pointer (some ⟨C.p, 0, none⟩)), (4, .int .i64 0)] (by intro δ w; kernel_rfl) ?_
    refine SL_cons ⟨rfl, fun _ => rfl⟩ (O_call 68 #[.pointer (some ⟨C.p, 0, none⟩), .int .i64 j] rfl (by intro δ w; kernel_rfl) (cells_Valid (C := ⟨C.p, C.s, l⟩) hI.ok (fun e he => (List.mem_cons.1 he).elim (fun h => h ▸ (mem_a mem_z)) (fun h => (List.mem_append.1 h).elim (fun h => (mem_a (mem_c (mem_h h)))) (fun h => (mem_a (mem_c (mem_a (mem_h h))))))) j) ?_)
    rintro _ _ ⟨rfl, rfl⟩
    refine SL_segT 1 [(26, .bool (!(CellsL.isV ⟨C.p, C.s, l⟩ j))), (6, Gs.val s t.length), (1, .int .i64 j), (5, .int .i64 m), (0, .pointer (some ⟨C.p, 0, none⟩)), (4, .int .i64 0)] (by intro δ w; kernel_rfl) ?_
    refine SL_nil (n_then ?_)
    refine SW_cond (!(CellsL.isV ⟨C.p, C.s, l⟩ j)) (fun _ => rfl) (fun hc3 => ?_) (fun hc3 => ?_)
    · skip
      replace hc3 : (CellsL.isV ⟨C.p, C.s, l⟩ j) = false := by simpa using hc3
      have hv := hc3
      refine SW_exit (x_then (x_in (n_then ?_)))
      exact ⟨⟨l, s, t, m, j⟩, (brk_skip hI hv).1, ⟨fun _ => rfl, (own_mk (X := ((C.p, .cells 125 1 [Gs.val C.s ((l).length)]) :: ((Gs.ent 145 2 C.s ((l).flatMap CellL.cells)) ++ (((l).flatMap CellL.ent) ++ ((Gs.ent 3 1 s (t.map (Value.int .i64))) ++ ([])))))) (J := ([])) (List.Perm.trans (perm_a perm_z) (List.Perm.cons _ (List.Perm.trans (perm_ca perm_cz) (List.Perm.append_left _ (List.Perm.trans (perm_ca perm_cz) (List.Perm.append_left _ (List.Perm.refl _))))))) (by simp [CellL.ent]))⟩, (brk_skip hI hv).2⟩
    · skip
      replace hc3 : (CellsL.isV ⟨C.p, C.s, l⟩ j) = true := by simpa using hc3
      obtain ⟨c, hj, hc, hcv⟩ := CellsL.isV_true hc3
      simp only [] at hc hj
      obtain ⟨l1, l2, rfl, hlen⟩ := split_at hc
      obtain ⟨hrm, hrm2⟩ := brk_room hI hlen hj.1 hcv
      have hcok : c.ok := hI.ok.each c (by simp [BrkS.at])
      refine SW_own (S := ((C.p, .cells 125 1 [Gs.val C.s ((l1 ++ c :: l2).length)]) :: ((Gs.ent 145 2 C.s ((l1 ++ c :: l2).flatMap CellL.cells)) ++ ((l1.flatMap CellL.ent) ++ ((Gs.ent 3 1 c.ab (c.above.map (Value.int .i64))) ++ ((l2.flatMap CellL.ent) ++ ((Gs.ent 3 1 s (t.map (Value.int .i64))) ++ ([])))))))) (own_mk (X := ((C.p, .cells 125 1 [Gs.val C.s ((l1 ++ c :: l2).length)]) :: ((Gs.ent 145 2 C.s ((l1 ++ c :: l2).flatMap CellL.cells)) ++ (((l1 ++ c :: l2).flatMap CellL.ent) ++ ((Gs.ent 3 1 s (t.map (Value.int .i64))) ++ ([])))))) (J := ([])) (List.Perm.trans (perm_a perm_z) (List.Perm.cons _ (List.Perm.trans (perm_ca perm_cz) (List.Perm.append_left _ (List.Perm.trans (perm_ca perm_cz) (List.Perm.append_left _ (List.Perm.refl _))))))) (by simp [CellL.ent])) ?_
      refine SW_skip (n_then ?_)
      refine SW_seq ?_
      refine SW_region ?_
      refine SL_segT 3 [(29, .pointer (some ⟨C.p, 0, none⟩)), (6, Gs.val s t.length), (1, .int .i64 j), (5, .int .i64 m), (0, .pointer (some ⟨C.p, 0, none⟩)), (4, .int .i64 0)] (by intro δ w; kernel_rfl) ?_
      refine SL_cons ⟨rfl, fun _ => rfl⟩ (O_load C.p 0 (Gs.val C.s ((l1 ++ c :: l2).length)) (fun _ => rfl) (by kernel_rfl) (Cell.own mem_z rfl) rfl ?_)
      refine SL_segT 1 [(31, .int .i64 j), (30, Gs.val C.s ((l1 ++ c :: l2).length)), (6, Gs.val s t.length), (1, .int .i64 j), (5, .int .i64 m), (0, .pointer (some ⟨C.p, 0, none⟩)), (4, .int .i64 0)] (by intro δ w; kernel_rfl) ?_
      refine SL_cons ⟨rfl, fun _ => rfl⟩ (O_indexAddr' j (((j).toNat) * 2) (Gs.blk C.s) 0 ((l1 ++ c :: l2).length) (Gs.cap C.s) .i64 2 Try.underlying123 (by kernel_rfl) (fun _ => gs_slice (Gs.ok.ne hI.ok.row (by simp [BrkS.at]; omega))) (fun _ => rfl) (by omega) (by omega) (by omega) rfl ?_)
      refine SL_segT 1 [(33, .pointer (some ⟨(Gs.blk C.s), ((j).toNat) * 2, none⟩)), (6, Gs.val s t.length), (1, .int .i64 j), (5, .int .i64 m), (0, .pointer (some ⟨C.p, 0, none⟩)), (4, .int .i64 0)] (by intro δ w; kernel_rfl) ?_
      refine SL_perm ((Gs.ent 145 2 C.s ((l1 ++ c :: l2).flatMap CellL.cells)) ++ ((C.p, .cells 125 1 [Gs.val C.s ((l1 ++ c :: l2).length)]) :: ((l1.flatMap CellL.ent) ++ ((Gs.ent 3 1 c.ab (c.above.map (Value.int .i64))) ++ ((l2.flatMap CellL.ent) ++ ((Gs.ent 3 1 s (t.map (Value.int .i64))) ++ ([]))))))) (perm_cc perm_cz) ?_
      refine SL_cons ⟨rfl, fun _ => rfl⟩ (O_storeG (ys := ((l1 ++ ⟨false, c.ab, c.above⟩ :: l2).flatMap CellL.cells)) C.s (((j).toNat) * 2) (.bool false) [.bool false] (Gs.ok.ne hI.ok.row (by simp [BrkS.at]; omega)) (fun _ => rfl) (fun _ => rfl) rfl (by kernel_rfl) rfl (by rw [flat_len CellL.len]; simp; omega) (flat_lay' (a := c) (j := 0) (vs := [.bool false]) CellL.len ⟨false, c.ab, c.above⟩ hlen (by simp) (by simp [lay, CellL.cells])) rfl ?_)
      refine SL_nil (n_then ?_)
      refine SW_seq ?_
      refine SW_region ?_
      refine SL_segT 3 [(5, .int .i64 (IntKind.wrap .i64 (m + 1))), (6, Gs.val s t.length), (1, .int .i64 j), (0, .pointer (some ⟨C.p, 0, none⟩)), (4, .int .i64 0)] (by intro δ w; kernel_rfl) ?_
      refine SL_nil (n_then ?_)
      refine SW_region ?_
      refine SL_segT 4 [(39, .pointer (some ⟨C.p, 0, none⟩)), (36, Gs.val s t.length), (5, .int .i64 (IntKind.wrap .i64 (m + 1))), (6, Gs.val s t.length), (1, .int .i64 j), (0, .pointer (some ⟨C.p, 0, none⟩)), (4, .int .i64 0)] (by intro δ w; kernel_rfl) ?_
      refine SL_cons ⟨rfl, fun _ => rfl⟩ (O_load C.p 0 (Gs.val C.s ((l1 ++ c :: l2).length)) (fun _ => rfl) (by kernel_rfl) (Cell.own (mem_a mem_z) rfl) rfl ?_)
      refine SL_segT 1 [(41, .int .i64 j), (40, Gs.val C.s ((l1 ++ c :: l2).length)), (36, Gs.val s t.length), (5, .int .i64 (IntKind.wrap .i64 (m + 1))), (6, Gs.val s t.length), (1, .int .i64 j), (0, .pointer (some ⟨C.p, 0, none⟩)), (4, .int .i64 0)] (by intro δ w; kernel_rfl) ?_
      refine SL_cons ⟨rfl, fun _ => rfl⟩ (O_indexAddr' j (((j).toNat) * 2) (Gs.blk C.s) 0 ((l1 ++ c :: l2).length) (Gs.cap C.s) .i64 2 Try.underlying123 (by kernel_rfl) (fun _ => gs_slice (Gs.ok.ne hI.ok.row (by simp [BrkS.at]; omega))) (fun _ => rfl) (by omega) (by omega) (by omega) rfl ?_)
      refine SL_segT 1 [(43, .pointer (some ⟨(Gs.blk C.s), ((j).toNat) * 2 + 1, none⟩)), (36, Gs.val s t.length), (5, .int .i64 (IntKind.wrap .i64 (m + 1))), (6, Gs.val s t.length), (1, .int .i64 j), (0, .pointer (some ⟨C.p, 0, none⟩)), (4, .int .i64 0)] (by intro δ w; kernel_rfl) ?_
      refine SL_cons ⟨rfl, fun _ => rfl⟩ (O_load (Gs.blk C.s) (((j).toNat) * 2 + 1) (Gs.val c.ab c.above.length) (fun _ => rfl) (by kernel_rfl) (Gs.cell (Gs.ok.relen hI.ok.row (by simp [BrkS.at, CellsL.row, flat_len CellL.len, CellL.cells])) (fun e he => (mem_h he)) (flat_get CellL.len _ _ 1 ⟨false, c.ab, c.above⟩ (split_get hlen) (by decide))) rfl ?_)
      refine SL_perm ((Gs.ent 3 1 s (t.map (Value.int .i64))) ++ ((Gs.ent 145 2 C.s ((l1 ++ ⟨false, c.ab, c.above⟩ :: l2).flatMap CellL.cells)) ++ ((C.p, .cells 125 1 [Gs.val C.s ((l1 ++ c :: l2).length)]) :: ((l1.flatMap CellL.ent) ++ ((Gs.ent 3 1 c.ab (c.above.map (Value.int .i64))) ++ ((l2.flatMap CellL.ent) ++ ([]))))))) (perm_ca (perm_cc (perm_ca (perm_ca (perm_ca perm_cz))))) ?_
      refine SL_cons ⟨rfl, fun _ => rfl⟩ (O_append (size := 1) (bytes := 8) (z := .int .i64 0) s t.length c.above.length (Gs.addr c.ab) (Gs.cap c.ab) (t.map (Value.int .i64)) (c.above.map (Value.int .i64)) ((t ++ c.above).map (Value.int .i64)) (by simp) (fun _ => rfl) (fun _ => rfl) Try.underlying50 (by kernel_rfl) rfl (by decide) (Gs.ok_pop (by simpa using hI.sok) (by simp)) (Gs.ok.len hcok) (Gs.src hcok (fun e he => (mem_a (mem_a (mem_c (mem_a (mem_h he))))))) (by simp [Value.oneCell']) (by omega) (by decide) rfl ?_)
      intro s4 hks4 hfs4
      rw [show t.length + c.above.length = (t ++ c.above).length from (by simp)]
      rw [show t.length + c.above.length = (t ++ c.above).length from (by simp)] at hks4
      refine SL_segT 1 [(6, Gs.val s4 ((t ++ c.above).length)), (5, .int .i64 (IntKind.wrap .i64 (m + 1))), (1, .int .i64 j), (0, .pointer (some ⟨C.p, 0, none⟩)), (4, .int .i64 0)] (by intro δ w; kernel_rfl) ?_
      refine SL_nil (n_in (n_then ?_))
      exact ⟨⟨l1 ++ ⟨false, c.ab, c.above⟩ :: l2, s4, t ++ c.above, _, j⟩, (brk_step hI hlen hj.1 hcv s4 _ j (by simpa using hks4)).1, ⟨fun _ => rfl, (own_mk (X := ((C.p, .cells 125 1 [Gs.val C.s ((l1 ++ c :: l2).length)]) :: ((Gs.ent 145 2 C.s ((l1 ++ ⟨false, c.ab, c.above⟩ :: l2).flatMap CellL.cells)) ++ ((l1.flatMap CellL.ent) ++ ((Gs.ent 3 1 c.ab (c.above.map (Value.int .i64))) ++ ((l2.flatMap CellL.ent) ++ ((Gs.ent 3 1 s4 ((t ++ c.above).map (Value.int .i64))) ++ ([])))))))) (J := ([])) (List.Perm.trans (perm_a (perm_a perm_z)) (List.Perm.cons _ (List.Perm.trans (perm_ca perm_cz) (List.Perm.append_left _ (List.Perm.trans (perm_ca perm_cz) (List.Perm.append_left _ (List.Perm.trans (perm_ca perm_cz) (List.Perm.append_left _ (List.Perm.trans (perm_ca perm_cz) (List.Perm.append_left _ (List.Perm.refl _))))))))))) (by simp [CellL.ent]))⟩, (brk_step hI hlen hj.1 hcv _ _ _ (by simpa using hks4)).2⟩
  · skip
    replace hc2 := of_decide_eq_false hc2
    obtain rfl : todo = [] := by cases todo with
      | nil => rfl
      | cons a b => simp at hc2
    refine SW_exit (x_then (x_then (x_in (n_then ?_))))
    refine SW_seq ?_
    refine SW_region ?_
    refine SL_segT 2 [(4, .int .i64 m), (6, Gs.val s (([] : List Int).length)), (5, .int .i64 m), (0, .pointer (some ⟨C.p, 0, none⟩)), (1, .int .i64 j0)] (by intro δ w; kernel_rfl) ?_
    refine SL_nil (n_then ?_)
    refine SW_ret (r_scope ?_)
    refine body_end (.int .i64 m) (fun _ => rfl) ?_
    exact ⟨_, l, (own_mk (X := ((C.p, .cells 125 1 [Gs.val C.s ((l).length)]) :: ((Gs.ent 145 2 C.s ((l).flatMap CellL.cells)) ++ (((l).flatMap CellL.ent) ++ ((Gs.ent 3 1 s (([] : List Int).map (Value.int .i64))) ++ ([])))))) (J := ((Gs.ent 3 1 s (([] : List Int).map (Value.int .i64))) ++ ([]))) (List.Perm.refl _) (by simp [CellsL.ent, CellsL.row])), hI.ok, rfl, hI.inv.broke⟩

end Go.Proofs.Ytdfhbheipagnmaa
