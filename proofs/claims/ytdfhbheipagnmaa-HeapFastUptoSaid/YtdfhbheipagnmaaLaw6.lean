/-
  What functions of the laws of layer 13 do to the memory they own, step by step: each theorem is one function's contract. Conditions: those that each theorem names.
-/
import Derived.Test.YtdfhbheipagnmaaLaw2
import Derived.Test.YtdfhbheipagnmaaFastD
set_option linter.unusedVariables false
set_option linter.unusedSimpArgs false
set_option maxRecDepth 100000
set_option maxHeartbeats 4000000
namespace Go.Proofs.Ytdfhbheipagnmaa
open Go.Sl

theorem tk_step {U : List ByteArray} {e u : ByteArray} {j : Nat} (hu : U[j]? = some u) : decide (ixS (U.take (j + 1)) e < 0) = (decide (ixS (U.take j) e < 0) && !decide (u = e)) := by
  have key : ∀ l : List ByteArray, decide (ixS l e < 0) = true ↔ e ∉ l := fun l => decide_eq_true_iff.trans ixS_none
  rw [List.take_add_one, hu, Bool.eq_iff_iff, key, Bool.and_eq_true, key]
  simp only [Option.toList_some, List.mem_append, List.mem_singleton, Bool.not_eq_true', decide_eq_false_iff_not, not_or]
  constructor <;> rintro ⟨a, b⟩ <;> exact ⟨a, fun q => b q.symm⟩

theorem snoc_last {U : List ByteArray} {e : ByteArray} {i : Nat} (h : i = U.length) : (U ++ [e])[i]? = some e := by rw [h]; simp

theorem law_HeapFast {W0 : World} {A : Option Addr} {c : Nat} {l : List ByteArray} (hls : ∀ σ, Src W0 σ A (l.map encS)) (hl : l.length ≤ 1048576) (drop : Int) : SC Try.prog W0 5 #[.slice A l.length c, .int .i64 drop] [] (Ret (fun _ : Unit => []) (fun v _ => v = .bool true)) := by
  by_cases hz : l.length = 0
  · skip
    refine SC_body (fn := Try.f5) (n := 160) Try.func5 rfl (by kernel_rfl) (ρ := [(0, .slice A l.length c), (1, .int .i64 drop)]) rfl ?_
    refine SW_seq ?_
    refine SW_region ?_
    refine SL_s1 1 4 (.bool false) (by intro δ w; kernel_rfl) ?_
    refine SL_nil (n_then ?_)
    refine SW_seq ?_
    refine SW_region ?_
    refine SL_sig ([] ++ ([])) rfl ?_
    refine SL_cons ⟨rfl, fun _ => rfl⟩ (O_call 9 #[.int .i64 256] rfl (by intro δ w; kernel_rfl) ((hp_New 256).use _) ?_)
    rintro _ σ1 ⟨⟨H0, F⟩, hσ1, rfl, hI0, hp0, ht0, htr0, ho0, hcl0⟩
    obtain rfl : σ1 = ((HeapV.ent H0 F) ++ ([])) := hσ1.trans (rfl)
    simp only [] at hp0 ht0 htr0 ho0 hcl0 hI0
    refine SL_s1 1 5 (pt F.p 0) (by intro δ w; kernel_rfl) ?_
    refine SL_nil (n_then ?_)
    refine SW_seq ?_
    refine SW_seq ?_
    refine SW_region ?_
    refine SL_s3 3 24 (.bool false) 23 (.bool false) 22 (pt F.p 0) (by intro δ w; kernel_rfl) ?_
    refine SL_sig ([] ++ ((HeapV.ent H0 F) ++ ([]))) rfl ?_
    refine SL_cons ⟨rfl, fun _ => rfl⟩ (O_call 10 #[] rfl (by intro δ w; kernel_rfl) ((law_alive).use _) ?_)
    rintro _ σ2 ⟨_, hσ2, rfl⟩
    obtain rfl : σ2 = ((HeapV.ent H0 F) ++ ([])) := hσ2.trans (rfl)
    refine SL_s7 7 32 (.bool (decide ((l.length : Int) > 100))) 31 (.bool (decide ((l.length : Int) > 100))) 30 (.int .i64 (l.length : Int)) 29 (.slice A l.length c) 28 (.bool false) 27 (.bool false) 26 (.bool false) (by intro δ w; kernel_rfl) ?_
    refine SL_nil (n_then ?_)
    refine SW_cond (decide ((l.length : Int) > 100)) (fun _ => rfl) (fun hc1 => ?_) (fun hc1 => ?_)
    · skip
      replace hc1 := of_decide_eq_true hc1
      refine SW_seq ?_
      refine SW_region ?_
      refine SL_segT 3 [(35, .bool true), (32, .bool (decide ((l.length : Int) > 100))), (5, pt F.p 0), (4, .bool false), (0, .slice A l.length c), (1, .int .i64 drop)] (by intro δ w; kernel_rfl) ?_
      refine SL_sig ([] ++ ((HeapV.ent H0 F) ++ ([]))) rfl ?_
      refine SL_cons ⟨rfl, fun _ => rfl⟩ (O_call 10 #[] rfl (by intro δ w; kernel_rfl) ((law_alive).use _) ?_)
      rintro _ σ3 ⟨_, hσ3, rfl⟩
      obtain rfl : σ3 = ((HeapV.ent H0 F) ++ ([])) := hσ3.trans (rfl)
      refine SL_segT 2 [(4, .bool true), (32, .bool (decide ((l.length : Int) > 100))), (5, pt F.p 0), (0, .slice A l.length c), (1, .int .i64 drop)] (by intro δ w; kernel_rfl) ?_
      refine SL_nil (n_then ?_)
      refine SW_ret (r_then ?_)
      refine body_end (.bool true) (fun _ => rfl) ?_
      exact ⟨(), ⟨_, List.Perm.refl _⟩, rfl⟩
    · skip
      replace hc1 := of_decide_eq_false hc1
      refine SW_skip (n_then ?_)
      refine SW_seq ?_
      refine SW_region ?_
      refine SL_s1 1 39 (pt F.p 0) (by intro δ w; kernel_rfl) ?_
      refine SL_cons ⟨rfl, fun _ => rfl⟩ (O_call 11 #[pt F.p 0, .int .i64 0, .int .u64 18445336698825998337] rfl (by intro δ w; kernel_rfl) ((fs_Make hI0 hp0 htr0 ho0).use _) ?_)
      rintro _ σ4 ⟨H1, hσ4, rfl, hF1⟩
      obtain rfl : σ4 = ((HeapV.ent H1 F) ++ ([])) := hσ4.trans (rfl)
      refine SL_segT 5 [(6, .int .u64 (65530 * 281474976710656 + ((0 : Nat) : Int))), (32, .bool (decide ((l.length : Int) > 100))), (5, pt F.p 0), (4, .bool false), (0, .slice A l.length c), (1, .int .i64 drop)] (by intro δ w; kernel_rfl) ?_
      refine SL_nil (n_then ?_)
      refine SW_seq ?_
      refine SW_region ?_
      refine SL_s1 1 8 (.slice none 0 0) (by intro δ w; kernel_rfl) ?_
      refine SL_nil (n_then ?_)
      refine SW_seq ?_
      refine SW_seq ?_
      refine SW_region ?_
      refine SL_s3 3 45 (.int .i64 0) 44 (.int .i64 (l.length : Int)) 43 (.slice A l.length c) (by intro δ w; kernel_rfl) ?_
      refine SL_nil (n_then ?_)
      refine SW_block ?_
      have hl100 : l.length ≤ 100 := by omega
      refine SW_loop (α := Nat × HeapV × Gs × List ByteArray) (fun z_ ρ_ σ_ => Fits ρ_ σ_ [(1, .int .i64 drop), (5, pt F.p 0), (6, .int .u64 (65530 * 281474976710656 + ((0 : Nat) : Int))), (8, Gs.val z_.2.2.1 (List.length z_.2.2.2)), (43, .slice A l.length c), (44, .int .i64 (l.length : Int)), (45, .int .i64 (z_.1 : Int))] ((Gs.ent 9 1 z_.2.2.1 (z_.2.2.2.map encS)) ++ ((HeapV.ent z_.2.1 F) ++ ([]))) ∧ z_.1 ≤ l.length ∧ Gs.ok 1 (List.length z_.2.2.2) z_.2.2.1 (List.map encS z_.2.2.2) ∧ FastI z_.1 z_.2.1 F z_.2.2.2) (fun z_ => l.length - z_.1) (0, H1, Gs.nil, []) ⟨⟨fun _ => rfl, (Own.of_perm (List.Perm.of_eq (by simp [Gs.ent])))⟩, Nat.zero_le _, ⟨rfl, rfl⟩, hF1⟩ ?_
      rintro ⟨i, H, s, U⟩ ρ_ σ_ ⟨hfit, hi0, hi1, hi2⟩
      refine SW_fits hfit ?_
      clear hfit
      simp only [] at hi0 hi1 hi2 ⊢
      have hsm := hi2.small
      refine SW_seq ?_
      refine SW_region ?_
      refine SL_s1 1 46 (.bool (decide ((i : Int) < (l.length : Int)))) (by intro δ w; kernel_rfl) ?_
      refine SL_nil (n_then ?_)
      refine SW_seq ?_
      refine SW_false (fun _ => (congrArg Value.bool (show (decide ((i : Int) < (l.length : Int))) = false from (by simp; omega)))) ?_
      refine SW_exit (x_then (x_then (x_in (n_then ?_))))
      refine SW_seq ?_
      refine SW_seq ?_
      refine SW_region ?_
      refine SL_s3 3 90 (.bool (decide (drop < 0))) 89 (.bool (decide (drop < 0))) 88 (.int .i64 drop) (by intro δ w; kernel_rfl) ?_
      refine SL_tb (decide (drop < 0)) (fun tb_ => [(90, .bool tb_), (89, .bool tb_), (88, .int .i64 drop), (46, .bool (decide ((i : Int) < (l.length : Int)))), (1, .int .i64 drop), (5, pt F.p 0), (6, .int .u64 (65530 * 281474976710656 + ((0 : Nat) : Int))), (8, Gs.val s U.length), (43, .slice A l.length c), (44, .int .i64 (l.length : Int)), (45, .int .i64 (i : Int))]) (fun hg2 => ?_) (fun hg2 => ?_)
      · skip
        replace hg2 := of_decide_eq_true hg2
        refine SL_s5 5 95 (.bool true) 94 (undef) 93 (undef) 92 (undef) 91 (undef) (by intro δ w; kernel_rfl) ?_
        refine SL_nil (n_then ?_)
        refine SW_true (fun _ => rfl) ?_
        refine SW_seq ?_
        refine SW_region ?_
        refine SL_s1 1 4 (.bool true) (by intro δ w; kernel_rfl) ?_
        refine SL_nil (n_then ?_)
        refine SW_ret (r_then ?_)
        refine body_end (.bool true) (fun _ => rfl) ?_
        exact ⟨(), ⟨_, List.Perm.refl _⟩, rfl⟩
      · skip
        replace hg2 := of_decide_eq_false hg2
        refine SL_s5 5 95 (.bool (decide (drop ≥ (U.length : Int)))) 94 (.bool (decide (drop ≥ (U.length : Int)))) 93 (.int .i64 (U.length : Int)) 92 (Gs.val s U.length) 91 (.int .i64 drop) (by intro δ w; kernel_rfl) ?_
        refine SL_nil (n_then ?_)
        refine SW_cond (decide (drop ≥ (U.length : Int))) (fun _ => rfl) (fun hc3 => ?_) (fun hc3 => ?_)
        · skip
          replace hc3 := of_decide_eq_true hc3
          refine SW_seq ?_
          refine SW_region ?_
          refine SL_s1 1 4 (.bool true) (by intro δ w; kernel_rfl) ?_
          refine SL_nil (n_then ?_)
          refine SW_ret (r_then ?_)
          refine body_end (.bool true) (fun _ => rfl) ?_
          exact ⟨(), ⟨_, List.Perm.refl _⟩, rfl⟩
        · skip
          replace hc3 := of_decide_eq_false hc3
          refine SW_skip (n_then ?_)
          refine SW_seq ?_
          refine SW_region ?_
          refine SL_s4 4 99 (.int .i64 drop) 98 (Gs.val s U.length) 97 (.int .u64 (65530 * 281474976710656 + ((0 : Nat) : Int))) 96 (pt F.p 0) (by intro δ w; kernel_rfl) ?_
          refine SL_cons ⟨rfl, fun _ => rfl⟩ (O_indexAddr' drop (drop.toNat) (Gs.blk s) 0 U.length (Gs.cap s) .i64 1 Try.underlying34 (by kernel_rfl) (fun _ => gs_slice (Gs.ok.ne hi1 (by first | omega | (simp; omega)))) (fun _ => rfl) (by omega) (by omega) (by omega) rfl ?_)
          obtain ⟨e1, he1⟩ : ∃ y_, U[drop.toNat]? = some y_ := ⟨_, List.getElem?_eq_getElem (by omega)⟩
          refine SL_cons ⟨rfl, fun _ => rfl⟩ (O_load (Gs.blk s) drop.toNat (.string e1) (fun _ => rfl) (by kernel_rfl) (Gs.cell hi1 (fun e he => (mem_h he)) (map_cell he1 rfl)) rfl ?_)
          refine SL_perm _ (perm_ca perm_cz) ?_
          refine SL_cons ⟨rfl, fun _ => rfl⟩ (O_call 20 #[pt F.p 0, .int .u64 (65530 * 281474976710656 + ((0 : Nat) : Int)), .string e1] rfl (by intro δ w; kernel_rfl) ((fs_Drop (by omega) hi2 (q := drop.toNat) he1).use _) ?_)
          rintro _ σ5 ⟨⟨H2, U2, D2⟩, hσ5, rfl, hS, hnk, hln, hrm⟩
          obtain rfl : σ5 = ((HeapV.ent H2 F) ++ ((Gs.ent 9 1 s (U.map encS)) ++ ([]))) := hσ5.trans (rfl)
          simp only [] at hS hnk hln hrm
          refine SL_nil (n_then ?_)
          refine SW_seq ?_
          refine SW_region ?_
          refine SL_segT 4 [(106, .int .i64 drop), (105, Gs.val s U.length), (104, .int .u64 (65530 * 281474976710656 + ((0 : Nat) : Int))), (103, pt F.p 0), (95, .bool (decide (drop ≥ (U.length : Int)))), (46, .bool (decide ((i : Int) < (l.length : Int)))), (1, .int .i64 drop), (5, pt F.p 0), (6, .int .u64 (65530 * 281474976710656 + ((0 : Nat) : Int))), (8, Gs.val s U.length), (43, .slice A l.length c), (44, .int .i64 (l.length : Int)), (45, .int .i64 (i : Int))] (by intro δ w; kernel_rfl) ?_
          refine SL_cons ⟨rfl, fun _ => rfl⟩ (O_indexAddr' drop (drop.toNat) (Gs.blk s) 0 U.length (Gs.cap s) .i64 1 Try.underlying34 (by kernel_rfl) (fun _ => gs_slice (Gs.ok.ne hi1 (by first | omega | (simp; omega)))) (fun _ => rfl) (by omega) (by omega) (by omega) rfl ?_)
          refine SL_cons ⟨rfl, fun _ => rfl⟩ (O_load (Gs.blk s) drop.toNat (.string e1) (fun _ => rfl) (by kernel_rfl) (Gs.cell hi1 (fun e he => (mem_a (mem_h he))) (map_cell he1 rfl)) rfl ?_)
          refine SL_s1 1 109 (.agg #[.int .u64 18445336698825998339, .int .u64 0, .int .i64 0]) (by intro δ w; kernel_rfl) ?_
          refine SL_cons ⟨rfl, fun _ => rfl⟩ (O_call 17 #[pt F.p 0, .int .u64 (65530 * 281474976710656 + ((0 : Nat) : Int)), .string e1, .agg #[.int .u64 18445336698825998339, .int .u64 0, .int .i64 0]] rfl (by intro δ w; kernel_rfl) ((fs_Put2 (by omega) hS hnk hrm).use _) ?_)
          rintro _ σ6 ⟨K1, hσ6, rfl, hS3⟩
          obtain rfl : σ6 = ((HeapV.ent K1 F) ++ ((Gs.ent 9 1 s (U.map encS)) ++ ([]))) := hσ6.trans (rfl)
          refine SL_nil (n_then ?_)
          refine SW_seq ?_
          refine SW_region ?_
          refine SL_s2 2 113 (.int .u64 (65530 * 281474976710656 + ((0 : Nat) : Int))) 112 (pt F.p 0) (by intro δ w; kernel_rfl) ?_
          refine SL_cons ⟨rfl, fun _ => rfl⟩ (O_call 19 #[pt F.p 0, .int .u64 (65530 * 281474976710656 + ((0 : Nat) : Int))] rfl (by intro δ w; kernel_rfl) ((sl_Shape hS3).use _) ?_)
          rintro _ σ7 ⟨_, hσ7, rfl⟩
          obtain rfl : σ7 = ((HeapV.ent K1 F) ++ ((Gs.ent 9 1 s (U.map encS)) ++ ([]))) := hσ7.trans (rfl)
          refine SL_segT 5 [(17, .bool false), (95, .bool (decide (drop ≥ (U.length : Int)))), (46, .bool (decide ((i : Int) < (l.length : Int)))), (1, .int .i64 drop), (5, pt F.p 0), (6, .int .u64 (65530 * 281474976710656 + ((0 : Nat) : Int))), (8, Gs.val s U.length), (43, .slice A l.length c), (44, .int .i64 (l.length : Int)), (45, .int .i64 (i : Int))] (by intro δ w; kernel_rfl) ?_
          refine SL_nil (n_then ?_)
          refine SW_seq ?_
          refine SW_region ?_
          refine SL_s2 2 118 (.int .u64 (65530 * 281474976710656 + ((0 : Nat) : Int))) 117 (pt F.p 0) (by intro δ w; kernel_rfl) ?_
          refine SL_cons ⟨rfl, fun _ => rfl⟩ (O_call 21 #[pt F.p 0, .int .u64 (65530 * 281474976710656 + ((0 : Nat) : Int))] rfl (by intro δ w; kernel_rfl) ((sl_Keys (by omega) hS3).use _) ?_)
          rintro _ σ8 ⟨kg1, hσ8, rfl, hkg1⟩
          obtain rfl : σ8 = ((Gs.ent 9 1 kg1 ((U2 ++ [e1]).map encS)) ++ ((HeapV.ent K1 F) ++ ((Gs.ent 9 1 s (U.map encS)) ++ ([])))) := hσ8.trans (by simp only [List.cons_append, List.append_assoc, List.nil_append, List.append_nil])
          have hlk : (U2 ++ [e1]).length = U2.length + 1 := by simp
          refine SL_s1 1 18 (Gs.val kg1 ((U2 ++ [e1]).length)) (by intro δ w; kernel_rfl) ?_
          refine SL_nil (n_then ?_)
          refine SW_seq ?_
          refine SW_region ?_
          refine SL_s4 4 124 (.int .i64 drop) 123 (Gs.val s U.length) 122 (.int .u64 (65530 * 281474976710656 + ((0 : Nat) : Int))) 121 (pt F.p 0) (by intro δ w; kernel_rfl) ?_
          refine SL_cons ⟨rfl, fun _ => rfl⟩ (O_indexAddr' drop (drop.toNat) (Gs.blk s) 0 U.length (Gs.cap s) .i64 1 Try.underlying34 (by kernel_rfl) (fun _ => gs_slice (Gs.ok.ne hi1 (by first | omega | (simp; omega)))) (fun _ => rfl) (by omega) (by omega) (by omega) rfl ?_)
          refine SL_cons ⟨rfl, fun _ => rfl⟩ (O_load (Gs.blk s) drop.toNat (.string e1) (fun _ => rfl) (by kernel_rfl) (Gs.cell hi1 (fun e he => (mem_a (mem_a (mem_h he)))) (map_cell he1 rfl)) rfl ?_)
          refine SL_perm _ (perm_ca perm_cz) ?_
          refine SL_cons ⟨rfl, fun _ => rfl⟩ (O_call 22 #[pt F.p 0, .int .u64 (65530 * 281474976710656 + ((0 : Nat) : Int)), .string e1] rfl (by intro δ w; kernel_rfl) ((sl_Get hS3 hnk).use _) ?_)
          rintro _ σ9 ⟨_, hσ9, rfl⟩
          obtain rfl : σ9 = ((HeapV.ent K1 F) ++ ((Gs.ent 9 1 kg1 ((U2 ++ [e1]).map encS)) ++ ((Gs.ent 9 1 s (U.map encS)) ++ ([])))) := hσ9.trans (rfl)
          refine SL_s3 3 129 (.bool true) 128 (.agg #[.int .u64 18445336698825998339, .int .u64 0, .int .i64 0]) 120 (.tuple #[.agg #[.int .u64 18445336698825998339, .int .u64 0, .int .i64 0], .bool true]) (by intro δ w; kernel_rfl) ?_
          refine SL_cons ⟨rfl, fun _ => rfl⟩ (O_new (fun b => .pointer (some ⟨b, 0, none⟩)) (.cells #[.int .u64 0, .int .u64 0, .int .i64 0] 42 (0, 0)) (.cells 42 3 [.int .u64 0, .int .u64 0, .int .i64 0]) rfl (by intro δ w; kernel_rfl) ⟨rfl, rfl, rfl, rfl⟩ ?_)
          intro b4 hlb4 hnb4
          refine SL_cons ⟨rfl, fun _ => rfl⟩ (O_store b4 0 (.agg #[.int .u64 18445336698825998339, .int .u64 0, .int .i64 0]) [.int .u64 18445336698825998339, .int .u64 0, .int .i64 0] (fun _ => rfl) (fun _ => rfl) rfl (by kernel_rfl) rfl (by simp only [List.length_cons, List.length_nil]; omega) rfl ?_)
          refine SL_sig ((b4, .cells 42 3 [.int .u64 18445336698825998339, .int .u64 0, .int .i64 0]) :: ((HeapV.ent K1 F) ++ ((Gs.ent 9 1 kg1 ((U2 ++ [e1]).map encS)) ++ ((Gs.ent 9 1 s (U.map encS)) ++ ([]))))) rfl ?_
          refine SL_segT 1 [(20, .bool true), (19, pt b4 0), (18, Gs.val kg1 ((U2 ++ [e1]).length)), (17, .bool false), (95, .bool (decide (drop ≥ (U.length : Int)))), (46, .bool (decide ((i : Int) < (l.length : Int)))), (1, .int .i64 drop), (5, pt F.p 0), (6, .int .u64 (65530 * 281474976710656 + ((0 : Nat) : Int))), (8, Gs.val s U.length), (43, .slice A l.length c), (44, .int .i64 (l.length : Int)), (45, .int .i64 (i : Int))] (by intro δ w; kernel_rfl) ?_
          refine SL_nil (n_then ?_)
          refine SW_seq ?_
          refine SW_draw [((Gs.blk kg1), (((((U2 ++ [e1]).length : Nat)) : Int) - 1).toNat, .string e1), ((Gs.blk s), drop.toNat, .string e1), (b4, 0, .int .u64 18445336698825998339)] [0, 1, 2, 3, 4, 5, 6, 7, 8, 9, 10, 11, 12, 13, 14, 15, 16, 17, 18, 19, 20, 21, 22, 23, 24, 25, 26] (by kernel_rfl) (rd_cons (Gs.cell hkg1 (fun e he => (mem_c (mem_a (mem_h he)))) (map_cell (snoc_last (show (((((U2 ++ [e1]).length : Nat)) : Int) - 1).toNat = U2.length from by omega)) rfl)) (rd_cons (Gs.cell hi1 (fun e he => (mem_c (mem_a (mem_a (mem_h he))))) (map_cell he1 rfl)) (rd_cons (Cell.own mem_z rfl) rd_nil))) ?_
          refine SA_take (li' := #[true, false, false, false, false, false, false, false, false, false, false, false, false, false, false, false, false, false, false, false, false, false, false, false, false, false, false, false, false, false, false]) 0 _ (.bool false) (fun _ _ _ h => h) rfl (by kernel_rfl) rfl (Or.inl ⟨fun _ => rfl, by intro δ w; kernel_rfl⟩) ?_
          refine SA_take (li' := #[true, true, false, false, false, false, false, false, false, false, false, false, false, false, false, false, false, false, false, false, false, false, false, false, false, false, false, false, false, false, false]) 1 _ (.bool true) (fun _ _ _ h => h) rfl (by kernel_rfl) rfl (Or.inl ⟨fun _ => rfl, by intro δ w; kernel_rfl⟩) ?_
          refine SA_take (li' := #[true, true, true, false, false, false, false, false, false, false, false, false, false, false, false, false, false, false, false, false, false, false, false, false, false, false, false, false, false, false, false]) 2 _ (.bool true) (fun _ _ _ h => h) rfl (by kernel_rfl) rfl (Or.inl ⟨fun _ => rfl, by intro δ w; kernel_rfl⟩) ?_
          refine SA_take (li' := #[true, true, true, true, false, false, false, false, false, false, false, false, false, false, false, false, false, false, false, false, false, false, false, false, false, false, false, false, false, false, false]) 3 _ (Gs.val kg1 ((U2 ++ [e1]).length)) (fun _ _ _ h => h) rfl (by kernel_rfl) rfl (Or.inl ⟨fun _ => rfl, by intro δ w; kernel_rfl⟩) ?_
          refine SA_take (li' := #[true, true, true, true, true, false, false, false, false, false, false, false, false, false, false, false, false, false, false, false, false, false, false, false, false, false, false, false, false, false, false]) 4 _ (.int .i64 ((((U2 ++ [e1]).length : Nat)) : Int)) (fun _ _ _ h => h) rfl (by kernel_rfl) rfl (Or.inl ⟨fun _ => rfl, by intro δ w; kernel_rfl⟩) ?_
          refine SA_take (li' := #[true, true, true, true, true, true, false, false, false, false, false, false, false, false, false, false, false, false, false, false, false, false, false, false, false, false, false, false, false, false, false]) 5 _ (Gs.val s U.length) (fun _ _ _ h => h) rfl (by kernel_rfl) rfl (Or.inl ⟨fun _ => rfl, by intro δ w; kernel_rfl⟩) ?_
          refine SA_take (li' := #[true, true, true, true, true, true, true, false, false, false, false, false, false, false, false, false, false, false, false, false, false, false, false, false, false, false, false, false, false, false, false]) 6 _ (.int .i64 (U.length : Int)) (fun _ _ _ h => h) rfl (by kernel_rfl) rfl (Or.inl ⟨fun _ => rfl, by intro δ w; kernel_rfl⟩) ?_
          refine SA_take (li' := #[true, true, true, true, true, true, true, true, false, false, false, false, false, false, false, false, false, false, false, false, false, false, false, false, false, false, false, false, false, false, false]) 7 _ (.bool (((((U2 ++ [e1]).length : Nat)) : Int) == (U.length : Int))) (fun _ _ _ h => h) rfl (by kernel_rfl) rfl (Or.inl ⟨fun _ => rfl, by intro δ w; kernel_rfl⟩) ?_
          refine SA_take (li' := #[true, true, true, true, true, true, true, true, true, false, false, false, false, false, false, false, false, false, false, false, false, false, false, false, false, false, false, false, false, false, false]) 8 _ (.bool (((((U2 ++ [e1]).length : Nat)) : Int) == (U.length : Int))) (fun _ _ _ h => h) rfl (by kernel_rfl) rfl (Or.inl ⟨fun _ => rfl, by intro δ w; kernel_rfl⟩) ?_
          refine SA_trim [(138, .bool (((((U2 ++ [e1]).length : Nat)) : Int) == (U.length : Int))), (20, .bool true), (19, pt b4 0), (18, Gs.val kg1 ((U2 ++ [e1]).length)), (17, .bool false), (95, .bool (decide (drop ≥ (U.length : Int)))), (46, .bool (decide ((i : Int) < (l.length : Int)))), (1, .int .i64 drop), (5, pt F.p 0), (6, .int .u64 (65530 * 281474976710656 + ((0 : Nat) : Int))), (8, Gs.val s U.length), (43, .slice A l.length c), (44, .int .i64 (l.length : Int)), (45, .int .i64 (i : Int))] (fun _ => rfl) ?_
          refine SA_take (li' := #[true, true, true, true, true, true, true, true, true, true, false, false, false, false, false, false, false, false, false, false, false, false, false, false, false, false, false, false, false, false, false]) 9 _ (.bool (((((U2 ++ [e1]).length : Nat)) : Int) == (U.length : Int))) (fun _ _ _ h => h) rfl (by kernel_rfl) rfl (Or.inl ⟨fun _ => rfl, by intro δ w; kernel_rfl⟩) ?_
          refine SA_tb (((((U2 ++ [e1]).length : Nat)) : Int) == (U.length : Int)) (fun tb_ => [(139, .bool tb_), (138, .bool tb_), (20, .bool true), (19, pt b4 0), (18, Gs.val kg1 ((U2 ++ [e1]).length)), (17, .bool false), (95, .bool (decide (drop ≥ (U.length : Int)))), (46, .bool (decide ((i : Int) < (l.length : Int)))), (1, .int .i64 drop), (5, pt F.p 0), (6, .int .u64 (65530 * 281474976710656 + ((0 : Nat) : Int))), (8, Gs.val s U.length), (43, .slice A l.length c), (44, .int .i64 (l.length : Int)), (45, .int .i64 (i : Int))]) (fun hg5 => ?_) (fun hg5 => ?_)
          · skip
            refine SA_take (li' := #[true, true, true, true, true, true, true, true, true, true, true, false, false, false, false, false, false, false, false, false, false, false, false, false, false, false, false, false, false, false, false]) 10 _ (Gs.val kg1 ((U2 ++ [e1]).length)) (fun _ _ _ h => h) rfl (by kernel_rfl) rfl (Or.inl ⟨fun _ => rfl, by intro δ w; kernel_rfl⟩) ?_
            refine SA_take (li' := #[true, true, true, true, true, true, true, true, true, true, true, true, false, false, false, false, false, false, false, false, false, false, false, false, false, false, false, false, false, false, false]) 11 _ (Gs.val kg1 ((U2 ++ [e1]).length)) (fun _ _ _ h => h) rfl (by kernel_rfl) rfl (Or.inl ⟨fun _ => rfl, by intro δ w; kernel_rfl⟩) ?_
            refine SA_take (li' := #[true, true, true, true, true, true, true, true, true, true, true, true, true, false, false, false, false, false, false, false, false, false, false, false, false, false, false, false, false, false, false]) 12 _ (.int .i64 ((((U2 ++ [e1]).length : Nat)) : Int)) (fun _ _ _ h => h) rfl (by kernel_rfl) rfl (Or.inl ⟨fun _ => rfl, by intro δ w; kernel_rfl⟩) ?_
            refine SA_take (li' := #[true, true, true, true, true, true, true, true, true, true, true, true, true, true, false, false, false, false, false, false, false, false, false, false, false, false, false, false, false, false, false]) 13 _ (.int .i64 (IntKind.wrap .i64 (((((U2 ++ [e1]).length : Nat)) : Int) - 1))) (fun _ _ _ h => h) rfl (by kernel_rfl) rfl (Or.inl ⟨fun _ => rfl, by intro δ w; kernel_rfl⟩) ?_
            rw [show IntKind.wrap .i64 (((((U2 ++ [e1]).length : Nat)) : Int) - 1) = ((((U2 ++ [e1]).length : Nat)) : Int) - 1 from IntWalk.i64_in _ (by omega)]
            refine SA_take (li' := #[true, true, true, true, true, true, true, true, true, true, true, true, true, true, true, false, false, false, false, false, false, false, false, false, false, false, false, false, false, false, false]) 14 _ (pt (Gs.blk kg1) ((((((U2 ++ [e1]).length : Nat)) : Int) - 1).toNat)) (fun _ _ _ h => h) rfl (by kernel_rfl) rfl (Or.inl ⟨fun _ => rfl, (fun δ w => run_indexAddr (((((U2 ++ [e1]).length : Nat)) : Int) - 1) ((((((U2 ++ [e1]).length : Nat)) : Int) - 1).toNat) (Gs.blk kg1) 0 ((U2 ++ [e1]).length) (Gs.cap kg1) .i64 1 Try.underlying34 (by kernel_rfl) (fun _ => gs_slice (Gs.ok.ne hkg1 (by first | omega | (simp; omega)))) (fun _ => rfl) (by omega) (by omega) (by omega))⟩) ?_
            refine SA_read (li' := #[true, true, true, true, true, true, true, true, true, true, true, true, true, true, true, true, false, false, false, false, false, false, false, false, false, false, false, false, false, false, false]) 15 _ (.string e1) (fun _ _ _ h => h) rfl (by kernel_rfl) rfl (fun _ => rfl) (fun δ w hr => Rd_load (Gs.blk kg1) ((((((U2 ++ [e1]).length : Nat)) : Int) - 1).toNat) (.string e1) rfl (by kernel_rfl) List.mem_cons_self hr) ?_
            refine SA_take (li' := #[true, true, true, true, true, true, true, true, true, true, true, true, true, true, true, true, true, false, false, false, false, false, false, false, false, false, false, false, false, false, false]) 16 _ (Gs.val s U.length) (fun _ _ _ h => h) rfl (by kernel_rfl) rfl (Or.inl ⟨fun _ => rfl, by intro δ w; kernel_rfl⟩) ?_
            refine SA_take (li' := #[true, true, true, true, true, true, true, true, true, true, true, true, true, true, true, true, true, true, false, false, false, false, false, false, false, false, false, false, false, false, false]) 17 _ (.int .i64 drop) (fun _ _ _ h => h) rfl (by kernel_rfl) rfl (Or.inl ⟨fun _ => rfl, by intro δ w; kernel_rfl⟩) ?_
            refine SA_take (li' := #[true, true, true, true, true, true, true, true, true, true, true, true, true, true, true, true, true, true, true, false, false, false, false, false, false, false, false, false, false, false, false]) 18 _ (pt (Gs.blk s) drop.toNat) (fun _ _ _ h => h) rfl (by kernel_rfl) rfl (Or.inl ⟨fun _ => rfl, (fun δ w => run_indexAddr drop (drop.toNat) (Gs.blk s) 0 U.length (Gs.cap s) .i64 1 Try.underlying34 (by kernel_rfl) (fun _ => gs_slice (Gs.ok.ne hi1 (by first | omega | (simp; omega)))) (fun _ => rfl) (by omega) (by omega) (by omega))⟩) ?_
            refine SA_trim [(148, pt (Gs.blk s) drop.toNat), (145, .string e1), (139, .bool true), (20, .bool true), (19, pt b4 0), (18, Gs.val kg1 ((U2 ++ [e1]).length)), (17, .bool false), (95, .bool (decide (drop ≥ (U.length : Int)))), (46, .bool (decide ((i : Int) < (l.length : Int)))), (1, .int .i64 drop), (5, pt F.p 0), (6, .int .u64 (65530 * 281474976710656 + ((0 : Nat) : Int))), (8, Gs.val s U.length), (43, .slice A l.length c), (44, .int .i64 (l.length : Int)), (45, .int .i64 (i : Int))] (fun _ => rfl) ?_
            refine SA_read (li' := #[true, true, true, true, true, true, true, true, true, true, true, true, true, true, true, true, true, true, true, true, false, false, false, false, false, false, false, false, false, false, false]) 19 _ (.string e1) (fun _ _ _ h => h) rfl (by kernel_rfl) rfl (fun _ => rfl) (fun δ w hr => Rd_load (Gs.blk s) drop.toNat (.string e1) rfl (by kernel_rfl) (List.mem_cons_of_mem _ List.mem_cons_self) hr) ?_
            refine SA_take (li' := #[true, true, true, true, true, true, true, true, true, true, true, true, true, true, true, true, true, true, true, true, true, false, false, false, false, false, false, false, false, false, false]) 20 _ (.bool (e1.toList == e1.toList)) (fun _ _ _ h => h) rfl (by kernel_rfl) rfl (Or.inl ⟨fun _ => rfl, by intro δ w; kernel_rfl⟩) ?_
            rw [show (e1.toList == e1.toList) = (decide (e1 = e1)) from by rw [str_eq]]
            refine SA_take (li' := #[true, true, true, true, true, true, true, true, true, true, true, true, true, true, true, true, true, true, true, true, true, true, false, false, false, false, false, false, false, false, false]) 21 _ (.bool (decide (e1 = e1))) (fun _ _ _ h => h) rfl (by kernel_rfl) rfl (Or.inl ⟨fun _ => rfl, by intro δ w; kernel_rfl⟩) ?_
            refine SA_take (li' := #[true, true, true, true, true, true, true, true, true, true, true, true, true, true, true, true, true, true, true, true, true, true, true, false, false, false, false, false, false, false, false]) 22 _ (.bool (decide (e1 = e1))) (fun _ _ _ h => h) rfl (by kernel_rfl) rfl (Or.inl ⟨fun _ => rfl, by intro δ w; kernel_rfl⟩) ?_
            refine SA_tb (decide (e1 = e1)) (fun tb_ => [(152, .bool tb_), (151, .bool tb_), (150, .bool tb_), (149, .string e1), (148, pt (Gs.blk s) drop.toNat), (145, .string e1), (139, .bool true), (20, .bool true), (19, pt b4 0), (18, Gs.val kg1 ((U2 ++ [e1]).length)), (17, .bool false), (95, .bool (decide (drop ≥ (U.length : Int)))), (46, .bool (decide ((i : Int) < (l.length : Int)))), (1, .int .i64 drop), (5, pt F.p 0), (6, .int .u64 (65530 * 281474976710656 + ((0 : Nat) : Int))), (8, Gs.val s U.length), (43, .slice A l.length c), (44, .int .i64 (l.length : Int)), (45, .int .i64 (i : Int))]) (fun hg6 => ?_) (fun hg6 => ?_)
            · skip
              replace hg6 := of_decide_eq_true hg6
              refine SA_take (li' := #[true, true, true, true, true, true, true, true, true, true, true, true, true, true, true, true, true, true, true, true, true, true, true, true, false, false, false, false, false, false, false]) 23 _ (.bool true) (fun _ _ _ h => h) rfl (by kernel_rfl) rfl (Or.inl ⟨fun _ => rfl, by intro δ w; kernel_rfl⟩) ?_
              refine SA_take (li' := #[true, true, true, true, true, true, true, true, true, true, true, true, true, true, true, true, true, true, true, true, true, true, true, true, true, false, false, false, false, false, false]) 24 _ (.bool true) (fun _ _ _ h => h) rfl (by kernel_rfl) rfl (Or.inl ⟨fun _ => rfl, by intro δ w; kernel_rfl⟩) ?_
              refine SA_trim [(154, .bool true), (20, .bool true), (19, pt b4 0), (18, Gs.val kg1 ((U2 ++ [e1]).length)), (17, .bool false), (95, .bool (decide (drop ≥ (U.length : Int)))), (46, .bool (decide ((i : Int) < (l.length : Int)))), (1, .int .i64 drop), (5, pt F.p 0), (6, .int .u64 (65530 * 281474976710656 + ((0 : Nat) : Int))), (8, Gs.val s U.length), (43, .slice A l.length c), (44, .int .i64 (l.length : Int)), (45, .int .i64 (i : Int))] (fun _ => rfl) ?_
              refine SA_take (li' := #[true, true, true, true, true, true, true, true, true, true, true, true, true, true, true, true, true, true, true, true, true, true, true, true, true, true, false, false, false, false, false]) 25 _ (.bool true) (fun _ _ _ h => h) rfl (by kernel_rfl) rfl (Or.inl ⟨fun _ => rfl, by intro δ w; kernel_rfl⟩) ?_
              refine SA_take (li' := #[true, true, true, true, true, true, true, true, true, true, true, true, true, true, true, true, true, true, true, true, true, true, true, true, true, true, true, false, false, false, false]) 26 _ (pt b4 0) (fun _ _ _ h => h) rfl (by kernel_rfl) rfl (Or.inl ⟨fun _ => rfl, by intro δ w; kernel_rfl⟩) ?_
              refine SA_read (li' := #[true, true, true, true, true, true, true, true, true, true, true, true, true, true, true, true, true, true, true, true, true, true, true, true, true, true, true, true, false, false, false]) 27 _ (.int .u64 18445336698825998339) (fun _ _ _ h => h) rfl (by kernel_rfl) rfl (fun _ => rfl) (fun δ w hr => Rd_load b4 0 (.int .u64 18445336698825998339) rfl (by kernel_rfl) (List.mem_cons_of_mem _ (List.mem_cons_of_mem _ List.mem_cons_self)) hr) ?_
              refine SA_take (li' := #[true, true, true, true, true, true, true, true, true, true, true, true, true, true, true, true, true, true, true, true, true, true, true, true, true, true, true, true, true, false, false]) 28 _ (.bool true) (fun _ _ _ h => h) rfl (by kernel_rfl) rfl (Or.inl ⟨fun _ => rfl, by intro δ w; kernel_rfl⟩) ?_
              refine SA_take (li' := #[true, true, true, true, true, true, true, true, true, true, true, true, true, true, true, true, true, true, true, true, true, true, true, true, true, true, true, true, true, true, false]) 29 _ (.bool true) (fun _ _ _ h => h) rfl (by kernel_rfl) rfl (Or.inl ⟨fun _ => rfl, by intro δ w; kernel_rfl⟩) ?_
              refine SA_take (li' := #[true, true, true, true, true, true, true, true, true, true, true, true, true, true, true, true, true, true, true, true, true, true, true, true, true, true, true, true, true, true, true]) 30 _ (.bool true) (fun _ _ _ h => h) rfl (by kernel_rfl) rfl (Or.inl ⟨fun _ => rfl, by intro δ w; kernel_rfl⟩) ?_
              refine SA_done (by kernel_rfl) (n_then ?_)
              refine SW_ret ?_
              refine body_end (.bool true) (fun _ => rfl) ?_
              exact ⟨(), ⟨_, List.Perm.refl _⟩, rfl⟩
            · skip
              replace hg6 := of_decide_eq_false hg6
              simp at hg6
          · skip
            exfalso; first | omega | (simp at hg5; done) | (simp at hg5; omega) | (simp_all; done) | (simp_all; omega)
  · obtain ⟨b0, o0, rfl, hq0⟩ := (hls []).resolve_left (by simpa using hz)
    refine SC_body (fn := Try.f5) (n := 160) Try.func5 rfl (by kernel_rfl) (ρ := [(0, .slice (some ⟨b0, o0, none⟩) l.length c), (1, .int .i64 drop)]) rfl ?_
    refine SW_seq ?_
    refine SW_region ?_
    refine SL_s1 1 4 (.bool false) (by intro δ w; kernel_rfl) ?_
    refine SL_nil (n_then ?_)
    refine SW_seq ?_
    refine SW_region ?_
    refine SL_sig ([] ++ ([])) rfl ?_
    refine SL_cons ⟨rfl, fun _ => rfl⟩ (O_call 9 #[.int .i64 256] rfl (by intro δ w; kernel_rfl) ((hp_New 256).use _) ?_)
    rintro _ σ1 ⟨⟨H0, F⟩, hσ1, rfl, hI0, hp0, ht0, htr0, ho0, hcl0⟩
    obtain rfl : σ1 = ((HeapV.ent H0 F) ++ ([])) := hσ1.trans (rfl)
    simp only [] at hp0 ht0 htr0 ho0 hcl0 hI0
    refine SL_s1 1 5 (pt F.p 0) (by intro δ w; kernel_rfl) ?_
    refine SL_nil (n_then ?_)
    refine SW_seq ?_
    refine SW_seq ?_
    refine SW_region ?_
    refine SL_s3 3 24 (.bool false) 23 (.bool false) 22 (pt F.p 0) (by intro δ w; kernel_rfl) ?_
    refine SL_sig ([] ++ ((HeapV.ent H0 F) ++ ([]))) rfl ?_
    refine SL_cons ⟨rfl, fun _ => rfl⟩ (O_call 10 #[] rfl (by intro δ w; kernel_rfl) ((law_alive).use _) ?_)
    rintro _ σ2 ⟨_, hσ2, rfl⟩
    obtain rfl : σ2 = ((HeapV.ent H0 F) ++ ([])) := hσ2.trans (rfl)
    refine SL_s7 7 32 (.bool (decide ((l.length : Int) > 100))) 31 (.bool (decide ((l.length : Int) > 100))) 30 (.int .i64 (l.length : Int)) 29 (.slice (some ⟨b0, o0, none⟩) l.length c) 28 (.bool false) 27 (.bool false) 26 (.bool false) (by intro δ w; kernel_rfl) ?_
    refine SL_nil (n_then ?_)
    refine SW_cond (decide ((l.length : Int) > 100)) (fun _ => rfl) (fun hc1 => ?_) (fun hc1 => ?_)
    · skip
      replace hc1 := of_decide_eq_true hc1
      refine SW_seq ?_
      refine SW_region ?_
      refine SL_segT 3 [(35, .bool true), (32, .bool (decide ((l.length : Int) > 100))), (5, pt F.p 0), (4, .bool false), (0, .slice (some ⟨b0, o0, none⟩) l.length c), (1, .int .i64 drop)] (by intro δ w; kernel_rfl) ?_
      refine SL_sig ([] ++ ((HeapV.ent H0 F) ++ ([]))) rfl ?_
      refine SL_cons ⟨rfl, fun _ => rfl⟩ (O_call 10 #[] rfl (by intro δ w; kernel_rfl) ((law_alive).use _) ?_)
      rintro _ σ3 ⟨_, hσ3, rfl⟩
      obtain rfl : σ3 = ((HeapV.ent H0 F) ++ ([])) := hσ3.trans (rfl)
      refine SL_segT 2 [(4, .bool true), (32, .bool (decide ((l.length : Int) > 100))), (5, pt F.p 0), (0, .slice (some ⟨b0, o0, none⟩) l.length c), (1, .int .i64 drop)] (by intro δ w; kernel_rfl) ?_
      refine SL_nil (n_then ?_)
      refine SW_ret (r_then ?_)
      refine body_end (.bool true) (fun _ => rfl) ?_
      exact ⟨(), ⟨_, List.Perm.refl _⟩, rfl⟩
    · skip
      replace hc1 := of_decide_eq_false hc1
      refine SW_skip (n_then ?_)
      refine SW_seq ?_
      refine SW_region ?_
      refine SL_s1 1 39 (pt F.p 0) (by intro δ w; kernel_rfl) ?_
      refine SL_cons ⟨rfl, fun _ => rfl⟩ (O_call 11 #[pt F.p 0, .int .i64 0, .int .u64 18445336698825998337] rfl (by intro δ w; kernel_rfl) ((fs_Make hI0 hp0 htr0 ho0).use _) ?_)
      rintro _ σ4 ⟨H1, hσ4, rfl, hF1⟩
      obtain rfl : σ4 = ((HeapV.ent H1 F) ++ ([])) := hσ4.trans (rfl)
      refine SL_segT 5 [(6, .int .u64 (65530 * 281474976710656 + ((0 : Nat) : Int))), (32, .bool (decide ((l.length : Int) > 100))), (5, pt F.p 0), (4, .bool false), (0, .slice (some ⟨b0, o0, none⟩) l.length c), (1, .int .i64 drop)] (by intro δ w; kernel_rfl) ?_
      refine SL_nil (n_then ?_)
      refine SW_seq ?_
      refine SW_region ?_
      refine SL_s1 1 8 (.slice none 0 0) (by intro δ w; kernel_rfl) ?_
      refine SL_nil (n_then ?_)
      refine SW_seq ?_
      refine SW_seq ?_
      refine SW_region ?_
      refine SL_s3 3 45 (.int .i64 0) 44 (.int .i64 (l.length : Int)) 43 (.slice (some ⟨b0, o0, none⟩) l.length c) (by intro δ w; kernel_rfl) ?_
      refine SL_nil (n_then ?_)
      refine SW_block ?_
      have hl100 : l.length ≤ 100 := by omega
      refine SW_loop (α := Nat × HeapV × Gs × List ByteArray) (fun z_ ρ_ σ_ => Fits ρ_ σ_ [(1, .int .i64 drop), (5, pt F.p 0), (6, .int .u64 (65530 * 281474976710656 + ((0 : Nat) : Int))), (8, Gs.val z_.2.2.1 (List.length z_.2.2.2)), (43, .slice (some ⟨b0, o0, none⟩) l.length c), (44, .int .i64 (l.length : Int)), (45, .int .i64 (z_.1 : Int))] ((Gs.ent 9 1 z_.2.2.1 (z_.2.2.2.map encS)) ++ ((HeapV.ent z_.2.1 F) ++ ([]))) ∧ z_.1 ≤ l.length ∧ Gs.ok 1 (List.length z_.2.2.2) z_.2.2.1 (List.map encS z_.2.2.2) ∧ FastI z_.1 z_.2.1 F z_.2.2.2) (fun z_ => l.length - z_.1) (0, H1, Gs.nil, []) ⟨⟨fun _ => rfl, (Own.of_perm (List.Perm.of_eq (by simp [Gs.ent])))⟩, Nat.zero_le _, ⟨rfl, rfl⟩, hF1⟩ ?_
      rintro ⟨i, H, s, U⟩ ρ_ σ_ ⟨hfit, hi0, hi1, hi2⟩
      refine SW_fits hfit ?_
      clear hfit
      simp only [] at hi0 hi1 hi2 ⊢
      have hsm := hi2.small
      refine SW_seq ?_
      refine SW_region ?_
      refine SL_s1 1 46 (.bool (decide ((i : Int) < (l.length : Int)))) (by intro δ w; kernel_rfl) ?_
      refine SL_nil (n_then ?_)
      refine SW_seq ?_
      refine SW_cond (decide ((i : Int) < (l.length : Int))) (fun _ => rfl) (fun hc2 => ?_) (fun hc2 => ?_)
      · skip
        replace hc2 := of_decide_eq_true hc2
        refine SW_skip (n_then ?_)
        refine SW_seq ?_
        refine SW_block ?_
        refine SW_seq ?_
        refine SW_region ?_
        refine SL_s1 1 47 (.int .i64 (i : Int)) (by intro δ w; kernel_rfl) ?_
        refine SL_cons ⟨rfl, fun _ => rfl⟩ (O_indexAddr' (i : Int) (o0 + i) b0 o0 l.length c .i64 1 Try.underlying34 (by kernel_rfl) (fun _ => rfl) (fun _ => rfl) (by omega) (by omega) (by omega) rfl ?_)
        obtain ⟨e1, he1⟩ : ∃ y_, l[i]? = some y_ := ⟨_, List.getElem?_eq_getElem (by omega)⟩
        refine SL_cons ⟨rfl, fun _ => rfl⟩ (O_load b0 (o0 + i) (.string e1) (fun _ => rfl) (by kernel_rfl) (Cell.mono (hq0 _ _ (map_cell he1 rfl)) (fun e he => absurd he List.not_mem_nil)) rfl ?_)
        refine SL_s2 2 10 (.string e1) 9 (.int .i64 (i : Int)) (by intro δ w; kernel_rfl) ?_
        refine SL_nil (n_then ?_)
        refine SW_seq ?_
        refine SW_region ?_
        refine SL_s5 5 54 (.int .i32 (IntKind.wrap .i32 ((i : Int)))) 53 (.int .i64 (i : Int)) 52 (.string e1) 51 (.int .u64 (65530 * 281474976710656 + ((0 : Nat) : Int))) 50 (pt F.p 0) (by intro δ w; kernel_rfl) ?_
        refine SL_sig ([] ++ ((Gs.ent 9 1 s (U.map encS)) ++ ((HeapV.ent H F) ++ ([])))) rfl ?_
        refine SL_cons ⟨rfl, fun _ => rfl⟩ (O_call 18 #[.int .i32 (IntKind.wrap .i32 ((i : Int)))] rfl (by intro δ w; kernel_rfl) ((ref_Int (n := IntKind.wrap .i32 ((i : Int)))).use _) ?_)
        rintro _ σ5 ⟨_, hσ5, rfl⟩
        obtain rfl : σ5 = ((Gs.ent 9 1 s (U.map encS)) ++ ((HeapV.ent H F) ++ ([]))) := hσ5.trans (rfl)
        refine SL_s1 1 56 (.agg #[.int .u64 (refInt (IntKind.wrap .i32 ((i : Int)))), .int .u64 0, .int .i64 7]) (by intro δ w; kernel_rfl) ?_
        refine SL_perm _ (perm_ca perm_cz) ?_
        refine SL_cons ⟨rfl, fun _ => rfl⟩ (O_call 17 #[pt F.p 0, .int .u64 (65530 * 281474976710656 + ((0 : Nat) : Int)), .string e1, .agg #[.int .u64 (refInt (IntKind.wrap .i32 ((i : Int)))), .int .u64 0, .int .i64 7]] rfl (by intro δ w; kernel_rfl) ((fs_Put (by omega) hi2 e1 (refInt (IntKind.wrap .i32 ((i : Int))), 0, 7)).use _) ?_)
        rintro _ σ6 ⟨K1, hσ6, rfl, hK1⟩
        obtain rfl : σ6 = ((HeapV.ent K1 F) ++ ((Gs.ent 9 1 s (U.map encS)) ++ ([]))) := hσ6.trans (rfl)
        refine SL_nil (n_then ?_)
        refine SW_seq ?_
        refine SW_region ?_
        refine SL_s1 1 11 (.bool true) (by intro δ w; kernel_rfl) ?_
        refine SL_nil (n_then ?_)
        refine SW_seq ?_
        refine SW_seq ?_
        refine SW_region ?_
        refine SL_s3 3 60 (.int .i64 0) 59 (.int .i64 (U.length : Int)) 58 (Gs.val s U.length) (by intro δ w; kernel_rfl) ?_
        refine SL_nil (n_then ?_)
        refine SW_block ?_
        refine SW_loop (α := Nat × Bool) (fun z_ ρ_ σ_ => Fits ρ_ σ_ [(1, .int .i64 drop), (5, pt F.p 0), (6, .int .u64 (65530 * 281474976710656 + ((0 : Nat) : Int))), (8, Gs.val s U.length), (43, .slice (some ⟨b0, o0, none⟩) l.length c), (44, .int .i64 (l.length : Int)), (45, .int .i64 (i : Int)), (10, .string e1), (11, .bool z_.2), (58, Gs.val s U.length), (59, .int .i64 (U.length : Int)), (60, .int .i64 (z_.1 : Int))] ((Gs.ent 9 1 s (U.map encS)) ++ ((HeapV.ent K1 F) ++ ([]))) ∧ z_.1 ≤ U.length ∧ z_.2 = decide (ixS (List.take z_.1 U) e1 < 0)) (fun z_ => U.length - z_.1) (0, true) ⟨⟨fun _ => rfl, (own_mk (J := ([])) (List.Perm.trans (perm_ca perm_cz) (List.Perm.append_left _ (List.Perm.refl _))) (by simp only [List.cons_append, List.append_assoc, List.nil_append, List.append_nil]))⟩, Nat.zero_le _, rfl⟩ ?_
        rintro ⟨j, nw⟩ ρ_ σ_ ⟨hfit, hj0, hj1⟩
        refine SW_fits hfit ?_
        clear hfit
        simp only [] at hj0 hj1 ⊢
        refine SW_seq ?_
        refine SW_region ?_
        refine SL_s1 1 61 (.bool (decide ((j : Int) < (U.length : Int)))) (by intro δ w; kernel_rfl) ?_
        refine SL_nil (n_then ?_)
        refine SW_seq ?_
        refine SW_cond (decide ((j : Int) < (U.length : Int))) (fun _ => rfl) (fun hc3 => ?_) (fun hc3 => ?_)
        · skip
          replace hc3 := of_decide_eq_true hc3
          refine SW_skip (n_then ?_)
          refine SW_seq ?_
          refine SW_block ?_
          refine SW_seq ?_
          refine SW_region ?_
          refine SL_cons ⟨rfl, fun _ => rfl⟩ (O_indexAddr' (j : Int) (j) (Gs.blk s) 0 U.length (Gs.cap s) .i64 1 Try.underlying34 (by kernel_rfl) (fun _ => gs_slice (Gs.ok.ne hi1 (by first | omega | (simp; omega)))) (fun _ => rfl) (by omega) (by omega) (by omega) rfl ?_)
          obtain ⟨e2, he2⟩ : ∃ y_, U[j]? = some y_ := ⟨_, List.getElem?_eq_getElem (by omega)⟩
          refine SL_cons ⟨rfl, fun _ => rfl⟩ (O_load (Gs.blk s) j (.string e2) (fun _ => rfl) (by kernel_rfl) (Gs.cell hi1 (fun e he => (mem_h he)) (map_cell he2 rfl)) rfl ?_)
          refine SL_s1 1 13 (.string e2) (by intro δ w; kernel_rfl) ?_
          refine SL_nil (n_then ?_)
          refine SW_region ?_
          refine SL_s2 2 65 (.bool nw) 64 (.bool nw) (by intro δ w; kernel_rfl) ?_
          refine SL_tb nw (fun tb_ => [(65, .bool tb_), (64, .bool tb_), (13, .string e2), (63, .string e2), (62, pt (Gs.blk s) j), (61, .bool (decide ((j : Int) < (U.length : Int)))), (1, .int .i64 drop), (5, pt F.p 0), (6, .int .u64 (65530 * 281474976710656 + ((0 : Nat) : Int))), (8, Gs.val s U.length), (43, .slice (some ⟨b0, o0, none⟩) l.length c), (44, .int .i64 (l.length : Int)), (45, .int .i64 (i : Int)), (10, .string e1), (11, .bool tb_), (58, Gs.val s U.length), (59, .int .i64 (U.length : Int)), (60, .int .i64 (j : Int))]) (fun hg4 => ?_) (fun hg4 => ?_)
          · skip
            refine SL_s3 3 68 (.bool (!(e2.toList == e1.toList))) 67 (.string e1) 66 (.string e2) (by intro δ w; kernel_rfl) ?_
            rw [show (!(e2.toList == e1.toList)) = (!(decide (e2 = e1))) from by rw [str_eq]]
            refine SL_segT 2 [(11, .bool (!(decide (e2 = e1)))), (13, .string e2), (61, .bool (decide ((j : Int) < (U.length : Int)))), (1, .int .i64 drop), (5, pt F.p 0), (6, .int .u64 (65530 * 281474976710656 + ((0 : Nat) : Int))), (8, Gs.val s U.length), (43, .slice (some ⟨b0, o0, none⟩) l.length c), (44, .int .i64 (l.length : Int)), (45, .int .i64 (i : Int)), (10, .string e1), (58, Gs.val s U.length), (59, .int .i64 (U.length : Int)), (60, .int .i64 (j : Int))] (by intro δ w; kernel_rfl) ?_
            refine SL_nil (n_in (n_then ?_))
            refine SW_region ?_
            refine SL_s1 1 70 (.int .i64 (IntKind.wrap .i64 ((j : Int) + 1))) (by intro δ w; kernel_rfl) ?_
            rw [show IntKind.wrap .i64 ((j : Int) + 1) = (j : Int) + 1 from IntWalk.i64_in _ (by omega)]
            refine SL_segT 1 [(60, .int .i64 ((j : Int) + 1)), (11, .bool (!(decide (e2 = e1)))), (13, .string e2), (61, .bool (decide ((j : Int) < (U.length : Int)))), (1, .int .i64 drop), (5, pt F.p 0), (6, .int .u64 (65530 * 281474976710656 + ((0 : Nat) : Int))), (8, Gs.val s U.length), (43, .slice (some ⟨b0, o0, none⟩) l.length c), (44, .int .i64 (l.length : Int)), (45, .int .i64 (i : Int)), (10, .string e1), (58, Gs.val s U.length), (59, .int .i64 (U.length : Int))] (by intro δ w; kernel_rfl) ?_
            refine SL_nil (n_then ?_)
            exact ⟨(j + 1, !(decide (e2 = e1))), by simp only []; omega, ⟨fun _ => rfl, (own_mk (J := ([])) (List.Perm.refl _) (by simp only [List.cons_append, List.append_assoc, List.nil_append, List.append_nil]))⟩, by simp only []; omega, by simp only []; rw [tk_step he2, ← hj1, hg4]; rfl⟩
          · skip
            refine SL_segT 5 [(11, .bool false), (13, .string e2), (61, .bool (decide ((j : Int) < (U.length : Int)))), (1, .int .i64 drop), (5, pt F.p 0), (6, .int .u64 (65530 * 281474976710656 + ((0 : Nat) : Int))), (8, Gs.val s U.length), (43, .slice (some ⟨b0, o0, none⟩) l.length c), (44, .int .i64 (l.length : Int)), (45, .int .i64 (i : Int)), (10, .string e1), (58, Gs.val s U.length), (59, .int .i64 (U.length : Int)), (60, .int .i64 (j : Int))] (by intro δ w; kernel_rfl) ?_
            refine SL_nil (n_in (n_then ?_))
            refine SW_region ?_
            refine SL_s1 1 70 (.int .i64 (IntKind.wrap .i64 ((j : Int) + 1))) (by intro δ w; kernel_rfl) ?_
            rw [show IntKind.wrap .i64 ((j : Int) + 1) = (j : Int) + 1 from IntWalk.i64_in _ (by omega)]
            refine SL_segT 1 [(60, .int .i64 ((j : Int) + 1)), (11, .bool false), (13, .string e2), (61, .bool (decide ((j : Int) < (U.length : Int)))), (1, .int .i64 drop), (5, pt F.p 0), (6, .int .u64 (65530 * 281474976710656 + ((0 : Nat) : Int))), (8, Gs.val s U.length), (43, .slice (some ⟨b0, o0, none⟩) l.length c), (44, .int .i64 (l.length : Int)), (45, .int .i64 (i : Int)), (10, .string e1), (58, Gs.val s U.length), (59, .int .i64 (U.length : Int))] (by intro δ w; kernel_rfl) ?_
            refine SL_nil (n_then ?_)
            exact ⟨(j + 1, false), by simp only []; omega, ⟨fun _ => rfl, (own_mk (J := ([])) (List.Perm.refl _) (by simp only [List.cons_append, List.append_assoc, List.nil_append, List.append_nil]))⟩, by simp only []; omega, by simp only []; rw [tk_step he2, ← hj1, hg4]; rfl⟩
        · skip
          replace hc3 := of_decide_eq_false hc3
          refine SW_exit (x_then (x_then (x_in (n_then ?_))))
          refine SW_seq ?_
          refine SW_seq ?_
          refine SW_region ?_
          refine SL_s1 1 71 (.bool nw) (by intro δ w; kernel_rfl) ?_
          refine SL_nil (n_then ?_)
          refine SW_cond nw (fun _ => rfl) (fun hc5 => ?_) (fun hc5 => ?_)
          · skip
            have hje : j = U.length := by omega
            rw [hje, List.take_length] at hj1
            have hne : e1 ∉ U := by rw [hc5] at hj1; exact ixS_none.1 (of_decide_eq_true hj1.symm)
            rw [putNm_new hne] at hK1
            refine SW_region ?_
            refine SL_s2 2 73 (.string e1) 72 (Gs.val s U.length) (by intro δ w; kernel_rfl) ?_
            refine SL_cons ⟨rfl, fun _ => rfl⟩ (O_new (fun b => .slice (some ⟨b, 0, none⟩) 1 1) (.cells #[.string e1] 9 (0, 0)) (.cells 9 1 [.string e1]) rfl (by intro δ w; kernel_rfl) ⟨rfl, rfl, rfl, rfl⟩ ?_)
            intro b6 hlb6 hnb6
            refine SL_perm _ (perm_cc perm_cz) ?_
            refine SL_cons ⟨rfl, fun _ => rfl⟩ (O_append (size := 1) (bytes := 16) (z := .string ByteArray.empty) s U.length 1 (some ⟨b6, 0, none⟩) 1 (U.map encS) ([.string e1]) ((U ++ [e1]).map encS) (map_snoc _ e1 rfl) (fun _ => rfl) (fun _ => rfl) Try.underlying34 (by kernel_rfl) rfl (by decide) hi1 rfl (.inr ⟨b6, 0, rfl, Cells.own (mem_a mem_z) rfl⟩) rfl (by omega) (by decide) rfl ?_)
            intro s7 hks7 hfs7
            rw [show U.length + 1 = (U ++ [e1]).length from by simp]
            rw [show U.length + 1 = (U ++ [e1]).length from by simp] at hks7
            have hls7 : (U ++ [e1]).length = U.length + 1 := by simp
            refine SL_segT 1 [(8, Gs.val s7 ((U ++ [e1]).length)), (71, .bool nw), (61, .bool (decide ((j : Int) < (U.length : Int)))), (1, .int .i64 drop), (5, pt F.p 0), (6, .int .u64 (65530 * 281474976710656 + ((0 : Nat) : Int))), (43, .slice (some ⟨b0, o0, none⟩) l.length c), (44, .int .i64 (l.length : Int)), (45, .int .i64 (i : Int)), (10, .string e1), (11, .bool nw), (58, Gs.val s U.length), (59, .int .i64 (U.length : Int)), (60, .int .i64 (j : Int))] (by intro δ w; kernel_rfl) ?_
            refine SL_nil (n_then ?_)
            refine SW_seq ?_
            refine SW_region ?_
            refine SL_s2 2 78 (.int .u64 (65530 * 281474976710656 + ((0 : Nat) : Int))) 77 (pt F.p 0) (by intro δ w; kernel_rfl) ?_
            refine SL_perm _ (perm_ca (perm_cc perm_cz)) ?_
            refine SL_cons ⟨rfl, fun _ => rfl⟩ (O_call 19 #[pt F.p 0, .int .u64 (65530 * 281474976710656 + ((0 : Nat) : Int))] rfl (by intro δ w; kernel_rfl) ((fs_Shape hK1).use _) ?_)
            rintro _ σ7 ⟨ms_, hσ7, rfl⟩
            obtain rfl : σ7 = ((HeapV.ent K1 F) ++ ((Gs.ent 9 1 s7 ((U ++ [e1]).map encS)) ++ ((b6, .cells 9 1 [.string e1]) :: ([])))) := hσ7.trans (rfl)
            refine SL_s5 5 15 (.bool (decide (List.length (U ++ [e1]) ≤ 16))) 14 (.int .i64 ms_) 81 (.bool (decide (List.length (U ++ [e1]) ≤ 16))) 80 (.int .i64 ms_) 76 (.tuple #[.int .i64 ms_, .bool (decide (List.length (U ++ [e1]) ≤ 16))]) (by intro δ w; kernel_rfl) ?_
            refine SL_nil (n_then ?_)
            refine SW_seq ?_
            refine SW_region ?_
            refine SL_s5 5 86 (.bool (!((decide (List.length (U ++ [e1]) ≤ 16)) == (decide (((((U ++ [e1]).length : Nat)) : Int) ≤ 16))))) 85 (.bool (decide (((((U ++ [e1]).length : Nat)) : Int) ≤ 16))) 84 (.int .i64 ((((U ++ [e1]).length : Nat)) : Int)) 83 (Gs.val s7 ((U ++ [e1]).length)) 82 (.bool (decide (List.length (U ++ [e1]) ≤ 16))) (by intro δ w; kernel_rfl) ?_
            refine SL_nil (n_then ?_)
            refine SW_cond (!((decide (List.length (U ++ [e1]) ≤ 16)) == (decide (((((U ++ [e1]).length : Nat)) : Int) ≤ 16)))) (fun _ => rfl) (fun hc8 => ?_) (fun hc8 => ?_)
            · skip
              replace hc8 := bnot_t hc8
              replace hc8 := of_decide_eq_false hc8
              refine SW_seq ?_
              refine SW_region ?_
              refine SL_s1 1 4 (.bool false) (by intro δ w; kernel_rfl) ?_
              refine SL_nil (n_then ?_)
              refine SW_ret (r_in (r_then (r_then (r_in (r_then ?_)))))
              refine body_end (.bool false) (fun _ => rfl) ?_
              exfalso
              first | omega | (simp at hc8; done) | (simp at hc8; omega) | (simp_all; done) | (simp_all; omega)
            · skip
              replace hc8 := bnot_f hc8
              replace hc8 := of_decide_eq_true hc8
              refine SW_skip (n_in (n_then ?_))
              refine SW_region ?_
              refine SL_s1 1 87 (.int .i64 (IntKind.wrap .i64 ((i : Int) + 1))) (by intro δ w; kernel_rfl) ?_
              rw [show IntKind.wrap .i64 ((i : Int) + 1) = (i : Int) + 1 from IntWalk.i64_in _ (by omega)]
              refine SL_segT 1 [(45, .int .i64 ((i : Int) + 1)), (86, .bool (!((decide (List.length (U ++ [e1]) ≤ 16)) == (decide (((((U ++ [e1]).length : Nat)) : Int) ≤ 16))))), (15, .bool (decide (List.length (U ++ [e1]) ≤ 16))), (8, Gs.val s7 ((U ++ [e1]).length)), (71, .bool nw), (61, .bool (decide ((j : Int) < (U.length : Int)))), (1, .int .i64 drop), (5, pt F.p 0), (6, .int .u64 (65530 * 281474976710656 + ((0 : Nat) : Int))), (43, .slice (some ⟨b0, o0, none⟩) l.length c), (44, .int .i64 (l.length : Int)), (10, .string e1), (11, .bool nw), (58, Gs.val s U.length), (59, .int .i64 (U.length : Int)), (60, .int .i64 (j : Int))] (by intro δ w; kernel_rfl) ?_
              refine SL_nil (n_then ?_)
              exact ⟨(i + 1, K1, s7, (U ++ [e1])), by simp only []; omega, ⟨fun _ => rfl, (own_mk (J := ((b6, .cells 9 1 [.string e1]) :: ([]))) (List.Perm.trans (perm_ca perm_cz) (List.Perm.append_left _ (List.Perm.refl _))) (by simp only [List.cons_append, List.append_assoc, List.nil_append, List.append_nil]))⟩, by simp only []; omega, hks7, hK1⟩
          · skip
            have hje : j = U.length := by omega
            rw [hje, List.take_length] at hj1
            have hne : e1 ∈ U := by rw [hc5] at hj1; exact Classical.not_not.1 fun q => of_decide_eq_false hj1.symm (ixS_none.2 q)
            rw [putNm_old hne] at hK1
            refine SW_skip (n_then ?_)
            refine SW_seq ?_
            refine SW_region ?_
            refine SL_s2 2 78 (.int .u64 (65530 * 281474976710656 + ((0 : Nat) : Int))) 77 (pt F.p 0) (by intro δ w; kernel_rfl) ?_
            refine SL_perm _ (perm_ca perm_cz) ?_
            refine SL_cons ⟨rfl, fun _ => rfl⟩ (O_call 19 #[pt F.p 0, .int .u64 (65530 * 281474976710656 + ((0 : Nat) : Int))] rfl (by intro δ w; kernel_rfl) ((fs_Shape hK1).use _) ?_)
            rintro _ σ8 ⟨ms_, hσ8, rfl⟩
            obtain rfl : σ8 = ((HeapV.ent K1 F) ++ ((Gs.ent 9 1 s (U.map encS)) ++ ([]))) := hσ8.trans (rfl)
            refine SL_s5 5 15 (.bool (decide (List.length U ≤ 16))) 14 (.int .i64 ms_) 81 (.bool (decide (List.length U ≤ 16))) 80 (.int .i64 ms_) 76 (.tuple #[.int .i64 ms_, .bool (decide (List.length U ≤ 16))]) (by intro δ w; kernel_rfl) ?_
            refine SL_nil (n_then ?_)
            refine SW_seq ?_
            refine SW_region ?_
            refine SL_s5 5 86 (.bool (!((decide (List.length U ≤ 16)) == (decide ((U.length : Int) ≤ 16))))) 85 (.bool (decide ((U.length : Int) ≤ 16))) 84 (.int .i64 (U.length : Int)) 83 (Gs.val s U.length) 82 (.bool (decide (List.length U ≤ 16))) (by intro δ w; kernel_rfl) ?_
            refine SL_nil (n_then ?_)
            refine SW_cond (!((decide (List.length U ≤ 16)) == (decide ((U.length : Int) ≤ 16)))) (fun _ => rfl) (fun hc9 => ?_) (fun hc9 => ?_)
            · skip
              replace hc9 := bnot_t hc9
              replace hc9 := of_decide_eq_false hc9
              refine SW_seq ?_
              refine SW_region ?_
              refine SL_s1 1 4 (.bool false) (by intro δ w; kernel_rfl) ?_
              refine SL_nil (n_then ?_)
              refine SW_ret (r_in (r_then (r_then (r_in (r_then ?_)))))
              refine body_end (.bool false) (fun _ => rfl) ?_
              exfalso
              first | omega | (simp at hc9; done) | (simp at hc9; omega) | (simp_all; done) | (simp_all; omega)
            · skip
              replace hc9 := bnot_f hc9
              replace hc9 := of_decide_eq_true hc9
              refine SW_skip (n_in (n_then ?_))
              refine SW_region ?_
              refine SL_s1 1 87 (.int .i64 (IntKind.wrap .i64 ((i : Int) + 1))) (by intro δ w; kernel_rfl) ?_
              rw [show IntKind.wrap .i64 ((i : Int) + 1) = (i : Int) + 1 from IntWalk.i64_in _ (by omega)]
              refine SL_segT 1 [(45, .int .i64 ((i : Int) + 1)), (86, .bool (!((decide (List.length U ≤ 16)) == (decide ((U.length : Int) ≤ 16))))), (15, .bool (decide (List.length U ≤ 16))), (71, .bool nw), (61, .bool (decide ((j : Int) < (U.length : Int)))), (1, .int .i64 drop), (5, pt F.p 0), (6, .int .u64 (65530 * 281474976710656 + ((0 : Nat) : Int))), (8, Gs.val s U.length), (43, .slice (some ⟨b0, o0, none⟩) l.length c), (44, .int .i64 (l.length : Int)), (10, .string e1), (11, .bool nw), (58, Gs.val s U.length), (59, .int .i64 (U.length : Int)), (60, .int .i64 (j : Int))] (by intro δ w; kernel_rfl) ?_
              refine SL_nil (n_then ?_)
              exact ⟨(i + 1, K1, s, U), by simp only []; omega, ⟨fun _ => rfl, (own_mk (J := ([])) (List.Perm.trans (perm_ca perm_cz) (List.Perm.append_left _ (List.Perm.refl _))) (by simp only [List.cons_append, List.append_assoc, List.nil_append, List.append_nil]))⟩, by simp only []; omega, hi1, hK1⟩
      · skip
        replace hc2 := of_decide_eq_false hc2
        refine SW_exit (x_then (x_then (x_in (n_then ?_))))
        refine SW_seq ?_
        refine SW_seq ?_
        refine SW_region ?_
        refine SL_s3 3 90 (.bool (decide (drop < 0))) 89 (.bool (decide (drop < 0))) 88 (.int .i64 drop) (by intro δ w; kernel_rfl) ?_
        refine SL_tb (decide (drop < 0)) (fun tb_ => [(90, .bool tb_), (89, .bool tb_), (88, .int .i64 drop), (46, .bool (decide ((i : Int) < (l.length : Int)))), (1, .int .i64 drop), (5, pt F.p 0), (6, .int .u64 (65530 * 281474976710656 + ((0 : Nat) : Int))), (8, Gs.val s U.length), (43, .slice (some ⟨b0, o0, none⟩) l.length c), (44, .int .i64 (l.length : Int)), (45, .int .i64 (i : Int))]) (fun hg10 => ?_) (fun hg10 => ?_)
        · skip
          replace hg10 := of_decide_eq_true hg10
          refine SL_s5 5 95 (.bool true) 94 (undef) 93 (undef) 92 (undef) 91 (undef) (by intro δ w; kernel_rfl) ?_
          refine SL_nil (n_then ?_)
          refine SW_true (fun _ => rfl) ?_
          refine SW_seq ?_
          refine SW_region ?_
          refine SL_s1 1 4 (.bool true) (by intro δ w; kernel_rfl) ?_
          refine SL_nil (n_then ?_)
          refine SW_ret (r_then ?_)
          refine body_end (.bool true) (fun _ => rfl) ?_
          exact ⟨(), ⟨_, List.Perm.refl _⟩, rfl⟩
        · skip
          replace hg10 := of_decide_eq_false hg10
          refine SL_s5 5 95 (.bool (decide (drop ≥ (U.length : Int)))) 94 (.bool (decide (drop ≥ (U.length : Int)))) 93 (.int .i64 (U.length : Int)) 92 (Gs.val s U.length) 91 (.int .i64 drop) (by intro δ w; kernel_rfl) ?_
          refine SL_nil (n_then ?_)
          refine SW_cond (decide (drop ≥ (U.length : Int))) (fun _ => rfl) (fun hc11 => ?_) (fun hc11 => ?_)
          · skip
            replace hc11 := of_decide_eq_true hc11
            refine SW_seq ?_
            refine SW_region ?_
            refine SL_s1 1 4 (.bool true) (by intro δ w; kernel_rfl) ?_
            refine SL_nil (n_then ?_)
            refine SW_ret (r_then ?_)
            refine body_end (.bool true) (fun _ => rfl) ?_
            exact ⟨(), ⟨_, List.Perm.refl _⟩, rfl⟩
          · skip
            replace hc11 := of_decide_eq_false hc11
            refine SW_skip (n_then ?_)
            refine SW_seq ?_
            refine SW_region ?_
            refine SL_s4 4 99 (.int .i64 drop) 98 (Gs.val s U.length) 97 (.int .u64 (65530 * 281474976710656 + ((0 : Nat) : Int))) 96 (pt F.p 0) (by intro δ w; kernel_rfl) ?_
            refine SL_cons ⟨rfl, fun _ => rfl⟩ (O_indexAddr' drop (drop.toNat) (Gs.blk s) 0 U.length (Gs.cap s) .i64 1 Try.underlying34 (by kernel_rfl) (fun _ => gs_slice (Gs.ok.ne hi1 (by first | omega | (simp; omega)))) (fun _ => rfl) (by omega) (by omega) (by omega) rfl ?_)
            obtain ⟨e3, he3⟩ : ∃ y_, U[drop.toNat]? = some y_ := ⟨_, List.getElem?_eq_getElem (by omega)⟩
            refine SL_cons ⟨rfl, fun _ => rfl⟩ (O_load (Gs.blk s) drop.toNat (.string e3) (fun _ => rfl) (by kernel_rfl) (Gs.cell hi1 (fun e he => (mem_h he)) (map_cell he3 rfl)) rfl ?_)
            refine SL_perm _ (perm_ca perm_cz) ?_
            refine SL_cons ⟨rfl, fun _ => rfl⟩ (O_call 20 #[pt F.p 0, .int .u64 (65530 * 281474976710656 + ((0 : Nat) : Int)), .string e3] rfl (by intro δ w; kernel_rfl) ((fs_Drop (by omega) hi2 (q := drop.toNat) he3).use _) ?_)
            rintro _ σ9 ⟨⟨H2, U2, D2⟩, hσ9, rfl, hS, hnk, hln, hrm⟩
            obtain rfl : σ9 = ((HeapV.ent H2 F) ++ ((Gs.ent 9 1 s (U.map encS)) ++ ([]))) := hσ9.trans (rfl)
            simp only [] at hS hnk hln hrm
            refine SL_nil (n_then ?_)
            refine SW_seq ?_
            refine SW_region ?_
            refine SL_segT 4 [(106, .int .i64 drop), (105, Gs.val s U.length), (104, .int .u64 (65530 * 281474976710656 + ((0 : Nat) : Int))), (103, pt F.p 0), (95, .bool (decide (drop ≥ (U.length : Int)))), (46, .bool (decide ((i : Int) < (l.length : Int)))), (1, .int .i64 drop), (5, pt F.p 0), (6, .int .u64 (65530 * 281474976710656 + ((0 : Nat) : Int))), (8, Gs.val s U.length), (43, .slice (some ⟨b0, o0, none⟩) l.length c), (44, .int .i64 (l.length : Int)), (45, .int .i64 (i : Int))] (by intro δ w; kernel_rfl) ?_
            refine SL_cons ⟨rfl, fun _ => rfl⟩ (O_indexAddr' drop (drop.toNat) (Gs.blk s) 0 U.length (Gs.cap s) .i64 1 Try.underlying34 (by kernel_rfl) (fun _ => gs_slice (Gs.ok.ne hi1 (by first | omega | (simp; omega)))) (fun _ => rfl) (by omega) (by omega) (by omega) rfl ?_)
            refine SL_cons ⟨rfl, fun _ => rfl⟩ (O_load (Gs.blk s) drop.toNat (.string e3) (fun _ => rfl) (by kernel_rfl) (Gs.cell hi1 (fun e he => (mem_a (mem_h he))) (map_cell he3 rfl)) rfl ?_)
            refine SL_s1 1 109 (.agg #[.int .u64 18445336698825998339, .int .u64 0, .int .i64 0]) (by intro δ w; kernel_rfl) ?_
            refine SL_cons ⟨rfl, fun _ => rfl⟩ (O_call 17 #[pt F.p 0, .int .u64 (65530 * 281474976710656 + ((0 : Nat) : Int)), .string e3, .agg #[.int .u64 18445336698825998339, .int .u64 0, .int .i64 0]] rfl (by intro δ w; kernel_rfl) ((fs_Put2 (by omega) hS hnk hrm).use _) ?_)
            rintro _ σ10 ⟨K1, hσ10, rfl, hS3⟩
            obtain rfl : σ10 = ((HeapV.ent K1 F) ++ ((Gs.ent 9 1 s (U.map encS)) ++ ([]))) := hσ10.trans (rfl)
            refine SL_nil (n_then ?_)
            refine SW_seq ?_
            refine SW_region ?_
            refine SL_s2 2 113 (.int .u64 (65530 * 281474976710656 + ((0 : Nat) : Int))) 112 (pt F.p 0) (by intro δ w; kernel_rfl) ?_
            refine SL_cons ⟨rfl, fun _ => rfl⟩ (O_call 19 #[pt F.p 0, .int .u64 (65530 * 281474976710656 + ((0 : Nat) : Int))] rfl (by intro δ w; kernel_rfl) ((sl_Shape hS3).use _) ?_)
            rintro _ σ11 ⟨_, hσ11, rfl⟩
            obtain rfl : σ11 = ((HeapV.ent K1 F) ++ ((Gs.ent 9 1 s (U.map encS)) ++ ([]))) := hσ11.trans (rfl)
            refine SL_segT 5 [(17, .bool false), (95, .bool (decide (drop ≥ (U.length : Int)))), (46, .bool (decide ((i : Int) < (l.length : Int)))), (1, .int .i64 drop), (5, pt F.p 0), (6, .int .u64 (65530 * 281474976710656 + ((0 : Nat) : Int))), (8, Gs.val s U.length), (43, .slice (some ⟨b0, o0, none⟩) l.length c), (44, .int .i64 (l.length : Int)), (45, .int .i64 (i : Int))] (by intro δ w; kernel_rfl) ?_
            refine SL_nil (n_then ?_)
            refine SW_seq ?_
            refine SW_region ?_
            refine SL_s2 2 118 (.int .u64 (65530 * 281474976710656 + ((0 : Nat) : Int))) 117 (pt F.p 0) (by intro δ w; kernel_rfl) ?_
            refine SL_cons ⟨rfl, fun _ => rfl⟩ (O_call 21 #[pt F.p 0, .int .u64 (65530 * 281474976710656 + ((0 : Nat) : Int))] rfl (by intro δ w; kernel_rfl) ((sl_Keys (by omega) hS3).use _) ?_)
            rintro _ σ12 ⟨kg1, hσ12, rfl, hkg1⟩
            obtain rfl : σ12 = ((Gs.ent 9 1 kg1 ((U2 ++ [e3]).map encS)) ++ ((HeapV.ent K1 F) ++ ((Gs.ent 9 1 s (U.map encS)) ++ ([])))) := hσ12.trans (by simp only [List.cons_append, List.append_assoc, List.nil_append, List.append_nil])
            have hlk : (U2 ++ [e3]).length = U2.length + 1 := by simp
            refine SL_s1 1 18 (Gs.val kg1 ((U2 ++ [e3]).length)) (by intro δ w; kernel_rfl) ?_
            refine SL_nil (n_then ?_)
            refine SW_seq ?_
            refine SW_region ?_
            refine SL_s4 4 124 (.int .i64 drop) 123 (Gs.val s U.length) 122 (.int .u64 (65530 * 281474976710656 + ((0 : Nat) : Int))) 121 (pt F.p 0) (by intro δ w; kernel_rfl) ?_
            refine SL_cons ⟨rfl, fun _ => rfl⟩ (O_indexAddr' drop (drop.toNat) (Gs.blk s) 0 U.length (Gs.cap s) .i64 1 Try.underlying34 (by kernel_rfl) (fun _ => gs_slice (Gs.ok.ne hi1 (by first | omega | (simp; omega)))) (fun _ => rfl) (by omega) (by omega) (by omega) rfl ?_)
            refine SL_cons ⟨rfl, fun _ => rfl⟩ (O_load (Gs.blk s) drop.toNat (.string e3) (fun _ => rfl) (by kernel_rfl) (Gs.cell hi1 (fun e he => (mem_a (mem_a (mem_h he)))) (map_cell he3 rfl)) rfl ?_)
            refine SL_perm _ (perm_ca perm_cz) ?_
            refine SL_cons ⟨rfl, fun _ => rfl⟩ (O_call 22 #[pt F.p 0, .int .u64 (65530 * 281474976710656 + ((0 : Nat) : Int)), .string e3] rfl (by intro δ w; kernel_rfl) ((sl_Get hS3 hnk).use _) ?_)
            rintro _ σ13 ⟨_, hσ13, rfl⟩
            obtain rfl : σ13 = ((HeapV.ent K1 F) ++ ((Gs.ent 9 1 kg1 ((U2 ++ [e3]).map encS)) ++ ((Gs.ent 9 1 s (U.map encS)) ++ ([])))) := hσ13.trans (rfl)
            refine SL_s3 3 129 (.bool true) 128 (.agg #[.int .u64 18445336698825998339, .int .u64 0, .int .i64 0]) 120 (.tuple #[.agg #[.int .u64 18445336698825998339, .int .u64 0, .int .i64 0], .bool true]) (by intro δ w; kernel_rfl) ?_
            refine SL_cons ⟨rfl, fun _ => rfl⟩ (O_new (fun b => .pointer (some ⟨b, 0, none⟩)) (.cells #[.int .u64 0, .int .u64 0, .int .i64 0] 42 (0, 0)) (.cells 42 3 [.int .u64 0, .int .u64 0, .int .i64 0]) rfl (by intro δ w; kernel_rfl) ⟨rfl, rfl, rfl, rfl⟩ ?_)
            intro b12 hlb12 hnb12
            refine SL_cons ⟨rfl, fun _ => rfl⟩ (O_store b12 0 (.agg #[.int .u64 18445336698825998339, .int .u64 0, .int .i64 0]) [.int .u64 18445336698825998339, .int .u64 0, .int .i64 0] (fun _ => rfl) (fun _ => rfl) rfl (by kernel_rfl) rfl (by simp only [List.length_cons, List.length_nil]; omega) rfl ?_)
            refine SL_sig ((b12, .cells 42 3 [.int .u64 18445336698825998339, .int .u64 0, .int .i64 0]) :: ((HeapV.ent K1 F) ++ ((Gs.ent 9 1 kg1 ((U2 ++ [e3]).map encS)) ++ ((Gs.ent 9 1 s (U.map encS)) ++ ([]))))) rfl ?_
            refine SL_segT 1 [(20, .bool true), (19, pt b12 0), (18, Gs.val kg1 ((U2 ++ [e3]).length)), (17, .bool false), (95, .bool (decide (drop ≥ (U.length : Int)))), (46, .bool (decide ((i : Int) < (l.length : Int)))), (1, .int .i64 drop), (5, pt F.p 0), (6, .int .u64 (65530 * 281474976710656 + ((0 : Nat) : Int))), (8, Gs.val s U.length), (43, .slice (some ⟨b0, o0, none⟩) l.length c), (44, .int .i64 (l.length : Int)), (45, .int .i64 (i : Int))] (by intro δ w; kernel_rfl) ?_
            refine SL_nil (n_then ?_)
            refine SW_seq ?_
            refine SW_draw [((Gs.blk kg1), (((((U2 ++ [e3]).length : Nat)) : Int) - 1).toNat, .string e3), ((Gs.blk s), drop.toNat, .string e3), (b12, 0, .int .u64 18445336698825998339)] [0, 1, 2, 3, 4, 5, 6, 7, 8, 9, 10, 11, 12, 13, 14, 15, 16, 17, 18, 19, 20, 21, 22, 23, 24, 25, 26] (by kernel_rfl) (rd_cons (Gs.cell hkg1 (fun e he => (mem_c (mem_a (mem_h he)))) (map_cell (snoc_last (show (((((U2 ++ [e3]).length : Nat)) : Int) - 1).toNat = U2.length from by omega)) rfl)) (rd_cons (Gs.cell hi1 (fun e he => (mem_c (mem_a (mem_a (mem_h he))))) (map_cell he3 rfl)) (rd_cons (Cell.own mem_z rfl) rd_nil))) ?_
            refine SA_take (li' := #[true, false, false, false, false, false, false, false, false, false, false, false, false, false, false, false, false, false, false, false, false, false, false, false, false, false, false, false, false, false, false]) 0 _ (.bool false) (fun _ _ _ h => h) rfl (by kernel_rfl) rfl (Or.inl ⟨fun _ => rfl, by intro δ w; kernel_rfl⟩) ?_
            refine SA_take (li' := #[true, true, false, false, false, false, false, false, false, false, false, false, false, false, false, false, false, false, false, false, false, false, false, false, false, false, false, false, false, false, false]) 1 _ (.bool true) (fun _ _ _ h => h) rfl (by kernel_rfl) rfl (Or.inl ⟨fun _ => rfl, by intro δ w; kernel_rfl⟩) ?_
            refine SA_take (li' := #[true, true, true, false, false, false, false, false, false, false, false, false, false, false, false, false, false, false, false, false, false, false, false, false, false, false, false, false, false, false, false]) 2 _ (.bool true) (fun _ _ _ h => h) rfl (by kernel_rfl) rfl (Or.inl ⟨fun _ => rfl, by intro δ w; kernel_rfl⟩) ?_
            refine SA_take (li' := #[true, true, true, true, false, false, false, false, false, false, false, false, false, false, false, false, false, false, false, false, false, false, false, false, false, false, false, false, false, false, false]) 3 _ (Gs.val kg1 ((U2 ++ [e3]).length)) (fun _ _ _ h => h) rfl (by kernel_rfl) rfl (Or.inl ⟨fun _ => rfl, by intro δ w; kernel_rfl⟩) ?_
            refine SA_take (li' := #[true, true, true, true, true, false, false, false, false, false, false, false, false, false, false, false, false, false, false, false, false, false, false, false, false, false, false, false, false, false, false]) 4 _ (.int .i64 ((((U2 ++ [e3]).length : Nat)) : Int)) (fun _ _ _ h => h) rfl (by kernel_rfl) rfl (Or.inl ⟨fun _ => rfl, by intro δ w; kernel_rfl⟩) ?_
            refine SA_take (li' := #[true, true, true, true, true, true, false, false, false, false, false, false, false, false, false, false, false, false, false, false, false, false, false, false, false, false, false, false, false, false, false]) 5 _ (Gs.val s U.length) (fun _ _ _ h => h) rfl (by kernel_rfl) rfl (Or.inl ⟨fun _ => rfl, by intro δ w; kernel_rfl⟩) ?_
            refine SA_take (li' := #[true, true, true, true, true, true, true, false, false, false, false, false, false, false, false, false, false, false, false, false, false, false, false, false, false, false, false, false, false, false, false]) 6 _ (.int .i64 (U.length : Int)) (fun _ _ _ h => h) rfl (by kernel_rfl) rfl (Or.inl ⟨fun _ => rfl, by intro δ w; kernel_rfl⟩) ?_
            refine SA_take (li' := #[true, true, true, true, true, true, true, true, false, false, false, false, false, false, false, false, false, false, false, false, false, false, false, false, false, false, false, false, false, false, false]) 7 _ (.bool (((((U2 ++ [e3]).length : Nat)) : Int) == (U.length : Int))) (fun _ _ _ h => h) rfl (by kernel_rfl) rfl (Or.inl ⟨fun _ => rfl, by intro δ w; kernel_rfl⟩) ?_
            refine SA_take (li' := #[true, true, true, true, true, true, true, true, true, false, false, false, false, false, false, false, false, false, false, false, false, false, false, false, false, false, false, false, false, false, false]) 8 _ (.bool (((((U2 ++ [e3]).length : Nat)) : Int) == (U.length : Int))) (fun _ _ _ h => h) rfl (by kernel_rfl) rfl (Or.inl ⟨fun _ => rfl, by intro δ w; kernel_rfl⟩) ?_
            refine SA_trim [(138, .bool (((((U2 ++ [e3]).length : Nat)) : Int) == (U.length : Int))), (20, .bool true), (19, pt b12 0), (18, Gs.val kg1 ((U2 ++ [e3]).length)), (17, .bool false), (95, .bool (decide (drop ≥ (U.length : Int)))), (46, .bool (decide ((i : Int) < (l.length : Int)))), (1, .int .i64 drop), (5, pt F.p 0), (6, .int .u64 (65530 * 281474976710656 + ((0 : Nat) : Int))), (8, Gs.val s U.length), (43, .slice (some ⟨b0, o0, none⟩) l.length c), (44, .int .i64 (l.length : Int)), (45, .int .i64 (i : Int))] (fun _ => rfl) ?_
            refine SA_take (li' := #[true, true, true, true, true, true, true, true, true, true, false, false, false, false, false, false, false, false, false, false, false, false, false, false, false, false, false, false, false, false, false]) 9 _ (.bool (((((U2 ++ [e3]).length : Nat)) : Int) == (U.length : Int))) (fun _ _ _ h => h) rfl (by kernel_rfl) rfl (Or.inl ⟨fun _ => rfl, by intro δ w; kernel_rfl⟩) ?_
            refine SA_tb (((((U2 ++ [e3]).length : Nat)) : Int) == (U.length : Int)) (fun tb_ => [(139, .bool tb_), (138, .bool tb_), (20, .bool true), (19, pt b12 0), (18, Gs.val kg1 ((U2 ++ [e3]).length)), (17, .bool false), (95, .bool (decide (drop ≥ (U.length : Int)))), (46, .bool (decide ((i : Int) < (l.length : Int)))), (1, .int .i64 drop), (5, pt F.p 0), (6, .int .u64 (65530 * 281474976710656 + ((0 : Nat) : Int))), (8, Gs.val s U.length), (43, .slice (some ⟨b0, o0, none⟩) l.length c), (44, .int .i64 (l.length : Int)), (45, .int .i64 (i : Int))]) (fun hg13 => ?_) (fun hg13 => ?_)
            · skip
              refine SA_take (li' := #[true, true, true, true, true, true, true, true, true, true, true, false, false, false, false, false, false, false, false, false, false, false, false, false, false, false, false, false, false, false, false]) 10 _ (Gs.val kg1 ((U2 ++ [e3]).length)) (fun _ _ _ h => h) rfl (by kernel_rfl) rfl (Or.inl ⟨fun _ => rfl, by intro δ w; kernel_rfl⟩) ?_
              refine SA_take (li' := #[true, true, true, true, true, true, true, true, true, true, true, true, false, false, false, false, false, false, false, false, false, false, false, false, false, false, false, false, false, false, false]) 11 _ (Gs.val kg1 ((U2 ++ [e3]).length)) (fun _ _ _ h => h) rfl (by kernel_rfl) rfl (Or.inl ⟨fun _ => rfl, by intro δ w; kernel_rfl⟩) ?_
              refine SA_take (li' := #[true, true, true, true, true, true, true, true, true, true, true, true, true, false, false, false, false, false, false, false, false, false, false, false, false, false, false, false, false, false, false]) 12 _ (.int .i64 ((((U2 ++ [e3]).length : Nat)) : Int)) (fun _ _ _ h => h) rfl (by kernel_rfl) rfl (Or.inl ⟨fun _ => rfl, by intro δ w; kernel_rfl⟩) ?_
              refine SA_take (li' := #[true, true, true, true, true, true, true, true, true, true, true, true, true, true, false, false, false, false, false, false, false, false, false, false, false, false, false, false, false, false, false]) 13 _ (.int .i64 (IntKind.wrap .i64 (((((U2 ++ [e3]).length : Nat)) : Int) - 1))) (fun _ _ _ h => h) rfl (by kernel_rfl) rfl (Or.inl ⟨fun _ => rfl, by intro δ w; kernel_rfl⟩) ?_
              rw [show IntKind.wrap .i64 (((((U2 ++ [e3]).length : Nat)) : Int) - 1) = ((((U2 ++ [e3]).length : Nat)) : Int) - 1 from IntWalk.i64_in _ (by omega)]
              refine SA_take (li' := #[true, true, true, true, true, true, true, true, true, true, true, true, true, true, true, false, false, false, false, false, false, false, false, false, false, false, false, false, false, false, false]) 14 _ (pt (Gs.blk kg1) ((((((U2 ++ [e3]).length : Nat)) : Int) - 1).toNat)) (fun _ _ _ h => h) rfl (by kernel_rfl) rfl (Or.inl ⟨fun _ => rfl, (fun δ w => run_indexAddr (((((U2 ++ [e3]).length : Nat)) : Int) - 1) ((((((U2 ++ [e3]).length : Nat)) : Int) - 1).toNat) (Gs.blk kg1) 0 ((U2 ++ [e3]).length) (Gs.cap kg1) .i64 1 Try.underlying34 (by kernel_rfl) (fun _ => gs_slice (Gs.ok.ne hkg1 (by first | omega | (simp; omega)))) (fun _ => rfl) (by omega) (by omega) (by omega))⟩) ?_
              refine SA_read (li' := #[true, true, true, true, true, true, true, true, true, true, true, true, true, true, true, true, false, false, false, false, false, false, false, false, false, false, false, false, false, false, false]) 15 _ (.string e3) (fun _ _ _ h => h) rfl (by kernel_rfl) rfl (fun _ => rfl) (fun δ w hr => Rd_load (Gs.blk kg1) ((((((U2 ++ [e3]).length : Nat)) : Int) - 1).toNat) (.string e3) rfl (by kernel_rfl) List.mem_cons_self hr) ?_
              refine SA_take (li' := #[true, true, true, true, true, true, true, true, true, true, true, true, true, true, true, true, true, false, false, false, false, false, false, false, false, false, false, false, false, false, false]) 16 _ (Gs.val s U.length) (fun _ _ _ h => h) rfl (by kernel_rfl) rfl (Or.inl ⟨fun _ => rfl, by intro δ w; kernel_rfl⟩) ?_
              refine SA_take (li' := #[true, true, true, true, true, true, true, true, true, true, true, true, true, true, true, true, true, true, false, false, false, false, false, false, false, false, false, false, false, false, false]) 17 _ (.int .i64 drop) (fun _ _ _ h => h) rfl (by kernel_rfl) rfl (Or.inl ⟨fun _ => rfl, by intro δ w; kernel_rfl⟩) ?_
              refine SA_take (li' := #[true, true, true, true, true, true, true, true, true, true, true, true, true, true, true, true, true, true, true, false, false, false, false, false, false, false, false, false, false, false, false]) 18 _ (pt (Gs.blk s) drop.toNat) (fun _ _ _ h => h) rfl (by kernel_rfl) rfl (Or.inl ⟨fun _ => rfl, (fun δ w => run_indexAddr drop (drop.toNat) (Gs.blk s) 0 U.length (Gs.cap s) .i64 1 Try.underlying34 (by kernel_rfl) (fun _ => gs_slice (Gs.ok.ne hi1 (by first | omega | (simp; omega)))) (fun _ => rfl) (by omega) (by omega) (by omega))⟩) ?_
              refine SA_trim [(148, pt (Gs.blk s) drop.toNat), (145, .string e3), (139, .bool true), (20, .bool true), (19, pt b12 0), (18, Gs.val kg1 ((U2 ++ [e3]).length)), (17, .bool false), (95, .bool (decide (drop ≥ (U.length : Int)))), (46, .bool (decide ((i : Int) < (l.length : Int)))), (1, .int .i64 drop), (5, pt F.p 0), (6, .int .u64 (65530 * 281474976710656 + ((0 : Nat) : Int))), (8, Gs.val s U.length), (43, .slice (some ⟨b0, o0, none⟩) l.length c), (44, .int .i64 (l.length : Int)), (45, .int .i64 (i : Int))] (fun _ => rfl) ?_
              refine SA_read (li' := #[true, true, true, true, true, true, true, true, true, true, true, true, true, true, true, true, true, true, true, true, false, false, false, false, false, false, false, false, false, false, false]) 19 _ (.string e3) (fun _ _ _ h => h) rfl (by kernel_rfl) rfl (fun _ => rfl) (fun δ w hr => Rd_load (Gs.blk s) drop.toNat (.string e3) rfl (by kernel_rfl) (List.mem_cons_of_mem _ List.mem_cons_self) hr) ?_
              refine SA_take (li' := #[true, true, true, true, true, true, true, true, true, true, true, true, true, true, true, true, true, true, true, true, true, false, false, false, false, false, false, false, false, false, false]) 20 _ (.bool (e3.toList == e3.toList)) (fun _ _ _ h => h) rfl (by kernel_rfl) rfl (Or.inl ⟨fun _ => rfl, by intro δ w; kernel_rfl⟩) ?_
              rw [show (e3.toList == e3.toList) = (decide (e3 = e3)) from by rw [str_eq]]
              refine SA_take (li' := #[true, true, true, true, true, true, true, true, true, true, true, true, true, true, true, true, true, true, true, true, true, true, false, false, false, false, false, false, false, false, false]) 21 _ (.bool (decide (e3 = e3))) (fun _ _ _ h => h) rfl (by kernel_rfl) rfl (Or.inl ⟨fun _ => rfl, by intro δ w; kernel_rfl⟩) ?_
              refine SA_take (li' := #[true, true, true, true, true, true, true, true, true, true, true, true, true, true, true, true, true, true, true, true, true, true, true, false, false, false, false, false, false, false, false]) 22 _ (.bool (decide (e3 = e3))) (fun _ _ _ h => h) rfl (by kernel_rfl) rfl (Or.inl ⟨fun _ => rfl, by intro δ w; kernel_rfl⟩) ?_
              refine SA_tb (decide (e3 = e3)) (fun tb_ => [(152, .bool tb_), (151, .bool tb_), (150, .bool tb_), (149, .string e3), (148, pt (Gs.blk s) drop.toNat), (145, .string e3), (139, .bool true), (20, .bool true), (19, pt b12 0), (18, Gs.val kg1 ((U2 ++ [e3]).length)), (17, .bool false), (95, .bool (decide (drop ≥ (U.length : Int)))), (46, .bool (decide ((i : Int) < (l.length : Int)))), (1, .int .i64 drop), (5, pt F.p 0), (6, .int .u64 (65530 * 281474976710656 + ((0 : Nat) : Int))), (8, Gs.val s U.length), (43, .slice (some ⟨b0, o0, none⟩) l.length c), (44, .int .i64 (l.length : Int)), (45, .int .i64 (i : Int))]) (fun hg14 => ?_) (fun hg14 => ?_)
              · skip
                replace hg14 := of_decide_eq_true hg14
                refine SA_take (li' := #[true, true, true, true, true, true, true, true, true, true, true, true, true, true, true, true, true, true, true, true, true, true, true, true, false, false, false, false, false, false, false]) 23 _ (.bool true) (fun _ _ _ h => h) rfl (by kernel_rfl) rfl (Or.inl ⟨fun _ => rfl, by intro δ w; kernel_rfl⟩) ?_
                refine SA_take (li' := #[true, true, true, true, true, true, true, true, true, true, true, true, true, true, true, true, true, true, true, true, true, true, true, true, true, false, false, false, false, false, false]) 24 _ (.bool true) (fun _ _ _ h => h) rfl (by kernel_rfl) rfl (Or.inl ⟨fun _ => rfl, by intro δ w; kernel_rfl⟩) ?_
                refine SA_trim [(154, .bool true), (20, .bool true), (19, pt b12 0), (18, Gs.val kg1 ((U2 ++ [e3]).length)), (17, .bool false), (95, .bool (decide (drop ≥ (U.length : Int)))), (46, .bool (decide ((i : Int) < (l.length : Int)))), (1, .int .i64 drop), (5, pt F.p 0), (6, .int .u64 (65530 * 281474976710656 + ((0 : Nat) : Int))), (8, Gs.val s U.length), (43, .slice (some ⟨b0, o0, none⟩) l.length c), (44, .int .i64 (l.length : Int)), (45, .int .i64 (i : Int))] (fun _ => rfl) ?_
                refine SA_take (li' := #[true, true, true, true, true, true, true, true, true, true, true, true, true, true, true, true, true, true, true, true, true, true, true, true, true, true, false, false, false, false, false]) 25 _ (.bool true) (fun _ _ _ h => h) rfl (by kernel_rfl) rfl (Or.inl ⟨fun _ => rfl, by intro δ w; kernel_rfl⟩) ?_
                refine SA_take (li' := #[true, true, true, true, true, true, true, true, true, true, true, true, true, true, true, true, true, true, true, true, true, true, true, true, true, true, true, false, false, false, false]) 26 _ (pt b12 0) (fun _ _ _ h => h) rfl (by kernel_rfl) rfl (Or.inl ⟨fun _ => rfl, by intro δ w; kernel_rfl⟩) ?_
                refine SA_read (li' := #[true, true, true, true, true, true, true, true, true, true, true, true, true, true, true, true, true, true, true, true, true, true, true, true, true, true, true, true, false, false, false]) 27 _ (.int .u64 18445336698825998339) (fun _ _ _ h => h) rfl (by kernel_rfl) rfl (fun _ => rfl) (fun δ w hr => Rd_load b12 0 (.int .u64 18445336698825998339) rfl (by kernel_rfl) (List.mem_cons_of_mem _ (List.mem_cons_of_mem _ List.mem_cons_self)) hr) ?_
                refine SA_take (li' := #[true, true, true, true, true, true, true, true, true, true, true, true, true, true, true, true, true, true, true, true, true, true, true, true, true, true, true, true, true, false, false]) 28 _ (.bool true) (fun _ _ _ h => h) rfl (by kernel_rfl) rfl (Or.inl ⟨fun _ => rfl, by intro δ w; kernel_rfl⟩) ?_
                refine SA_take (li' := #[true, true, true, true, true, true, true, true, true, true, true, true, true, true, true, true, true, true, true, true, true, true, true, true, true, true, true, true, true, true, false]) 29 _ (.bool true) (fun _ _ _ h => h) rfl (by kernel_rfl) rfl (Or.inl ⟨fun _ => rfl, by intro δ w; kernel_rfl⟩) ?_
                refine SA_take (li' := #[true, true, true, true, true, true, true, true, true, true, true, true, true, true, true, true, true, true, true, true, true, true, true, true, true, true, true, true, true, true, true]) 30 _ (.bool true) (fun _ _ _ h => h) rfl (by kernel_rfl) rfl (Or.inl ⟨fun _ => rfl, by intro δ w; kernel_rfl⟩) ?_
                refine SA_done (by kernel_rfl) (n_then ?_)
                refine SW_ret ?_
                refine body_end (.bool true) (fun _ => rfl) ?_
                exact ⟨(), ⟨_, List.Perm.refl _⟩, rfl⟩
              · skip
                replace hg14 := of_decide_eq_false hg14
                simp at hg14
            · skip
              exfalso; first | omega | (simp at hg13; done) | (simp at hg13; omega) | (simp_all; done) | (simp_all; omega)

end Go.Proofs.Ytdfhbheipagnmaa
