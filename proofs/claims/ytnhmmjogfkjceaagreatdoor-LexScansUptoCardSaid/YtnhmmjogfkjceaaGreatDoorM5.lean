/-
  What the functions of numbers as texts do, step by step: each theorem is one function's contract. Conditions: those that each theorem names.
-/
import Derived.Test.YtnhmmjogfkjceaaGreatDoorProg
import Derived.Test.YtnhmmjogfkjceaaGreatDoorM4
import Derived.Test.YtnhmmjogfkjceaaGreatDoorM2
import Derived.Test.YtnhmmjogfkjceaaGreatDoorM1
import Derived.Lib.ItoaNum
import Derived.Lib.ItoaLen
import Derived.Lib.Repeat
import Derived.Lib.IndexLaws
import Derived.KernelRfl
set_option linter.unusedVariables false
set_option linter.unusedSimpArgs false
set_option maxRecDepth 100000
set_option maxHeartbeats 4000000
set_option linter.unusedSectionVars false
namespace Go.Proofs.YtnhmmjogfkjceaaGreatDoor
open Go.Sl

theorem lex_scan_good {W0 : World} (hL : LaidL W0) {X : Bytes} {l : List Tok} (h : scanP X = .good l) : SC Tryz.prog W0 9 #[.string (bS X)] [] (Ret (fun q : Gs => Gs.ent 46 4 q (l.flatMap Tok.cells)) (fun v q => v = .tuple #[Gs.val q l.length, .int .i64 0, .int .i64 0] ∧ Gs.ok 4 l.length q (l.flatMap Tok.cells))) := by
 have := lex_Scan hL (X := X); rw [h] at this; exact this
theorem lex_scan_bad {W0 : World} (hL : LaidL W0) {X : Bytes} {p : Nat} {e : Int} (h : scanP X = .bad p e) : SC Tryz.prog W0 9 #[.string (bS X)] [] (Ret (fun q : Gs => Gs.ent 46 4 q (([] : List Tok).flatMap Tok.cells)) (fun v q => v = .tuple #[Gs.val q ([] : List Tok).length, .int .i64 (p : Int), .int .i64 e] ∧ Gs.ok 4 ([] : List Tok).length q (([] : List Tok).flatMap Tok.cells))) := by
 have := lex_Scan hL (X := X); rw [h] at this; exact this

theorem law_alive5 {W0 : World} (hL : LaidL W0) : SC Tryz.prog W0 8 #[] [] (Ret (fun _ : Unit => []) (fun v _ => v = .bool true)) := by
 refine SC_body (fn := Tryz.f8) (n := 50) Tryz.func8 rfl (by kernel_rfl) (ρ := []) rfl ?_
 have hal_ : aliveL.length = 5 := rfl
 refine sr ?_
 refine os 1 ?_
 refine nsr ?_
 refine L (cl ((lex_scan_good hL (l := aliveL) alive_A)) ?_)
 rintro _ ga ⟨rfl, hkga⟩
 refine os 7 ?_
 refine kp [3, 2, 1, 0] ?_
 refine nsr ?_
 refine L (cl ((lex_scan_bad hL alive_B)) ?_)
 rintro _ gb ⟨rfl, hkgb⟩
 refine os 7 ?_
 refine kp [6, 5, 3, 2, 1, 0] ?_
 refine nsr ?_
 refine os 1 ?_
 refine oV (.bool true) ?_
 refine os 2 ?_
 refine oV (.bool true) ?_
 refine os 7 ?_
 refine kp [28, 6, 5, 3, 2, 1, 0] ?_
 refine pn 28 (show ((aliveL.length : Int) == 5) = true from (by decide)) ?_
 refine os 1 ?_
 refine L (ixg 1 (4) hkga Tryz.underlying23 ?_)
 refine L (ldr [.int .i64 5, .int .i64 1, .string (bS [62, 62, 62, 61]), .int .u64 0] (cells_cons (Gs.cell hkga (fun e he => (mem_a (mem_h he))) (flat_cell Tok.len (show aliveL[1]? = some (⟨5, 1, [62, 62, 62, 61], 0⟩ : Tok) from rfl) (j := 0) (by decide) rfl)) (cells_cons (Gs.cell hkga (fun e he => (mem_a (mem_h he))) (flat_cell Tok.len (show aliveL[1]? = some (⟨5, 1, [62, 62, 62, 61], 0⟩ : Tok) from rfl) (j := 1) (by decide) rfl)) (cells_cons (Gs.cell hkga (fun e he => (mem_a (mem_h he))) (flat_cell Tok.len (show aliveL[1]? = some (⟨5, 1, [62, 62, 62, 61], 0⟩ : Tok) from rfl) (j := 2) (by decide) rfl)) (cells_cons (Gs.cell hkga (fun e he => (mem_a (mem_h he))) (flat_cell Tok.len (show aliveL[1]? = some (⟨5, 1, [62, 62, 62, 61], 0⟩ : Tok) from rfl) (j := 3) (by decide) rfl)) cells_nil)))) ?_)
 refine oV (.agg #[.int .i64 5, .int .i64 1, .string (bS [62, 62, 62, 61]), .int .u64 0]) ?_
 refine oV (.bool (eqT 5 5 1 1 ([62, 62, 62, 61]) ([62, 62, 62, 61]) 0 0)) ?_ (hs := eqlT)
 refine os 2 ?_
 refine kp [35, 6, 5, 3, 2, 1, 0] ?_
 refine pn 35 (show (eqT 5 5 1 1 ([62, 62, 62, 61]) ([62, 62, 62, 61]) 0 0) = true from (by decide)) ?_
 refine os 1 ?_
 refine L (ixg 2 (8) hkga Tryz.underlying23 ?_)
 refine L (ldr [.int .i64 3, .int .i64 5, .string (bS []), .int .u64 4629418941960159232] (cells_cons (Gs.cell hkga (fun e he => (mem_a (mem_h he))) (flat_cell Tok.len (show aliveL[2]? = some (⟨3, 5, [], 4629418941960159232⟩ : Tok) from rfl) (j := 0) (by decide) rfl)) (cells_cons (Gs.cell hkga (fun e he => (mem_a (mem_h he))) (flat_cell Tok.len (show aliveL[2]? = some (⟨3, 5, [], 4629418941960159232⟩ : Tok) from rfl) (j := 1) (by decide) rfl)) (cells_cons (Gs.cell hkga (fun e he => (mem_a (mem_h he))) (flat_cell Tok.len (show aliveL[2]? = some (⟨3, 5, [], 4629418941960159232⟩ : Tok) from rfl) (j := 2) (by decide) rfl)) (cells_cons (Gs.cell hkga (fun e he => (mem_a (mem_h he))) (flat_cell Tok.len (show aliveL[2]? = some (⟨3, 5, [], 4629418941960159232⟩ : Tok) from rfl) (j := 3) (by decide) rfl)) cells_nil)))) ?_)
 refine oV (.agg #[.int .i64 3, .int .i64 5, .string (bS []), .int .u64 4629418941960159232]) ?_
 refine oV (.bool (eqT 3 3 5 5 ([]) ([]) 4629418941960159232 4629418941960159232)) ?_ (hs := eqlT)
 refine os 2 ?_
 refine kp [42, 6, 5, 3, 2, 1, 0] ?_
 refine pn 42 (show (eqT 3 3 5 5 ([]) ([]) 4629418941960159232 4629418941960159232) = true from (by decide)) ?_
 refine os 4 ?_
 refine pn 46 (show (((2 : Nat) : Int) == 2) = true from (by decide)) ?_
 refine os 1 ?_
 refine oV (.bool true) ?_
 refine os 2 ?_
 refine kp [0, 6, 5, 3, 2, 1] ?_
 refine nt ?_
 refine SW_ret ?_
 refine body_end (.bool true) (fun _ => rfl) ?_
 exact ⟨(), ow, congrArg Value.bool (by decide)⟩

theorem law_same5 {W0 : World} {a b : Gs} {l : List Tok} (hka : Gs.ok 4 l.length a (l.flatMap Tok.cells)) (hkb : Gs.ok 4 l.length b (l.flatMap Tok.cells)) : SC Tryz.prog W0 11 #[a.val l.length, b.val l.length] (Gs.ent 46 4 a (l.flatMap Tok.cells) ++ Gs.ent 46 4 b (l.flatMap Tok.cells)) (Ret (fun _ : Unit => []) (fun v _ => v = .bool true)) := by
 refine SC_body (fn := Tryz.f11) (n := 26) Tryz.func11 rfl (by kernel_rfl) (ρ := [(0, Gs.val a l.length), (1, Gs.val b l.length)]) rfl ?_
 refine SW_sig ((Gs.ent 46 4 a (l.flatMap Tok.cells)) ++ ((Gs.ent 46 4 b (l.flatMap Tok.cells)) ++ ([]))) (by simp only [List.append_nil, List.append_assoc]) ?_
 have hll_ : l.length ≤ maxLen := Nat.le_trans (Gs.ok.cap_le hka) (Gs.ok.cap_max hka)
 unfold maxLen at hll_
 refine sr ?_
 refine os 1 ?_
 refine nq ?_
 refine sr ?_
 refine os 5 ?_
 refine kp [10, 4, 0, 1] ?_
 refine nt ?_
 refine SW_false (fun _ => (congrArg Value.bool (show ((l.length : Int) != (l.length : Int)) = false from (bne_eq_false_iff_eq.2 (by omega))))) ?_
 refine SW_skip (n_then ?_)
 refine SW_seq ?_
 refine sr ?_
 refine os 1 ?_
 refine nt ?_
 refine SW_block ?_
 refine SW_loop (α := Nat) (fun z_ ρ_ σ_ => Fits ρ_ σ_ [(0, Gs.val a l.length), (1, Gs.val b l.length), (5, .int .i64 (z_ : Int))] ((Gs.ent 46 4 a (l.flatMap Tok.cells)) ++ ((Gs.ent 46 4 b (l.flatMap Tok.cells)) ++ ([]))) ∧ z_ ≤ l.length) (fun z_ => l.length - z_) 0 ⟨⟨fun _ => rfl, ow⟩, Nat.zero_le _⟩ ?_
 rintro i ρ_ σ_ ⟨hfit, hi0⟩
 refine SW_fits hfit ?_
 clear hfit
 refine SW_seq ?_
 refine sr ?_
 refine os 4 ?_
 refine kp [14, 0, 1, 5] ?_
 refine nt ?_
 refine cdp (fun hc1 : (i : Int) < (l.length : Int) => ?_) (fun hc1 => ?_)
 ·refine SW_skip (n_then ?_)
  refine SW_seq ?_
  refine SW_block ?_
  refine SW_seq ?_
  obtain ⟨e1, he1⟩ : ∃ y_, l[i]? = some y_ := ⟨_, List.getElem?_eq_getElem (by omega)⟩
  refine SW_draw [((Gs.blk a), i * 4, .int .i64 e1.kind), ((Gs.blk a), i * 4 + 1, .int .i64 (e1.pos : Int)), ((Gs.blk a), i * 4 + 2, .string (bS e1.text)), ((Gs.blk a), i * 4 + 3, .int .u64 (e1.num : Int)), ((Gs.blk b), i * 4, .int .i64 e1.kind), ((Gs.blk b), i * 4 + 1, .int .i64 (e1.pos : Int)), ((Gs.blk b), i * 4 + 2, .string (bS e1.text)), ((Gs.blk b), i * 4 + 3, .int .u64 (e1.num : Int))] [0, 1, 2, 3, 4, 5, 6, 7] (by kernel_rfl) (rd_cons (Gs.cell hka (fun e he => (mem_h he)) (flat_cell Tok.len he1 (j := 0) (by decide) rfl)) (rd_cons (Gs.cell hka (fun e he => (mem_h he)) (flat_cell Tok.len he1 (j := 1) (by decide) rfl)) (rd_cons (Gs.cell hka (fun e he => (mem_h he)) (flat_cell Tok.len he1 (j := 2) (by decide) rfl)) (rd_cons (Gs.cell hka (fun e he => (mem_h he)) (flat_cell Tok.len he1 (j := 3) (by decide) rfl)) (rd_cons (Gs.cell hkb (fun e he => (mem_a (mem_h he))) (flat_cell Tok.len he1 (j := 0) (by decide) rfl)) (rd_cons (Gs.cell hkb (fun e he => (mem_a (mem_h he))) (flat_cell Tok.len he1 (j := 1) (by decide) rfl)) (rd_cons (Gs.cell hkb (fun e he => (mem_a (mem_h he))) (flat_cell Tok.len he1 (j := 2) (by decide) rfl)) (rd_cons (Gs.cell hkb (fun e he => (mem_a (mem_h he))) (flat_cell Tok.len he1 (j := 3) (by decide) rfl)) rd_nil)))))))) ?_
  refine aS 0 ?_
  refine aS 1 ?_
  refine aI 2 (i : Int) (i * 4) hka Tryz.underlying23 ?_
  refine tr 3 (.agg #[.int .i64 e1.kind, .int .i64 (e1.pos : Int), .string (bS e1.text), .int .u64 (e1.num : Int)]) ?_ (hy := fun δ w_ hr => Rd_loads (Gs.blk a) (i * 4) [.int .i64 e1.kind, .int .i64 (e1.pos : Int), .string (bS e1.text), .int .u64 (e1.num : Int)] rfl (by kernel_rfl) (rdm_cons List.mem_cons_self (rdm_cons (List.mem_cons_of_mem _ List.mem_cons_self) (rdm_cons (List.mem_cons_of_mem _ (List.mem_cons_of_mem _ List.mem_cons_self)) (rdm_cons (List.mem_cons_of_mem _ (List.mem_cons_of_mem _ (List.mem_cons_of_mem _ List.mem_cons_self))) rdm_nil)))) hr)
  refine aS 4 ?_
  refine aS 5 ?_
  refine aI 6 (i : Int) (i * 4) hkb Tryz.underlying23 ?_
  refine tr 7 (.agg #[.int .i64 e1.kind, .int .i64 (e1.pos : Int), .string (bS e1.text), .int .u64 (e1.num : Int)]) ?_ (hy := fun δ w_ hr => Rd_loads (Gs.blk b) (i * 4) [.int .i64 e1.kind, .int .i64 (e1.pos : Int), .string (bS e1.text), .int .u64 (e1.num : Int)] rfl (by kernel_rfl) (rdm_cons (List.mem_cons_of_mem _ (List.mem_cons_of_mem _ (List.mem_cons_of_mem _ (List.mem_cons_of_mem _ List.mem_cons_self)))) (rdm_cons (List.mem_cons_of_mem _ (List.mem_cons_of_mem _ (List.mem_cons_of_mem _ (List.mem_cons_of_mem _ (List.mem_cons_of_mem _ List.mem_cons_self))))) (rdm_cons (List.mem_cons_of_mem _ (List.mem_cons_of_mem _ (List.mem_cons_of_mem _ (List.mem_cons_of_mem _ (List.mem_cons_of_mem _ (List.mem_cons_of_mem _ List.mem_cons_self)))))) (rdm_cons (List.mem_cons_of_mem _ (List.mem_cons_of_mem _ (List.mem_cons_of_mem _ (List.mem_cons_of_mem _ (List.mem_cons_of_mem _ (List.mem_cons_of_mem _ (List.mem_cons_of_mem _ List.mem_cons_self))))))) rdm_nil)))) hr)
  refine tk 8 (.bool (!(eqT e1.kind e1.kind (e1.pos : Int) (e1.pos : Int) e1.text e1.text (e1.num : Int) (e1.num : Int)))) ?_ (hy := neqT)
  refine kpA [25, 14, 0, 1, 5] ?_
  refine SA_done (by kernel_rfl) (n_then ?_)
  refine SW_false (fun _ => (congrArg Value.bool (show (!(eqT e1.kind e1.kind (e1.pos : Int) (e1.pos : Int) e1.text e1.text (e1.num : Int) (e1.num : Int))) = false from (by rw [eqT_same]; rfl)))) ?_
  refine SW_skip (n_in (n_then ?_))
  refine SW_region ?_
  refine os 3 ?_
  refine nt ?_
  exact ⟨i + 1, by omega, ⟨fun _ => rfl, ow⟩, by omega⟩
 refine SW_exit (x_then (x_then (x_in (n_then ?_))))
 refine sr ?_
 refine os 1 ?_
 refine nt ?_
 refine SW_ret ?_
 refine body_end (.bool true) (fun _ => rfl) ?_
 exact ⟨(), ow, rfl⟩

end Go.Proofs.YtnhmmjogfkjceaaGreatDoor
namespace Go.Proofs.YtnhmmjogfkjceaaGreatDoor
open Go.Sl

theorem law_Words5 {W0 : World}  : SC Tryz.prog W0 117 #[] [] (Ret (fun b : Nat => [(b, .cells 9 26 (wordsL.map fun q => Value.string (bS q)))]) (fun v b => v = .slice (some ⟨b, 0, none⟩) 26 26)) := by
 refine SC_body (fn := Tryz.f117) (n := 2) Tryz.func117 rfl (by kernel_rfl) (ρ := []) rfl ?_
 refine sr ?_
 refine os 1 ?_
 refine nsr ?_
 refine L (nws 9 26 26 [.string (bS [98, 114, 101, 97, 107]), .string (bS [99, 97, 116, 99, 104]), .string (bS [99, 111, 110, 115, 116]), .string (bS [99, 111, 110, 116, 105, 110, 117, 101]), .string (bS [100, 101, 108, 101, 116, 101]), .string (bS [101, 108, 115, 101]), .string (bS [102, 97, 108, 115, 101]), .string (bS [102, 105, 110, 97, 108, 108, 121]), .string (bS [102, 111, 114]), .string (bS [102, 117, 110, 99, 116, 105, 111, 110]), .string (bS [105, 102]), .string (bS [105, 110]), .string (bS [105, 110, 115, 116, 97, 110, 99, 101, 111, 102]), .string (bS [108, 101, 116]), .string (bS [110, 101, 119]), .string (bS [110, 117, 108, 108]), .string (bS [114, 101, 116, 117, 114, 110]), .string (bS [116, 104, 105, 115]), .string (bS [116, 104, 114, 111, 119]), .string (bS [116, 114, 117, 101]), .string (bS [116, 114, 121]), .string (bS [116, 121, 112, 101, 111, 102]), .string (bS [117, 110, 100, 101, 102, 105, 110, 101, 100]), .string (bS [118, 111, 105, 100]), .string (bS [119, 104, 105, 108, 101]), .string (bS [121, 105, 101, 108, 100])] ?_)
 intro b1
 refine os 1 ?_
 refine nt ?_
 refine SW_ret ?_
 refine body_end (.slice (some ⟨b1, 0, none⟩) 26 26) (fun _ => rfl) ?_
 exact ⟨b1, (ow (S := ((b1, .cells 9 26 [.string (bS [98, 114, 101, 97, 107]), .string (bS [99, 97, 116, 99, 104]), .string (bS [99, 111, 110, 115, 116]), .string (bS [99, 111, 110, 116, 105, 110, 117, 101]), .string (bS [100, 101, 108, 101, 116, 101]), .string (bS [101, 108, 115, 101]), .string (bS [102, 97, 108, 115, 101]), .string (bS [102, 105, 110, 97, 108, 108, 121]), .string (bS [102, 111, 114]), .string (bS [102, 117, 110, 99, 116, 105, 111, 110]), .string (bS [105, 102]), .string (bS [105, 110]), .string (bS [105, 110, 115, 116, 97, 110, 99, 101, 111, 102]), .string (bS [108, 101, 116]), .string (bS [110, 101, 119]), .string (bS [110, 117, 108, 108]), .string (bS [114, 101, 116, 117, 114, 110]), .string (bS [116, 104, 105, 115]), .string (bS [116, 104, 114, 111, 119]), .string (bS [116, 114, 117, 101]), .string (bS [116, 114, 121]), .string (bS [116, 121, 112, 101, 111, 102]), .string (bS [117, 110, 100, 101, 102, 105, 110, 101, 100]), .string (bS [118, 111, 105, 100]), .string (bS [119, 104, 105, 108, 101]), .string (bS [121, 105, 101, 108, 100])]) :: ([])))), rfl⟩

theorem law_Kept5 {W0 : World} {X : Bytes} : SC Tryz.prog W0 65 #[.string (bS X)] [] (Ret (fun _ : Unit => []) (fun v _ => v = .bool (decide (X ∈ wordsL)))) := by
 refine SC_body (fn := Tryz.f65) (n := 18) Tryz.func65 rfl (by kernel_rfl) (ρ := [(0, .string (bS X))]) rfl ?_
 refine sr ?_
 refine os 1 ?_
 refine nsr ?_
 refine L (cl (law_Words5) ?_)
 rintro _ b1 rfl
 refine un ?_
 refine os 1 ?_
 refine nq ?_
 refine sr ?_
 refine os 1 ?_
 refine nt ?_
 refine SW_block ?_
 refine SW_loop (α := Nat) (fun z_ ρ_ σ_ => Fits ρ_ σ_ [(0, .string (bS X)), (3, .slice (some ⟨b1, 0, none⟩) 26 26), (4, .int .i64 (z_ : Int))] ((b1, .cells 9 26 (wordsL.map fun q => Value.string (bS q))) :: ([])) ∧ z_ ≤ 26 ∧ ∀ y ∈ wordsL.take z_, y ≠ X) (fun z_ => 26 - z_) 0 ⟨⟨fun _ => rfl, ow⟩, Nat.zero_le _, fun _ h_ => by simp at h_⟩ ?_
 rintro i ρ_ σ_ ⟨hfit, hi0, hi1⟩
 refine SW_fits hfit ?_
 clear hfit
 refine SW_seq ?_
 refine sr ?_
 refine os 4 ?_
 refine kp [9, 0, 3, 4] ?_
 refine nt ?_
 refine cdp (fun hc2 : (i : Int) < 26 => ?_) (fun hc2 => ?_)
 ·refine SW_skip (n_then ?_)
  refine SW_seq ?_
  refine SW_block ?_
  refine sr ?_
  refine os 2 ?_
  refine L (O_indexAddr' (i : Int) (i) b1 0 26 26 .i64 1 Tryz.underlying125 (by kernel_rfl) (fun _ => rfl) (fun _ => rfl) (by omega) (by omega) (by omega) rfl ?_)
  obtain ⟨e1, he1⟩ : ∃ y_, wordsL[i]? = some y_ := ⟨_, List.getElem?_eq_getElem (by rw [words_n]; omega)⟩
  refine L (ld ?_ (hc := cell_own mem_z (strs_at he1)))
  refine os 1 ?_
  refine oX (.bool ((bS e1).toList == (bS X).toList)) (.bool (decide (e1 = X))) (congrArg Value.bool (by rw [strB_eq])) ?_
  refine kp [17, 9, 0, 3, 4] ?_
  refine nt ?_
  refine cdp (fun hc3 : e1 = X => ?_) (fun hc3 => ?_)
  ·refine sr ?_
   refine os 1 ?_
   refine nt ?_
   refine SW_ret (r_in (r_then (r_then (r_in (r_then ?_)))))
   refine body_end (.bool true) (fun _ => rfl) ?_
   exact ⟨(), ow, congrArg Value.bool (decide_eq_true (hc3 ▸ List.mem_of_getElem? he1)).symm⟩
  refine SW_skip (n_in (n_then ?_))
  refine SW_region ?_
  refine os 3 ?_
  refine nt ?_
  exact ⟨i + 1, by omega, ⟨fun _ => rfl, ow⟩, by omega, kept_step hi1 he1 hc3⟩
 refine SW_exit (x_then (x_then (x_in (n_then ?_))))
 refine sr ?_
 refine os 1 ?_
 refine nt ?_
 refine SW_ret ?_
 refine body_end (.bool false) (fun _ => rfl) ?_
 exact ⟨(), ow, congrArg Value.bool (decide_eq_false (kept_no (by omega) hi1)).symm⟩

end Go.Proofs.YtnhmmjogfkjceaaGreatDoor
namespace Go.Proofs.YtnhmmjogfkjceaaGreatDoor
open Go.Sl
theorem quo_u64 {m n : Int} (h0 : 0 ≤ m) (h1 : m < 18446744073709551616) (hn : 0 < n) : IntKind.wrap .u64 (Int.tdiv m n) = m / n := by
 rw [Int.tdiv_eq_ediv_of_nonneg h0]
 have a := Int.ediv_nonneg h0 (Int.le_of_lt hn)
 have b := Int.ediv_le_self n h0
 exact IntWalk.u64_in _ (by omega)
theorem SW_cut5 {P : Program} {W0 : World} {n : Nat} {Q : SQ} {ρ : Fr} {σ : Heaplet} {c y z : Code} (M : Fr → Heaplet → Prop) (h : SW P W0 n c (thenQ (SW P W0 n y (thenQ M Q)) (thenQ M Q)) ρ σ) (hk : ∀ ρ σ, M ρ σ → SW P W0 n z Q ρ σ) : SW P W0 n c (thenQ (SW P W0 n (.seq y z) Q) Q) ρ σ :=
 h.mono fun e ρ σ => by cases e <;> first | exact fun q => SW_seq (SW_cut M q hk) | exact id
theorem set_rep {ys : List Int} {i m m' : Nat} {v : Int} (h : ys.length = i) (hm : m = m' + 1) : (ys ++ List.replicate m 0).set i v = (ys ++ [v]) ++ List.replicate m' 0 := by
 subst h hm
 rw [List.replicate_succ, List.set_append_right _ _ (Nat.le_refl _), Nat.sub_self]
 simp
theorem times_bodyR {l ys : List Int} {i n more : Nat} {c e : Int} (hyl : ys.length = i) (hyo : LimOk ys) (hx : l[i]? = some e) (he : 0 ≤ e ∧ e < 4294967296) (hc : 0 ≤ c ∧ c < 4294967296) (hn : n < 4294967296)
   (h : limV ys + 4294967296 ^ i * c.toNat = limV (l.take i) * n + more) :
   (ys ++ [(c + e * (n : Int)) % 4294967296]).length = i + 1 ∧ LimOk (ys ++ [(c + e * (n : Int)) % 4294967296]) ∧ (0 ≤ (c + e * (n : Int)) / 4294967296 ∧ (c + e * (n : Int)) / 4294967296 < 4294967296) ∧
   limV (ys ++ [(c + e * (n : Int)) % 4294967296]) + 4294967296 ^ (i + 1) * ((c + e * (n : Int)) / 4294967296).toNat = limV (l.take (i + 1)) * n + more := by
 have := times_body hyl hyo hx he hc hn h
 simp only [wrap_u32] at this
 exact this
theorem limV_takeD (l : List Int) (i : Nat) : limV (l.take (i + 1)) = limV (l.take i) + 4294967296 ^ i * (l[i]?.getD 0).toNat := by
 cases h : l[i]? with
 | some x => rw [limV_step h]; rfl
 | none =>
   have := List.getElem?_eq_none_iff.1 h
   rw [List.take_of_length_le (by omega), List.take_of_length_le (by omega)]
   simp
theorem by_body {l h ys : List Int} {i : Nat} {c x y t : Int} (hyl : ys.length = i) (hyo : LimOk ys) (hx : x = l[i]?.getD 0) (hy : y = if 0 < i then h[i - 1]?.getD 0 else 0) (ox : 0 ≤ x ∧ x < 4294967296) (oy : 0 ≤ y ∧ y < 4294967296) (hc : 0 ≤ c ∧ c ≤ 2) (ht : t = c + x + y)
   (hv : limV ys + 4294967296 ^ i * c.toNat = limV (l.take i) + 4294967296 * limV (h.take (i - 1))) :
   (ys ++ [t % 4294967296]).length = i + 1 ∧ LimOk (ys ++ [t % 4294967296]) ∧ (0 ≤ t / 4294967296 ∧ t / 4294967296 ≤ 2) ∧
   limV (ys ++ [t % 4294967296]) + 4294967296 ^ (i + 1) * (t / 4294967296).toNat = limV (l.take (i + 1)) + 4294967296 * limV (h.take (i + 1 - 1)) := by
 obtain ⟨c, rfl⟩ := Int.eq_ofNat_of_zero_le hc.1
 obtain ⟨x, rfl⟩ := Int.eq_ofNat_of_zero_le ox.1
 obtain ⟨y, rfl⟩ := Int.eq_ofNat_of_zero_le oy.1
 have e0 : t = ((c + x + y : Nat) : Int) := by omega
 have e1 : t % 4294967296 = (((c + x + y) % 4294967296 : Nat) : Int) := by omega
 have e2 : (t / 4294967296).toNat = (c + x + y) / 4294967296 := by omega
 rw [e1, e2]
 refine ⟨by simp [hyl], LimOk.snoc hyo (by omega), by omega, ?_⟩
 rw [limV_snoc, limV_takeD l i, ← hx, hyl]
 have ps := pow_split (B := 4294967296) (i := i) (c := c + x + y) (by decide)
 have eh : 4294967296 * limV (h.take (i + 1 - 1)) = 4294967296 * limV (h.take (i - 1)) + 4294967296 ^ i * y := by
   rw [Nat.add_sub_cancel]
   by_cases hi : 0 < i
   · rw [if_pos hi] at hy
     obtain ⟨k, rfl⟩ : ∃ k, i = k + 1 := ⟨i - 1, by omega⟩
     rw [Nat.add_sub_cancel] at hy ⊢
     rw [limV_takeD h k, ← hy, Nat.mul_add, Nat.pow_succ, Nat.mul_comm _ 4294967296, Nat.mul_assoc]
     rfl
   · rw [if_neg hi] at hy
     rw [show i = 0 by omega, show y = 0 by omega]
     simp
 rw [eh]
 have d1 : 4294967296 ^ i * (c + x + y) = 4294967296 ^ i * c + 4294967296 ^ i * x + 4294967296 ^ i * y := by rw [Nat.mul_add, Nat.mul_add]
 rw [show ((x : Nat) : Int).toNat = x from rfl]
 simp only [Int.toNat_natCast] at hv
 generalize 4294967296 ^ i * c = A1 at *
 generalize 4294967296 ^ i * x = A2 at *
 generalize 4294967296 ^ i * y = A3 at *
 omega
theorem by_low {a0 n L : Nat} (hL : (lim a0).length = L) (hn : n < 4294967296) : (lim (a0 * n)).length ≤ L + 1 := by
 have h1 := limV_lt (lim_ok a0)
 rw [lim_val, hL] at h1
 refine lim_len_lt ?_
 rw [Nat.pow_succ]
 rcases Nat.eq_zero_or_pos a0 with h | h
 · subst h; rw [Nat.zero_mul]; exact Nat.mul_pos (Nat.pow_pos (by decide)) (by decide)
 · exact Nat.lt_of_lt_of_le (Nat.mul_lt_mul_of_pos_left hn h) (Nat.mul_le_mul_right _ (Nat.le_of_lt h1))
theorem by_end {a0 n L i : Nat} {ys : List Int} {c : Int} (hL : (lim a0).length = L) (hn : n < 18446744073709551616) (hi : i = L + 3) (hyl : ys.length = i) (hc : 0 ≤ c ∧ c ≤ 2)
   (hv : limV ys + 4294967296 ^ i * c.toNat = limV ((lim (a0 * (n % 4294967296))).take i) + 4294967296 * limV ((lim (a0 * (n / 4294967296))).take (i - 1))) : limV ys = a0 * n := by
 have h1 := by_low hL (n := n % 4294967296) (by omega)
 have h2 := by_low hL (n := n / 4294967296) (by omega)
 rw [List.take_of_length_le (by omega), List.take_of_length_le (by omega), lim_val, lim_val] at hv
 have e : a0 * (n % 4294967296) + 4294967296 * (a0 * (n / 4294967296)) = a0 * n := by
   rw [Nat.mul_left_comm, ← Nat.mul_add, Nat.mod_add_div]
 rw [e] at hv
 have h3 := limV_lt (lim_ok a0)
 rw [lim_val, hL] at h3
 have h4 : a0 * n < 4294967296 ^ i := by
   rw [hi, Nat.pow_add, show (4294967296 ^ 3 : Nat) = 18446744073709551616 * 4294967296 from rfl]
   rcases Nat.eq_zero_or_pos a0 with h | h
   · subst h; rw [Nat.zero_mul]; exact Nat.mul_pos (Nat.pow_pos (by decide)) (by decide)
   · refine Nat.lt_of_lt_of_le (Nat.mul_lt_mul_of_pos_left hn h) (Nat.mul_le_mul (Nat.le_of_lt h3) (by decide))
 have h5 : c.toNat = 0 := by
   rcases Nat.eq_zero_or_pos c.toNat with z | z
   · exact z
   · have := Nat.mul_le_mul_left (4294967296 ^ i) z
     omega
 rw [h5, Nat.mul_zero, Nat.add_zero] at hv
 exact hv
end Go.Proofs.YtnhmmjogfkjceaaGreatDoor
namespace Go.Proofs.YtnhmmjogfkjceaaGreatDoor
open Go.Sl
theorem idx_go {S : Bytes} {k : Nat} {c : UInt8} (h : S[k]? = some c) (hn : ¬ (c = 42 ∧ S[k + 1]? = some 47)) : Lib.index (S.drop k) [42, 47] = if Lib.index (S.drop (k + 1)) [42, 47] = -1 then -1 else Lib.index (S.drop (k + 1)) [42, 47] + 1 := by
 rw [drop_at h]
 conv => lhs; unfold Lib.index
 have hp : ([42, 47] : Bytes).isPrefixOf (c :: S.drop (k + 1)) = false := by
   rw [Bool.eq_false_iff]
   intro q
   obtain ⟨r, hr⟩ := List.isPrefixOf_iff_prefix.1 q
   rw [List.cons_append] at hr
   injection hr with h1 h2
   refine hn ⟨h1.symm, ?_⟩
   have : (S.drop (k + 1))[0]? = some 47 := by rw [← h2]; rfl
   rw [List.getElem?_drop] at this
   exact this
 rw [hp]
 simp only [Bool.false_eq_true, if_false, beq_iff_eq]
theorem idx_hit {S : Bytes} {k : Nat} (h : S[k]? = some 42) (h1 : S[k + 1]? = some 47) : Lib.index (S.drop k) [42, 47] = 0 := by
 rw [drop_at h, drop_at h1]
 unfold Lib.index
 rfl
theorem idx_end {S : Bytes} {k : Nat} (h : S.length ≤ k + 1) : Lib.index (S.drop k) [42, 47] = -1 := by
 have hl : (S.drop k).length ≤ 1 := by rw [List.length_drop]; omega
 generalize S.drop k = Y at *
 cases Y with
 | nil => rfl
 | cons c r =>
   cases r with
   | nil => unfold Lib.index; simp [Lib.index]
   | cons d t => simp at hl
def shI (d : Nat) (z : Int) : Int := if z = -1 then -1 else z + d
theorem idx_step {S : Bytes} {m k : Nat} {c : UInt8} (hm : m ≤ k) (h : S[k]? = some c) (hn : ¬ (c = 42 ∧ S[k + 1]? = some 47)) (hi : Lib.index (S.drop m) [42, 47] = shI (k - m) (Lib.index (S.drop k) [42, 47])) : Lib.index (S.drop m) [42, 47] = shI (k + 1 - m) (Lib.index (S.drop (k + 1)) [42, 47]) := by
 rw [hi, idx_go h hn]
 have := Lib.index_ge (S.drop (k + 1)) [42, 47]
 generalize Lib.index (S.drop (k + 1)) [42, 47] = x at *
 unfold shI
 split <;> split <;> (try split) <;> omega
theorem escP_eq {Y : Bytes} (hY : 0 < Y.length) : escP Y = if (atB Y 1).toNat = 110 then (10, 2) else if (atB Y 1).toNat = 116 then (9, 2) else if (atB Y 1).toNat = 92 ∨ (atB Y 1).toNat = 39 ∨ (atB Y 1).toNat = 34 then (atB Y 1, 2)
   else if (atB Y 1).toNat = 120 ∧ isHx (atB Y 2) = true ∧ isHx (atB Y 3) = true then (nib16 (atB Y 2) (atB Y 3), 4) else (0, 0) := by
 by_cases hx : (atB Y 1).toNat = 120 ∧ isHx (atB Y 2) = true ∧ isHx (atB Y 3) = true
 · have h3 : 3 < Y.length := by
     refine atB_lt (X := Y) (n := 3) ?_
     intro z
     have := hx.2.2
     unfold isHx at this
     have := of_decide_eq_true this
     omega
   rw [escP_hex (by omega) hx.1 hx.2.1 hx.2.2, if_neg (by omega), if_neg (by omega), if_neg (by omega), if_pos hx]
 · have hn : ¬ (Y.length > 3 ∧ (atB Y 1).toNat = 120 ∧ isHx (atB Y 2) = true ∧ isHx (atB Y 3) = true) := fun q => hx q.2
   have key : ∀ n : Fin 256, (if Lib.indexByte [110, 116, 92, 39, 34] (UInt8.ofNat n) < 0 then ((0, 0) : UInt8 × Nat) else (atB [10, 9, 92, 39, 34] (Lib.indexByte [110, 116, 92, 39, 34] (UInt8.ofNat n)).toNat, 2)) = if (UInt8.ofNat n).toNat = 110 then (10, 2) else if (UInt8.ofNat n).toNat = 116 then (9, 2) else if (UInt8.ofNat n).toNat = 92 ∨ (UInt8.ofNat n).toNat = 39 ∨ (UInt8.ofNat n).toNat = 34 then (UInt8.ofNat n, 2) else (0, 0) := by decide +kernel
   have k1 := key ⟨(atB Y 1).toNat, (atB Y 1).toNat_lt⟩
   simp only [UInt8.ofNat_toNat] at k1
   by_cases h2 : Y.length < 2
   · have h0 : (atB Y 1).toNat = 0 := by rw [atB_none (by omega)]; rfl
     rw [escP_short hn h2, if_neg (by omega), if_neg (by omega), if_neg (by omega), if_neg hx]
   · have e : escP Y = if Lib.indexByte [110, 116, 92, 39, 34] (atB Y 1) < 0 then (0, 0) else (atB [10, 9, 92, 39, 34] (Lib.indexByte [110, 116, 92, 39, 34] (atB Y 1)).toNat, 2) := by
       by_cases h4 : Lib.indexByte [110, 116, 92, 39, 34] (atB Y 1) < 0
       · rw [escP_none hn h2 h4, if_pos h4]
       · rw [escP_one hn h2 h4, if_neg h4]
     rw [e, k1]
     simp only [if_neg hx]
def nibZ (c : UInt8) : Int := if isHx c = true then (nibV c : Int) else -1
theorem nibZ_neg {c : UInt8} : nibZ c < 0 ↔ isHx c = false := by
 unfold nibZ
 split
 · next h => rw [h]; simp
 · next h => simp [h]
theorem nibZ_of {c : UInt8} (h : ¬ nibZ c < 0) : isHx c = true ∧ nibZ c = (nibV c : Int) := by
 unfold nibZ at *
 split at h
 · next q => exact ⟨q, if_pos q⟩
 · omega
def refS : List Bytes := [[40], [41], [123], [125], [91], [93], [59], [44], [46], [58], [63], [61], [61, 61], [61, 61, 61], [33, 61], [33, 61, 61], [60], [60, 61], [62], [62, 61], [43], [45], [42], [47], [37], [43, 43], [45, 45], [60, 60], [62, 62], [62, 62, 62], [38], [124], [94], [126], [33], [38, 38], [124, 124], [43, 61], [45, 61], [42, 61], [47, 61], [37, 61], [60, 60, 61], [62, 62, 61], [62, 62, 62, 61], [38, 61], [124, 61], [94, 61]]
theorem refS_n : refS.length = 48 := rfl
theorem refS_in : ∀ s ∈ refS, s ∈ signsL := by decide +kernel
theorem in_refS : ∀ s ∈ signsL, s ∈ refS := by decide +kernel
theorem signs_down : signsL.Pairwise fun a b => b.length ≤ a.length := by decide +kernel
theorem longest {S b : Bytes} (h0 : b = [] ∨ (b ∈ refS ∧ Lib.hasPrefix S b = true)) (h1 : ∀ y ∈ refS, Lib.hasPrefix S y = true → y.length ≤ b.length) : signsL.find? (fun s => Lib.hasPrefix S s) = if b = [] then none else some b := by
 cases hf : signsL.find? (fun s => Lib.hasPrefix S s) with
 | none =>
   rw [List.find?_eq_none] at hf
   rcases h0 with h0 | ⟨h0, h2⟩
   · rw [if_pos h0]
   · exact absurd h2 (hf b (refS_in b h0))
 | some s =>
   obtain ⟨hs, as_, bs, hl, ha⟩ := List.find?_eq_some_iff_append.1 hf
   have hm : s ∈ signsL := List.mem_of_find?_eq_some hf
   have hle := h1 s (in_refS s hm) hs
   have hp := List.length_pos_iff.2 (signs_pos s hm)
   rcases h0 with h0 | ⟨h0, h2⟩
   · have hz := congrArg List.length h0; rw [List.length_nil] at hz; omega
   · have hb := refS_in b h0
     have hge : b.length ≤ s.length := by
       rw [hl] at hb
       have hd := signs_down
       rw [hl] at hd
       rcases List.mem_append.1 hb with q | q
       · have := ha b q
         simp [h2] at this
       · rcases List.mem_cons.1 q with q | q
         · rw [q]; exact Nat.le_refl _
         · have h3 := (List.pairwise_append.1 hd).2.1
           exact (List.pairwise_cons.1 h3).1 b q
     have e1 := List.prefix_iff_eq_take.1 (List.isPrefixOf_iff_prefix.1 (show s.isPrefixOf S = true from hs))
     have e2 := List.prefix_iff_eq_take.1 (List.isPrefixOf_iff_prefix.1 (show b.isPrefixOf S = true from h2))
     have : b = s := by rw [e2, e1, show b.length = s.length by omega]
     rw [if_neg (fun z => by have hz := congrArg List.length z; rw [List.length_nil] at hz; omega), this]
theorem sign_best {S b s : Bytes} {i : Nat} (hs : refS[i]? = some s) (hl : s.length > b.length) (hp : S.take s.length = s) (h1 : ∀ y ∈ refS.take i, Lib.hasPrefix S y = true → y.length ≤ b.length) : Lib.hasPrefix S s = true ∧ ∀ y ∈ refS.take (i + 1), Lib.hasPrefix S y = true → y.length ≤ s.length := by
 refine ⟨List.isPrefixOf_iff_prefix.2 (List.prefix_iff_eq_take.2 hp.symm), fun y hy hq => ?_⟩
 rw [List.take_add_one, hs] at hy
 rcases List.mem_append.1 hy with q | q
 · exact Nat.le_of_lt (Nat.lt_of_le_of_lt (h1 y q hq) hl)
 · rw [show y = s by simpa using q]; exact Nat.le_refl _
theorem sign_keep {S b s : Bytes} {i : Nat} (hs : refS[i]? = some s) (hn : ¬ (s.length > b.length ∧ s.length ≤ S.length ∧ S.take s.length = s)) (h1 : ∀ y ∈ refS.take i, Lib.hasPrefix S y = true → y.length ≤ b.length) : ∀ y ∈ refS.take (i + 1), Lib.hasPrefix S y = true → y.length ≤ b.length := by
 intro y hy hq
 rw [List.take_add_one, hs] at hy
 rcases List.mem_append.1 hy with q | q
 · exact h1 y q hq
 · have e : y = s := by simpa using q
   subst e
   have hpre := List.isPrefixOf_iff_prefix.1 (show y.isPrefixOf S = true from hq)
   exact Nat.le_of_not_lt fun z => hn ⟨z, hpre.length_le, (List.prefix_iff_eq_take.1 hpre).symm⟩
theorem signR_best {S b : Bytes} (h0 : b = [] ∨ (b ∈ refS ∧ Lib.hasPrefix S b = true)) (h1 : ∀ y ∈ refS, Lib.hasPrefix S y = true → y.length ≤ b.length) : signR S 0 = if b = [] then .bad 57 else .tok 5 b 0 b.length := by
 unfold signR
 rw [List.drop_zero, longest h0 h1]
 by_cases hb : b = []
 · rw [if_pos hb, if_pos hb]
 · rw [if_neg hb, if_neg hb]
   show TokR.tok 5 b 0 (0 + b.length) = _
   rw [Nat.zero_add]
theorem kept_in : ∀ t ∈ wordsL, Lib.contains wordsB ([32] ++ t ++ [32]) = true := by decide +kernel
theorem sm_no32 {c : UInt8} (h : isSm c = true) : c ≠ 32 := by
 intro q; subst q; exact absurd h (by decide)
theorem name_word {X : Bytes} {a : Nat} : Lib.contains wordsB ([32] ++ nameT X a ++ [32]) = decide (nameT X a ∈ wordsL) := by
 rw [Bool.eq_iff_iff, decide_eq_true_iff]
 refine ⟨kept_mem fun c hc => sm_no32 ?_, kept_in _⟩
 unfold nameT at hc
 have e : (X.take (runL isSm X a)).drop a = (X.drop a).takeWhile isSm := by
   rw [List.drop_take]
   unfold runL
   rw [Nat.add_sub_cancel_left]
   exact (List.prefix_iff_eq_take.1 (List.takeWhile_prefix isSm)).symm
 rw [e] at hc
 exact takeWhile_all isSm hc
theorem run0 (p : UInt8 → Bool) (X : Bytes) (n : Nat) : n + ((X.drop n).takeWhile p).length = runL p X n := rfl
theorem fr_yes {X : Bytes} {t : Nat} (h : (atB X t).toNat = 46) (h1 : 48 ≤ (atB X (t + 1)).toNat) (h2 : (atB X (t + 1)).toNat ≤ 57) : numFr X t = runL isDig X (t + 1) := by
 unfold numFr; rw [if_pos ⟨atB_lt (by omega), h, by unfold isDig; exact decide_eq_true ⟨h1, h2⟩⟩]
theorem fr_no {X : Bytes} {t : Nat} (h : ¬ ((atB X t).toNat = 46 ∧ 48 ≤ (atB X (t + 1)).toNat ∧ (atB X (t + 1)).toNat ≤ 57)) : numFr X t = t := by
 unfold numFr; rw [if_neg]; rintro ⟨-, q1, q2⟩; unfold isDig at q2; exact h ⟨q1, of_decide_eq_true q2⟩
theorem sg_yes {X : Bytes} {t : Nat} (h : (atB X t).toNat = 43 ∨ (atB X t).toNat = 45) : numSg X t = t + 1 := by unfold numSg; rw [if_pos ⟨atB_lt (by omega), h⟩]
theorem sg_no {X : Bytes} {t : Nat} (h : ¬ ((atB X t).toNat = 43 ∨ (atB X t).toNat = 45)) : numSg X t = t := by unfold numSg; rw [if_neg fun q => h q.2]
theorem or101 (c : UInt8) : (c ||| 32).toNat = 101 ↔ c.toNat = 101 ∨ c.toNat = 69 := by have := or32 c; split at this <;> omega
theorem ex_yes {X : Bytes} {t : Nat} (h : (atB X t).toNat = 101 ∨ (atB X t).toNat = 69) : numEx X t = runL isDig X (numSg X (t + 1)) := by unfold numEx; rw [if_pos ⟨atB_lt (by omega), (or101 _).2 h⟩]
theorem ex_no {X : Bytes} {t : Nat} (h : ¬ ((atB X t).toNat = 101 ∨ (atB X t).toNat = 69)) : numEx X t = t := by unfold numEx; rw [if_neg fun q => h ((or101 _).1 q.2)]
def TokR.val : TokR → Value
 | .bad e => .tuple #[.agg #[.int .i64 0, .int .i64 0, .string (bS []), .int .u64 0], .int .i64 0, .int .i64 e]
 | .tok k t n z => .tuple #[.agg #[.int .i64 k, .int .i64 0, .string (bS t), .int .u64 (n : Int)], .int .i64 (z : Int), .int .i64 0]
theorem numR_no {X : Bytes} {a : Nat} (h : ¬ ((litP ((X.take (numE X a)).drop a)).2 = true ∧ isSm (atB X (numE X a)) = false)) : numR X a = .bad 54 := by
 unfold numR
 simp only []
 rw [if_pos]
 by_cases h1 : (litP ((X.take (numE X a)).drop a)).2 = true
 · refine .inr ?_
   have h2 : isSm (atB X (numE X a)) = true := by
     cases hq : isSm (atB X (numE X a)) with
     | true => rfl
     | false => exact absurd ⟨h1, hq⟩ h
   refine ⟨atB_lt fun z => ?_, h2⟩
   unfold isSm at h2
   have := of_decide_eq_true h2
   omega
 · exact .inl (by simpa using h1)
theorem numR_yes {X : Bytes} {a : Nat} (h : (litP ((X.take (numE X a)).drop a)).2 = true) (h1 : isSm (atB X (numE X a)) = false) : numR X a = .tok 3 [] (litP ((X.take (numE X a)).drop a)).1 (numE X a) := by
 unfold numR
 simp only []
 rw [if_neg]
 rintro (q | q)
 · rw [h] at q; cases q
 · rw [h1] at q; cases q.2
end Go.Proofs.YtnhmmjogfkjceaaGreatDoor
namespace Go.Proofs.YtnhmmjogfkjceaaGreatDoor
open Go.Sl

theorem r2_trim {W0 : World} {a : Gs} {l : List Int} (hl : LimOk l) (hk : Gs.ok 1 l.length a (l.map encP)) : SC Tryz.prog W0 172 #[a.val l.length] (Gs.ent 87 1 a (l.map encP)) (Ret (fun _ : Unit => Gs.ent 87 1 a ((lim (limV l)).map encP)) (fun v _ => v = a.val (lim (limV l)).length ∧ Gs.ok 1 (lim (limV l)).length a ((lim (limV l)).map encP))) := by
 refine SC_body (fn := Tryz.f172) (n := 21) Tryz.func172 rfl (by kernel_rfl) (ρ := [(0, Gs.val a l.length)]) rfl ?_
 refine SW_sig ((Gs.ent 87 1 a (l.map encP)) ++ ([])) (by simp only [List.append_nil, List.append_assoc]) ?_
 have hll_ : l.length ≤ maxLen := Nat.le_trans (Gs.ok.cap_le hk) (Gs.ok.cap_max hk)
 unfold maxLen at hll_
 have hcp_ : l.length ≤ a.cap := Gs.ok.cap_le hk
 refine sr ?_
 refine os 1 ?_
 refine nsr ?_
 refine os 3 ?_
 refine nq ?_
 refine SW_block ?_
 refine SW_loop (α := Nat) (fun z_ ρ_ σ_ => Fits ρ_ σ_ [(0, Gs.val a l.length), (3, .int .i64 (z_ : Int))] ((Gs.ent 87 1 a (l.map encP)) ++ ([])) ∧ z_ ≤ l.length ∧ limV (l.take z_) = limV l) (fun z_ => z_) l.length ⟨⟨fun _ => rfl, ow⟩, Nat.le_refl _, by rw [List.take_length]⟩ ?_
 rintro j ρ_ σ_ ⟨hfit, hi0, hi1⟩
 refine SW_fits hfit ?_
 clear hfit
 refine SW_seq ?_
 refine sr ?_
 refine os 3 ?_
 refine tbp 8 (fun hg1 => ?_) (fun hg1 => ?_)
 ·replace hg1 : (j : Int) > 0 := hg1
  refine os 3 ?_
  refine L (ixg ((j : Int) - 1) (j - 1) hk Tryz.underlying149 ?_)
  obtain ⟨e1, he1⟩ : ∃ y_, l[j - 1]? = some y_ := ⟨_, List.getElem?_eq_getElem (by omega)⟩
  refine L (ld ?_ (hc := Gs.cell hk (fun e he => (mem_h he)) (map_cell he1 rfl)))
  refine os 2 ?_
  refine kp [15, 0, 3] ?_
  refine nt ?_
  refine cd (fun hc2 : (e1 == 0) = true => ?_) (fun hc2 => ?_)
  ·have hz0_ : l[j - 1]? = some 0 := by rw [show (0 : Int) = e1 from (by simpa using hc2 : e1 = 0).symm]; exact he1
   refine SW_skip (n_then ?_)
   refine SW_block ?_
   refine SW_region ?_
   refine os 3 ?_
   refine SL_nil (n_in (n_then ?_))
   rw [show (j : Int) - 1 = ((j - 1 : Nat) : Int) from by omega]
   exact ⟨j - 1, by omega, ⟨fun _ => rfl, ow⟩, by omega, by rw [← limV_take (n := j - 1) (by omega) hz0_, show j - 1 + 1 = j by omega]; exact hi1⟩
  refine SW_exit (x_then (x_then (x_in (n_then ?_))))
  refine sr ?_
  refine os 2 ?_
  refine L (O_val (.slice (Gs.addr a) ((j : Int)).toNat (Gs.cap a)) rfl (fun δ w _ => run_slice_to (j : Int) (Gs.addr a) l.length (Gs.cap a) .i64 Tryz.underlying149 (by kernel_rfl) rfl rfl (by omega) (by omega)) ?_)
  rw [show ((j : Int)).toNat = j from by omega]
  refine os 1 ?_
  refine kp [2, 15, 0, 3] ?_
  refine nt ?_
  have htk_ : l.take j = lim (limV l) := lim_take hl hi0 hi1 (by first | (left; omega) | (right; exact ⟨_, he1, by simpa using hc2⟩))
  have hjl_ : (lim (limV l)).length = j := by rw [← htk_, List.length_take]; omega
  have hkn_ : Gs.ok 1 (lim (limV l)).length a ((lim (limV l)).map encP) := Gs.ok_less hk (by simp) (by omega)
  refine SW_sig (Gs.ent 87 1 a ((l.take j).map encP ++ (l.drop j).map encP) ++ ([])) (by rw [← List.map_append, List.take_append_drop]) ?_
  refine SW_weakG ?_
  rw [htk_]
  refine SW_ret ?_
  refine body_end (Gs.val a j) (fun _ => rfl) ?_
  exact ⟨(), ow, by rw [hjl_], hkn_⟩
 replace hg1 : ¬ ((j : Int) > 0) := hg1
 refine os 7 ?_
 refine kp [15, 0, 3] ?_
 refine nt ?_
 refine cf ?_
 refine SW_exit (x_then (x_then (x_in (n_then ?_))))
 refine sr ?_
 refine os 2 ?_
 refine L (O_val (.slice (Gs.addr a) ((j : Int)).toNat (Gs.cap a)) rfl (fun δ w _ => run_slice_to (j : Int) (Gs.addr a) l.length (Gs.cap a) .i64 Tryz.underlying149 (by kernel_rfl) rfl rfl (by omega) (by omega)) ?_)
 rw [show ((j : Int)).toNat = j from by omega]
 refine os 1 ?_
 refine kp [2, 15, 0, 3] ?_
 refine nt ?_
 have htk_ : l.take j = lim (limV l) := lim_take hl hi0 hi1 (.inl (by omega))
 have hjl_ : (lim (limV l)).length = j := by rw [← htk_, List.length_take]; omega
 have hkn_ : Gs.ok 1 (lim (limV l)).length a ((lim (limV l)).map encP) := Gs.ok_less hk (by simp) (by omega)
 refine SW_sig (Gs.ent 87 1 a ((l.take j).map encP ++ (l.drop j).map encP) ++ ([])) (by rw [← List.map_append, List.take_append_drop]) ?_
 refine SW_weakG ?_
 rw [htk_]
 refine SW_ret ?_
 refine body_end (Gs.val a j) (fun _ => rfl) ?_
 exact ⟨(), ow, by rw [hjl_], hkn_⟩

theorem r2_nat {W0 : World} {n : Nat} (hn : n < 18446744073709551616) : SC Tryz.prog W0 145 #[.int .u64 (n : Int)] [] (Ret (fun g : Gs => Gs.ent 87 1 g ((lim n).map encP)) (fun v g => v = g.val (lim n).length ∧ Gs.ok 1 (lim n).length g ((lim n).map encP))) := by
 refine SC_body (fn := Tryz.f145) (n := 11) Tryz.func145 rfl (by kernel_rfl) (ρ := [(0, .int .u64 (n : Int))]) rfl ?_
 refine sr ?_
 refine os 1 ?_
 refine nsr ?_
 refine os 1 ?_
 refine oX (.int .u64 (Int.tmod (n : Int) 4294967296)) (.int .u64 ((n : Int) % 4294967296)) (congrArg (Value.int .u64) (rem_nn (by first | omega | exact Int.natCast_nonneg _))) ?_
 refine os 2 ?_
 refine oX (.int .u64 (IntKind.wrap .u64 (Int.tdiv (n : Int) 4294967296))) (.int .u64 ((n : Int) / 4294967296)) (congrArg (Value.int .u64) (quo_u64 (by omega) (by omega) (by decide))) ?_
 refine os 1 ?_
 refine L (nws 87 2 2 [.int .u32 ((n : Int) % 4294967296), .int .u32 ((n : Int) / 4294967296)] ?_)
 intro b1
 refine SL_sig ((Gs.ent 87 1 (Gs.at b1 2) (([(n : Int) % 4294967296, (n : Int) / 4294967296]).map encP)) ++ ([])) rfl ?_
 have hv_ : limV ([(n : Int) % 4294967296, (n : Int) / 4294967296]) = n := by simp only [limV]; omega
 have hq_ := r2_trim (W0 := W0) (l := [(n : Int) % 4294967296, (n : Int) / 4294967296]) (by intro x hx; simp only [List.mem_cons, List.not_mem_nil, or_false] at hx; omega) (show Gs.ok 1 ([(n : Int) % 4294967296, (n : Int) / 4294967296]).length (Gs.at b1 2) (([(n : Int) % 4294967296, (n : Int) / 4294967296]).map encP) from ⟨Nat.le_refl _, by unfold maxLen; omega, rfl⟩)
 rw [hv_] at hq_
 refine L (cl (hq_) ?_)
 rintro _ _ ⟨rfl, hkt_⟩
 refine os 1 ?_
 refine kp [2, 0] ?_
 refine nt ?_
 refine SW_ret ?_
 refine body_end (Gs.val (Gs.at b1 2) ((lim n).length)) (fun _ => rfl) ?_
 exact ⟨(Gs.at b1 2), ow, rfl, hkt_⟩

theorem r2_times {W0 : World} {a : Gs} {a0 n more : Nat} (hk : Gs.ok 1 (lim a0).length a ((lim a0).map encP)) (hs : (lim a0).length ≤ 1048576) (hn : n < 4294967296) (hm : more < 4294967296) : SC Tryz.prog W0 143 #[a.val (lim a0).length, .int .u32 (n : Int), .int .u32 (more : Int)] (Gs.ent 87 1 a ((lim a0).map encP)) (Ret (fun g : Gs => Gs.ent 87 1 g ((lim (a0 * n + more)).map encP) ++ (Gs.ent 87 1 a ((lim a0).map encP))) (fun v g => v = g.val (lim (a0 * n + more)).length ∧ Gs.ok 1 (lim (a0 * n + more)).length g ((lim (a0 * n + more)).map encP))) := by
 refine SC_body (fn := Tryz.f143) (n := 48) Tryz.func143 rfl (by kernel_rfl) (ρ := [(0, Gs.val a ((lim a0).length)), (1, .int .u32 (n : Int)), (2, .int .u32 (more : Int))]) rfl ?_
 refine SW_sig ((Gs.ent 87 1 a ((lim a0).map encP)) ++ ([])) (by simp only [List.append_nil, List.append_assoc]) ?_
 refine sr ?_
 refine os 1 ?_
 refine nsr ?_
 refine os 3 ?_
 refine L (O_make1 (bytes := 4) ((lim a0).length + 1) (.int .u32 0) (fun _ => rfl) (fun _ => rfl) Tryz.underlying149 (by kernel_rfl) rfl (by omega) (by omega) rfl ?_)
 intro b1 hlb1 hnb1
 have hmkb1 : Gs.ok 1 ((lim a0).length + 1) (Gs.at b1 ((lim a0).length + 1)) ((List.replicate ((lim a0).length + 1) 0).map encP) := Gs.ok_make (by simp) (by unfold maxLen; omega)
 refine SL_sig ((Gs.ent 87 1 (Gs.at b1 ((lim a0).length + 1)) ((List.replicate ((lim a0).length + 1) 0).map encP)) ++ ((Gs.ent 87 1 a ((lim a0).map encP)) ++ ([]))) (by rw [show ((List.replicate ((lim a0).length + 1) 0).map encP) = List.replicate ((lim a0).length + 1) (.int .u32 0) from by simp]) ?_
 refine os 1 ?_
 refine kp [7, 6, 0, 1, 2] ?_
 refine nsr ?_
 refine os 3 ?_
 refine nq ?_
 refine sr ?_
 refine os 1 ?_
 refine nt ?_
 refine SW_block ?_
 have hkr0_ := hmkb1
 rw [show (List.replicate ((lim a0).length + 1) 0 : List Int) = [] ++ List.replicate ((lim a0).length + 1 - 0) 0 from rfl]
 refine SW_loop (α := Nat × List Int × Int) (fun z_ ρ_ σ_ => Fits ρ_ σ_ [(0, Gs.val a ((lim a0).length)), (1, .int .u32 (n : Int)), (7, Gs.val (Gs.at b1 ((lim a0).length + 1)) ((lim a0).length + 1)), (8, .int .u64 z_.2.2), (9, .int .i64 (z_.1 : Int))] ((Gs.ent 87 1 (Gs.at b1 ((lim a0).length + 1)) ((z_.2.1 ++ List.replicate ((lim a0).length + 1 - z_.1) 0).map encP)) ++ ((Gs.ent 87 1 a ((lim a0).map encP)) ++ ([]))) ∧ z_.1 ≤ (lim a0).length ∧ (z_.2.1.length = z_.1 ∧ LimOk z_.2.1 ∧ (0 ≤ z_.2.2 ∧ z_.2.2 < 4294967296)) ∧ limV z_.2.1 + 4294967296 ^ z_.1 * z_.2.2.toNat = limV ((lim a0).take z_.1) * n + more) (fun z_ => (lim a0).length - z_.1) (0, [], (more : Int)) ⟨⟨fun _ => rfl, ow⟩, Nat.zero_le _, ⟨rfl, (fun x hx => by cases hx), (show 0 ≤ (more : Int) ∧ (more : Int) < 4294967296 from by omega)⟩, by simp [limV]⟩ ?_
 rintro ⟨i, ys, c⟩ ρ_ σ_ ⟨hfit, hi0, hi1, hi2⟩
 refine SW_fits hfit ?_
 clear hfit
 simp only [] at hi0 hi1 hi2 ⊢
 obtain ⟨hyl, hyo, hc⟩ := hi1
 have hrl_ : (ys ++ List.replicate ((lim a0).length + 1 - i) 0).length = (lim a0).length + 1 := by simp; omega
 have hkr_ : Gs.ok 1 ((lim a0).length + 1) (Gs.at b1 ((lim a0).length + 1)) ((ys ++ List.replicate ((lim a0).length + 1 - i) 0).map encP) := Gs.ok.relen hkr0_ (by simp; omega)
 refine SW_seq ?_
 refine sr ?_
 refine os 4 ?_
 refine kp [19, 0, 1, 7, 8, 9] ?_
 refine nt ?_
 refine cdp (fun hc2 : (i : Int) < ((((lim a0).length : Nat)) : Int) => ?_) (fun hc2 => ?_)
 ·refine SW_skip (n_then ?_)
  refine SW_seq ?_
  refine SW_block ?_
  refine SW_seq ?_
  obtain ⟨e1, he1⟩ : ∃ y_, (lim a0)[i]? = some y_ := ⟨_, List.getElem?_eq_getElem (by omega)⟩
  have heo_ := lim_ok a0 _ (List.mem_of_getElem? he1)
  have hmu_ := times_mul heo_ hn
  refine SW_region ?_
  refine os 3 ?_
  refine L (ixg (i : Int) (i) hk Tryz.underlying149 ?_)
  refine L (ld ?_ (hc := Gs.cell hk (fun e he => (mem_a (mem_h he))) (map_cell he1 rfl)))
  refine os 6 ?_
  refine kp [8, 19, 0, 1, 7, 9] ?_
  refine nsr ?_
  refine os 3 ?_
  refine oX (.int .u64 (Int.tmod (c + (e1 * (n : Int))) 4294967296)) (.int .u64 ((c + (e1 * (n : Int))) % 4294967296)) (congrArg (Value.int .u64) (rem_nn (by first | omega | exact Int.natCast_nonneg _))) ?_
  refine os 1 ?_
  refine L (ixg (i : Int) (i) hkr_ Tryz.underlying149 ?_)
  obtain ⟨e2, he2⟩ : ∃ y_, (ys ++ List.replicate ((lim a0).length + 1 - i) 0)[i]? = some y_ := ⟨_, List.getElem?_eq_getElem (by omega)⟩
  have hok1 := Gs.ok.relen (ys := (((ys ++ List.replicate ((lim a0).length + 1 - i) 0).set i ((c + (e1 * (n : Int))) % 4294967296)).map encP)) hkr_ (by simp)
  refine L (O_storeG (ys := (((ys ++ List.replicate ((lim a0).length + 1 - i) 0).set i ((c + (e1 * (n : Int))) % 4294967296)).map encP)) (Gs.at b1 ((lim a0).length + 1)) (i) (.int .u32 ((c + (e1 * (n : Int))) % 4294967296)) [.int .u32 ((c + (e1 * (n : Int))) % 4294967296)] (Gs.ok.ne hkr_ (by first | omega | (simp; omega))) (fun _ => rfl) (fun _ => rfl) rfl (by kernel_rfl) rfl (by simp; omega) (row_lay_map ((c + (e1 * (n : Int))) % 4294967296) (by omega)) rfl ?_)
  refine nr ?_
  refine os 1 ?_
  refine oX (.int .u64 (IntKind.wrap .u64 (Int.tdiv (c + (e1 * (n : Int))) 4294967296))) (.int .u64 ((c + (e1 * (n : Int))) / 4294967296)) (congrArg (Value.int .u64) (quo_u64 (by omega) (by omega) (by decide))) ?_
  refine os 1 ?_
  refine kp [8, 19, 0, 1, 7, 9] ?_
  refine SL_nil (n_in (n_then ?_))
  refine SW_region ?_
  refine os 3 ?_
  refine nt ?_
  obtain ⟨q1_, q2_, q3_, q4_⟩ := times_bodyR hyl hyo he1 heo_ hc hn hi2
  have hst_ := set_rep (v := (c + e1 * (n : Int)) % 4294967296) (m := (lim a0).length + 1 - i) (m' := (lim a0).length + 1 - (i + 1)) hyl (by omega)
  refine ⟨(i + 1, ys ++ [(c + e1 * (n : Int)) % 4294967296], (c + (e1 * (n : Int))) / 4294967296), by simp only []; omega, ?_⟩
  simp only []
  refine ⟨⟨fun _ => rfl, ?_⟩, by omega, ⟨q1_, q2_, q3_⟩, q4_⟩
  rw [← hst_]
  exact ow
 refine SW_exit (x_then (x_then (x_in (n_then ?_))))
 refine sr ?_
 refine os 5 ?_
 refine L (ixg ((((lim a0).length : Nat)) : Int) ((lim a0).length) hkr_ Tryz.underlying149 ?_)
 obtain ⟨e3, he3⟩ : ∃ y_, (ys ++ List.replicate ((lim a0).length + 1 - i) 0)[(lim a0).length]? = some y_ := ⟨_, List.getElem?_eq_getElem (by omega)⟩
 have hok2 := Gs.ok.relen (ys := (((ys ++ List.replicate ((lim a0).length + 1 - i) 0).set ((lim a0).length) c).map encP)) hkr_ (by simp)
 refine L (O_storeG (ys := (((ys ++ List.replicate ((lim a0).length + 1 - i) 0).set ((lim a0).length) c).map encP)) (Gs.at b1 ((lim a0).length + 1)) ((lim a0).length) (.int .u32 c) [.int .u32 c] (Gs.ok.ne hkr_ (by first | omega | (simp; omega))) (fun _ => rfl) (fun _ => rfl) rfl (by kernel_rfl) rfl (by simp; omega) (row_lay_map c (by omega)) rfl ?_)
 refine nsr ?_
 refine os 1 ?_
 refine kp [46, 19, 0, 1, 7, 8, 9] ?_
 have hie_ : i = (lim a0).length := by omega
 have hst_ := set_rep (v := c) (m := (lim a0).length + 1 - i) (m' := 0) hyl (by omega)
 rw [hie_] at hst_
 rw [hie_] at hyl hi2
 obtain ⟨hto_, htv_⟩ := times_end (l := lim a0) hyl hyo hc hi2
 rw [lim_val] at htv_
 have hrw_ : ((ys ++ List.replicate ((lim a0).length + 1 - i) 0).set ((lim a0).length) c) = (ys ++ [c]) := by first | exact hst_.trans (by simp) | (rw [hie_]; exact hst_.trans (by simp))
 have hkz_ := hok2
 rw [hrw_] at hkz_ ⊢
 have hln_ : (ys ++ [c]).length = (lim a0).length + 1 := by simp; omega
 have hok_ : Gs.ok 1 (ys ++ [c]).length (Gs.at b1 ((lim a0).length + 1)) ((ys ++ [c]).map encP) := by rw [hln_]; exact hkz_
 have hq_ := r2_trim (W0 := W0) (l := (ys ++ [c])) hto_ hok_
 rw [htv_, hln_] at hq_
 refine L (cl (hq_) ?_)
 rintro _ _ ⟨rfl, hkt_⟩
 refine os 1 ?_
 refine nt ?_
 refine SW_ret ?_
 refine body_end (Gs.val (Gs.at b1 ((lim a0).length + 1)) ((lim (a0 * n + more)).length)) (fun _ => rfl) ?_
 exact ⟨(Gs.at b1 ((lim a0).length + 1)), ow, rfl, hkt_⟩

end Go.Proofs.YtnhmmjogfkjceaaGreatDoor
namespace Go.Proofs.YtnhmmjogfkjceaaGreatDoor
open Go.Sl
def valF (a : Nat) : Nat := if a < 4503599627370496 then a else (a % 4503599627370496 + 4503599627370496) * 2 ^ (a / 4503599627370496 - 1)
theorem valF_mk {K g : Nat} (hg : g ≤ 9007199254740992) (hK : K = 0 ∨ 4503599627370496 ≤ g) : valF (K * 4503599627370496 + g) = g * 2 ^ K := by
 unfold valF
 by_cases h0 : g < 4503599627370496
 · have hk : K = 0 := by omega
   subst hk
   rw [if_pos (by omega)]; simp
 · by_cases h1 : g = 9007199254740992
   · subst h1
     rw [if_neg (by omega), show (K * 4503599627370496 + 9007199254740992) % 4503599627370496 = 0 by omega, show (K * 4503599627370496 + 9007199254740992) / 4503599627370496 - 1 = K + 1 by omega, Nat.pow_succ]
     omega
   · rw [if_neg (by omega), show (K * 4503599627370496 + g) % 4503599627370496 + 4503599627370496 = g by omega, show (K * 4503599627370496 + g) / 4503599627370496 - 1 = K by omega]
theorem valF_parts (a : Nat) : ∃ K g, a = K * 4503599627370496 + g ∧ g < 9007199254740992 ∧ (K = 0 ∨ 4503599627370496 ≤ g) := by
 by_cases h : a < 4503599627370496
 · exact ⟨0, a, by omega, by omega, .inl rfl⟩
 · exact ⟨a / 4503599627370496 - 1, a % 4503599627370496 + 4503599627370496, by omega, by omega, .inr (by omega)⟩
theorem valF_lt (a : Nat) : valF a < valF (a + 1) := by
 obtain ⟨K, g, rfl, h1, h2⟩ := valF_parts a
 rw [Nat.add_assoc, valF_mk (by omega) h2, valF_mk (K := K) (g := g + 1) (by omega) (by omega)]
 exact Nat.mul_lt_mul_of_pos_right (by omega) (Nat.two_pow_pos K)
theorem valF_mono {a b : Nat} (h : a ≤ b) : valF a ≤ valF b := by
 induction h with
 | refl => exact Nat.le_refl _
 | step _ ih => exact Nat.le_trans ih (Nat.le_of_lt (valF_lt _))
theorem valF_mono_lt {a b : Nat} (h : a < b) : valF a < valF b := Nat.lt_of_lt_of_le (valF_lt a) (valF_mono h)
theorem valF_one : valF 1 = 1 := rfl
theorem valF_zero : valF 0 = 0 := rfl
theorem valF_inf : ∃ k, k = 2098 ∧ valF 9218868437227405312 = 2 ^ k := by
 obtain ⟨K, hK⟩ : ∃ K : Nat, K = 2046 := ⟨_, rfl⟩
 have := valF_mk (K := K) (g := 4503599627370496) (by omega) (by omega)
 rw [show K * 4503599627370496 + 4503599627370496 = 9218868437227405312 by omega] at this
 refine ⟨52 + K, by omega, ?_⟩
 rw [this, show 4503599627370496 = 2 ^ 52 from rfl, ← Nat.pow_add]
def isRN (X q a : Nat) : Prop := a ≤ 9218868437227405312 ∧
 (a = 0 ∨ q * (valF (a - 1) + valF a) < 2 * X ∨ (q * (valF (a - 1) + valF a) = 2 * X ∧ a % 2 = 0)) ∧
 (a = 9218868437227405312 ∨ 2 * X < q * (valF a + valF (a + 1)) ∨ (2 * X = q * (valF a + valF (a + 1)) ∧ a % 2 = 0))
theorem isRN_uniq_lt {X q a b : Nat} (hq : 0 < q) (ha : isRN X q a) (hb : isRN X q b) (h : a < b) : False := by
 obtain ⟨a1, -, a2⟩ := ha
 obtain ⟨b1, b2, -⟩ := hb
 have h1 : valF a ≤ valF (b - 1) := valF_mono (by omega)
 have h2 : valF (a + 1) ≤ valF b := valF_mono (by omega)
 have h3 := Nat.mul_le_mul_left q (Nat.add_le_add h1 h2)
 by_cases hc : b = a + 1
 · subst hc
   rw [Nat.add_sub_cancel] at b2
   omega
 · have h4 : valF a < valF (b - 1) := valF_mono_lt (by omega)
   have h5 := Nat.mul_lt_mul_of_pos_left (Nat.add_lt_add_of_lt_of_le h4 h2) hq
   omega
theorem isRN_uniq {X q a b : Nat} (hq : 0 < q) (ha : isRN X q a) (hb : isRN X q b) : a = b := by
 rcases Nat.lt_trichotomy a b with h | h | h
 · exact (isRN_uniq_lt hq ha hb h).elim
 · exact h
 · exact (isRN_uniq_lt hq hb ha h).elim
theorem cross_lt {X q X' q' v : Nat} (hq : 0 < q) (hq' : 0 < q') (h : X * q' = X' * q) (hv : q * v < 2 * X) : q' * v < 2 * X' := by
 have h1 := Nat.mul_lt_mul_of_pos_right hv hq'
 rw [Nat.mul_assoc 2, h] at h1
 apply Nat.lt_of_mul_lt_mul_left (a := q)
 rw [show q * (q' * v) = q * v * q' by rw [Nat.mul_comm q' v, Nat.mul_assoc], show q * (2 * X') = 2 * (X' * q) by rw [Nat.mul_left_comm, Nat.mul_comm q X']]
 exact h1
theorem cross_gt {X q X' q' v : Nat} (hq : 0 < q) (hq' : 0 < q') (h : X * q' = X' * q) (hv : 2 * X < q * v) : 2 * X' < q' * v := by
 have h1 := Nat.mul_lt_mul_of_pos_right hv hq'
 rw [Nat.mul_assoc 2, h] at h1
 apply Nat.lt_of_mul_lt_mul_left (a := q)
 rw [show q * (q' * v) = q * v * q' by rw [Nat.mul_comm q' v, Nat.mul_assoc], show q * (2 * X') = 2 * (X' * q) by rw [Nat.mul_left_comm, Nat.mul_comm q X']]
 exact h1
theorem cross_eq {X q X' q' v : Nat} (hq : 0 < q) (hq' : 0 < q') (h : X * q' = X' * q) (hv : q * v = 2 * X) : q' * v = 2 * X' := by
 rcases Nat.lt_trichotomy (q' * v) (2 * X') with g | g | g
 · have := cross_lt hq' hq h.symm g; omega
 · exact g
 · have := cross_gt hq' hq h.symm g; omega
theorem isRN_scale {X q X' q' a : Nat} (hq : 0 < q) (hq' : 0 < q') (h : X * q' = X' * q) (ha : isRN X q a) : isRN X' q' a := by
 obtain ⟨a1, a2, a3⟩ := ha
 refine ⟨a1, ?_, ?_⟩
 · rcases a2 with g | g | ⟨g, e⟩
   · exact .inl g
   · exact .inr (.inl (cross_lt hq hq' h g))
   · exact .inr (.inr ⟨cross_eq hq hq' h g, e⟩)
 · rcases a3 with g | g | ⟨g, e⟩
   · exact .inl g
   · exact .inr (.inl (cross_gt hq hq' h g))
   · exact .inr (.inr ⟨(cross_eq hq hq' h g.symm).symm, e⟩)
theorem isRN_between {X q a : Nat} (hq : 0 < q) (ha : a < 9218868437227405312) (h1 : q * valF a ≤ X) (h2 : X < q * valF (a + 1)) :
   isRN X q (if q * (valF a + valF (a + 1)) < 2 * X ∨ (q * (valF a + valF (a + 1)) = 2 * X ∧ a % 2 = 1) then a + 1 else a) := by
 have e : q * (valF a + valF (a + 1)) = q * valF a + q * valF (a + 1) := Nat.mul_add ..
 split
 · next g =>
   refine ⟨by omega, .inr ?_, ?_⟩
   · rw [Nat.add_sub_cancel]
     rcases g with g | ⟨g, o⟩
     · exact .inl g
     · exact .inr ⟨g, by omega⟩
   · by_cases hi : a + 1 = 9218868437227405312
     · exact .inl hi
     · have h3 : q * valF (a + 1) < q * valF (a + 1 + 1) := Nat.mul_lt_mul_of_pos_left (valF_lt _) hq
       refine .inr (.inl ?_)
       rw [Nat.mul_add]; omega
 · next g =>
   refine ⟨by omega, ?_, .inr ?_⟩
   · by_cases h0 : a = 0
     · exact .inl h0
     · have h3 : q * valF (a - 1) < q * valF a := Nat.mul_lt_mul_of_pos_left (valF_mono_lt (by omega)) hq
       refine .inr (.inl ?_)
       rw [Nat.mul_add]; omega
   · have g1 : ¬ q * (valF a + valF (a + 1)) < 2 * X := fun h => g (.inl h)
     have g2 : ¬ (q * (valF a + valF (a + 1)) = 2 * X ∧ a % 2 = 1) := fun h => g (.inr h)
     by_cases e2 : 2 * X = q * (valF a + valF (a + 1))
     · exact .inr ⟨e2, by omega⟩
     · exact .inl (by omega)
theorem isRN_inf {X q : Nat} (hq : 0 < q) (h : q * valF 9218868437227405312 ≤ X) : isRN X q 9218868437227405312 := by
 refine ⟨Nat.le_refl _, .inr (.inl ?_), .inl rfl⟩
 have h3 : q * valF (9218868437227405312 - 1) < q * valF 9218868437227405312 := Nat.mul_lt_mul_of_pos_left (valF_mono_lt (by decide)) hq
 rw [Nat.mul_add]; omega
theorem isRN_none {X q : Nat} (h : 2 * X < q) : isRN X q 0 := by
 refine ⟨by decide, .inl rfl, .inr (.inl ?_)⟩
 rw [valF_zero, valF_one]; omega
theorem pow_cmp {A B x y x' y' : Nat} (h : x + y' = x' + y) : A * 2 ^ x < B * 2 ^ y ↔ A * 2 ^ x' < B * 2 ^ y' := by
 have p1 := Nat.two_pow_pos y'
 have p2 := Nat.two_pow_pos y
 rw [← Nat.mul_lt_mul_right (a0 := p1), ← Nat.mul_lt_mul_right (a0 := p2) (b := A * 2 ^ x')]
 rw [Nat.mul_assoc A, ← Nat.pow_add, h, Nat.mul_assoc A, ← Nat.pow_add, Nat.mul_assoc B, ← Nat.pow_add, Nat.mul_assoc B, ← Nat.pow_add, Nat.add_comm y y']
theorem pow_cmp_eq {A B x y x' y' : Nat} (h : x + y' = x' + y) : A * 2 ^ x = B * 2 ^ y ↔ A * 2 ^ x' = B * 2 ^ y' := by
 have h1 := pow_cmp (A := A) (B := B) h
 have h2 := pow_cmp (A := B) (B := A) (x := y) (y := x) (x' := y') (y' := x') (by omega)
 omega
def Stands (X q : Nat) (m : Nat) (E : Int) (half : Bool) : Prop := ∀ f : Nat,
 (X * 2 ^ (-E).toNat < (2 * f * q) * 2 ^ E.toNat ↔ m < 2 * f) ∧ (X * 2 ^ (-E).toNat = (2 * f * q) * 2 ^ E.toNat ↔ m = 2 * f ∧ half = false)
theorem Stands.at {X q m : Nat} {E : Int} {half : Bool} (h : Stands X q m E half) {g s K j : Nat} (hs : 0 < s) (hE : E = (K : Int) - s - j) :
   (X * 2 ^ j < g * q * 2 ^ K ↔ m < g * 2 ^ s) ∧ (X * 2 ^ j = g * q * 2 ^ K ↔ m = g * 2 ^ s ∧ half = false) := by
 obtain ⟨t, rfl⟩ : ∃ t, s = t + 1 := ⟨s - 1, by omega⟩
 have h1 := h (g * 2 ^ t)
 have e : 2 * (g * 2 ^ t) = g * 2 ^ (t + 1) := by rw [Nat.pow_succ, Nat.mul_comm 2, Nat.mul_assoc]
 rw [e] at h1
 have e2 : g * 2 ^ (t + 1) * q * 2 ^ E.toNat = g * q * 2 ^ (t + 1 + E.toNat) := by rw [Nat.mul_right_comm g (2 ^ (t + 1)) q, Nat.mul_assoc (g * q), ← Nat.pow_add]
 rw [e2, pow_cmp (x := (-E).toNat) (y := t + 1 + E.toNat) (x' := j) (y' := K) (by omega), pow_cmp_eq (x := (-E).toNat) (y := t + 1 + E.toNat) (x' := j) (y' := K) (by omega)] at h1
 exact h1
theorem rest_cmp {r k : Nat} (hk : k ≤ 64) (hk0 : 0 < k) (hr : r < 2 ^ k) : (r * 2 ^ (64 - k) > 9223372036854775808 ↔ r > 2 ^ (k - 1)) ∧ (r * 2 ^ (64 - k) = 9223372036854775808 ↔ r = 2 ^ (k - 1)) := by
 have e : (9223372036854775808 : Nat) = 2 ^ (k - 1) * 2 ^ (64 - k) := by rw [← Nat.pow_add, show k - 1 + (64 - k) = 63 by omega]
 have p := Nat.two_pow_pos (64 - k)
 rw [e]
 constructor
 · exact Nat.mul_lt_mul_right p
 · constructor
   · exact Nat.eq_of_mul_eq_mul_right p
   · intro h; rw [h]
theorem rest_mod {m k : Nat} (hk : k ≤ 64) : m * 2 ^ (64 - k) % 18446744073709551616 = m % 2 ^ k * 2 ^ (64 - k) := by
 rw [show (18446744073709551616 : Nat) = 2 ^ k * 2 ^ (64 - k) by rw [← Nat.pow_add, show k + (64 - k) = 64 by omega], Nat.mul_mod_mul_right]
theorem form_spec {X q m : Nat} {e : Int} {half : Bool} (hq : 0 < q) (hm : 9223372036854775808 ≤ m) (hm2 : m < 18446744073709551616) (h : Stands X q m (e + 1074) half) : isRN X q (formNear m e half) := by
 unfold formNear
 by_cases h1 : e + 63 > 1023
 · rw [if_pos h1]
   apply isRN_inf hq
   obtain ⟨k, hk, hv⟩ := valF_inf
   rw [hv]
   have h2 := h 4611686018427387904
   have h3 : ¬ X * 2 ^ (-(e + 1074)).toNat < 2 * 4611686018427387904 * q * 2 ^ (e + 1074).toNat := by rw [h2.1]; omega
   rw [show (-(e + 1074)).toNat = 0 by omega, Nat.pow_zero, Nat.mul_one] at h3
   refine Nat.le_trans ?_ (Nat.le_of_not_lt h3)
   rw [show 2 * 4611686018427387904 = 2 ^ 63 from rfl, Nat.mul_comm (2 ^ 63) q, Nat.mul_assoc, ← Nat.pow_add]
   exact Nat.mul_le_mul_left _ (Nat.pow_le_pow_right (by decide) (by omega))
 · rw [if_neg h1]
   simp only []
   obtain ⟨s, K, hs, hs0, hK, hE, hKm⟩ : ∃ s K : Nat, (if e + 63 + 1023 < 1 then 12 - (e + 63 + 1023) else 11) = (s : Int) ∧ 11 ≤ s ∧ ((if e + 63 + 1023 < 1 then 1 else e + 63 + 1023) - 1).toNat = K ∧ e + 1074 = (K : Int) - s ∧ (K ≤ 2045 ∧ (K = 0 ∨ s = 11) ) := by
     by_cases h2 : e + 63 + 1023 < 1
     · exact ⟨(12 - (e + 63 + 1023)).toNat, 0, by rw [if_pos h2]; omega, by omega, by rw [if_pos h2]; rfl, by omega, by omega, .inl rfl⟩
     · exact ⟨11, (e + 63 + 1023 - 1).toNat, by rw [if_neg h2]; rfl, by omega, by rw [if_neg h2], by omega, by omega, .inr rfl⟩
   rw [hs, hK]
   by_cases h3 : (s : Int) > 64
   · rw [if_pos h3]
     apply isRN_none
     have hK0 : K = 0 := by omega
     subst hK0
     have h4 := (h.at (g := 1) (s := s - 1) (K := 0) (j := 1) (by omega) (by omega)).1
     have h5 : (2 : Nat) ^ 64 ≤ 2 ^ (s - 1) := Nat.pow_le_pow_right (by decide) (by omega)
     have h6 := h4.2 (by rw [Nat.one_mul]; exact Nat.lt_of_lt_of_le hm2 h5)
     simp only [Nat.one_mul, Nat.pow_zero, Nat.mul_one, Nat.pow_one] at h6
     omega
   · rw [if_neg h3, Int.toNat_natCast]
     have hs64 : s ≤ 64 := by omega
     obtain ⟨M, hM⟩ : ∃ M, m / 2 ^ s = M := ⟨_, rfl⟩
     obtain ⟨r, hr⟩ : ∃ r, m % 2 ^ s = r := ⟨_, rfl⟩
     have p := Nat.two_pow_pos s
     have hmr : M * 2 ^ s + r = m := by rw [← hM, ← hr, Nat.mul_comm]; exact Nat.div_add_mod m (2 ^ s)
     have hrl : r < 2 ^ s := by rw [← hr]; exact Nat.mod_lt _ p
     have hM53 : M < 9007199254740992 := by rw [← hM]; exact div_pow_lt hm2 hs0
     have hMK : K = 0 ∨ 4503599627370496 ≤ M := by
       rcases hKm.2 with q0 | q0
       · exact .inl q0
       · right; rw [← hM, q0]; omega
     rw [rest_mod hs64, hr, hM]
     have hc := rest_cmp hs64 (by omega) hrl
     have e0 : valF (K * 4503599627370496 + M) = M * 2 ^ K := valF_mk (by omega) hMK
     have e1 : valF (K * 4503599627370496 + M + 1) = (M + 1) * 2 ^ K := by rw [Nat.add_assoc]; exact valF_mk (by omega) (by omega)
     have c0 := (h.at (g := M) (s := s) (K := K) (j := 0) (by omega) (by omega)).1
     have c1 := (h.at (g := M + 1) (s := s) (K := K) (j := 0) (by omega) (by omega)).1
     have c2 := h.at (g := 2 * M + 1) (s := s - 1) (K := K) (j := 1) (by omega) (by omega)
     rw [Nat.pow_zero, Nat.mul_one] at c0 c1
     have d1 : (M + 1) * 2 ^ s = M * 2 ^ s + 2 ^ s := Nat.succ_mul ..
     have d2 : (2 * M + 1) * 2 ^ (s - 1) = M * 2 ^ s + 2 ^ (s - 1) := by
       rw [Nat.succ_mul, show s = (s - 1) + 1 by omega, Nat.pow_succ, Nat.add_sub_cancel, Nat.mul_comm 2 M, Nat.mul_assoc, Nat.mul_comm 2]
     rw [d2] at c2
     rw [d1] at c1
     have b := isRN_between (X := X) hq (a := K * 4503599627370496 + M) (by omega)
       (by rw [e0, show q * (M * 2 ^ K) = M * q * 2 ^ K by rw [← Nat.mul_assoc, Nat.mul_comm q]]; exact Nat.le_of_not_lt fun z => absurd (c0.1 z) (by omega))
       (by rw [e1, show q * ((M + 1) * 2 ^ K) = (M + 1) * q * 2 ^ K by rw [← Nat.mul_assoc, Nat.mul_comm q]]; exact c1.2 (by omega))
     rw [e0, e1, show q * (M * 2 ^ K + (M + 1) * 2 ^ K) = (2 * M + 1) * q * 2 ^ K by rw [← Nat.add_mul, ← Nat.mul_assoc, Nat.mul_comm q, show M + (M + 1) = 2 * M + 1 by omega]] at b
     rw [Nat.pow_one, Nat.mul_comm X 2] at c2
     have pe : (K * 4503599627370496 + M) % 2 = M % 2 := by omega
     rw [pe] at b
     have hiff : (r * 2 ^ (64 - s) > 9223372036854775808 ∨ r * 2 ^ (64 - s) = 9223372036854775808 ∧ (half = true ∨ M % 2 = 1)) ↔ ((2 * M + 1) * q * 2 ^ K < 2 * X ∨ (2 * M + 1) * q * 2 ^ K = 2 * X ∧ M % 2 = 1) := by
       rw [hc.1, hc.2]
       have lt := c2.1
       have eq := c2.2
       generalize (2 * M + 1) * q * 2 ^ K = Z at *
       generalize 2 ^ (s - 1) = H at *
       generalize M * 2 ^ s = B at *
       cases half
       · simp only [Bool.false_eq_true, and_true, false_or] at eq ⊢
         omega
       · simp only [Bool.true_eq_false, and_false, iff_false, true_or, and_true] at eq ⊢
         omega
     by_cases hu : r * 2 ^ (64 - s) > 9223372036854775808 ∨ r * 2 ^ (64 - s) = 9223372036854775808 ∧ (half = true ∨ M % 2 = 1)
     · rw [if_pos hu]
       rw [if_pos (hiff.1 hu)] at b
       rw [← Nat.add_assoc]
       exact b
     · rw [if_neg hu]
       rw [if_neg fun z => hu (hiff.2 z)] at b
       exact b
theorem div_spec {Q : Nat} (hQ : 0 < Q) : ∀ (k p man : Nat), p < Q * 2 ^ k → man * 2 ^ k + (2 ^ k - 1) < 18446744073709551616 → ∀ t, (0 < k → t = Q * 2 ^ (k - 1)) → divN k p t man = (p % Q, man * 2 ^ k + p / Q)
 | 0, p, man, hp, hm, t, ht => by
   rw [Nat.pow_zero, Nat.mul_one] at hp
   rw [divN, Nat.mod_eq_of_lt hp, Nat.div_eq_of_lt hp, Nat.pow_zero, Nat.mul_one, Nat.add_zero]
 | k + 1, p, man, hp, hm, t, ht => by
   have ht' := ht (by omega)
   rw [Nat.add_sub_cancel] at ht'
   have hp2 : Q * 2 ^ (k + 1) = Q * 2 ^ k + Q * 2 ^ k := by rw [Nat.pow_succ, Nat.mul_two, Nat.mul_add]
   have hm2 : man * 2 ^ (k + 1) = 2 * (man * 2 ^ k) := by rw [Nat.pow_succ, ← Nat.mul_assoc, Nat.mul_comm]
   have hm3 : man ≤ man * 2 ^ k := Nat.le_mul_of_pos_right _ (Nat.two_pow_pos k)
   have hp3 : 2 ^ (k + 1) = 2 ^ k + 2 ^ k := by rw [Nat.pow_succ]; omega
   have hp4 := Nat.two_pow_pos k
   have hmm : man * 2 % 18446744073709551616 = man * 2 := Nat.mod_eq_of_lt (by omega)
   have hnext : 0 < k → t / 2 = Q * 2 ^ (k - 1) := fun h => by
     rw [ht', show k = (k - 1) + 1 by omega, Nat.pow_succ, ← Nat.mul_assoc, Nat.mul_div_cancel _ (by decide), Nat.add_sub_cancel]
   by_cases h : t ≤ p
   · rw [divN_step1 h, hmm, div_spec hQ k _ _ (by omega) (by rw [Nat.succ_mul, Nat.mul_right_comm]; omega) _ hnext]
     have e : p = (p - t) + Q * 2 ^ k := by omega
     refine Prod.ext ?_ ?_
     · show (p - t) % Q = p % Q
       conv => rhs; rw [e, Nat.add_mul_mod_self_left]
     · show (man * 2 + 1) * 2 ^ k + (p - t) / Q = man * 2 ^ (k + 1) + p / Q
       conv => rhs; rw [e, Nat.add_mul_div_left _ _ hQ]
       rw [Nat.succ_mul, Nat.mul_right_comm]; omega
   · rw [divN_step0 h, hmm, div_spec hQ k _ _ (by omega) (by rw [Nat.mul_right_comm]; omega) _ hnext]
     rw [Nat.mul_right_comm]
     refine Prod.ext rfl ?_
     show man * 2 ^ k * 2 + p / Q = man * 2 ^ (k + 1) + p / Q
     omega
def StandsA (X q : Nat) (m : Nat) (E : Int) (half : Bool) : Prop := ∀ f : Nat,
 (X * 2 ^ (-E).toNat < (f * q) * 2 ^ E.toNat ↔ m < f) ∧ (X * 2 ^ (-E).toNat = (f * q) * 2 ^ E.toNat ↔ m = f ∧ half = false)
theorem near_spec {X q man : Nat} {e : Int} {half : Bool} (hq : 0 < q) (hm : 4611686018427387904 ≤ man) (hm2 : man < 18446744073709551616) (he : -5000 ≤ e ∧ e ≤ 5000) (h : StandsA X q man (e + 1074) half) : isRN X q (nearN man e half) := by
 unfold nearN
 simp only []
 rw [if_neg (by omega), if_neg (by omega), show min (max e (-5000)) 5000 = e by omega]
 have hb : bitsN man = 63 ∨ bitsN man = 64 := by
   by_cases h63 : man < 9223372036854775808
   · exact .inl (bitsN_iff (k := 62) (by omega) (by omega))
   · exact .inr (bitsN_iff (k := 63) (by omega) (by omega))
 rcases hb with hb | hb
 · have hlt : man < 9223372036854775808 := by have := bitsN_lt man; rw [hb] at this; exact this
   rw [hb]
   have hE : ∀ f : Nat, (X * 2 ^ (-(e - 1 + 1074)).toNat < (2 * f * q) * 2 ^ (e - 1 + 1074).toNat ↔ man < f) ∧ (X * 2 ^ (-(e - 1 + 1074)).toNat = (2 * f * q) * 2 ^ (e - 1 + 1074).toNat ↔ man = f ∧ half = false) := by
     intro f
     rw [show 2 * f * q * 2 ^ (e - 1 + 1074).toNat = f * q * 2 ^ (1 + (e - 1 + 1074).toNat) by rw [Nat.pow_add, Nat.pow_one, ← Nat.mul_assoc, Nat.mul_comm (f * q) 2, Nat.mul_assoc 2]]
     have h1 := h f
     exact ⟨Iff.trans (pow_cmp (by omega)) h1.1, Iff.trans (pow_cmp_eq (by omega)) h1.2⟩
   cases half
   · rw [if_neg (by simp)]
     refine form_spec hq (by omega) (by omega) fun f => ?_
     rw [show e - ((64 - 63 : Nat) : Int) + 1074 = e - 1 + 1074 by omega, (hE f).1, (hE f).2]
     simp only [and_true]
     omega
   · rw [if_pos (by simp)]
     refine form_spec hq (by omega) (by omega) fun f => ?_
     rw [show e - ((64 - 63 : Nat) : Int) + 1074 = e - 1 + 1074 by omega, (hE f).1, (hE f).2]
     simp only [and_true, Bool.true_eq_false, and_false, false_iff]
     omega
 · have hge : 9223372036854775808 ≤ man := by have := bitsN_ge man (by omega); rw [hb] at this; exact this
   rw [hb, if_neg (by simp)]
   rw [show man * 2 ^ (64 - 64) = man by simp, show e - ((64 - 64 : Nat) : Int) = e by omega]
   exact form_spec hq hge hm2 fun f => h (2 * f)
theorem round_spec {p q S : Nat} (hp : 0 < p) (hq : 0 < q) (hS : S = 1074) (hb : bitsN p ≤ 4900) (hb2 : bitsN q ≤ 4900) : isRN (p * 2 ^ S) q (roundN p q) := by
 unfold roundN
 simp only []
 obtain ⟨up, hup⟩ : ∃ up : Int, up = 63 - bitsN p + bitsN q := ⟨_, rfl⟩
 rw [← hup]
 obtain ⟨P, hP⟩ : ∃ P, P = p * 2 ^ up.toNat := ⟨_, rfl⟩
 obtain ⟨Q, hQ⟩ : ∃ Q, Q = q * 2 ^ (-up).toNat := ⟨_, rfl⟩
 rw [← hP, ← hQ]
 have hQ0 : 0 < Q := by rw [hQ]; exact Nat.mul_pos hq (Nat.two_pow_pos _)
 have bp0 : 0 < bitsN p := by rw [bitsN_pos (by omega)]; omega
 have bq0 : 0 < bitsN q := by rw [bitsN_pos (by omega)]; omega
 have p1 := bitsN_ge p (by omega)
 have p2 := bitsN_lt p
 have q1 := bitsN_ge q (by omega)
 have q2 := bitsN_lt q
 have e1 : (bitsN p - 1) + up.toNat = 62 + (bitsN q + (-up).toNat) := by omega
 have lo : Q * 2 ^ 62 ≤ P := by
   have a1 : Q ≤ 2 ^ (bitsN q + (-up).toNat) := by rw [hQ, Nat.pow_add]; exact Nat.mul_le_mul_right _ (Nat.le_of_lt q2)
   have a2 : 2 ^ (bitsN p - 1 + up.toNat) ≤ P := by rw [hP, Nat.pow_add]; exact Nat.mul_le_mul_right _ p1
   rw [e1, Nat.pow_add, Nat.mul_comm] at a2
   exact Nat.le_trans (Nat.mul_le_mul_right _ a1) a2
 have hi : P < Q * 2 ^ 64 := by
   have a1 : 2 ^ (bitsN q - 1 + (-up).toNat) ≤ Q := by rw [hQ, Nat.pow_add]; exact Nat.mul_le_mul_right _ q1
   have a2 : P < 2 ^ (bitsN p + up.toNat) := by rw [hP, Nat.pow_add]; exact Nat.mul_lt_mul_of_pos_right p2 (Nat.two_pow_pos _)
   rw [show bitsN p + up.toNat = (bitsN q - 1 + (-up).toNat) + 64 by omega, Nat.pow_add] at a2
   exact Nat.lt_of_lt_of_le a2 (Nat.mul_le_mul_right _ a1)
 rw [div_spec hQ0 64 P 0 hi (by decide) (Q * 2 ^ 63) (fun _ => rfl)]
 simp only [Nat.zero_mul, Nat.zero_add]
 refine near_spec hq ?_ ?_ (by omega) fun f => ?_
 · rw [show 4611686018427387904 = 2 ^ 62 from rfl, Nat.le_div_iff_mul_le hQ0, Nat.mul_comm]; exact lo
 · rw [show 18446744073709551616 = 2 ^ 64 from rfl, Nat.div_lt_iff_lt_mul hQ0, Nat.mul_comm]; exact hi
 · have hx : ∀ x y : Nat, x = S + (-(-up + 1074)).toNat → y = (-up + 1074).toNat → (p * 2 ^ x < f * q * 2 ^ y ↔ P < f * Q) ∧ (p * 2 ^ x = f * q * 2 ^ y ↔ P = f * Q) := by
     intro x y hx hy
     rw [hP, hQ, ← Nat.mul_assoc]
     exact ⟨pow_cmp (by omega), pow_cmp_eq (by omega)⟩
   have h1 := hx _ _ rfl rfl
   rw [Nat.mul_assoc p, ← Nat.pow_add, h1.1, h1.2, Nat.div_lt_iff_lt_mul hQ0]
   refine ⟨Iff.rfl, ?_⟩
   have hl : decide (0 < (lim (P % Q)).length) = false ↔ P % Q = 0 := by
     rw [decide_eq_false_iff_not, ← lim_len_eq]; omega
   rw [hl]
   have hdm := Nat.div_add_mod P Q
   constructor
   · intro h
     subst h
     exact ⟨Nat.mul_div_cancel _ hQ0, Nat.mul_mod_left ..⟩
   · rintro ⟨h, h0⟩
     rw [h0, h, Nat.mul_comm] at hdm
     omega
end Go.Proofs.YtnhmmjogfkjceaaGreatDoor
namespace Go.Proofs.YtnhmmjogfkjceaaGreatDoor
open Go.Sl
structure SpanP where
  r : Nat
  u : Nat
  a : Nat
  b : Nat
  ends : Bool
def highB (s : SpanP) : Bool := decide (cmpN (s.r + s.a) s.u > 0) || (decide (cmpN (s.r + s.a) s.u = 0) && s.ends)
def lowB (s : SpanP) : Bool := decide (cmpN s.r s.b < 0) || (decide (cmpN s.r s.b = 0) && s.ends)
def manP (a : Nat) : Nat := if a / 4503599627370496 = 0 then a % 4503599627370496 else a % 4503599627370496 + 4503599627370496
def expP (a : Nat) : Nat := if a / 4503599627370496 = 0 then 1 else a / 4503599627370496
section
variable {D : Bytes} {p : Int}
end
theorem expP_in {a : Nat} (h : a < 9218868437227405312) : 1 ≤ expP a ∧ expP a ≤ 2046 := by unfold expP; split <;> omega
theorem sized64 (m : Nat) (h : m < 18446744073709551616) : IntKind.wrap .u64 ((BitVec.ofInt 64 (m : Int) &&& ~~~ BitVec.ofInt 64 9223372036854775808).toNat) = ((m % 9223372036854775808 : Nat) : Int) := by
 have e : (BitVec.ofInt 64 (m : Int) &&& ~~~ BitVec.ofInt 64 9223372036854775808).toNat = m % 9223372036854775808 := by
   rw [BitVec.toNat_and, show (~~~ BitVec.ofInt 64 9223372036854775808).toNat = 2 ^ 63 - 1 from rfl, Nat.and_two_pow_sub_one_eq_mod]
   simp [BitVec.toNat_ofInt]
 rw [e, wrap64]
 omega
section
variable {f : Nat} {s : SpanP} {p : Int} {m : Bytes}
end
end Go.Proofs.YtnhmmjogfkjceaaGreatDoor
namespace Go.Proofs.YtnhmmjogfkjceaaGreatDoor
open Go.Sl
abbrev isBl (c : UInt8) : Bool := [9, 10, 32].contains c
section
variable {c : UInt8} {X : Bytes}
end
section
open Go
variable {P : Program} {ρ : Fr} {dst : Option Tmp} {t t2 ty : TypeId} {x y : Operand} {pos : String} {after : Array Edge} {gd : Option (Nat × Bool)} {m c : Int}
end
end Go.Proofs.YtnhmmjogfkjceaaGreatDoor
namespace Go.Proofs.YtnhmmjogfkjceaaGreatDoor
open Go.Sl
theorem dig_of {u : Nat} (h : u < 10) : isDig (UInt8.ofNat (48 + u)) = true ∧ (UInt8.ofNat (48 + u)).toNat = 48 + u := by
 have e : (UInt8.ofNat (48 + u)).toNat = 48 + u := by rw [UInt8.toNat_ofNat']; omega
 exact ⟨by unfold isDig; rw [e]; exact decide_eq_true (by omega), e⟩
theorem isDig_in {c : UInt8} (h : isDig c = true) : 48 ≤ c.toNat ∧ c.toNat ≤ 57 := by unfold isDig at h; exact of_decide_eq_true h
theorem isDig_ne {c : UInt8} (h : isDig c = true) : c ≠ 43 ∧ c ≠ 45 ∧ c ≠ 46 ∧ c ≠ 101 ∧ c ≠ 69 ∧ c ≠ 73 ∧ c ≠ 120 ∧ c ≠ 88 := by
 have := isDig_in h
 refine ⟨?_, ?_, ?_, ?_, ?_, ?_, ?_, ?_⟩ <;> (rintro rfl; exact absurd this (by decide))
theorem isDig_bl {c : UInt8} (h : isDig c = true) : isBl c = false := by
 have h1 := isDig_in h
 rcases hb : isBl c with _ | _
 · rfl
 · have : c = 9 ∨ c = 10 ∨ c = 32 := by simpa [isBl] using hb
   rcases this with q | q | q <;> (subst q; exact absurd h1.1 (by decide))
theorem ofD_first {c : UInt8} {r : Bytes} (h : 49 ≤ c.toNat) : 0 < ofD (c :: r) := by
 have := ofD_ge r (0 * 10 + (c.toNat - 48))
 show 0 < r.foldl _ (0 * 10 + (c.toNat - 48))
 omega
section
variable {D : Bytes} (hD : ∀ c ∈ D, isDig c = true) (hn : D ≠ []) {z : Int} (h1 : -1099511627776 ≤ z) (h2 : z ≤ 1099511627776)
include hD hn h1 h2
end
end Go.Proofs.YtnhmmjogfkjceaaGreatDoor
namespace Go.Proofs.YtnhmmjogfkjceaaGreatDoor
open Go.Sl
def digC (d : Nat) : UInt8 := UInt8.ofNat (48 + d)
theorem digC_dig {d : Nat} (h : d < 10) : isDig (digC d) = true ∧ (digC d).toNat = 48 + d := dig_of h
structure Ends (s : SpanP) (m m' : Bytes) (k M r1 d : Nat) : Prop where
  len : m'.length = m.length + k + 1
  digs : (∀ c ∈ m, isDig c = true) → ∀ c ∈ m', isDig c = true
  cut : ∃ Q, m' = Q ++ [digC d] ∧ Q.length = m.length + k ∧ ofD Q = ofD m * 10 ^ k + M
  rest : s.r * 10 ^ k = M * s.u + r1
  less : r1 < s.u
  low : lowB ⟨r1, s.u, s.a * 10 ^ k, s.b * 10 ^ k, s.ends⟩ = false
  high : highB ⟨r1, s.u, s.a * 10 ^ k, s.b * 10 ^ k, s.ends⟩ = false
  dig : 1 ≤ d ∧ d ≤ 9
  stop : (d * s.u ≤ r1 * 10 ∧ (r1 * 10 - d * s.u < s.b * 10 ^ (k + 1) ∨ (r1 * 10 - d * s.u = s.b * 10 ^ (k + 1) ∧ s.ends = true))) ∨ (r1 * 10 ≤ d * s.u ∧ (d * s.u - r1 * 10 < s.a * 10 ^ (k + 1) ∨ (d * s.u - r1 * 10 = s.a * 10 ^ (k + 1) ∧ s.ends = true)))
theorem a_parts (a : Nat) : a = (expP a - 1) * 4503599627370496 + manP a ∧ manP a < 9007199254740992 ∧ (expP a - 1 = 0 ∨ 4503599627370496 ≤ manP a) := by
 unfold expP manP
 split <;> omega
section
variable {a S W q : Nat} (h0 : 0 < a) (ha : a < 9218868437227405312) (hS : S = 1074) (hq : 0 < q)
include h0 ha hS hq
end
theorem ofD_cons (c : UInt8) (l : Bytes) : ofD (c :: l) = (c.toNat - 48) * 10 ^ l.length + ofD l := by
 have h : ∀ (l : Bytes) (x : Nat), l.foldl (fun a c => a * 10 + (c.toNat - 48)) x = x * 10 ^ l.length + l.foldl (fun a c => a * 10 + (c.toNat - 48)) 0 := by
   intro l
   induction l with
   | nil => intro x; simp
   | cons c r ih =>
     intro x
     rw [List.foldl_cons, List.foldl_cons, ih, ih (0 * 10 + (c.toNat - 48)), List.length_cons, Nat.pow_succ, Nat.add_mul, Nat.mul_assoc x 10, Nat.mul_comm 10, Nat.zero_mul, Nat.zero_add, Nat.add_assoc]
 show l.foldl _ (0 * 10 + (c.toNat - 48)) = _
 rw [h, Nat.zero_mul, Nat.zero_add]
 rfl
theorem ofD_lead {c : UInt8} {r : Bytes} (hc : 49 ≤ c.toNat) : 10 ^ r.length ≤ ofD (c :: r) := by
 rw [ofD_cons]
 have := Nat.mul_le_mul_right (10 ^ r.length) (show 1 ≤ c.toNat - 48 by omega)
 omega
structure Short (a S : Nat) (D : Bytes) (p : Int) (i j k M d : Nat) (Q : Bytes) : Prop where
  pow : p = (i : Int) - j
  cut : D = Q ++ [digC d]
  len : Q.length = k
  few : k < 20
  digs : ∀ c ∈ D, isDig c = true
  worth : ofD Q = M
  last : 1 ≤ d ∧ d ≤ 9
  lead : 0 < k → 10 ^ (k - 1) ≤ M
  near : isRN (ofD D * 10 ^ i * 2 ^ S) (10 ^ (j + k + 1)) a
  less : ¬ isRN (M * 10 ^ i * 2 ^ S) (10 ^ (j + k)) a
  more : ¬ isRN ((M + 1) * 10 ^ i * 2 ^ S) (10 ^ (j + k)) a
end Go.Proofs.YtnhmmjogfkjceaaGreatDoor
namespace Go.Proofs.YtnhmmjogfkjceaaGreatDoor
open Go.Sl
theorem ten_310 {e : Nat} (h : e ≤ 1025) : ∃ k, k = 310 ∧ 2 ^ e ≤ 10 ^ k := by
 obtain ⟨m, hm⟩ : ∃ m : Nat, m = 5 := ⟨_, rfl⟩
 refine ⟨62 * m, by omega, ?_⟩
 refine Nat.le_trans (Nat.pow_le_pow_right (by decide) (show e ≤ 205 * m by omega)) ?_
 rw [Nat.pow_mul, Nat.pow_mul]
 exact Nat.pow_le_pow_left (by decide) m
theorem ten_330 {e : Nat} (h : e ≤ 1090) : ∃ k, k = 330 ∧ 2 ^ e ≤ 10 ^ k := by
 obtain ⟨m, hm⟩ : ∃ m : Nat, m = 10 := ⟨_, rfl⟩
 refine ⟨33 * m, by omega, ?_⟩
 refine Nat.le_trans (Nat.pow_le_pow_right (by decide) (show e ≤ 109 * m by omega)) ?_
 rw [Nat.pow_mul, Nat.pow_mul]
 exact Nat.pow_le_pow_left (by decide) m
def okC (x : UInt8) : Prop := isDig x = true ∨ x = 46 ∨ x = 101 ∨ x = 43 ∨ x = 45
theorem okC.bl {x : UInt8} (h : okC x) : isBl x = false := by
 rcases h with q | q | q | q | q
 · exact isDig_bl q
 all_goals (subst q; rfl)
theorem okC.ne {x : UInt8} (h : okC x) : x ≠ 120 ∧ x ≠ 88 ∧ x ≠ 73 := by
 rcases h with q | q | q | q | q
 · have := isDig_ne q; exact ⟨this.2.2.2.2.2.2.1, this.2.2.2.2.2.2.2, this.2.2.2.2.2.1⟩
 all_goals (subst q; decide)
def Tail (T : Bytes) (z : Int) : Prop := (T = [] ∧ z = 0) ∨ ∃ r, T = 101 :: r ∧ powN 0 ((wayP r).2.takeWhile isDig) * (wayP r).1 = z ∧ (wayP r).2.takeWhile isDig ≠ [] ∧ (wayP r).2.dropWhile isDig = [] ∧ ∀ x ∈ r, okC x ∧ x ≠ 46
theorem Tail.ok {T : Bytes} {z : Int} (h : Tail T z) : ∀ x ∈ T, okC x := by
 rcases h with ⟨h, _⟩ | ⟨r, h, _, _, _, hr⟩
 · rw [h]; intro x hx; cases hx
 · rw [h]; intro x hx
   rcases List.mem_cons.1 hx with q | q
   · exact .inr (.inr (.inl q))
   · exact (hr x q).1
section
variable {a S : Nat} {D : Bytes} {p : Int} {i j k M d : Nat} {Q : Bytes} (hS : S = 1074) (h0 : 0 < a) (ha : a < 9218868437227405312) (h : Short a S D p i j k M d Q)
include h
theorem Short.length : D.length = k + 1 := by rw [h.cut, List.length_append, h.len]; rfl
theorem Short.first : ∃ c r, D = c :: r ∧ 49 ≤ c.toNat ∧ isDig c = true := by
  have hd := h.digs
  have hc := h.cut
  cases hQ : Q with
  | nil =>
    rw [hQ] at hc
    have := digC_dig (d := d) (by have := h.last; omega)
    exact ⟨digC d, [], by rw [hc]; rfl, by rw [this.2]; have := h.last; omega, this.1⟩
  | cons c r =>
    rw [hQ, List.cons_append] at hc
    have hcd : isDig c = true := hd c (by rw [hc]; exact List.mem_cons_self ..)
    have hl := h.len
    have hw := h.worth
    rw [hQ] at hl hw
    have hk : k = r.length + 1 := hl.symm
    have hlead := h.lead (by omega)
    rw [← hw, hk, Nat.add_sub_cancel, ofD_cons] at hlead
    have hlt := ofD_lt _ r rfl fun x hx => isDig_in (hd x (by rw [hc]; exact List.mem_cons_of_mem _ (List.mem_append.2 (.inl hx))))
    refine ⟨c, _, hc, ?_, hcd⟩
    have hc2 := isDig_in hcd
    rcases Nat.lt_or_ge 48 c.toNat with q | q
    · exact q
    · rw [show c.toNat - 48 = 0 by omega, Nat.zero_mul, Nat.zero_add] at hlead
      omega
include hS h0 ha
theorem Short.range : -400 ≤ p ∧ p ≤ 400 := by
 obtain ⟨c, r, hD, hc, -⟩ := h.first
 have hlen := h.length
 have hr : r.length = k := by rw [hD] at hlen; simpa using hlen
 have hlo : 10 ^ k ≤ ofD D := by rw [hD, ← hr]; exact ofD_lead hc
 have hhi := ofD_lt _ D rfl fun x hx => isDig_in (h.digs x hx)
 rw [hlen] at hhi
 have hp := h.pow
 have q10 : ∀ n : Nat, 0 < 10 ^ n := fun n => Nat.pow_pos (by decide)
 have q2 : ∀ n : Nat, 0 < 2 ^ n := fun n => Nat.two_pow_pos n
 apply Classical.byContradiction
 intro hn
 rcases Int.lt_or_le 400 p with hb | hb
 · have : isRN (ofD D * 10 ^ i * 2 ^ S) (10 ^ (j + k + 1)) 9218868437227405312 := by
     apply isRN_inf (q10 _)
     obtain ⟨n, hn, hv⟩ := valF_inf
     obtain ⟨t, ht, hp2⟩ := ten_310 (e := n - S) (by omega)
     rw [hv, show n = (n - S) + S by omega, Nat.pow_add 2, ← Nat.mul_assoc]
     refine Nat.mul_le_mul_right _ ?_
     refine Nat.le_trans (Nat.mul_le_mul_left _ hp2) ?_
     rw [← Nat.pow_add]
     refine Nat.le_trans ?_ (Nat.mul_le_mul_right _ hlo)
     rw [← Nat.pow_add]
     exact Nat.pow_le_pow_right (by decide) (by omega)
   have := isRN_uniq (q10 _) h.near this
   omega
 · have : isRN (ofD D * 10 ^ i * 2 ^ S) (10 ^ (j + k + 1)) 0 := by
     apply isRN_none
     obtain ⟨t, ht, hp2⟩ := ten_330 (e := S + 1) (by omega)
     have e1 : 2 * (ofD D * 10 ^ i * 2 ^ S) = ofD D * 10 ^ i * 2 ^ (S + 1) := by rw [Nat.pow_succ, Nat.mul_left_comm, Nat.mul_comm 2]
     have e2 : ofD D * 10 ^ i * 2 ^ (S + 1) < 10 ^ (k + 1) * 10 ^ i * 2 ^ (S + 1) := Nat.mul_lt_mul_of_pos_right (Nat.mul_lt_mul_of_pos_right hhi (q10 _)) (q2 _)
     have e3 : 10 ^ (k + 1) * 10 ^ i * 2 ^ (S + 1) ≤ 10 ^ (k + 1) * 10 ^ i * 10 ^ t := Nat.mul_le_mul_left _ hp2
     rw [← Nat.pow_add, ← Nat.pow_add] at e3
     have e4 : (10 : Nat) ^ (k + 1 + i + t) ≤ 10 ^ (j + k + 1) := Nat.pow_le_pow_right (by decide) (by omega)
     rw [← Nat.pow_add] at e2
     omega
   have := isRN_uniq (q10 _) h.near this
   omega
end
end Go.Proofs.YtnhmmjogfkjceaaGreatDoor
namespace Go.Proofs.YtnhmmjogfkjceaaGreatDoor
open Go.Sl
theorem expP_pos (a : Nat) : 1 ≤ expP a := by unfold expP; split <;> omega
theorem valF_man (a : Nat) : valF a = manP a * 2 ^ (expP a - 1) := by
 obtain ⟨q1, q2, q3⟩ := a_parts a
 have := valF_mk (K := expP a - 1) (g := manP a) (by omega) q3
 rw [← q1] at this
 exact this
theorem valF_man1 (a : Nat) : valF a + valF (a + 1) = (2 * manP a + 1) * 2 ^ (expP a - 1) := by
 obtain ⟨q1, q2, q3⟩ := a_parts a
 have h1 : valF (a + 1) = (manP a + 1) * 2 ^ (expP a - 1) := by
   rw [show a + 1 = (expP a - 1) * 4503599627370496 + (manP a + 1) by omega]; exact valF_mk (by omega) (by omega)
 rw [valF_man, h1, ← Nat.add_mul]
 congr 1
 omega
theorem cmp_iff (a b : Nat) : (0 ≤ cmpN a b ↔ b ≤ a) ∧ (0 < cmpN a b ↔ b < a) ∧ (cmpN a b = 0 ↔ a = b) := by
 unfold cmpN
 split
 · omega
 · split <;> omega
def againstP (p q m : Nat) (e : Int) : Int := cmpN (p * 2 ^ (-e).toNat) (q * 2 ^ e.toNat * m)
theorem against_cmp {p q m x y : Nat} {e : Int} (h : (-e).toNat + y = x + e.toNat) : (0 ≤ againstP p q m e ↔ q * m * 2 ^ y ≤ p * 2 ^ x) ∧ (0 < againstP p q m e ↔ q * m * 2 ^ y < p * 2 ^ x) ∧ (againstP p q m e = 0 ↔ q * m * 2 ^ y = p * 2 ^ x) := by
 unfold againstP
 have h1 := cmp_iff (p * 2 ^ (-e).toNat) (q * 2 ^ e.toNat * m)
 rw [Nat.mul_right_comm q] at h1 ⊢
 have a1 := pow_cmp (A := q * m) (B := p) (x := e.toNat) (y := (-e).toNat) (x' := y) (y' := x) (by omega)
 have a2 := pow_cmp (A := p) (B := q * m) (x := (-e).toNat) (y := e.toNat) (x' := x) (y' := y) (by omega)
 have a3 := pow_cmp_eq (A := q * m) (B := p) (x := e.toNat) (y := (-e).toNat) (x' := y) (y' := x) (by omega)
 rw [h1.1, h1.2.1, h1.2.2, a1]
 refine ⟨?_, Iff.rfl, ?_⟩
 · rw [← Nat.not_lt, a2, Nat.not_lt]
 · rw [eq_comm, a3]
theorem against_val {p q a S : Nat} (hS : S = 1074) : 0 ≤ againstP p q (manP a) ((expP a : Int) - 1075) ↔ q * valF a ≤ p * 2 ^ S := by
 have h := expP_pos a
 rw [(against_cmp (x := S) (y := expP a - 1) (by omega)).1, valF_man, Nat.mul_assoc]
theorem against_mid {p q a S : Nat} (hS : S = 1074) : (0 < againstP p q (2 * manP a + 1) ((expP a : Int) - 1075 - 1) ↔ q * (valF a + valF (a + 1)) < 2 * (p * 2 ^ S)) ∧ (againstP p q (2 * manP a + 1) ((expP a : Int) - 1075 - 1) = 0 ↔ q * (valF a + valF (a + 1)) = 2 * (p * 2 ^ S)) := by
 have h := expP_pos a
 have h1 := against_cmp (p := p) (q := q) (m := 2 * manP a + 1) (e := (expP a : Int) - 1075 - 1) (x := S + 1) (y := expP a - 1) (by omega)
 rw [valF_man1, h1.2.1, h1.2.2, Nat.mul_assoc, show p * 2 ^ (S + 1) = 2 * (p * 2 ^ S) by rw [Nat.pow_succ, ← Nat.mul_assoc, Nat.mul_comm]]
 exact ⟨Iff.rfl, Iff.rfl⟩
theorem near10_end {p q a S : Nat} {up : Prop} [Decidable up] (hp : 0 < p) (hq : 0 < q) (hS : S = 1074) (hb : bitsN p ≤ 4900) (hb2 : bitsN q ≤ 4900) (ha : a < 9218868437227405312) (h3 : q * valF a ≤ p * 2 ^ S)
   (h4 : 9218868437227405312 ≤ a + 1 ∨ p * 2 ^ S < q * valF (a + 1)) (hup : up ↔ (0 < againstP p q (2 * manP a + 1) ((expP a : Int) - 1075 - 1) ∨ (againstP p q (2 * manP a + 1) ((expP a : Int) - 1075 - 1) = 0 ∧ a % 2 = 1))) :
   roundN p q = if up then a + 1 else a := by
 refine isRN_uniq hq (round_spec hp hq hS hb hb2) ?_
 rw [(against_mid hS).1, (against_mid hS).2] at hup
 by_cases h5 : p * 2 ^ S < q * valF (a + 1)
 · have h6 := isRN_between hq ha h3 h5
   by_cases hu : up
   · rw [if_pos (hup.1 hu)] at h6; rw [if_pos hu]; exact h6
   · rw [if_neg fun z => hu (hup.2 z)] at h6; rw [if_neg hu]; exact h6
 · have h7 : a + 1 = 9218868437227405312 := by omega
   have h8 : up := hup.2 (.inl (by
     have : q * valF a < q * valF (a + 1) := Nat.mul_lt_mul_of_pos_left (valF_lt a) hq
     rw [Nat.mul_add]; omega))
   rw [if_pos h8, h7]
   rw [h7] at h5
   exact isRN_inf hq (by omega)
theorem any_take {Y : Bytes} {i : Nat} {c : UInt8} (h : Y[i]? = some c) (hi : 800 ≤ i) : ((Y.take (i + 1)).drop 800).any (· != 48) = (((Y.take i).drop 800).any (· != 48) || (c != 48)) := by
 have hl := (List.getElem?_eq_some_iff.1 h).1
 rw [List.take_add_one, h, List.drop_append_of_le_length (by rw [List.length_take]; omega), List.any_append]
 simp
theorem cutD_lost {Y : Bytes} {P : Int} (h : Y.length > 800) (ha : (Y.drop 800).any (· != 48) = true) : cutD Y P = (Y.take 800 ++ [49], P + (Y.length : Int) - 800 - 1) := by
 unfold cutD; rw [if_pos h, if_pos ha]; congr 1; omega
theorem cutD_kept {Y : Bytes} {P : Int} (h : Y.length > 800) (ha : (Y.drop 800).any (· != 48) = false) : cutD Y P = (Y.take 800, P + (Y.length : Int) - 800) := by
 unfold cutD; rw [if_pos h, if_neg (by rw [ha]; decide)]; congr 1; omega
theorem strip_head {Y : Bytes} {c : UInt8} (h : Y[0]? = some c) (hc : c = 48) : (Y.drop 1).dropWhile (· == 48) = Y.dropWhile (· == 48) := by
 cases Y with
 | nil => cases h
 | cons d r => cases h; subst hc; rfl
theorem strip_stop {Y : Bytes} {c : UInt8} (h : Y[0]? = some c) (hc : c ≠ 48) : Y.dropWhile (· == 48) = Y := by
 cases Y with
 | nil => cases h
 | cons d r => cases h; rw [List.dropWhile_cons, if_neg (by simpa using hc)]
theorem cut_pos {L : Bytes} {P : Int} (hd : ∀ c ∈ L, 48 ≤ c.toNat ∧ c.toNat ≤ 57) (hs : L.dropWhile (· == 48) = L) (hne : (cutD L P).1 ≠ []) : 0 < ofD (cutD L P).1 := by
 cases L with
 | nil => exact absurd rfl hne
 | cons c r =>
   have hc : 49 ≤ c.toNat := by
     have h1 := hd c List.mem_cons_self
     rcases Nat.lt_or_ge 48 c.toNat with q | q
     · exact q
     · have : c = 48 := by apply UInt8.toNat_inj.1; show c.toNat = 48; omega
       subst this
       rw [List.dropWhile_cons, if_pos (by decide)] at hs
       have := dropWhile_len (· == 48) r
       rw [hs, List.length_cons] at this
       omega
   by_cases h : (c :: r).length > 800
   · by_cases ha : ((c :: r).drop 800).any (· != 48) = true
     · rw [cutD_lost h ha]; exact ofD_first hc
     · rw [cutD_kept h (by simpa using ha)]; exact ofD_first hc
   · rw [cutD_no h]; exact ofD_first hc
end Go.Proofs.YtnhmmjogfkjceaaGreatDoor
namespace Go.Proofs.YtnhmmjogfkjceaaGreatDoor
open Go.Sl
theorem tw_step {X : Bytes} {i : Nat} {c : UInt8} (h : X[i]? = some c) (hc : isDig c = true) : ((X.drop i).takeWhile isDig).length = ((X.drop (i + 1)).takeWhile isDig).length + 1 := by
 rw [drop_at h, List.takeWhile_cons, if_pos hc]; rfl
theorem tw_stop {X : Bytes} {i : Nat} (h : X.length ≤ i ∨ ∃ c, X[i]? = some c ∧ isDig c = false) : ((X.drop i).takeWhile isDig).length = 0 := by
 rcases h with h | ⟨c, h, hc⟩
 · rw [List.drop_of_length_le h]; rfl
 · rw [drop_at h, List.takeWhile_cons, if_neg (by rw [hc]; decide)]; rfl
theorem dig_yes {c : UInt8} (h1 : (c.toNat : Int) ≥ 48) (h2 : (c.toNat : Int) ≤ 57) : isDig c = true := by unfold isDig; exact decide_eq_true (by omega)
theorem dig_no {c : UInt8} (h : ¬ ((c.toNat : Int) ≥ 48 ∧ (c.toNat : Int) ≤ 57)) : isDig c = false := by unfold isDig; exact decide_eq_false (by omega)
theorem drop_tw (X : Bytes) : X.drop (X.takeWhile isDig).length = X.dropWhile isDig := by
 conv => lhs; rw [← List.takeWhile_append_dropWhile (p := isDig) (l := X)]
 rw [List.takeWhile_append_dropWhile]
 conv => lhs; arg 2; rw [← List.takeWhile_append_dropWhile (p := isDig) (l := X)]
 rw [List.drop_left']
 rfl
theorem dot_iff {X : Bytes} (h : (decP X).2 = true) : 46 ∈ X ↔ ∃ r, X.dropWhile isDig = 46 :: r := by
 have e : X = X.takeWhile isDig ++ X.dropWhile isDig := (List.takeWhile_append_dropWhile ..).symm
 have h1 : (46 : UInt8) ∉ X.takeWhile isDig := fun q => by have := takeWhile_dig q; exact absurd this.1 (by decide)
 constructor
 · intro hm
   rw [e, List.mem_append] at hm
   rcases hm with hm | hm
   · exact absurd hm h1
   · cases hR : X.dropWhile isDig with
     | nil => rw [hR] at hm; cases hm
     | cons c r =>
       by_cases hc : c = 46
       · exact ⟨r, by rw [hc]⟩
       · exfalso
         have hf : fracP (X.dropWhile isDig) = ([], c :: r) := by rw [hR]; unfold fracP; split; · next q => injection q with q1 q2; exact absurd q1 hc
                                                                  · rfl
         by_cases ha : X.takeWhile isDig = []
         · rw [decP_none (A := X.takeWhile isDig) (B := []) rfl (by rw [hf]) ⟨ha, rfl⟩] at h; cases h
         · by_cases hx : c = 101 ∨ c = 69
           · rw [decP_pow (A := X.takeWhile isDig) (B := []) (R := c :: r) (c := c) (r := r) rfl (by rw [hf]) (by rw [hf]) (fun q => ha q.1) rfl hx] at h
             have h2 := of_decide_eq_true h
             rw [hR] at hm
             rcases List.mem_cons.1 hm with q | q
             · exact hc q.symm
             · -- 46 stands in r: neither a sign nor a digit
               have hr : r = (if r.head? = some 43 ∨ r.head? = some 45 then r.take 1 else []) ++ (wayP r).2 := by
                 cases r with
                 | nil => rfl
                 | cons d t =>
                   by_cases hd : d = 43 ∨ d = 45
                   · rw [wayP_at hd, if_pos (by rcases hd with rfl | rfl <;> simp)]; rfl
                   · rw [wayP_no hd, if_neg (by simpa using hd)]; rfl
               have hw : (46 : UInt8) ∉ (wayP r).2 := by
                 intro q2
                 rw [← List.takeWhile_append_dropWhile (p := isDig) (l := (wayP r).2), h2.2, List.append_nil] at q2
                 exact absurd (takeWhile_dig q2).1 (by decide)
               rw [hr, List.mem_append] at q
               rcases q with q | q
               · split at q
                 · next hh =>
                   cases r with
                   | nil => cases q
                   | cons d t =>
                     have : (46 : UInt8) = d := by simpa using q
                     subst this
                     simp at hh
                 · cases q
               · exact hw q
           · rw [decP_other (A := X.takeWhile isDig) (B := []) (R := c :: r) (c := c) (r := r) rfl (by rw [hf]) (by rw [hf]) (fun q => ha q.1) rfl (by constructor <;> (intro q; exact hx (by simp [q])))] at h
             cases h
 · rintro ⟨r, hr⟩
   rw [e, hr]
   simp
end Go.Proofs.YtnhmmjogfkjceaaGreatDoor
namespace Go.Proofs.YtnhmmjogfkjceaaGreatDoor
open Go.Sl
theorem is43 {c : UInt8} (h : (c.toNat : Int) = 43) : c = 43 := (u8_eq (n := 43) (by decide)).1 h
theorem no43 {c : UInt8} (h : ¬ (c.toNat : Int) = 43) : ¬ c = 43 := fun q => h ((u8_eq (n := 43) (by decide)).2 q)
theorem is45 {c : UInt8} (h : (c.toNat : Int) = 45) : c = 45 := (u8_eq (n := 45) (by decide)).1 h
theorem no45 {c : UInt8} (h : ¬ (c.toNat : Int) = 45) : ¬ c = 45 := fun q => h ((u8_eq (n := 45) (by decide)).2 q)
theorem is46 {c : UInt8} (h : (c.toNat : Int) = 46) : c = 46 := (u8_eq (n := 46) (by decide)).1 h
theorem no46 {c : UInt8} (h : ¬ (c.toNat : Int) = 46) : ¬ c = 46 := fun q => h ((u8_eq (n := 46) (by decide)).2 q)
theorem is48 {c : UInt8} (h : (c.toNat : Int) = 48) : c = 48 := (u8_eq (n := 48) (by decide)).1 h
theorem is69 {c : UInt8} (h : (c.toNat : Int) = 69) : c = 69 := (u8_eq (n := 69) (by decide)).1 h
theorem no69 {c : UInt8} (h : ¬ (c.toNat : Int) = 69) : ¬ c = 69 := fun q => h ((u8_eq (n := 69) (by decide)).2 q)
theorem is101 {c : UInt8} (h : (c.toNat : Int) = 101) : c = 101 := (u8_eq (n := 101) (by decide)).1 h
theorem no101 {c : UInt8} (h : ¬ (c.toNat : Int) = 101) : ¬ c = 101 := fun q => h ((u8_eq (n := 101) (by decide)).2 q)
theorem pre_dot_iff {D : Bytes} : Lib.hasPrefix D [46] = true ↔ ∃ r, D = 46 :: r := by
 constructor
 · exact pre_dot
 · rintro ⟨r, rfl⟩; rfl
theorem pre46 {R : Bytes} {c : UInt8} (h : R[0]? = some c) : Lib.hasPrefix R [46] = ((c.toNat : Int) == 46) := by
 rw [Bool.eq_iff_iff, pre_dot_iff, beq_iff_eq, show ((c.toNat : Int) = 46 ↔ c = 46) from u8_eq (n := 46) (by decide)]
 constructor
 · rintro ⟨r, rfl⟩; simpa using h.symm
 · rintro rfl; exact ⟨_, cons_of_at h⟩
theorem pre_mem {X : Bytes} (h : (decP X).2 = true) {b : Bool} (hb : Lib.hasPrefix (X.dropWhile isDig) [46] = b) : b = decide (46 ∈ X) := by
 rw [← hb, Bool.eq_iff_iff, decide_eq_true_iff, dot_iff h, pre_dot_iff]
theorem tw_full (W : Bytes) : (W.takeWhile isDig).length = W.length ↔ W.dropWhile isDig = [] := by
 have e := congrArg List.length (List.takeWhile_append_dropWhile (p := isDig) (l := W))
 rw [List.length_append] at e
 rw [← List.length_eq_zero_iff]
 omega
theorem pow_ok {W : Bytes} (h : ((W.takeWhile isDig).length : Int) > 0) : ((((W.takeWhile isDig).length : Nat) : Int) == (W.length : Int)) = decide (W.takeWhile isDig ≠ [] ∧ W.dropWhile isDig = []) := by
 rw [Bool.eq_iff_iff, decide_eq_true_iff, ← tw_full, beq_iff_eq]
 constructor
 · intro q; exact ⟨fun z => by rw [z] at h; simp at h, by omega⟩
 · rintro ⟨-, q⟩; omega
theorem pow_no {W : Bytes} (h : ¬ ((W.takeWhile isDig).length : Int) > 0) : false = decide (W.takeWhile isDig ≠ [] ∧ W.dropWhile isDig = []) := by
 rw [eq_comm, decide_eq_false_iff_not]
 rintro ⟨q, -⟩
 exact q (List.length_eq_zero_iff.1 (by omega))
def notE (c : UInt8) : Bool := decide (c ≠ 101 ∧ c ≠ 69)
def pstep (st : Bytes × Nat × Bool) (c : UInt8) : Bytes × Nat × Bool := if c = 46 then (st.1, st.2.1, true) else (st.1 ++ [c], (if st.2.2 = true then st.2.1 + 1 else st.2.1), st.2.2)
def qstep (st : Int × Int) (c : UInt8) : Int × Int := if c = 45 then (st.1, -1) else if c = 43 then st else (min (10 * st.1 + ((c.toNat : Int) - 48)) 1000000000, st.2)
theorem fold_step {α : Type} {f : α → UInt8 → α} {a : α} {X : Bytes} {i : Nat} {c : UInt8} (h : X[i]? = some c) : (X.take (i + 1)).foldl f a = f ((X.take i).foldl f a) c := by
 rw [List.take_add_one, h, List.foldl_append]; rfl
theorem dig_ne46 {c : UInt8} (h : isDig c = true) : c ≠ 46 := (isDig_ne h).2.2.1
theorem p_fold : ∀ (A : Bytes) (d : Bytes) (b : Nat) (t : Bool), (∀ c ∈ A, isDig c = true) → A.foldl pstep (d, b, t) = (d ++ A, (if t = true then b + A.length else b), t)
 | [], d, b, t, h => by simp
 | c :: r, d, b, t, h => by
   rw [List.foldl_cons]
   have : pstep (d, b, t) c = (d ++ [c], (if t = true then b + 1 else b), t) := by unfold pstep; rw [if_neg (dig_ne46 (h c List.mem_cons_self))]
   rw [this, p_fold r _ _ _ fun x hx => h x (List.mem_cons_of_mem _ hx)]
   cases t <;> simp [Nat.add_comm, Nat.add_left_comm]
theorem notE_dig {c : UInt8} (h : isDig c = true) : notE c = true := by
 have := isDig_ne h
 unfold notE
 exact decide_eq_true ⟨this.2.2.2.1, this.2.2.2.2.1⟩
theorem tw_app {p : UInt8 → Bool} : ∀ {A : Bytes} (R : Bytes), (∀ c ∈ A, p c = true) → (A ++ R).takeWhile p = A ++ R.takeWhile p
 | [], R, h => rfl
 | c :: r, R, h => by
   rw [List.cons_append, List.takeWhile_cons, if_pos (h c List.mem_cons_self), tw_app R fun x hx => h x (List.mem_cons_of_mem _ hx)]; rfl
theorem tw_notE {r : Bytes} {c : UInt8} (h : c = 101 ∨ c = 69) : (c :: r).takeWhile notE = [] := by
 rw [List.takeWhile_cons, if_neg (by unfold notE; simp; intro q; rcases h with h | h; exact absurd h q; exact h)]
theorem dec_cut {X : Bytes} (h : (decP X).2 = true) : ∃ (A F B T : Bytes) (V : Nat) (w : Int), X = A ++ (F ++ T) ∧ (decP X).1 = ⟨A, B, min (V : Int) 1099511627776 * w⟩ ∧ (∀ c ∈ A, isDig c = true) ∧ (∀ c ∈ B, isDig c = true) ∧
   ((F = [] ∧ B = []) ∨ F = 46 :: B) ∧ (w = 1 ∨ w = -1) ∧ (∀ c ∈ T.drop 1, c = 43 ∨ c = 45 ∨ isDig c = true) ∧ (T.drop 1).foldl qstep (0, 1) = (min (V : Int) 1000000000, w) ∧ T.takeWhile notE = [] := by
 have e : X = X.takeWhile isDig ++ X.dropWhile isDig := (List.takeWhile_append_dropWhile ..).symm
 have hA : ∀ c ∈ X.takeWhile isDig, isDig c = true := fun c hc => takeWhile_all isDig hc
 obtain ⟨F, B, T, e2, hB, hF, hf⟩ : ∃ F B T, X.dropWhile isDig = F ++ T ∧ (∀ c ∈ B, isDig c = true) ∧ ((F = [] ∧ B = []) ∨ F = 46 :: B) ∧ fracP (X.dropWhile isDig) = (B, T) := by
   by_cases hp : Lib.hasPrefix (X.dropWhile isDig) [46] = true
   · obtain ⟨r, hr⟩ := pre_dot hp
     exact ⟨46 :: r.takeWhile isDig, r.takeWhile isDig, r.dropWhile isDig, by rw [hr, List.cons_append, List.takeWhile_append_dropWhile], fun c hc => takeWhile_all isDig hc, .inr rfl, by rw [hr]; rfl⟩
   · exact ⟨[], [], X.dropWhile isDig, rfl, (fun c hc => by cases hc), .inl ⟨rfl, rfl⟩, fracP_no (by simpa using hp)⟩
 by_cases h0 : X.takeWhile isDig = [] ∧ B = []
 · rw [decP_none (A := X.takeWhile isDig) (B := B) rfl (by rw [hf]) h0] at h; cases h
 cases T with
 | nil =>
   refine ⟨X.takeWhile isDig, F, B, [], 0, 1, by rw [← e2]; exact e, ?_, hA, hB, hF, .inl rfl, (fun c hc => by cases hc), rfl, rfl⟩
   rw [decP_end (A := X.takeWhile isDig) (B := B) rfl (by rw [hf]) (by rw [hf]) h0 rfl]; rfl
 | cons c r =>
   by_cases hx : c = 101 ∨ c = 69
   · have hd := decP_pow (A := X.takeWhile isDig) (B := B) rfl (by rw [hf]) (by rw [hf]) h0 rfl hx
     rw [hd] at h
     obtain ⟨h1, h2⟩ := of_decide_eq_true h
     have hds : (wayP r).2.takeWhile isDig = (wayP r).2 := by
       have := List.takeWhile_append_dropWhile (p := isDig) (l := (wayP r).2)
       rw [h2, List.append_nil] at this; exact this
     have hdg : ∀ c ∈ (wayP r).2, isDig c = true := fun c hc => takeWhile_all isDig (by rw [hds]; exact hc)
     obtain ⟨V, hV⟩ : ∃ V, V = ofD (wayP r).2 := ⟨_, rfl⟩
     have fold1 : ∀ (l : Bytes) (a : Nat) (w : Int), (∀ c ∈ l, isDig c = true) → l.foldl qstep (min (a : Int) 1000000000, w) = (min ((l.foldl (fun a c => a * 10 + (c.toNat - 48)) a : Nat) : Int) 1000000000, w) := by
       intro l
       induction l with
       | nil => intro a w _; rfl
       | cons d t ih =>
         intro a w hl
         have hd := isDig_in (hl d List.mem_cons_self)
         have hn := isDig_ne (hl d List.mem_cons_self)
         rw [List.foldl_cons, List.foldl_cons]
         have : qstep (min (a : Int) 1000000000, w) d = (min ((a * 10 + (d.toNat - 48) : Nat) : Int) 1000000000, w) := by
           unfold qstep
           rw [if_neg hn.2.1, if_neg hn.1]
           refine Prod.ext ?_ rfl
           show min (10 * min (a : Int) 1000000000 + ((d.toNat : Int) - 48)) 1000000000 = min ((a * 10 + (d.toNat - 48) : Nat) : Int) 1000000000
           omega
         rw [this]
         exact ih _ _ fun x hx => hl x (List.mem_cons_of_mem _ hx)
     have fold2 : ∀ (l : Bytes) (a : Nat), (∀ c ∈ l, isDig c = true) → powN (min (a : Int) 1099511627776) l = min ((l.foldl (fun a c => a * 10 + (c.toNat - 48)) a : Nat) : Int) 1099511627776 := by
       intro l
       induction l with
       | nil => intro a _; rfl
       | cons d t ih =>
         intro a hl
         have hd := isDig_in (hl d List.mem_cons_self)
         rw [List.foldl_cons]
         show powN (min (min (a : Int) 1099511627776 * 10 + ((d.toNat : Int) - 48)) 1099511627776) t = _
         rw [show min (min (a : Int) 1099511627776 * 10 + ((d.toNat : Int) - 48)) 1099511627776 = min ((a * 10 + (d.toNat - 48) : Nat) : Int) 1099511627776 by omega]
         exact ih _ fun x hx => hl x (List.mem_cons_of_mem _ hx)
     have f1 : ∀ w, (wayP r).2.foldl qstep (0, w) = (min (V : Int) 1000000000, w) := fun w => by rw [hV]; exact fold1 _ 0 w hdg
     have f2 : powN 0 (wayP r).2 = min (V : Int) 1099511627776 := by rw [hV]; exact fold2 _ 0 hdg
     refine ⟨X.takeWhile isDig, F, B, c :: r, V, (wayP r).1, by rw [← e2]; exact e, ?_, hA, hB, hF, wayP_in r, ?_, ?_, tw_notE hx⟩
     · rw [hd, hds, f2]
     · rw [List.drop_one, List.tail_cons]
       cases r with
       | nil => intro c hc; cases hc
       | cons d t =>
         by_cases hdd : d = 43 ∨ d = 45
         · rw [wayP_at hdd] at hdg
           intro c hc
           rcases List.mem_cons.1 hc with q | q
           · rw [q]; rcases hdd with z | z
             · exact .inl z
             · exact .inr (.inl z)
           · exact .inr (.inr (hdg c q))
         · rw [wayP_no hdd] at hdg
           intro c hc
           exact .inr (.inr (hdg c hc))
     · rw [List.drop_one, List.tail_cons]
       cases r with
       | nil => exact f1 1
       | cons d t =>
         by_cases hdd : d = 43 ∨ d = 45
         · have := f1 (wayP (d :: t)).1
           rw [wayP_at hdd] at this ⊢
           rw [List.foldl_cons]
           have hq : qstep (0, 1) d = (0, 44 - (d.toNat : Int)) := by rcases hdd with rfl | rfl <;> rfl
           rw [hq]
           exact this
         · have := f1 1
           rw [wayP_no hdd] at this ⊢
           exact this
   · rw [decP_other (A := X.takeWhile isDig) (B := B) rfl (by rw [hf]) (by rw [hf]) h0 rfl (by constructor <;> (intro q; exact hx (by simp [q])))] at h
     cases h
theorem dec_front {A F B T : Bytes} (hA : ∀ c ∈ A, isDig c = true) (hB : ∀ c ∈ B, isDig c = true) (hF : (F = [] ∧ B = []) ∨ F = 46 :: B) (hT : T.takeWhile notE = []) : (A ++ (F ++ T)).takeWhile notE = A ++ F ∧ ∃ t, (A ++ F).foldl pstep ([], 0, false) = (A ++ B, B.length, t) := by
 have h1 : ∀ c ∈ A ++ F, notE c = true := by
   intro c hc
   rcases List.mem_append.1 hc with q | q
   · exact notE_dig (hA c q)
   · rcases hF with ⟨z, -⟩ | z
     · rw [z] at q; cases q
     · rw [z] at q
       rcases List.mem_cons.1 q with y | y
       · rw [y]; rfl
       · exact notE_dig (hB c y)
 refine ⟨by rw [← List.append_assoc, tw_app T h1, hT, List.append_nil], ?_⟩
 rw [List.foldl_append, p_fold A [] 0 false hA]
 rcases hF with ⟨z, y⟩ | z
 · rw [z, y]; exact ⟨false, by simp⟩
 · rw [z, List.foldl_cons]
   have : pstep ([] ++ A, (if false = true then 0 + A.length else 0), false) 46 = (A, 0, true) := by unfold pstep; rw [if_pos rfl]; rfl
   rw [this, p_fold B _ _ _ hB]
   exact ⟨true, by simp⟩
theorem near_sat {L : Bytes} {V b : Nat} {w : Int} (hd : ∀ c ∈ L, 48 ≤ c.toNat ∧ c.toNat ≤ 57) (hl : L.length ≤ 1048576) (hb : b ≤ 1048576) (hw : w = 1 ∨ w = -1) :
   nearD (cutD L (w * min (V : Int) 1000000000 - b)).1 (cutD L (w * min (V : Int) 1000000000 - b)).2 = nearD (cutD L (min (V : Int) 1099511627776 * w - b)).1 (cutD L (min (V : Int) 1099511627776 * w - b)).2 := by
 by_cases hV : (V : Int) ≤ 1000000000
 · rw [show w * min (V : Int) 1000000000 - b = min (V : Int) 1099511627776 * w - b by rw [Int.mul_comm]; congr 2; omega]
 · have h1 := cutD_facts (P := w * min (V : Int) 1000000000 - b) hd
   have h2 := cutD_facts (P := min (V : Int) 1099511627776 * w - b) hd
   have same : (cutD L (w * min (V : Int) 1000000000 - b)).1 = (cutD L (min (V : Int) 1099511627776 * w - b)).1 := by
     unfold cutD
     split
     · split <;> rfl
     · rfl
   rw [same] at h1 ⊢
   generalize (cutD L (min (V : Int) 1099511627776 * w - b)).1 = M at *
   generalize (cutD L (w * min (V : Int) 1000000000 - b)).2 = q1 at *
   generalize (cutD L (min (V : Int) 1099511627776 * w - b)).2 = q2 at *
   by_cases hM : M = []
   · rw [nearD_none (.inl hM), nearD_none (.inl hM)]
   · rcases hw with rfl | rfl
     · rw [nearD_inf hM (by omega) (by omega), nearD_inf hM (by omega) (by omega)]
     · rw [nearD_none (.inr (by omega)), nearD_none (.inr (by omega))]
end Go.Proofs.YtnhmmjogfkjceaaGreatDoor
namespace Go.Proofs.YtnhmmjogfkjceaaGreatDoor
open Go.Sl
def mag (a : Nat) : Nat := a % 9223372036854775808
theorem read64 (a : Nat) (ha : a < 18446744073709551616) : Ieee.double.read a =
   if mag a < 4503599627370496 then .number (decide (9223372036854775808 ≤ a)) (mag a) (-1074)
   else if mag a < 9218868437227405312 then .number (decide (9223372036854775808 ≤ a)) (4503599627370496 + mag a % 4503599627370496) (-1074 + (mag a / 4503599627370496 - 1 : Nat))
   else if mag a = 9218868437227405312 then .infinity (decide (9223372036854775808 ≤ a)) else .nan (decide (9223372036854775808 ≤ a)) (mag a - 9218868437227405312) := by
 have hs : (a / 9223372036854775808 % 2 == 1) = decide (9223372036854775808 ≤ a) := by
   rw [Bool.eq_iff_iff]; simp; omega
 unfold Ieee.Format.read
 rw [show Ieee.double.signWeight = 9223372036854775808 from rfl, show Ieee.double.binade = 4503599627370496 from rfl, show Ieee.double.infRung = 9218868437227405312 from rfl, show Ieee.double.leastPlace = -1074 from rfl]
 simp only [hs]
 rfl
theorem read_fin {a : Nat} (ha : a < 18446744073709551616) (h : mag a < 9218868437227405312) : ∃ m k : Nat, Ieee.double.read a = .number (decide (9223372036854775808 ≤ a)) m ((k : Int) - 1074) ∧ valF (mag a) = m * 2 ^ k ∧ m < 9007199254740992 ∧ k ≤ 2045 := by
 rw [read64 a ha]
 by_cases h1 : mag a < 4503599627370496
 · rw [if_pos h1]
   exact ⟨mag a, 0, rfl, by unfold valF; rw [if_pos h1]; simp, by omega, by omega⟩
 · rw [if_neg h1, if_pos h]
   refine ⟨4503599627370496 + mag a % 4503599627370496, mag a / 4503599627370496 - 1, ?_, by unfold valF; rw [if_neg h1, Nat.add_comm], by omega, by omega⟩
   congr 1 <;> omega
theorem valF_pos {a : Nat} (h : 0 < a) : 0 < valF a := by have := valF_mono_lt h; rw [valF_zero] at this; exact this
theorem valF_eq0 {a : Nat} : valF a = 0 ↔ a = 0 := ⟨fun h => by rcases Nat.eq_zero_or_pos a with z | z; exact z; have := valF_pos z; omega, fun h => by rw [h]; rfl⟩
def valZ (a : Nat) : Int := if 9223372036854775808 ≤ a then -(valF (mag a) : Int) else (valF (mag a) : Int)
theorem signed_val {s : Bool} {m k n b : Nat} (hb : b ≤ k) : Ieee.signed s m (k - b) * 2 ^ b = if s = true then -((m * 2 ^ k : Nat) : Int) else ((m * 2 ^ k : Nat) : Int) := by
 have e : ((m <<< (k - b) : Nat) : Int) * 2 ^ b = ((m * 2 ^ k : Nat) : Int) := by
   rw [Nat.shiftLeft_eq, show (2 : Int) ^ b = ((2 ^ b : Nat) : Int) by simp, ← Int.natCast_mul, Nat.mul_assoc, ← Nat.pow_add, show k - b + b = k by omega]
 unfold Ieee.signed
 split
 · rw [Int.neg_mul, e]
 · exact e
theorem order_fin {a b : Nat} (ha : a < 18446744073709551616) (hb : b < 18446744073709551616) (h1 : mag a < 9218868437227405312) (h2 : mag b < 9218868437227405312) : Ieee.double.order a b = some (compare (valZ a) (valZ b)) := by
 obtain ⟨m, k, r1, v1, -, -⟩ := read_fin ha h1
 obtain ⟨n, l, r2, v2, -, -⟩ := read_fin hb h2
 unfold Ieee.Format.order
 rw [r1, r2]
 show some (compare (Ieee.signed _ m (((k : Int) - 1074) - min ((k : Int) - 1074) ((l : Int) - 1074)).toNat) (Ieee.signed _ n (((l : Int) - 1074) - min ((k : Int) - 1074) ((l : Int) - 1074)).toNat)) = _
 obtain ⟨c, hc⟩ : ∃ c : Nat, c = min k l := ⟨_, rfl⟩
 rw [show (((k : Int) - 1074) - min ((k : Int) - 1074) ((l : Int) - 1074)).toNat = k - c by omega, show (((l : Int) - 1074) - min ((k : Int) - 1074) ((l : Int) - 1074)).toNat = l - c by omega]
 have e1 := signed_val (s := decide (9223372036854775808 ≤ a)) (m := m) (k := k) (n := n) (b := c) (by omega)
 have e2 := signed_val (s := decide (9223372036854775808 ≤ b)) (m := n) (k := l) (n := n) (b := c) (by omega)
 have z1 : valZ a = Ieee.signed (decide (9223372036854775808 ≤ a)) m (k - c) * 2 ^ c := by rw [e1]; unfold valZ; rw [v1]; simp only [decide_eq_true_eq]
 have z2 : valZ b = Ieee.signed (decide (9223372036854775808 ≤ b)) n (l - c) * 2 ^ c := by rw [e2]; unfold valZ; rw [v2]; simp only [decide_eq_true_eq]
 rw [z1, z2]
 generalize Ieee.signed (decide (9223372036854775808 ≤ a)) m (k - c) = x
 generalize Ieee.signed (decide (9223372036854775808 ≤ b)) n (l - c) = y
 have hp : (0 : Int) < 2 ^ c := by have := Int.pow_pos (n := 2) (m := c) (by decide); exact this
 congr 1
 have lt : x * 2 ^ c < y * 2 ^ c ↔ x < y := Int.mul_lt_mul_right hp
 have eq : x * 2 ^ c = y * 2 ^ c ↔ x = y := ⟨fun h => Int.eq_of_mul_eq_mul_right (by omega) h, fun h => by rw [h]⟩
 show compareOfLessAndEq x y = compareOfLessAndEq (x * 2 ^ c) (y * 2 ^ c)
 unfold compareOfLessAndEq
 simp only [lt, eq]
theorem order_nan {a b : Nat} (ha : a < 18446744073709551616) (h : mag a > 9218868437227405312) : Ieee.double.order a b = none ∧ Ieee.double.order b a = none := by
 have hr : ∃ s f, Ieee.double.read a = .nan s f := by
   rw [read64 a ha, if_neg (by omega), if_neg (by omega), if_neg (by omega)]
   exact ⟨_, _, rfl⟩
 obtain ⟨s, f, hr⟩ := hr
 unfold Ieee.Format.order
 rw [hr]
 refine ⟨rfl, ?_⟩
 cases Ieee.double.read b <;> rfl
theorem order_inf {a b : Nat} (ha : a < 18446744073709551616) (hb : b < 18446744073709551616) (h : mag a = 9218868437227405312) (h2 : mag b < 9218868437227405312) : Ieee.double.order a b = some (if 9223372036854775808 ≤ a then .lt else .gt) := by
 obtain ⟨m, k, r1, -⟩ := read_fin hb h2
 unfold Ieee.Format.order
 rw [r1, read64 a ha, if_neg (by omega), if_neg (by omega), if_pos h]
 show some (if decide (9223372036854775808 ≤ a) = true then Ordering.lt else .gt) = _
 simp only [decide_eq_true_eq]
theorem order_self {a : Nat} (ha : a < 18446744073709551616) : Ieee.double.order a a = if mag a > 9218868437227405312 then none else some .eq := by
 by_cases h : mag a > 9218868437227405312
 · rw [if_pos h]; exact (order_nan ha h).1
 · rw [if_neg h]
   by_cases h1 : mag a = 9218868437227405312
   · unfold Ieee.Format.order
     rw [read64 a ha, if_neg (by omega), if_neg (by omega), if_pos h1]
     show some (compare _ _) = some .eq
     cases decide (9223372036854775808 ≤ a) <;> rfl
   · rw [order_fin ha ha (by omega) (by omega)]
     congr 1
     show compareOfLessAndEq (valZ a) (valZ a) = .eq
     unfold compareOfLessAndEq
     rw [if_neg (by omega), if_pos rfl]
theorem cmp_eq_iff (x y : Int) : (some (compare x y) == some Ordering.eq) = decide (x = y) ∧ (some (compare x y) == some Ordering.lt) = decide (x < y) ∧ (some (compare x y) == some Ordering.gt) = decide (y < x) := by
 show (some (compareOfLessAndEq x y) == _) = _ ∧ (some (compareOfLessAndEq x y) == _) = _ ∧ (some (compareOfLessAndEq x y) == _) = _
 unfold compareOfLessAndEq
 by_cases h1 : x < y
 · rw [if_pos h1, decide_eq_false (show ¬ x = y by omega), decide_eq_true h1, decide_eq_false (show ¬ y < x by omega)]
   exact ⟨rfl, rfl, rfl⟩
 · rw [if_neg h1]
   by_cases h2 : x = y
   · rw [if_pos h2, decide_eq_true h2, decide_eq_false h1, decide_eq_false (show ¬ y < x by omega)]
     exact ⟨rfl, rfl, rfl⟩
   · rw [if_neg h2, decide_eq_false h2, decide_eq_false h1, decide_eq_true (show y < x by omega)]
     exact ⟨rfl, rfl, rfl⟩
theorem valZ_0 : valZ 0 = 0 := rfl
theorem f_nan {a : Nat} (ha : a < 18446744073709551616) : (Ieee.double.order a a != some .eq) = decide (mag a > 9218868437227405312) := by
 rw [order_self ha]
 by_cases h : mag a > 9218868437227405312
 · rw [if_pos h, decide_eq_true h]; rfl
 · rw [if_neg h, decide_eq_false h]; rfl
theorem f_eq0 {a : Nat} (ha : a < 18446744073709551616) : (Ieee.double.order a 0 == some .eq) = decide (mag a = 0) := by
 rcases Nat.lt_trichotomy (mag a) 9218868437227405312 with h | h | h
 · rw [order_fin ha (by decide) h (by decide), (cmp_eq_iff _ _).1, valZ_0]
   apply decide_eq_decide.2
   rw [← valF_eq0]
   unfold valZ
   split <;> omega
 · rw [order_inf ha (by decide) h (by decide), decide_eq_false (by omega)]
   split <;> rfl
 · rw [(order_nan ha h).1, decide_eq_false (by omega)]; rfl
end Go.Proofs.YtnhmmjogfkjceaaGreatDoor
namespace Go.Proofs.YtnhmmjogfkjceaaGreatDoor
open Go.Sl
theorem cut_even (s : Bool) (n drop : Nat) : Ieee.Toward.even.cut s n drop = if 2 ^ drop < 2 * (n % 2 ^ drop) ∨ (2 ^ drop = 2 * (n % 2 ^ drop) ∧ n / 2 ^ drop % 2 = 1) then n / 2 ^ drop + 1 else n / 2 ^ drop := by
 have key : Ieee.Toward.even.cut s n drop = if 2 ^ min drop (n.log2 + 2) < 2 * (n % 2 ^ min drop (n.log2 + 2)) ∨ (2 ^ min drop (n.log2 + 2) = 2 * (n % 2 ^ min drop (n.log2 + 2)) ∧ n / 2 ^ min drop (n.log2 + 2) % 2 = 1) then n / 2 ^ min drop (n.log2 + 2) + 1 else n / 2 ^ min drop (n.log2 + 2) := by
   unfold Ieee.Toward.cut
   simp only [Nat.one_shiftLeft]
   generalize 2 ^ min drop (n.log2 + 2) = g
   by_cases h1 : g < 2 * (n % g)
   · simp [h1]
   · by_cases h2 : g = 2 * (n % g)
     · by_cases h3 : n / g % 2 = 1
       · rw [if_pos (.inr ⟨h2, h3⟩)]
         simp [h1, ← h2, h3]
       · rw [if_neg (by omega)]
         simp [h1, h3]
     · rw [if_neg (by omega)]
       simp [h1, h2]
 rw [key]
 by_cases hd : drop ≤ n.log2 + 2
 · rw [Nat.min_eq_left hd]
 · rw [Nat.min_eq_right (by omega)]
   have h1 : n < 2 ^ (n.log2 + 1) := Nat.lt_log2_self
   have h2 : 2 ^ (n.log2 + 2) = 2 * 2 ^ (n.log2 + 1) := by rw [Nat.pow_succ]; omega
   have h3 : 2 ^ (n.log2 + 2) ≤ 2 ^ drop := Nat.pow_le_pow_right (by decide) (by omega)
   rw [Nat.mod_eq_of_lt (show n < 2 ^ (n.log2 + 2) by omega), Nat.mod_eq_of_lt (show n < 2 ^ drop by omega), Nat.div_eq_of_lt (show n < 2 ^ (n.log2 + 2) by omega), Nat.div_eq_of_lt (show n < 2 ^ drop by omega)]
   rw [if_neg (by omega), if_neg (by omega)]
theorem double_word (s : Bool) (r : Nat) : Ieee.double.word s r = if s = true then 9223372036854775808 + r else r := by
 cases s <;> rfl
theorem isRN_cut {X q g u : Nat} {up : Prop} [Decidable up] (hq : 0 < q) (h1 : q * (g * 2 ^ u) ≤ X) (h2 : X < q * ((g + 1) * 2 ^ u)) (hg : g < 9007199254740992) (hgg : u = 0 ∨ 4503599627370496 ≤ g)
   (hup : up ↔ (q * ((2 * g + 1) * 2 ^ u) < 2 * X ∨ (q * ((2 * g + 1) * 2 ^ u) = 2 * X ∧ g % 2 = 1))) : isRN X q (min (u * 4503599627370496 + (if up then g + 1 else g)) 9218868437227405312) := by
 have v1 : valF (u * 4503599627370496 + g) = g * 2 ^ u := valF_mk (by omega) hgg
 have v2 : valF (u * 4503599627370496 + g + 1) = (g + 1) * 2 ^ u := by rw [Nat.add_assoc]; exact valF_mk (by omega) (by omega)
 by_cases hinf : u * 4503599627370496 + g < 9218868437227405312
 · have hb := isRN_between hq hinf (by rw [v1]; exact h1) (by rw [v2]; exact h2)
   have hm : q * (valF (u * 4503599627370496 + g) + valF (u * 4503599627370496 + g + 1)) = q * ((2 * g + 1) * 2 ^ u) := by rw [v1, v2, ← Nat.add_mul, show g + (g + 1) = 2 * g + 1 by omega]
   simp only [hm, show (u * 4503599627370496 + g) % 2 = g % 2 by omega] at hb
   by_cases hu : up
   · rw [if_pos (hup.1 hu)] at hb
     rw [if_pos hu, Nat.min_eq_left (by omega), ← Nat.add_assoc]
     exact hb
   · rw [if_neg fun z => hu (hup.2 z)] at hb
     rw [if_neg hu, Nat.min_eq_left (by omega)]
     exact hb
 · rw [Nat.min_eq_right (by split <;> omega)]
   refine isRN_inf hq (Nat.le_trans (Nat.mul_le_mul_left _ ?_) h1)
   rw [← v1]
   exact valF_mono (by omega)
theorem nearest_isRN (s : Bool) {m k j : Nat} {pl : Int} (hm : 0 < m) (hp : pl = (k : Int) - j - 1074) : ∃ a, Ieee.double.nearest s m pl = (if s = true then 9223372036854775808 + a else a) ∧ isRN (m * 2 ^ k) (2 ^ j) a := by
 unfold Ieee.Format.nearest
 rw [if_neg (by omega)]
 have hL1 : 2 ^ m.log2 ≤ m := Nat.log2_self_le (by omega)
 have hL2 : m < 2 ^ (m.log2 + 1) := Nat.lt_log2_self
 generalize m.log2 = L at *
 rw [show Ieee.double.leastPlace = -1074 from rfl, show Ieee.double.binade = 4503599627370496 from rfl, show Ieee.double.infRung = 9218868437227405312 from rfl, show Ieee.double.fractionBits = 52 from rfl]
 simp only [double_word]
 obtain ⟨u, hu⟩ : ∃ u : Nat, max (pl + (L : Int) - ((52 : Nat) : Int)) (-1074) = (u : Int) - 1074 := ⟨(max (pl + (L : Int) - ((52 : Nat) : Int)) (-1074) + 1074).toNat, by omega⟩
 rw [hu, show ((u : Int) - 1074 - -1074).toNat = u by omega, cut_even]
 obtain ⟨x, hx⟩ : ∃ x, x = (pl - ((u : Int) - 1074)).toNat := ⟨_, rfl⟩
 obtain ⟨y, hy⟩ : ∃ y, y = ((u : Int) - 1074 - pl).toNat := ⟨_, rfl⟩
 rw [← hx, ← hy, Nat.shiftLeft_eq]
 have hxy : k + y = x + (u + j) := by omega
 have hu0 : u = 0 ∨ L + x = 52 + y := by omega
 have hLx : L + x ≤ 52 + y := by omega
 obtain ⟨g, hg⟩ : ∃ g, g = m * 2 ^ x / 2 ^ y := ⟨_, rfl⟩
 obtain ⟨r, hr⟩ : ∃ r, r = m * 2 ^ x % 2 ^ y := ⟨_, rfl⟩
 have hdm : 2 ^ y * g + r = m * 2 ^ x := by rw [hg, hr]; exact Nat.div_add_mod _ _
 have hrl : r < 2 ^ y := by rw [hr]; exact Nat.mod_lt _ (Nat.two_pow_pos y)
 rw [← hg, ← hr]
 have hgl : g < 9007199254740992 := by
   rw [hg, Nat.div_lt_iff_lt_mul (Nat.two_pow_pos y), show 9007199254740992 = 2 ^ 53 from rfl, ← Nat.pow_add]
   refine Nat.lt_of_lt_of_le (Nat.mul_lt_mul_of_pos_right hL2 (Nat.two_pow_pos x)) ?_
   rw [← Nat.pow_add]
   exact Nat.pow_le_pow_right (by decide) (by omega)
 have hgg : u = 0 ∨ 4503599627370496 ≤ g := by
   rcases hu0 with h | h
   · exact .inl h
   · refine .inr ?_
     rw [hg, Nat.le_div_iff_mul_le (Nat.two_pow_pos y), show 4503599627370496 = 2 ^ 52 from rfl, ← Nat.pow_add, ← h, Nat.pow_add]
     exact Nat.mul_le_mul_right _ hL1
 -- the number, in units of what is kept
 have hX : m * 2 ^ k * 2 ^ y = (2 ^ y * g + r) * 2 ^ (u + j) := by
   rw [hdm, Nat.mul_assoc, Nat.mul_assoc, ← Nat.pow_add, ← Nat.pow_add, hxy]
 have py := Nat.two_pow_pos y
 have pj := Nat.two_pow_pos j
 have pu := Nat.two_pow_pos (u + j)
 have lo : 2 ^ j * 2 ^ y * (g * 2 ^ u) ≤ (2 ^ y * g + r) * 2 ^ (u + j) := by
   rw [show 2 ^ j * 2 ^ y * (g * 2 ^ u) = 2 ^ y * g * 2 ^ (u + j) by rw [Nat.pow_add]; ac_rfl]
   exact Nat.mul_le_mul_right _ (Nat.le_add_right _ _)
 have hi : (2 ^ y * g + r) * 2 ^ (u + j) < 2 ^ j * 2 ^ y * ((g + 1) * 2 ^ u) := by
   rw [show 2 ^ j * 2 ^ y * ((g + 1) * 2 ^ u) = (2 ^ y * g + 2 ^ y) * 2 ^ (u + j) by rw [Nat.pow_add, show 2 ^ y * g + 2 ^ y = 2 ^ y * (g + 1) by rw [Nat.mul_add, Nat.mul_one]]; ac_rfl]
   exact Nat.mul_lt_mul_of_pos_right (by omega) pu
 have back : ∀ a, isRN ((2 ^ y * g + r) * 2 ^ (u + j)) (2 ^ j * 2 ^ y) a → isRN (m * 2 ^ k) (2 ^ j) a := fun a h =>
   isRN_scale (Nat.mul_pos pj py) pj (by rw [← hX]; ac_rfl) h
 refine ⟨_, rfl, back _ ?_⟩
 have hq : 0 < 2 ^ j * 2 ^ y := Nat.mul_pos pj py
 refine isRN_cut hq lo hi hgl hgg ?_
 rw [show 2 ^ j * 2 ^ y * ((2 * g + 1) * 2 ^ u) = (2 ^ y * (2 * g) + 2 ^ y) * 2 ^ (u + j) by rw [Nat.pow_add, show 2 ^ y * (2 * g) + 2 ^ y = 2 ^ y * (2 * g + 1) by rw [Nat.mul_add, Nat.mul_one]]; ac_rfl, show 2 * ((2 ^ y * g + r) * 2 ^ (u + j)) = (2 ^ y * (2 * g) + 2 * r) * 2 ^ (u + j) by rw [← Nat.mul_assoc, Nat.mul_add, Nat.mul_left_comm]]
 have c1 : (2 ^ y * (2 * g) + 2 ^ y) * 2 ^ (u + j) < (2 ^ y * (2 * g) + 2 * r) * 2 ^ (u + j) ↔ 2 ^ y < 2 * r := by
   rw [Nat.mul_lt_mul_right pu]; omega
 have c2 : (2 ^ y * (2 * g) + 2 ^ y) * 2 ^ (u + j) = (2 ^ y * (2 * g) + 2 * r) * 2 ^ (u + j) ↔ 2 ^ y = 2 * r := by
   rw [Nat.mul_right_cancel_iff pu]; omega
 rw [c1, c2]
end Go.Proofs.YtnhmmjogfkjceaaGreatDoor
