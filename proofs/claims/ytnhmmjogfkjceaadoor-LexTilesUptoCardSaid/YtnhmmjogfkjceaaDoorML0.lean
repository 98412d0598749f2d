/-
  LexTiles, within the bound on what it reads, and tied to the program's text: it returns true whatever it is given, and leaves its arguments as they were. Conditions: the arguments' bulk is at most 1048576; the listed library variables stand as their text lays them, as the statement says.
-/
import Derived.Test.YtnhmmjogfkjceaaDoorProg
import Derived.Test.YtnhmmjogfkjceaaDoorM5
import Derived.Test.YtnhmmjogfkjceaaDoorM2
set_option linter.unusedVariables false
set_option linter.unusedSimpArgs false
set_option maxRecDepth 100000
set_option maxHeartbeats 4000000
namespace Go.Proofs.YtnhmmjogfkjceaaDoor
open Go.Sl

theorem law_LexTiles {W0 : World} (hL : LaidL W0) {X : Bytes} (hX : X.length ≤ 1048576) : SC Tryd.prog W0 3 #[.string (bS X)] [] (Ret (fun _ : Unit => []) (fun v _ => v = .bool true)) := by
 refine SC_body (fn := Tryd.f3) (n := 161) Tryd.func3 rfl (by kernel_rfl) (ρ := [(0, .string (bS X))]) rfl ?_
 refine sr ?_
 refine os 1 ?_
 refine nq ?_
 refine sr ?_
 refine os 1 ?_
 refine oX (.int .i64 ((bS X).size : Int)) (.int .i64 (X.length : Int)) (congrArg (fun n_ : Nat => Value.int .i64 (n_ : Int)) (bS_size _)) ?_
 refine os 1 ?_
 refine nt ?_
 refine cdp (fun hc1 : (X.length : Int) > 131072 => ?_) (fun hc1 => ?_)
 ·refine sr ?_
  refine L (cl (law_alive5 hL) ?_)
  rintro _ _ rfl
  refine un ?_
  refine os 1 ?_
  refine kp [2, 15, 0] ?_
  refine nt ?_
  refine SW_ret (r_then ?_)
  refine body_end (.bool true) (fun _ => rfl) ?_
  exact ⟨(), ow, rfl⟩
 refine SW_skip (n_then ?_)
 refine sr ?_
 refine os 1 ?_
 refine L (cl (lex_Scan hL (X := X)) ?_)
 rintro _ g2 ⟨rfl, hkg2⟩
 refine os 7 ?_
 refine kp [5, 4, 3, 15, 2, 0] ?_
 refine nq ?_
 refine sr ?_
 refine os 2 ?_
 refine nt ?_
 refine cd (fun hc3 : (((scanP X).err) != 0) = true => ?_) (fun hc3 => ?_)
 ·simp only [beq_iff_eq, bne_iff_ne, ne_eq, beq_eq_false_iff_ne, bne_eq_false_iff_eq, Classical.not_not] at hc3
  obtain ⟨hn1_, hn2_⟩ := scan_no hc3
  have hn3_ : (scanP X).toks.length = 0 := by rw [hn1_]; rfl
  refine sr ?_
  refine L (cl (law_alive5 hL) ?_)
  rintro _ _ rfl
  refine un ?_
  refine os 6 ?_
  refine kp [31, 24, 5, 4, 3, 15, 2, 0] ?_
  refine pn 31 (show (((((scanP X).toks.length : Nat)) : Int) == 0) = true from (beq_iff_eq.2 (by omega))) ?_
  refine os 4 ?_
  refine pn 35 (show (decide (((scanP X).place : Int) ≥ 0)) = true from (decide_eq_true (by omega))) ?_
  refine os 2 ?_
  refine oX (.int .i64 ((bS X).size : Int)) (.int .i64 (X.length : Int)) (congrArg (fun n_ : Nat => Value.int .i64 (n_ : Int)) (bS_size _)) ?_
  refine os 3 ?_
  refine kp [2, 24, 5, 4, 3, 15, 0] ?_
  refine nt ?_
  refine SW_ret (r_then ?_)
  refine body_end (.bool (decide (((scanP X).place : Int) ≤ (X.length : Int)))) (fun _ => rfl) ?_
  exact ⟨(), ow, congrArg Value.bool (decide_eq_true (by omega))⟩
 simp only [beq_iff_eq, bne_iff_ne, ne_eq, beq_eq_false_iff_ne, bne_eq_false_iff_eq, Classical.not_not] at hc3
 obtain ⟨ho1_, ho2_, ho3_, ho4_, ho5_⟩ := scan_ok (X := X) hc3
 have hol_ := ho3_.len (Nat.zero_le _)
 obtain ⟨n, hn_, hlast_⟩ := ho3_.last
 refine SW_skip (n_then ?_)
 refine sr ?_
 refine os 4 ?_
 refine kp [6, 24, 5, 4, 3, 15, 2, 0] ?_
 refine nq ?_
 refine sr ?_
 refine os 3 ?_
 refine pn 46 (show (decide ((((((scanP X).toks.length : Nat)) : Int) - 1) < 0)) = false from (decide_eq_false (by omega))) ?_
 refine os 2 ?_
 refine L (ixg (((((scanP X).toks.length : Nat)) : Int) - 1) (n * 4) hkg2 Tryd.underlying23 ?_)
 refine L (ldr [.int .i64 0, .int .i64 (X.length : Int), .string (bS []), .int .u64 0] (cells_cons (Gs.cell hkg2 (fun e he => (mem_h he)) (flat_cell Tok.len hlast_ (j := 0) (by decide) rfl)) (cells_cons (Gs.cell hkg2 (fun e he => (mem_h he)) (flat_cell Tok.len hlast_ (j := 1) (by decide) rfl)) (cells_cons (Gs.cell hkg2 (fun e he => (mem_h he)) (flat_cell Tok.len hlast_ (j := 2) (by decide) rfl)) (cells_cons (Gs.cell hkg2 (fun e he => (mem_h he)) (flat_cell Tok.len hlast_ (j := 3) (by decide) rfl)) cells_nil)))) ?_)
 refine os 1 ?_
 refine oX (.int .i64 ((bS X).size : Int)) (.int .i64 (X.length : Int)) (congrArg (fun n_ : Nat => Value.int .i64 (n_ : Int)) (bS_size _)) ?_
 refine oV (.agg #[.int .i64 0, .int .i64 (X.length : Int), .string (bS []), .int .u64 0]) ?_
 refine oV (.bool (!(eqT 0 0 (X.length : Int) (X.length : Int) ([]) ([]) 0 0))) ?_ (hs := neqT)
 refine os 2 ?_
 refine kp [56, 6, 24, 5, 4, 3, 15, 2, 0] ?_
 refine pn 56 (show (!(eqT 0 0 (X.length : Int) (X.length : Int) ([]) ([]) 0 0)) = false from (by rw [eqT_same]; rfl)) ?_
 refine os 3 ?_
 refine kp [59, 6, 24, 5, 4, 3, 15, 2, 0] ?_
 refine nt ?_
 refine SW_false (fun _ => (congrArg Value.bool (show (((scanP X).place : Int) != 0) = false from (bne_eq_false_iff_eq.2 (by omega))))) ?_
 refine SW_skip (n_then ?_)
 refine SW_seq ?_
 refine sr ?_
 refine os 1 ?_
 refine nt ?_
 refine SW_block ?_
 refine SW_loop (α := Nat) (fun z_ ρ_ σ_ => Fits ρ_ σ_ [(0, .string (bS X)), (3, Gs.val g2 ((scanP X).toks.length)), (6, .int .i64 (((((scanP X).toks.length : Nat)) : Int) - 1)), (7, .int .i64 (z_ : Int))] ((Gs.ent 29 4 g2 (((scanP X).toks).flatMap Tok.cells)) ++ ([])) ∧ z_ ≤ n) (fun z_ => n - z_) 0 ⟨⟨fun _ => rfl, ow⟩, Nat.zero_le _⟩ ?_
 rintro i ρ_ σ_ ⟨hfit, hi0⟩
 refine SW_fits hfit ?_
 clear hfit
 refine SW_seq ?_
 refine sr ?_
 refine os 3 ?_
 refine nt ?_
 refine cdp (fun hc8 : (i : Int) < (((((scanP X).toks.length : Nat)) : Int) - 1) => ?_) (fun hc8 => ?_)
 ·refine SW_skip (n_then ?_)
  refine SW_seq ?_
  refine SW_block ?_
  refine sr ?_
  refine os 2 ?_
  refine L (ixg (i : Int) (i * 4) hkg2 Tryd.underlying23 ?_)
  obtain ⟨e1, he1⟩ : ∃ y_, ((scanP X).toks)[i]? = some y_ := ⟨_, List.getElem?_eq_getElem (by omega)⟩
  refine L (ldr [.int .i64 e1.kind, .int .i64 (e1.pos : Int), .string (bS e1.text), .int .u64 (e1.num : Int)] (cells_cons (Gs.cell hkg2 (fun e he => (mem_h he)) (flat_cell Tok.len he1 (j := 0) (by decide) rfl)) (cells_cons (Gs.cell hkg2 (fun e he => (mem_h he)) (flat_cell Tok.len he1 (j := 1) (by decide) rfl)) (cells_cons (Gs.cell hkg2 (fun e he => (mem_h he)) (flat_cell Tok.len he1 (j := 2) (by decide) rfl)) (cells_cons (Gs.cell hkg2 (fun e he => (mem_h he)) (flat_cell Tok.len he1 (j := 3) (by decide) rfl)) cells_nil)))) ?_)
  refine L (nw 29 4 [.int .i64 0, .int .i64 0, .string (bS []), .int .u64 0] ?_)
  intro b9
  refine L (st [.int .i64 e1.kind, .int .i64 (e1.pos : Int), .string (bS e1.text), .int .u64 (e1.num : Int)] ?_)
  refine nq ?_
  refine SW_seq ?_
  obtain ⟨e2, he2⟩ : ∃ y_, ((scanP X).toks)[(i + 1)]? = some y_ := ⟨_, List.getElem?_eq_getElem (by omega)⟩
  have htl_ := ho3_.tiles (Nat.zero_le _) he1 he2
  obtain ⟨⟨htk1_, htk2_⟩, htp_, hin_, hfits_, hsaid_, hgap_⟩ := id htl_
  refine SW_draw [(b9, 0, .int .i64 e1.kind), (b9, 0, .int .i64 e1.kind), (b9, 1, .int .i64 (e1.pos : Int)), ((Gs.blk g2), (i + 1) * 4 + 1, .int .i64 (e2.pos : Int))] [0, 1, 2, 3, 4, 5, 6, 7, 8, 9, 10, 11, 12, 13, 14, 15, 16] (by kernel_rfl) (rd_cons (Cell.own mem_z rfl) (rd_cons (Cell.own mem_z rfl) (rd_cons (Cell.own mem_z rfl) (rd_cons (Gs.cell hkg2 (fun e he => (mem_c (mem_h he))) (flat_cell Tok.len he2 (j := 1) (by decide) rfl)) rd_nil)))) ?_
  refine aF 0 ?_
  refine aL 1 ?_
  refine aS 2 ?_
  refine kpA [71, 8, 62, 0, 3, 6, 7] ?_
  refine aS 3 ?_
  refine pnA 72 (show (decide (e1.kind < 1)) = false from (decide_eq_false (by omega))) ?_
  refine aF 4 ?_
  refine aL 5 ?_
  refine aS 6 ?_
  refine aS 7 ?_
  refine aS 8 ?_
  refine pnA 77 (show (decide (e1.kind > 5)) = false from (decide_eq_false (by omega))) ?_
  refine aF 9 ?_
  refine aL 10 ?_
  refine aS 11 ?_
  refine aS 12 ?_
  refine tk 13 (.int .i64 (IntKind.wrap .i64 ((i : Int) + 1))) ?_
  rw [show IntKind.wrap .i64 ((i : Int) + 1) = (i : Int) + 1 from IntWalk.i64_in _ (by omega)]
  refine kpA [82, 80, 79, 77, 8, 62, 0, 3, 6, 7] ?_
  refine aI 14 ((i : Int) + 1) ((i + 1) * 4) hkg2 Tryd.underlying23 ?_
  refine aF 15 ?_
  refine aL 16 ?_
  refine aS 17 ?_
  refine aS 18 ?_
  refine kpA [87, 8, 62, 0, 3, 6, 7] ?_
  refine SA_done (by kernel_rfl) (n_then ?_)
  refine SW_false (fun _ => (congrArg Value.bool (show (decide ((e1.pos : Int) ≥ (e2.pos : Int))) = false from (decide_eq_false (by omega))))) ?_
  refine SW_skip (n_then ?_)
  refine SW_seq ?_
  refine SW_cut (fun ρ_ σ_ => Fits ρ_ σ_ [(0, .string (bS X)), (3, Gs.val g2 ((scanP X).toks.length)), (6, .int .i64 (((((scanP X).toks.length : Nat)) : Int) - 1)), (7, .int .i64 (i : Int)), (8, pt b9 0), (9, .bool (plainK e1.kind))] ((b9, .cells 29 4 [.int .i64 e1.kind, .int .i64 (e1.pos : Int), .string (bS e1.text), .int .u64 (e1.num : Int)]) :: ((Gs.ent 29 4 g2 (((scanP X).toks).flatMap Tok.cells)) ++ ([])))) ?_ ?_
  ·refine SW_region ?_
   refine os 1 ?_
   refine L (ld ?_)
   refine os 2 ?_
   refine tb 91 (fun hg10 => ?_) (fun hg10 => ?_)
   ·replace hg10 : (e1.kind == 1) = true := hg10
    simp only [beq_iff_eq, bne_iff_ne, ne_eq, beq_eq_false_iff_ne, bne_eq_false_iff_eq, Classical.not_not] at hg10
    refine os 10 ?_
    refine kp [9, 87, 8, 62, 0, 3, 6, 7] ?_
    refine nt ?_
    rw [show plainK e1.kind = true from by unfold plainK; exact decide_eq_true (by omega)]
    exact ⟨fun _ => rfl, ow⟩
   replace hg10 : (e1.kind == 1) = false := hg10
   simp only [beq_iff_eq, bne_iff_ne, ne_eq, beq_eq_false_iff_ne, bne_eq_false_iff_eq, Classical.not_not] at hg10
   refine os 1 ?_
   refine L (ld ?_)
   refine os 3 ?_
   refine kp [96, 87, 8, 62, 0, 3, 6, 7] ?_
   refine tb 96 (fun hg11 => ?_) (fun hg11 => ?_)
   ·replace hg11 : (e1.kind == 2) = true := hg11
    simp only [beq_iff_eq, bne_iff_ne, ne_eq, beq_eq_false_iff_ne, bne_eq_false_iff_eq, Classical.not_not] at hg11
    refine os 5 ?_
    refine kp [9, 87, 8, 62, 0, 3, 6, 7] ?_
    refine nt ?_
    rw [show plainK e1.kind = true from by unfold plainK; exact decide_eq_true (by omega)]
    exact ⟨fun _ => rfl, ow⟩
   replace hg11 : (e1.kind == 2) = false := hg11
   simp only [beq_iff_eq, bne_iff_ne, ne_eq, beq_eq_false_iff_ne, bne_eq_false_iff_eq, Classical.not_not] at hg11
   refine os 1 ?_
   refine L (ld ?_)
   refine os 3 ?_
   refine kp [9, 87, 8, 62, 0, 3, 6, 7] ?_
   refine nt ?_
   rw [show plainK e1.kind = (e1.kind == 5) from by unfold plainK; rw [Bool.eq_iff_iff, decide_eq_true_eq, beq_iff_eq]; omega]
   exact ⟨fun _ => rfl, ow⟩
  ·rintro ρ_ σ_ hfit
   refine SW_fits hfit ?_
   clear hfit
   refine SW_seq ?_
   refine SW_seq ?_
   refine SW_draw [(b9, 1, .int .i64 (e1.pos : Int)), (b9, 2, .string (bS e1.text)), ((Gs.blk g2), (i + 1) * 4 + 1, .int .i64 (e2.pos : Int)), (b9, 1, .int .i64 (e1.pos : Int)), (b9, 1, .int .i64 (e1.pos : Int)), (b9, 2, .string (bS e1.text)), (b9, 2, .string (bS e1.text))] [0, 1, 2, 3, 4, 5, 6, 7, 8, 9, 10, 11, 12, 13, 14, 15, 16, 17, 18, 19, 20, 21, 22, 23, 24, 25, 26, 27] (by kernel_rfl) (rd_cons (Cell.own mem_z rfl) (rd_cons (Cell.own mem_z rfl) (rd_cons (Gs.cell hkg2 (fun e he => (mem_c (mem_h he))) (flat_cell Tok.len he2 (j := 1) (by decide) rfl)) (rd_cons (Cell.own mem_z rfl) (rd_cons (Cell.own mem_z rfl) (rd_cons (Cell.own mem_z rfl) (rd_cons (Cell.own mem_z rfl) rd_nil))))))) ?_
   refine aS 0 ?_
   refine aS 1 ?_
   refine tbA 102 (fun hg12 => ?_) (fun hg12 => ?_)
   ·replace hg12 : (plainK e1.kind) = true := hg12
    have hpk_ := of_decide_eq_true hg12
    have hf1_ := hfits_ (by omega) (by omega)
    have hs1_ := hsaid_ (by omega) (by omega)
    refine aF 2 ?_
    refine aL 3 ?_
    refine aF 4 ?_
    refine aL 5 ?_
    refine tk 6 (.int .i64 ((bS e1.text).size : Int)) ?_
    rw [bS_size]
    refine tk 7 (.int .i64 (IntKind.wrap .i64 ((e1.pos : Int) + (e1.text.length : Int)))) ?_
    rw [show IntKind.wrap .i64 ((e1.pos : Int) + (e1.text.length : Int)) = (e1.pos : Int) + (e1.text.length : Int) from IntWalk.i64_in _ (by omega)]
    refine aS 8 ?_
    refine aS 9 ?_
    refine tk 10 (.int .i64 (IntKind.wrap .i64 ((i : Int) + 1))) ?_
    rw [show IntKind.wrap .i64 ((i : Int) + 1) = (i : Int) + 1 from IntWalk.i64_in _ (by omega)]
    refine aI 11 ((i : Int) + 1) ((i + 1) * 4) hkg2 Tryd.underlying23 ?_
    refine kpA [112, 108, 102, 0, 3, 6, 7, 8, 9] ?_
    refine aF 12 ?_
    refine aL 13 ?_
    refine aS 14 ?_
    refine aS 15 ?_
    refine pnA 116 (show (decide (((e1.pos : Int) + (e1.text.length : Int)) > (e2.pos : Int))) = false from (decide_eq_false (by omega))) ?_
    refine aS 16 ?_
    refine aF 17 ?_
    refine aL 18 ?_
    refine aF 19 ?_
    refine aL 20 ?_
    refine aF 21 ?_
    refine aL 22 ?_
    refine kpA [123, 121, 119, 117, 116, 102, 0, 3, 6, 7, 8, 9] ?_
    refine tk 23 (.int .i64 ((bS e1.text).size : Int)) ?_
    rw [bS_size]
    refine tk 24 (.int .i64 (IntKind.wrap .i64 ((e1.pos : Int) + (e1.text.length : Int)))) ?_
    rw [show IntKind.wrap .i64 ((e1.pos : Int) + (e1.text.length : Int)) = (e1.pos : Int) + (e1.text.length : Int) from IntWalk.i64_in _ (by omega)]
    refine tk 25 (.string (bS ((X.take ((e1.pos : Int) + (e1.text.length : Int)).toNat).drop ((e1.pos : Int)).toNat))) ?_ (hy := fun δ w => run_strMid (l := X) (e1.pos : Int) ((e1.pos : Int) + (e1.text.length : Int)) .i64 .i64 Tryd.underlying9 rfl rfl rfl (by omega) (by omega) (by omega))
    rw [show ((e1.pos : Int) + (e1.text.length : Int)).toNat = (e1.pos + e1.text.length) from by omega, show ((e1.pos : Int)).toNat = e1.pos from by omega]
    refine aF 26 ?_
    refine aL 27 ?_
    refine tk 28 (.bool (!((bS ((X.take (e1.pos + e1.text.length)).drop e1.pos)).toList == (bS e1.text).toList))) ?_
    rw [show (!((bS ((X.take (e1.pos + e1.text.length)).drop e1.pos)).toList == (bS e1.text).toList)) = (!(decide (((X.take (e1.pos + e1.text.length)).drop e1.pos) = e1.text))) from by rw [strB_eq]]
    refine kpA [129, 116, 102, 0, 3, 6, 7, 8, 9] ?_
    refine aS 29 ?_
    refine aS 30 ?_
    refine SA_done (by kernel_rfl) (n_then ?_)
    refine SW_false (fun _ => (congrArg Value.bool (show (!(decide (((X.take (e1.pos + e1.text.length)).drop e1.pos) = e1.text))) = false from (by rw [hs1_]; simp)))) ?_
    refine SW_skip (n_then ?_)
    refine SW_seq ?_
    refine sr ?_
    refine os 1 ?_
    refine oV (.bool false) ?_
    refine kp [133, 131, 0, 3, 6, 7, 8, 9] ?_
    refine nt ?_
    refine cf ?_
    refine SW_skip (n_then ?_)
    refine SW_seq ?_
    refine SW_draw [(b9, 1, .int .i64 (e1.pos : Int)), (b9, 2, .string (bS e1.text)), ((Gs.blk g2), (i + 1) * 4 + 1, .int .i64 (e2.pos : Int))] [0, 1, 2, 3, 4, 5, 6, 7, 8, 9, 10, 11, 12] (by kernel_rfl) (rd_cons (Cell.own mem_z rfl) (rd_cons (Cell.own mem_z rfl) (rd_cons (Gs.cell hkg2 (fun e he => (mem_c (mem_h he))) (flat_cell Tok.len he2 (j := 1) (by decide) rfl)) rd_nil))) ?_
    refine aS 0 ?_
    refine aF 1 ?_
    refine aL 2 ?_
    refine aF 3 ?_
    refine aL 4 ?_
    refine tk 5 (.int .i64 ((bS e1.text).size : Int)) ?_
    rw [bS_size]
    refine tk 6 (.int .i64 (IntKind.wrap .i64 ((e1.pos : Int) + (e1.text.length : Int)))) ?_
    rw [show IntKind.wrap .i64 ((e1.pos : Int) + (e1.text.length : Int)) = (e1.pos : Int) + (e1.text.length : Int) from IntWalk.i64_in _ (by omega)]
    refine aS 7 ?_
    refine aS 8 ?_
    refine tk 9 (.int .i64 (IntKind.wrap .i64 ((i : Int) + 1))) ?_
    rw [show IntKind.wrap .i64 ((i : Int) + 1) = (i : Int) + 1 from IntWalk.i64_in _ (by omega)]
    refine aI 10 ((i : Int) + 1) ((i + 1) * 4) hkg2 Tryd.underlying23 ?_
    refine kpA [145, 141, 135, 133, 131, 0, 3, 6, 7, 8, 9] ?_
    refine aF 11 ?_
    refine aL 12 ?_
    refine tk 13 (.string (bS ((X.take ((e2.pos : Int)).toNat).drop ((e1.pos : Int) + (e1.text.length : Int)).toNat))) ?_ (hy := fun δ w => run_strMid (l := X) ((e1.pos : Int) + (e1.text.length : Int)) (e2.pos : Int) .i64 .i64 Tryd.underlying9 rfl rfl rfl (by omega) (by omega) (by omega))
    rw [show ((e2.pos : Int)).toNat = e2.pos from by omega, show ((e1.pos : Int) + (e1.text.length : Int)).toNat = (e1.pos + e1.text.length) from by omega]
    refine sa1 false 14 (h := cl ((lex_scan_good hL (l := [(⟨0, (((X.take e2.pos).drop (e1.pos + e1.text.length))).length, [], 0⟩ : Tok)]) (gap_scan ho2_ ho1_ htl_ (by omega) (by omega)))) ?_)
    rintro _ g13 ⟨rfl, hkg13⟩
    refine ⟨fun hnd => (by cases hnd), ?_⟩
    refine aS 15 ?_
    refine aS 16 ?_
    refine aS 17 ?_
    refine aS 18 ?_
    refine kpA [152, 151, 150, 133, 131, 0, 3, 6, 7, 8, 9] ?_
    refine aS 19 ?_
    refine aS 20 ?_
    refine aS 21 ?_
    refine SA_done (by kernel_rfl) (n_then ?_)
    refine sr ?_
    refine os 1 ?_
    refine oV (.bool false) ?_
    refine os 5 ?_
    refine kp [159, 12, 10, 133, 131, 0, 3, 6, 7, 8, 9] ?_
    refine nt ?_
    refine SW_false (fun _ => (congrArg Value.bool (show (((([(⟨0, (((X.take e2.pos).drop (e1.pos + e1.text.length))).length, [], 0⟩ : Tok)].length : Nat)) : Int) != 1) = false from (by rfl)))) ?_
    refine SW_skip (n_in (n_then ?_))
    refine SW_region ?_
    refine os 3 ?_
    refine nt ?_
    exact ⟨i + 1, by omega, ⟨fun _ => rfl, ow⟩, by omega⟩
   replace hg12 : (plainK e1.kind) = false := hg12
   refine tn 2 ?_
   refine tn 3 ?_
   refine tn 4 ?_
   refine tn 5 ?_
   refine tn 6 ?_
   refine tn 7 ?_
   refine tn 8 ?_
   refine tn 9 ?_
   refine tn 10 ?_
   refine tn 11 ?_
   refine tn 12 ?_
   refine tn 13 ?_
   refine tn 14 ?_
   refine tn 15 ?_
   refine tn 16 ?_
   refine tn 17 ?_
   refine tn 18 ?_
   refine tn 19 ?_
   refine tn 20 ?_
   refine tn 21 ?_
   refine tn 22 ?_
   refine tn 23 ?_
   refine tn 24 ?_
   refine tn 25 ?_
   refine tn 26 ?_
   refine tn 27 ?_
   refine tn 28 ?_
   refine tn 29 ?_
   refine aS 30 ?_
   refine kpA [131, 0, 3, 6, 7, 8, 9] ?_
   refine SA_done (by kernel_rfl) (n_then ?_)
   refine cf ?_
   refine SW_skip (n_then ?_)
   refine SW_seq ?_
   refine sr ?_
   refine os 1 ?_
   refine oV (.bool true) ?_
   refine nt ?_
   refine ct ?_
   refine SW_exit (x_then (x_in (n_then ?_)))
   refine SW_region ?_
   refine os 3 ?_
   refine kp [7, 133, 131, 0, 3, 6, 8, 9] ?_
   refine nt ?_
   exact ⟨i + 1, by omega, ⟨fun _ => rfl, ow⟩, by omega⟩
 refine SW_exit (x_then (x_then (x_in (n_then ?_))))
 refine sr ?_
 refine L (cl (law_alive5 hL) ?_)
 rintro _ _ rfl
 refine un ?_
 refine os 1 ?_
 refine kp [2, 62, 0, 3, 6, 7] ?_
 refine nt ?_
 refine SW_ret ?_
 refine body_end (.bool true) (fun _ => rfl) ?_
 exact ⟨(), ow, rfl⟩

end Go.Proofs.YtnhmmjogfkjceaaDoor
namespace Go.Proofs.YtnhmmjogfkjceaaDoor
open Go.Sl Go.ChangeShapes Go.WideShapes Go.ChangeAt Go.RowKit

theorem LexTiles_contract (H : Type) (enc : TypeId × Value → H) (W : World) (base : Nat) (args : Array Value) (ds gs : List (DataW H)) (before : List MemPlace)
   (hval : ∀ (j : Nat) t v, Tryd.f3.params[j]? = some t → args[j]? = some v → Value.okWide Tryd.prog W .any base t v)
   (hW : DataW.Whole enc Tryd.prog Tryd.f3.params.toList Rows.lexTilesSpec.vars false W args.toList ds gs before) (hk : Rows.uptoSmall H (ds ++ gs) = true) (hLd : laidMetH Tryd.prog Rows.lexTilesUptoRow.laid W) (hsh : W.ShapedOpen Tryd.prog) :
   Calls Tryd.prog 3 args W fun e W' => ∃ v, e = .returned v ∧ Rows.lexTilesSpec.post enc Tryd.prog Tryd.f3 false true false false W args v W' := by
 have hL := laid_lex hLd hsh
 have hW' := hW
 obtain ⟨p, q, hA0, hV, rfl, hfz, hnd⟩ := hW
 have hA : DataW.TrodAll enc Tryd.prog W 0 (fun _ => true) true Tryd.f3.params.toList args.toList ds p := hA0
 rw [Tryd.params3] at hA hval
 obtain ⟨v0, vs0, d0, ds0, p0, q0, hargs, rfl, rfl, h0, r0⟩ := trodAll_cons hA
 obtain ⟨rfl, rfl, rfl⟩ := trodAll_nil r0
 obtain rfl : args = #[v0] := by cases args; simp_all
 obtain ⟨rfl, rfl⟩ := trodVars_none hV
 obtain ⟨x0, rfl, hz0⟩ := arg_strB hk (by simp) (hval 0 9 v0 rfl rfl) h0
 refine (calls_law (law_LexTiles hL hz0)).mono fun e W' ⟨he, hb⟩ => ?_
 subst he
 exact ⟨_, rfl, post_law (tb := 4) hW' (by rw [Tryd.params3]; decide) rfl rfl rfl rfl rfl Tryd.underlying4 hb⟩

theorem LexTiles_reads (os : Os) {H : Type} (enc : TypeId × Value → H) : ∃ places, DataW.whole enc Tryd.prog ((laidWorld os).forCall (fun _ _ => 0) ⟨#[], #[.string .empty], []⟩).memory Tryd.f3.params.toList Rows.lexTilesSpec.vars false #[.string .empty].toList 8 = some ([.lit (.string [])], [], places) :=
 ⟨[], by kernel_rfl⟩
theorem LexTiles_lifted (os : Os) (started : os.Started) (H : Type) (enc : TypeId × Value → H) (F : Stop.Interp) :
   ReturnsInHanded {} Tryd.checked os 3 .any ((Rows.OpenSpec.upto Rows.lexTilesSpec).preRow enc Tryd.prog Tryd.f3 Rows.lexTilesUptoRow.domain false Rows.lexTilesUptoRow.laid) (((Rows.OpenSpec.upto Rows.lexTilesSpec).at F).post enc Tryd.prog Tryd.f3 false true false false) := by
 obtain ⟨places, hx⟩ := LexTiles_reads os enc
 refine returnsInHanded_of_row (C := Tryd.checked) (s := Rows.OpenSpec.upto Rows.lexTilesSpec) rown started (by kernel_rfl) Tryd.func3
   (witness_row_atRef (enc := enc) (C := Tryd.checked) false (laidWorld os) #[.string .empty] rfl (by kernel_rfl) (by kernel_rfl) (by kernel_rfl)
     (OpenSpec.preRow_of_cond 8 hx (by kernel_rfl) (fun k hk => by cases hk; kernel_rfl) (by kernel_rfl) (laid_met os _))) ?_
 intro W base args ds gs before hval hW _ hcond _ hL hsh _
 exact LexTiles_contract H enc W base args ds gs before hval hW (hcond _ rfl) hL hsh

theorem LexTiles_row : Rows.LexTilesUptoSaid :=
 OpenClaim.holds_of_cond 3 Tryd.f3 rfl rfl rfl rfl rfl rfl rfl ⟨rfl, rfl, rfl, rfl, rfl⟩ rfl rfl rfl rfl rfl (by kernel_rfl) Tryd.func3 (by kernel_rfl)
   (of_decide_eq_true (by kernel_rfl)) (by unfold Func.isWrapper; first | (rw [if_pos (by decide +kernel)]; kernel_rfl) | (rw [if_neg (by decide +kernel)]; exact ⟨rfl, rfl⟩))
   (fun os started H enc _ F => by rw [OpenClaim.pre_eq_preRow]; exact LexTiles_lifted os started H enc F)
theorem LexTiles_plain (f : FuncId) (fn : Func) (hf : Tryd.pinned.checked.prog.funcNamed "brazier/brazierlaw05.LexTiles" = some f) (hfn : Tryd.pinned.checked.prog.funcs[f]? = some fn) :
   false = Tryd.pinned.checked.prog.looks [] ∧ ∀ (j : Nat) t, fn.params[j]? = some t → Tryd.pinned.checked.prog.wantsStandIn t = false := by
 obtain rfl : f = 3 := Option.some.inj ((show Tryd.prog.funcNamed "brazier/brazierlaw05.LexTiles" = some 3 by kernel_rfl).symm.trans hf) |>.symm
 obtain rfl : fn = Tryd.f3 := (Option.some.inj (Tryd.func3.symm.trans hfn)).symm
 refine ⟨by kernel_rfl, fun j t ht => ?_⟩
 rw [Tryd.params3] at ht
 have hm : t = 9 := by simpa using Array.mem_of_getElem? ht
 rcases hm with rfl
 · exact (show Tryd.prog.wantsStandIn 9 = false by kernel_rfl)
theorem LexTiles_proved : Rows.LexTilesUptoCardSaid :=
 Claim7.holds_tied_plain_at .later [] _ _ _ _ LexTiles_row (fun _ h => by cases h) (by kernel_rfl) (fun _ h => by cases h) lexTilesUpto_row_tie rfl ⟨rfl, rfl⟩ (by kernel_rfl) rfl LexTiles_plain (by kernel_rfl)
end Go.Proofs.YtnhmmjogfkjceaaDoor
