/-
  LexAgain, within the bound on what it reads, and tied to the program's text: it returns true whatever it is given, and leaves its arguments as they were. Conditions: the arguments' bulk is at most 1048576; the listed library variables stand as their text lays them, as the statement says.
-/
import Derived.Test.YtnhmmjogfkjceaaDoorProg
import Derived.Test.YtnhmmjogfkjceaaDoorM5
import Derived.Test.YtnhmmjogfkjceaaDoorM2
set_option linter.unusedVariables false
set_option linter.unusedSimpArgs false
set_option maxRecDepth 100000
set_option maxHeartbeats 4000000
namespace Go.Proofs.YtnhmmjogfkjceaaDoor
open Go.Sl

theorem law_LexAgain {W0 : World} (hL : LaidL W0) {X bs : Bytes} {A : Option Addr} {c : Nat} (hX : X.length ≤ 1048576) (hh : bs.length ≤ 1048576) (hq : ∀ σ, Src W0 σ A (bs.map u8V)) : SC Tryd.prog W0 4 #[.string (bS X), .slice A bs.length c] [] (Ret (fun _ : Unit => []) (fun v _ => v = .bool true)) := by
 refine SC_body (fn := Tryd.f4) (n := 127) Tryd.func4 rfl (by kernel_rfl) (ρ := [(0, .string (bS X)), (1, .slice A bs.length c)]) rfl ?_
 refine sr ?_
 refine os 1 ?_
 refine nq ?_
 refine sr ?_
 refine os 1 ?_
 refine oX (.int .i64 ((bS X).size : Int)) (.int .i64 (X.length : Int)) (congrArg (fun n_ : Nat => Value.int .i64 (n_ : Int)) (bS_size _)) ?_
 refine os 2 ?_
 refine tbp 18 (fun hg1 => ?_) (fun hg1 => ?_)
 ·replace hg1 : (X.length : Int) > 4000 := hg1
  refine os 4 ?_
  refine kp [22, 4, 0, 1] ?_
  refine nt ?_
  refine ct ?_
  refine sr ?_
  refine L (cl (law_alive5 hL) ?_)
  rintro _ _ rfl
  refine un ?_
  refine os 1 ?_
  refine nt ?_
  refine SW_ret (r_then ?_)
  refine body_end (.bool true) (fun _ => rfl) ?_
  exact ⟨(), ow, rfl⟩
 replace hg1 : ¬ ((X.length : Int) > 4000) := hg1
 refine os 4 ?_
 refine kp [22, 4, 0, 1] ?_
 refine nt ?_
 refine cdp (fun hc2 : (bs.length : Int) > 1000 => ?_) (fun hc2 => ?_)
 ·refine sr ?_
  refine L (cl (law_alive5 hL) ?_)
  rintro _ _ rfl
  refine un ?_
  refine os 1 ?_
  refine nt ?_
  refine SW_ret (r_then ?_)
  refine body_end (.bool true) (fun _ => rfl) ?_
  exact ⟨(), ow, rfl⟩
 refine SW_skip (n_then ?_)
 refine sr ?_
 refine os 1 ?_
 refine L (cl (lex_Scan hL (X := X)) ?_)
 rintro _ g3 ⟨rfl, hkg3⟩
 refine os 7 ?_
 refine kp [7, 5, 22, 4, 0, 1] ?_
 refine nq ?_
 refine sr ?_
 refine os 2 ?_
 refine nt ?_
 refine cd (fun hc4 : (((scanP X).err) != 0) = true => ?_) (fun hc4 => ?_)
 ·simp only [beq_iff_eq, bne_iff_ne, ne_eq, beq_eq_false_iff_ne, bne_eq_false_iff_eq, Classical.not_not] at hc4
  obtain ⟨hn1_, hn2_⟩ := scan_no hc4
  have hn3_ : (scanP X).toks.length = 0 := by rw [hn1_]; rfl
  refine sr ?_
  refine L (cl (law_alive5 hL) ?_)
  rintro _ _ rfl
  refine un ?_
  refine os 1 ?_
  refine nt ?_
  refine SW_ret (r_then ?_)
  refine body_end (.bool true) (fun _ => rfl) ?_
  exact ⟨(), ow, rfl⟩
 simp only [beq_iff_eq, bne_iff_ne, ne_eq, beq_eq_false_iff_ne, bne_eq_false_iff_eq, Classical.not_not] at hc4
 obtain ⟨ho1_, ho2_, ho3_, ho4_, ho5_⟩ := scan_ok (X := X) hc4
 have hol_ := ho3_.len (Nat.zero_le _)
 refine SW_skip (n_then ?_)
 refine sr ?_
 refine os 1 ?_
 refine nq ?_
 refine sr ?_
 refine os 1 ?_
 refine nt ?_
 refine SW_block ?_
 refine SW_loop (α := Nat × Bytes) (fun z_ ρ_ σ_ => Fits ρ_ σ_ [(0, .string (bS X)), (1, .slice A bs.length c), (5, Gs.val g3 ((scanP X).toks.length)), (8, .string (bS z_.2)), (9, .int .i64 (z_.1 : Int))] ((Gs.ent 29 4 g3 (((scanP X).toks).flatMap Tok.cells)) ++ ([])) ∧ z_.1 ≤ (scanP X).toks.length ∧ z_.2 ++ againP X ((scanP X).toks.drop z_.1) (bs.drop z_.1) = againP X (scanP X).toks bs) (fun z_ => (scanP X).toks.length - z_.1) (0, ([] : Bytes)) ⟨⟨fun _ => rfl, ow⟩, Nat.zero_le _, rfl⟩ ?_
 rintro ⟨i, x⟩ ρ_ σ_ ⟨hfit, hi0, hi1⟩
 refine SW_fits hfit ?_
 clear hfit
 simp only [] at hi0 hi1 ⊢
 have hxl_ := again_room hi1 (by omega) (by omega)
 refine SW_seq ?_
 refine sr ?_
 refine os 4 ?_
 refine kp [36, 0, 1, 5, 8, 9] ?_
 refine nt ?_
 refine cdp (fun hc5 : (i : Int) < ((((scanP X).toks.length : Nat)) : Int) => ?_) (fun hc5 => ?_)
 ·refine SW_skip (n_then ?_)
  refine SW_seq ?_
  refine SW_block ?_
  refine sr ?_
  refine os 1 ?_
  refine nq ?_
  refine sr ?_
  refine os 4 ?_
  refine kp [42, 10, 36, 0, 1, 5, 8, 9] ?_
  refine nt ?_
  refine cdp (fun hc6 : (i : Int) < (bs.length : Int) => ?_) (fun hc6 => ?_)
  ·obtain ⟨b0_, o0_, rfl, hqb0_⟩ := (hq []).resolve_left (by rw [List.length_map]; omega)
   refine SW_region ?_
   refine os 2 ?_
   refine L (O_indexAddr' (i : Int) (o0_ + i) b0_ o0_ bs.length c .i64 1 Tryd.underlying31 (by kernel_rfl) (fun _ => rfl) (fun _ => rfl) (by omega) (by omega) (by omega) rfl ?_)
   obtain ⟨e1, he1⟩ : ∃ y_, bs[i]? = some y_ := ⟨_, List.getElem?_eq_getElem (by omega)⟩
   refine L (ld ?_ (hc := Cell.mono (hqb0_ _ _ (map_cell he1 rfl)) (fun e he => absurd he List.not_mem_nil)))
   refine os 1 ?_
   refine kp [10, 42, 36, 0, 1, 5, 8, 9] ?_
   refine nq ?_
   refine sr ?_
   refine os 1 ?_
   refine oX (.int .u8 (Int.tmod (e1.toNat : Int) 4)) (.int .u8 ((e1.toNat : Int) % 4)) (congrArg (Value.int .u8) (rem_nn (by omega))) ?_
   refine nt ?_
   refine SW_block ?_
   refine sr ?_
   refine os 2 ?_
   refine nt ?_
   refine cd (fun hc7 : (((e1.toNat : Int) % 4) == 0) = true => ?_) (fun hc7 => ?_)
   ·simp only [beq_iff_eq, bne_iff_ne, ne_eq, beq_eq_false_iff_ne, bne_eq_false_iff_eq, Classical.not_not] at hc7
    refine SW_region ?_
    refine os 1 ?_
    refine oV (.string (bS (x ++ [32]))) ?_ (hs := (fun δ w_ => run_catB x [32] (by simp; omega) rfl rfl))
    refine os 1 ?_
    refine kp [8, 51, 48, 10, 42, 36, 0, 1, 5, 9] ?_
    refine SL_nil (n_in (n_then ?_))
    refine sr ?_
    refine os 5 ?_
    refine kp [67, 8, 51, 48, 10, 42, 36, 0, 1, 5, 9] ?_
    refine nt ?_
    refine cdp (fun hc8 : ((i : Int) + 1) < ((((scanP X).toks.length : Nat)) : Int) => ?_) (fun hc8 => ?_)
    ·obtain ⟨e2, he2⟩ : ∃ y_, ((scanP X).toks)[i]? = some y_ := ⟨_, List.getElem?_eq_getElem (by omega)⟩
     obtain ⟨e3, he3⟩ : ∃ y_, ((scanP X).toks)[(i + 1)]? = some y_ := ⟨_, List.getElem?_eq_getElem (by omega)⟩
     have htl_ := ho3_.tiles (Nat.zero_le _) he2 he3
     have htp_ := htl_.pos
     have hin_ := htl_.inn
     refine SW_draw [((Gs.blk g3), i * 4 + 1, .int .i64 (e2.pos : Int)), ((Gs.blk g3), (i + 1) * 4 + 1, .int .i64 (e3.pos : Int))] [0, 1, 2, 3, 4, 5, 6, 7, 8, 9, 10, 11, 12] (by kernel_rfl) (rd_cons (Gs.cell hkg3 (fun e he => (mem_h he)) (flat_cell Tok.len he2 (j := 1) (by decide) rfl)) (rd_cons (Gs.cell hkg3 (fun e he => (mem_h he)) (flat_cell Tok.len he3 (j := 1) (by decide) rfl)) rd_nil)) ?_
     refine aS 0 ?_
     refine aS 1 ?_
     refine aS 2 ?_
     refine aS 3 ?_
     refine aI 4 (i : Int) (i * 4) hkg3 Tryd.underlying23 ?_
     refine aF 5 ?_
     refine aL 6 ?_
     refine aS 7 ?_
     refine aS 8 ?_
     refine tk 9 (.int .i64 (IntKind.wrap .i64 ((i : Int) + 1))) ?_
     rw [show IntKind.wrap .i64 ((i : Int) + 1) = (i : Int) + 1 from IntWalk.i64_in _ (by omega)]
     refine aI 10 ((i : Int) + 1) ((i + 1) * 4) hkg3 Tryd.underlying23 ?_
     refine aF 11 ?_
     refine kpA [79, 74, 69, 68, 67, 8, 51, 48, 10, 42, 36, 0, 1, 5, 9] ?_
     refine aL 12 ?_
     refine tk 13 (.string (bS ((X.take ((e3.pos : Int)).toNat).drop ((e2.pos : Int)).toNat))) ?_ (hy := fun δ w => run_strMid (l := X) (e2.pos : Int) (e3.pos : Int) .i64 .i64 Tryd.underlying9 rfl rfl rfl (by omega) (by omega) (by omega))
     rw [show ((e3.pos : Int)).toNat = e3.pos from by omega, show ((e2.pos : Int)).toNat = e2.pos from by omega]
     refine tk 14 (.string (bS ((x ++ [32]) ++ ((X.take e3.pos).drop e2.pos)))) ?_ (hy := (fun δ w_ => run_catB (x ++ [32]) ((X.take e3.pos).drop e2.pos) (by simp; omega) rfl rfl))
     refine aS 15 ?_
     refine SA_done (by kernel_rfl) (n_in (n_then ?_))
     refine SW_region ?_
     refine os 3 ?_
     refine kp [9, 8, 67, 51, 48, 10, 42, 36, 0, 1, 5] ?_
     refine nt ?_
     have hN_ : blanksB ((bs.drop i).headD 0) = [32] := by rw [headD_drop he1]; exact blanks0 (by omega)
     rw [again_more he2 he3 hN_] at hi1
     exact ⟨(i + 1, ((x ++ [32]) ++ ((X.take e3.pos).drop e2.pos))), by simp only []; omega, ⟨fun _ => rfl, ow⟩, by simp only []; omega, hi1⟩
    refine SW_skip (n_in (n_then ?_))
    refine SW_region ?_
    refine os 3 ?_
    refine nt ?_
    obtain ⟨e4, he4⟩ : ∃ y_, ((scanP X).toks)[i]? = some y_ := ⟨_, List.getElem?_eq_getElem (by omega)⟩
    have hN_ : blanksB ((bs.drop i).headD 0) = [32] := by rw [headD_drop he1]; exact blanks0 (by omega)
    rw [again_last he4 (by omega) hN_] at hi1
    exact ⟨(i + 1, (x ++ [32])), by simp only []; omega, ⟨fun _ => rfl, ow⟩, by simp only []; omega, hi1⟩
   simp only [beq_iff_eq, bne_iff_ne, ne_eq, beq_eq_false_iff_ne, bne_eq_false_iff_eq, Classical.not_not] at hc7
   refine sr ?_
   refine os 2 ?_
   refine kp [55, 51, 48, 10, 42, 36, 0, 1, 5, 8, 9] ?_
   refine nt ?_
   refine cd (fun hc9 : (((e1.toNat : Int) % 4) == 1) = true => ?_) (fun hc9 => ?_)
   ·simp only [beq_iff_eq, bne_iff_ne, ne_eq, beq_eq_false_iff_ne, bne_eq_false_iff_eq, Classical.not_not] at hc9
    refine SW_region ?_
    refine os 1 ?_
    refine oV (.string (bS (x ++ [10, 9]))) ?_ (hs := (fun δ w_ => run_catB x [10, 9] (by simp; omega) rfl rfl))
    refine os 1 ?_
    refine SL_nil (n_in (n_then ?_))
    refine sr ?_
    refine os 5 ?_
    refine kp [67, 8, 55, 51, 48, 10, 42, 36, 0, 1, 5, 9] ?_
    refine nt ?_
    refine cdp (fun hc10 : ((i : Int) + 1) < ((((scanP X).toks.length : Nat)) : Int) => ?_) (fun hc10 => ?_)
    ·obtain ⟨e5, he5⟩ : ∃ y_, ((scanP X).toks)[i]? = some y_ := ⟨_, List.getElem?_eq_getElem (by omega)⟩
     obtain ⟨e6, he6⟩ : ∃ y_, ((scanP X).toks)[(i + 1)]? = some y_ := ⟨_, List.getElem?_eq_getElem (by omega)⟩
     have htl_ := ho3_.tiles (Nat.zero_le _) he5 he6
     have htp_ := htl_.pos
     have hin_ := htl_.inn
     refine SW_draw [((Gs.blk g3), i * 4 + 1, .int .i64 (e5.pos : Int)), ((Gs.blk g3), (i + 1) * 4 + 1, .int .i64 (e6.pos : Int))] [0, 1, 2, 3, 4, 5, 6, 7, 8, 9, 10, 11, 12] (by kernel_rfl) (rd_cons (Gs.cell hkg3 (fun e he => (mem_h he)) (flat_cell Tok.len he5 (j := 1) (by decide) rfl)) (rd_cons (Gs.cell hkg3 (fun e he => (mem_h he)) (flat_cell Tok.len he6 (j := 1) (by decide) rfl)) rd_nil)) ?_
     refine aS 0 ?_
     refine aS 1 ?_
     refine aS 2 ?_
     refine aS 3 ?_
     refine aI 4 (i : Int) (i * 4) hkg3 Tryd.underlying23 ?_
     refine aF 5 ?_
     refine aL 6 ?_
     refine aS 7 ?_
     refine aS 8 ?_
     refine tk 9 (.int .i64 (IntKind.wrap .i64 ((i : Int) + 1))) ?_
     rw [show IntKind.wrap .i64 ((i : Int) + 1) = (i : Int) + 1 from IntWalk.i64_in _ (by omega)]
     refine aI 10 ((i : Int) + 1) ((i + 1) * 4) hkg3 Tryd.underlying23 ?_
     refine aF 11 ?_
     refine kpA [79, 74, 69, 68, 67, 8, 55, 51, 48, 10, 42, 36, 0, 1, 5, 9] ?_
     refine aL 12 ?_
     refine tk 13 (.string (bS ((X.take ((e6.pos : Int)).toNat).drop ((e5.pos : Int)).toNat))) ?_ (hy := fun δ w => run_strMid (l := X) (e5.pos : Int) (e6.pos : Int) .i64 .i64 Tryd.underlying9 rfl rfl rfl (by omega) (by omega) (by omega))
     rw [show ((e6.pos : Int)).toNat = e6.pos from by omega, show ((e5.pos : Int)).toNat = e5.pos from by omega]
     refine tk 14 (.string (bS ((x ++ [10, 9]) ++ ((X.take e6.pos).drop e5.pos)))) ?_ (hy := (fun δ w_ => run_catB (x ++ [10, 9]) ((X.take e6.pos).drop e5.pos) (by simp; omega) rfl rfl))
     refine aS 15 ?_
     refine SA_done (by kernel_rfl) (n_in (n_then ?_))
     refine SW_region ?_
     refine os 3 ?_
     refine kp [9, 8, 67, 55, 51, 48, 10, 42, 36, 0, 1, 5] ?_
     refine nt ?_
     have hN_ : blanksB ((bs.drop i).headD 0) = [10, 9] := by rw [headD_drop he1]; exact blanks1 (by omega)
     rw [again_more he5 he6 hN_] at hi1
     exact ⟨(i + 1, ((x ++ [10, 9]) ++ ((X.take e6.pos).drop e5.pos))), by simp only []; omega, ⟨fun _ => rfl, ow⟩, by simp only []; omega, hi1⟩
    refine SW_skip (n_in (n_then ?_))
    refine SW_region ?_
    refine os 3 ?_
    refine nt ?_
    obtain ⟨e7, he7⟩ : ∃ y_, ((scanP X).toks)[i]? = some y_ := ⟨_, List.getElem?_eq_getElem (by omega)⟩
    have hN_ : blanksB ((bs.drop i).headD 0) = [10, 9] := by rw [headD_drop he1]; exact blanks1 (by omega)
    rw [again_last he7 (by omega) hN_] at hi1
    exact ⟨(i + 1, (x ++ [10, 9])), by simp only []; omega, ⟨fun _ => rfl, ow⟩, by simp only []; omega, hi1⟩
   simp only [beq_iff_eq, bne_iff_ne, ne_eq, beq_eq_false_iff_ne, bne_eq_false_iff_eq, Classical.not_not] at hc9
   refine sr ?_
   refine os 2 ?_
   refine nt ?_
   refine cd (fun hc11 : (((e1.toNat : Int) % 4) == 2) = true => ?_) (fun hc11 => ?_)
   ·simp only [beq_iff_eq, bne_iff_ne, ne_eq, beq_eq_false_iff_ne, bne_eq_false_iff_eq, Classical.not_not] at hc11
    refine SW_region ?_
    refine os 1 ?_
    refine oV (.string (bS (x ++ [32, 47, 42, 32, 47, 32, 42, 32, 42, 47]))) ?_ (hs := (fun δ w_ => run_catB x [32, 47, 42, 32, 47, 32, 42, 32, 42, 47] (by simp; omega) rfl rfl))
    refine os 1 ?_
    refine kp [8, 59, 55, 51, 48, 10, 42, 36, 0, 1, 5, 9] ?_
    refine SL_nil (n_in (n_then ?_))
    refine sr ?_
    refine os 5 ?_
    refine kp [67, 8, 59, 55, 51, 48, 10, 42, 36, 0, 1, 5, 9] ?_
    refine nt ?_
    refine cdp (fun hc12 : ((i : Int) + 1) < ((((scanP X).toks.length : Nat)) : Int) => ?_) (fun hc12 => ?_)
    ·obtain ⟨e8, he8⟩ : ∃ y_, ((scanP X).toks)[i]? = some y_ := ⟨_, List.getElem?_eq_getElem (by omega)⟩
     obtain ⟨e9, he9⟩ : ∃ y_, ((scanP X).toks)[(i + 1)]? = some y_ := ⟨_, List.getElem?_eq_getElem (by omega)⟩
     have htl_ := ho3_.tiles (Nat.zero_le _) he8 he9
     have htp_ := htl_.pos
     have hin_ := htl_.inn
     refine SW_draw [((Gs.blk g3), i * 4 + 1, .int .i64 (e8.pos : Int)), ((Gs.blk g3), (i + 1) * 4 + 1, .int .i64 (e9.pos : Int))] [0, 1, 2, 3, 4, 5, 6, 7, 8, 9, 10, 11, 12] (by kernel_rfl) (rd_cons (Gs.cell hkg3 (fun e he => (mem_h he)) (flat_cell Tok.len he8 (j := 1) (by decide) rfl)) (rd_cons (Gs.cell hkg3 (fun e he => (mem_h he)) (flat_cell Tok.len he9 (j := 1) (by decide) rfl)) rd_nil)) ?_
     refine aS 0 ?_
     refine aS 1 ?_
     refine aS 2 ?_
     refine aS 3 ?_
     refine aI 4 (i : Int) (i * 4) hkg3 Tryd.underlying23 ?_
     refine aF 5 ?_
     refine aL 6 ?_
     refine aS 7 ?_
     refine aS 8 ?_
     refine tk 9 (.int .i64 (IntKind.wrap .i64 ((i : Int) + 1))) ?_
     rw [show IntKind.wrap .i64 ((i : Int) + 1) = (i : Int) + 1 from IntWalk.i64_in _ (by omega)]
     refine aI 10 ((i : Int) + 1) ((i + 1) * 4) hkg3 Tryd.underlying23 ?_
     refine aF 11 ?_
     refine kpA [79, 74, 69, 68, 67, 8, 59, 55, 51, 48, 10, 42, 36, 0, 1, 5, 9] ?_
     refine aL 12 ?_
     refine tk 13 (.string (bS ((X.take ((e9.pos : Int)).toNat).drop ((e8.pos : Int)).toNat))) ?_ (hy := fun δ w => run_strMid (l := X) (e8.pos : Int) (e9.pos : Int) .i64 .i64 Tryd.underlying9 rfl rfl rfl (by omega) (by omega) (by omega))
     rw [show ((e9.pos : Int)).toNat = e9.pos from by omega, show ((e8.pos : Int)).toNat = e8.pos from by omega]
     refine tk 14 (.string (bS ((x ++ [32, 47, 42, 32, 47, 32, 42, 32, 42, 47]) ++ ((X.take e9.pos).drop e8.pos)))) ?_ (hy := (fun δ w_ => run_catB (x ++ [32, 47, 42, 32, 47, 32, 42, 32, 42, 47]) ((X.take e9.pos).drop e8.pos) (by simp; omega) rfl rfl))
     refine aS 15 ?_
     refine SA_done (by kernel_rfl) (n_in (n_then ?_))
     refine SW_region ?_
     refine os 3 ?_
     refine kp [9, 8, 67, 59, 55, 51, 48, 10, 42, 36, 0, 1, 5] ?_
     refine nt ?_
     have hN_ : blanksB ((bs.drop i).headD 0) = [32, 47, 42, 32, 47, 32, 42, 32, 42, 47] := by rw [headD_drop he1]; exact blanks2 (by omega)
     rw [again_more he8 he9 hN_] at hi1
     exact ⟨(i + 1, ((x ++ [32, 47, 42, 32, 47, 32, 42, 32, 42, 47]) ++ ((X.take e9.pos).drop e8.pos))), by simp only []; omega, ⟨fun _ => rfl, ow⟩, by simp only []; omega, hi1⟩
    refine SW_skip (n_in (n_then ?_))
    refine SW_region ?_
    refine os 3 ?_
    refine nt ?_
    obtain ⟨e10, he10⟩ : ∃ y_, ((scanP X).toks)[i]? = some y_ := ⟨_, List.getElem?_eq_getElem (by omega)⟩
    have hN_ : blanksB ((bs.drop i).headD 0) = [32, 47, 42, 32, 47, 32, 42, 32, 42, 47] := by rw [headD_drop he1]; exact blanks2 (by omega)
    rw [again_last he10 (by omega) hN_] at hi1
    exact ⟨(i + 1, (x ++ [32, 47, 42, 32, 47, 32, 42, 32, 42, 47])), by simp only []; omega, ⟨fun _ => rfl, ow⟩, by simp only []; omega, hi1⟩
   simp only [beq_iff_eq, bne_iff_ne, ne_eq, beq_eq_false_iff_ne, bne_eq_false_iff_eq, Classical.not_not] at hc11
   refine SW_region ?_
   refine os 1 ?_
   refine oV (.string (bS (x ++ [32, 47, 47, 32, 47, 42, 10]))) ?_ (hs := (fun δ w_ => run_catB x [32, 47, 47, 32, 47, 42, 10] (by simp; omega) rfl rfl))
   refine os 1 ?_
   refine kp [8, 59, 55, 51, 48, 10, 42, 36, 0, 1, 5, 9] ?_
   refine SL_nil (n_in (n_then ?_))
   refine sr ?_
   refine os 5 ?_
   refine kp [67, 8, 59, 55, 51, 48, 10, 42, 36, 0, 1, 5, 9] ?_
   refine nt ?_
   refine cdp (fun hc13 : ((i : Int) + 1) < ((((scanP X).toks.length : Nat)) : Int) => ?_) (fun hc13 => ?_)
   ·obtain ⟨e11, he11⟩ : ∃ y_, ((scanP X).toks)[i]? = some y_ := ⟨_, List.getElem?_eq_getElem (by omega)⟩
    obtain ⟨e12, he12⟩ : ∃ y_, ((scanP X).toks)[(i + 1)]? = some y_ := ⟨_, List.getElem?_eq_getElem (by omega)⟩
    have htl_ := ho3_.tiles (Nat.zero_le _) he11 he12
    have htp_ := htl_.pos
    have hin_ := htl_.inn
    refine SW_draw [((Gs.blk g3), i * 4 + 1, .int .i64 (e11.pos : Int)), ((Gs.blk g3), (i + 1) * 4 + 1, .int .i64 (e12.pos : Int))] [0, 1, 2, 3, 4, 5, 6, 7, 8, 9, 10, 11, 12] (by kernel_rfl) (rd_cons (Gs.cell hkg3 (fun e he => (mem_h he)) (flat_cell Tok.len he11 (j := 1) (by decide) rfl)) (rd_cons (Gs.cell hkg3 (fun e he => (mem_h he)) (flat_cell Tok.len he12 (j := 1) (by decide) rfl)) rd_nil)) ?_
    refine aS 0 ?_
    refine aS 1 ?_
    refine aS 2 ?_
    refine aS 3 ?_
    refine aI 4 (i : Int) (i * 4) hkg3 Tryd.underlying23 ?_
    refine aF 5 ?_
    refine aL 6 ?_
    refine aS 7 ?_
    refine aS 8 ?_
    refine tk 9 (.int .i64 (IntKind.wrap .i64 ((i : Int) + 1))) ?_
    rw [show IntKind.wrap .i64 ((i : Int) + 1) = (i : Int) + 1 from IntWalk.i64_in _ (by omega)]
    refine aI 10 ((i : Int) + 1) ((i + 1) * 4) hkg3 Tryd.underlying23 ?_
    refine aF 11 ?_
    refine kpA [79, 74, 69, 68, 67, 8, 59, 55, 51, 48, 10, 42, 36, 0, 1, 5, 9] ?_
    refine aL 12 ?_
    refine tk 13 (.string (bS ((X.take ((e12.pos : Int)).toNat).drop ((e11.pos : Int)).toNat))) ?_ (hy := fun δ w => run_strMid (l := X) (e11.pos : Int) (e12.pos : Int) .i64 .i64 Tryd.underlying9 rfl rfl rfl (by omega) (by omega) (by omega))
    rw [show ((e12.pos : Int)).toNat = e12.pos from by omega, show ((e11.pos : Int)).toNat = e11.pos from by omega]
    refine tk 14 (.string (bS ((x ++ [32, 47, 47, 32, 47, 42, 10]) ++ ((X.take e12.pos).drop e11.pos)))) ?_ (hy := (fun δ w_ => run_catB (x ++ [32, 47, 47, 32, 47, 42, 10]) ((X.take e12.pos).drop e11.pos) (by simp; omega) rfl rfl))
    refine aS 15 ?_
    refine SA_done (by kernel_rfl) (n_in (n_then ?_))
    refine SW_region ?_
    refine os 3 ?_
    refine kp [9, 8, 67, 59, 55, 51, 48, 10, 42, 36, 0, 1, 5] ?_
    refine nt ?_
    have hN_ : blanksB ((bs.drop i).headD 0) = [32, 47, 47, 32, 47, 42, 10] := by rw [headD_drop he1]; exact blanks3 (by omega) (by omega) (by omega)
    rw [again_more he11 he12 hN_] at hi1
    exact ⟨(i + 1, ((x ++ [32, 47, 47, 32, 47, 42, 10]) ++ ((X.take e12.pos).drop e11.pos))), by simp only []; omega, ⟨fun _ => rfl, ow⟩, by simp only []; omega, hi1⟩
   refine SW_skip (n_in (n_then ?_))
   refine SW_region ?_
   refine os 3 ?_
   refine nt ?_
   obtain ⟨e13, he13⟩ : ∃ y_, ((scanP X).toks)[i]? = some y_ := ⟨_, List.getElem?_eq_getElem (by omega)⟩
   have hN_ : blanksB ((bs.drop i).headD 0) = [32, 47, 47, 32, 47, 42, 10] := by rw [headD_drop he1]; exact blanks3 (by omega) (by omega) (by omega)
   rw [again_last he13 (by omega) hN_] at hi1
   exact ⟨(i + 1, (x ++ [32, 47, 47, 32, 47, 42, 10])), by simp only []; omega, ⟨fun _ => rfl, ow⟩, by simp only []; omega, hi1⟩
  refine SW_skip (n_then ?_)
  refine SW_seq ?_
  refine sr ?_
  refine os 1 ?_
  refine oV (.int .u8 0) ?_
  refine nt ?_
  refine SW_block ?_
  refine sr ?_
  refine oV (.bool true) ?_
  refine os 1 ?_
  refine nt ?_
  refine ct ?_
  refine SW_region ?_
  refine os 1 ?_
  refine oV (.string (bS (x ++ [32]))) ?_ (hs := (fun δ w_ => run_catB x [32] (by simp; omega) rfl rfl))
  refine os 1 ?_
  refine kp [8, 51, 48, 42, 10, 36, 0, 1, 5, 9] ?_
  refine SL_nil (n_in (n_then ?_))
  refine sr ?_
  refine os 5 ?_
  refine kp [67, 8, 51, 48, 42, 10, 36, 0, 1, 5, 9] ?_
  refine nt ?_
  refine cdp (fun hc14 : ((i : Int) + 1) < ((((scanP X).toks.length : Nat)) : Int) => ?_) (fun hc14 => ?_)
  ·obtain ⟨e14, he14⟩ : ∃ y_, ((scanP X).toks)[i]? = some y_ := ⟨_, List.getElem?_eq_getElem (by omega)⟩
   obtain ⟨e15, he15⟩ : ∃ y_, ((scanP X).toks)[(i + 1)]? = some y_ := ⟨_, List.getElem?_eq_getElem (by omega)⟩
   have htl_ := ho3_.tiles (Nat.zero_le _) he14 he15
   have htp_ := htl_.pos
   have hin_ := htl_.inn
   refine SW_draw [((Gs.blk g3), i * 4 + 1, .int .i64 (e14.pos : Int)), ((Gs.blk g3), (i + 1) * 4 + 1, .int .i64 (e15.pos : Int))] [0, 1, 2, 3, 4, 5, 6, 7, 8, 9, 10, 11, 12] (by kernel_rfl) (rd_cons (Gs.cell hkg3 (fun e he => (mem_h he)) (flat_cell Tok.len he14 (j := 1) (by decide) rfl)) (rd_cons (Gs.cell hkg3 (fun e he => (mem_h he)) (flat_cell Tok.len he15 (j := 1) (by decide) rfl)) rd_nil)) ?_
   refine aS 0 ?_
   refine aS 1 ?_
   refine aS 2 ?_
   refine aS 3 ?_
   refine aI 4 (i : Int) (i * 4) hkg3 Tryd.underlying23 ?_
   refine aF 5 ?_
   refine aL 6 ?_
   refine aS 7 ?_
   refine aS 8 ?_
   refine tk 9 (.int .i64 (IntKind.wrap .i64 ((i : Int) + 1))) ?_
   rw [show IntKind.wrap .i64 ((i : Int) + 1) = (i : Int) + 1 from IntWalk.i64_in _ (by omega)]
   refine aI 10 ((i : Int) + 1) ((i + 1) * 4) hkg3 Tryd.underlying23 ?_
   refine aF 11 ?_
   refine kpA [79, 74, 69, 68, 67, 8, 51, 48, 42, 10, 36, 0, 1, 5, 9] ?_
   refine aL 12 ?_
   refine tk 13 (.string (bS ((X.take ((e15.pos : Int)).toNat).drop ((e14.pos : Int)).toNat))) ?_ (hy := fun δ w => run_strMid (l := X) (e14.pos : Int) (e15.pos : Int) .i64 .i64 Tryd.underlying9 rfl rfl rfl (by omega) (by omega) (by omega))
   rw [show ((e15.pos : Int)).toNat = e15.pos from by omega, show ((e14.pos : Int)).toNat = e14.pos from by omega]
   refine tk 14 (.string (bS ((x ++ [32]) ++ ((X.take e15.pos).drop e14.pos)))) ?_ (hy := (fun δ w_ => run_catB (x ++ [32]) ((X.take e15.pos).drop e14.pos) (by simp; omega) rfl rfl))
   refine aS 15 ?_
   refine SA_done (by kernel_rfl) (n_in (n_then ?_))
   refine SW_region ?_
   refine os 3 ?_
   refine kp [9, 8, 67, 51, 48, 42, 10, 36, 0, 1, 5] ?_
   refine nt ?_
   have hN_ : blanksB ((bs.drop i).headD 0) = [32] := by rw [headD_end (by omega)]; exact blanks0 (by decide)
   rw [again_more he14 he15 hN_] at hi1
   exact ⟨(i + 1, ((x ++ [32]) ++ ((X.take e15.pos).drop e14.pos))), by simp only []; omega, ⟨fun _ => rfl, ow⟩, by simp only []; omega, hi1⟩
  refine SW_skip (n_in (n_then ?_))
  refine SW_region ?_
  refine os 3 ?_
  refine nt ?_
  obtain ⟨e16, he16⟩ : ∃ y_, ((scanP X).toks)[i]? = some y_ := ⟨_, List.getElem?_eq_getElem (by omega)⟩
  have hN_ : blanksB ((bs.drop i).headD 0) = [32] := by rw [headD_end (by omega)]; exact blanks0 (by decide)
  rw [again_last he16 (by omega) hN_] at hi1
  exact ⟨(i + 1, (x ++ [32])), by simp only []; omega, ⟨fun _ => rfl, ow⟩, by simp only []; omega, hi1⟩
 refine SW_exit (x_then (x_then (x_in (n_then ?_))))
 refine SW_seq ?_
 have hix_ : x = (againP X (scanP X).toks bs) := by rw [show i = (scanP X).toks.length from by omega, List.drop_length] at hi1; have q_ : x ++ [] = (againP X (scanP X).toks bs) := hi1; rwa [List.append_nil] at q_
 subst hix_
 refine SW_region ?_
 refine os 1 ?_
 by_cases hp17 : (againP X (scanP X).toks bs).length ≤ 65536
 ·obtain ⟨m, hm1_, hm2_⟩ := again_scan ho3_ ho2_ bs hp17
  have hml_ : m.length = (scanP X).toks.length := by have := congrArg List.length hm2_; simpa using this
  refine L (cl ((lex_scan_good hL (l := m) hm1_)) ?_)
  rintro _ g15 ⟨rfl, hkg15⟩
  refine os 7 ?_
  refine kp [13, 11, 36, 0, 1, 5, 8, 9] ?_
  refine nq ?_
  refine sr ?_
  refine os 1 ?_
  refine oV (.bool false) ?_
  refine os 2 ?_
  refine oX (.int .i64 ((bS (againP X (scanP X).toks bs)).size : Int)) (.int .i64 ((againP X (scanP X).toks bs).length : Int)) (congrArg (fun n_ : Nat => Value.int .i64 (n_ : Int)) (bS_size _)) ?_
  refine os 2 ?_
  refine kp [95, 13, 11, 36, 0, 1, 5, 8, 9] ?_
  refine nt ?_
  refine SW_false (fun _ => (congrArg Value.bool (show (decide (((againP X (scanP X).toks bs).length : Int) > 65536)) = false from (decide_eq_false (by omega))))) ?_
  refine SW_skip (n_then ?_)
  refine SW_seq ?_
  refine sr ?_
  refine os 1 ?_
  refine oV (.bool false) ?_
  refine os 7 ?_
  refine kp [105, 95, 13, 11, 36, 0, 1, 5, 8, 9] ?_
  refine nt ?_
  refine SW_false (fun _ => (congrArg Value.bool (show ((m.length : Int) != ((((scanP X).toks.length : Nat)) : Int)) = false from (bne_eq_false_iff_eq.2 (by omega))))) ?_
  refine SW_skip (n_then ?_)
  refine SW_seq ?_
  refine sr ?_
  refine os 1 ?_
  refine nt ?_
  refine SW_block ?_
  have hk0_ : Gs.ok 4 m.length g15 (((scanP X).toks.take 0 ++ m.drop 0).flatMap Tok.cells) := by rw [List.take_zero, List.drop_zero, List.nil_append]; exact hkg15
  rw [show m.flatMap Tok.cells = ((scanP X).toks.take 0 ++ m.drop 0).flatMap Tok.cells from by rw [List.take_zero, List.drop_zero, List.nil_append]]
  refine SW_loop (α := Nat) (fun z_ ρ_ σ_ => Fits ρ_ σ_ [(5, Gs.val g3 ((scanP X).toks.length)), (11, Gs.val g15 m.length), (14, .int .i64 (z_ : Int))] ((Gs.ent 29 4 g15 (((scanP X).toks.take z_ ++ m.drop z_).flatMap Tok.cells)) ++ ((Gs.ent 29 4 g3 (((scanP X).toks).flatMap Tok.cells)) ++ ([]))) ∧ z_ ≤ m.length ∧ Gs.ok 4 m.length g15 (((scanP X).toks.take z_ ++ m.drop z_).flatMap Tok.cells)) (fun z_ => m.length - z_) 0 ⟨⟨fun _ => rfl, ow⟩, Nat.zero_le _, hk0_⟩ ?_
  rintro i ρ_ σ_ ⟨hfit, hi0, hi1⟩
  refine SW_fits hfit ?_
  clear hfit
  refine SW_seq ?_
  refine sr ?_
  refine os 4 ?_
  refine kp [109, 5, 11, 14] ?_
  refine nt ?_
  refine cdp (fun hc16 : (i : Int) < ((((scanP X).toks.length : Nat)) : Int) => ?_) (fun hc16 => ?_)
  ·refine SW_skip (n_then ?_)
   refine SW_seq ?_
   refine SW_block ?_
   refine SW_region ?_
   refine os 4 ?_
   refine L (ixg (i : Int) (i * 4) hkg3 Tryd.underlying23 ?_)
   refine os 1 ?_
   obtain ⟨e18, he18⟩ : ∃ y_, ((scanP X).toks)[i]? = some y_ := ⟨_, List.getElem?_eq_getElem (by omega)⟩
   refine L (ld ?_ (hc := Gs.cell hkg3 (fun e he => (mem_a (mem_h he))) (flat_cell Tok.len he18 (j := 1) (by decide) rfl)))
   refine L (ixg (i : Int) (i * 4) hi1 Tryd.underlying23 ?_)
   refine os 1 ?_
   refine kp [120, 118, 109, 5, 11, 14] ?_
   obtain ⟨e19, he19⟩ : ∃ y_, ((scanP X).toks.take i ++ m.drop i)[i]? = some y_ := ⟨_, List.getElem?_eq_getElem (by simp; omega)⟩
   have hok1 := Gs.ok.relen (ys := ((((scanP X).toks.take i ++ m.drop i).set i (⟨e19.kind, e18.pos, e19.text, e19.num⟩ : Tok)).flatMap Tok.cells)) hi1 (by first | (simp [flat_len Tok.len]; done) | simp only [flat_len Tok.len, List.length_set])
   refine L (O_storeG (ys := ((((scanP X).toks.take i ++ m.drop i).set i (⟨e19.kind, e18.pos, e19.text, e19.num⟩ : Tok)).flatMap Tok.cells)) g15 (i * 4 + 1) (.int .i64 (e18.pos : Int)) [.int .i64 (e18.pos : Int)] (Gs.ok.ne hi1 (by first | omega | (simp; omega))) (fun _ => rfl) (fun _ => rfl) rfl (by kernel_rfl) rfl (by rw [flat_len Tok.len]; simp; omega) (row_lay (j := 1) Tok.len (⟨e19.kind, e18.pos, e19.text, e19.num⟩ : Tok) he19 (Nat.le_of_ble_eq_true rfl) rfl) rfl ?_)
   refine SL_nil (n_in (n_then ?_))
   refine SW_region ?_
   refine os 3 ?_
   refine kp [14, 109, 5, 11] ?_
   refine nt ?_
   have hst_ := mix_set hm2_ he18 he19
   rw [hst_] at hok1 ⊢
   exact ⟨i + 1, by omega, ⟨fun _ => rfl, ow⟩, by omega, hok1⟩
  refine SW_exit (x_then (x_then (x_in (n_then ?_))))
  refine SW_seq ?_
  have hme_ := mix_end (i := i) hm2_ (by omega)
  rw [hme_, hml_] at hi1
  rw [hme_, hml_]
  refine SW_region ?_
  refine L (cl (law_alive5 hL) ?_)
  rintro _ _ rfl
  refine un ?_
  refine os 3 ?_
  refine L (cl (law_same5 (l := (scanP X).toks) hi1 hkg3) ?_)
  rintro _ _ rfl
  refine un ?_
  refine os 2 ?_
  refine kp [4, 109, 5, 11, 14] ?_
  refine nt ?_
  refine SW_ret ?_
  refine body_end (.bool true) (fun _ => rfl) ?_
  exact ⟨(), ow, rfl⟩
 refine L (cl ((lex_scan_bad hL (scan_long hp17))) ?_)
 rintro _ g17 ⟨rfl, hkg17⟩
 refine os 7 ?_
 refine kp [13, 11, 36, 0, 1, 5, 8, 9] ?_
 refine nq ?_
 refine sr ?_
 refine os 1 ?_
 refine oV (.bool true) ?_
 refine os 5 ?_
 refine kp [95, 13, 11, 36, 0, 1, 5, 8, 9] ?_
 refine nt ?_
 refine ct ?_
 refine sr ?_
 refine L (cl (law_alive5 hL) ?_)
 rintro _ _ rfl
 refine un ?_
 refine os 1 ?_
 refine nt ?_
 refine SW_ret (r_then ?_)
 refine body_end (.bool true) (fun _ => rfl) ?_
 exact ⟨(), ow, rfl⟩

end Go.Proofs.YtnhmmjogfkjceaaDoor
namespace Go.Proofs.YtnhmmjogfkjceaaDoor
open Go.Sl Go.ChangeShapes Go.WideShapes Go.ChangeAt Go.RowKit

theorem LexAgain_contract (H : Type) (enc : TypeId × Value → H) (W : World) (base : Nat) (args : Array Value) (ds gs : List (DataW H)) (before : List MemPlace)
   (hval : ∀ (j : Nat) t v, Tryd.f4.params[j]? = some t → args[j]? = some v → Value.okWide Tryd.prog W .any base t v)
   (hW : DataW.Whole enc Tryd.prog Tryd.f4.params.toList Rows.lexAgainSpec.vars false W args.toList ds gs before) (hk : Rows.uptoSmall H (ds ++ gs) = true) (hLd : laidMetH Tryd.prog Rows.lexAgainUptoRow.laid W) (hsh : W.ShapedOpen Tryd.prog) :
   Calls Tryd.prog 4 args W fun e W' => ∃ v, e = .returned v ∧ Rows.lexAgainSpec.post enc Tryd.prog Tryd.f4 false true false false W args v W' := by
 have hL := laid_lex hLd hsh
 have hW' := hW
 obtain ⟨p, q, hA0, hV, rfl, hfz, hnd⟩ := hW
 have hA : DataW.TrodAll enc Tryd.prog W 0 (fun _ => true) true Tryd.f4.params.toList args.toList ds p := hA0
 rw [Tryd.params4] at hA hval
 obtain ⟨v0, vs0, d0, ds0, p0, q0, hargs, rfl, rfl, h0, r0⟩ := trodAll_cons hA
 obtain ⟨v1, vs1, d1, ds1, p1, q1, rfl, rfl, rfl, h1, r1⟩ := trodAll_cons r0
 obtain ⟨rfl, rfl, rfl⟩ := trodAll_nil r1
 obtain rfl : args = #[v0, v1] := by cases args; simp_all
 obtain ⟨rfl, rfl⟩ := trodVars_none hV
 obtain ⟨x0, rfl, hz0⟩ := arg_strB hk (by simp) (hval 0 9 v0 rfl rfl) h0
 obtain ⟨A1, c1, x1, rfl, hs1, hl1⟩ := arg_bytes (hval 1 31 v1 rfl rfl) h1 hk (by simp)
 refine (calls_law (law_LexAgain hL hz0 hl1 hs1)).mono fun e W' ⟨he, hb⟩ => ?_
 subst he
 exact ⟨_, rfl, post_law (tb := 4) hW' (by rw [Tryd.params4]; decide) rfl rfl rfl rfl rfl Tryd.underlying4 hb⟩

theorem LexAgain_reads (os : Os) {H : Type} (enc : TypeId × Value → H) : ∃ places, DataW.whole enc Tryd.prog ((laidWorld os).forCall (fun _ _ => 0) ⟨#[], #[.string .empty, .slice none 0 0], []⟩).memory Tryd.f4.params.toList Rows.lexAgainSpec.vars false #[.string .empty, .slice none 0 0].toList 8 = some ([.lit (.string []), .nil], [], places) :=
 ⟨[], by kernel_rfl⟩
theorem LexAgain_lifted (os : Os) (started : os.Started) (H : Type) (enc : TypeId × Value → H) (F : Stop.Interp) :
   ReturnsInHanded {} Tryd.checked os 4 .any ((Rows.OpenSpec.upto Rows.lexAgainSpec).preRow enc Tryd.prog Tryd.f4 Rows.lexAgainUptoRow.domain false Rows.lexAgainUptoRow.laid) (((Rows.OpenSpec.upto Rows.lexAgainSpec).at F).post enc Tryd.prog Tryd.f4 false true false false) := by
 obtain ⟨places, hx⟩ := LexAgain_reads os enc
 refine returnsInHanded_of_row (C := Tryd.checked) (s := Rows.OpenSpec.upto Rows.lexAgainSpec) rown started (by kernel_rfl) Tryd.func4
   (witness_row_atRef (enc := enc) (C := Tryd.checked) false (laidWorld os) #[.string .empty, .slice none 0 0] rfl (by kernel_rfl) (by kernel_rfl) (by kernel_rfl)
     (OpenSpec.preRow_of_cond 8 hx (by kernel_rfl) (fun k hk => by cases hk; kernel_rfl) (by kernel_rfl) (laid_met os _))) ?_
 intro W base args ds gs before hval hW _ hcond _ hL hsh _
 exact LexAgain_contract H enc W base args ds gs before hval hW (hcond _ rfl) hL hsh

theorem LexAgain_row : Rows.LexAgainUptoSaid :=
 OpenClaim.holds_of_cond 4 Tryd.f4 rfl rfl rfl rfl rfl rfl rfl ⟨rfl, rfl, rfl, rfl, rfl⟩ rfl rfl rfl rfl rfl (by kernel_rfl) Tryd.func4 (by kernel_rfl)
   (of_decide_eq_true (by kernel_rfl)) (by unfold Func.isWrapper; first | (rw [if_pos (by decide +kernel)]; kernel_rfl) | (rw [if_neg (by decide +kernel)]; exact ⟨rfl, rfl⟩))
   (fun os started H enc _ F => by rw [OpenClaim.pre_eq_preRow]; exact LexAgain_lifted os started H enc F)
theorem LexAgain_plain (f : FuncId) (fn : Func) (hf : Tryd.pinned.checked.prog.funcNamed "brazier/brazierlaw05.LexAgain" = some f) (hfn : Tryd.pinned.checked.prog.funcs[f]? = some fn) :
   false = Tryd.pinned.checked.prog.looks [] ∧ ∀ (j : Nat) t, fn.params[j]? = some t → Tryd.pinned.checked.prog.wantsStandIn t = false := by
 obtain rfl : f = 4 := Option.some.inj ((show Tryd.prog.funcNamed "brazier/brazierlaw05.LexAgain" = some 4 by kernel_rfl).symm.trans hf) |>.symm
 obtain rfl : fn = Tryd.f4 := (Option.some.inj (Tryd.func4.symm.trans hfn)).symm
 refine ⟨by kernel_rfl, fun j t ht => ?_⟩
 rw [Tryd.params4] at ht
 have hm : t = 9 ∨ t = 31 := by simpa using Array.mem_of_getElem? ht
 rcases hm with rfl | rfl
 · exact (show Tryd.prog.wantsStandIn 9 = false by kernel_rfl)
 · exact (show Tryd.prog.wantsStandIn 31 = false by kernel_rfl)
theorem LexAgain_proved : Rows.LexAgainUptoCardSaid :=
 Claim7.holds_tied_plain_at .later [] _ _ _ _ LexAgain_row (fun _ h => by cases h) (by kernel_rfl) (fun _ h => by cases h) lexAgainUpto_row_tie rfl ⟨rfl, rfl⟩ (by kernel_rfl) rfl LexAgain_plain (by kernel_rfl)
end Go.Proofs.YtnhmmjogfkjceaaDoor
