/-
  LexWords, within the bound on what it reads, and tied to the program's text: it returns true whatever it is given, and leaves its arguments as they were. Conditions: the arguments' bulk is at most 1048576; the listed library variables stand as their text lays them, as the statement says.
-/
import Derived.Test.YtnhmmjogfkjceaaDoorProg
import Derived.Test.YtnhmmjogfkjceaaDoorM5
import Derived.Test.YtnhmmjogfkjceaaDoorM2
set_option linter.unusedVariables false
set_option linter.unusedSimpArgs false
set_option maxRecDepth 100000
set_option maxHeartbeats 4000000
namespace Go.Proofs.YtnhmmjogfkjceaaDoor
open Go.Sl

theorem law_Words5 {W0 : World}  : SC Tryd.prog W0 23 #[] [] (Ret (fun b : Nat => [(b, .cells 9 26 (wordsL.map fun q => Value.string (bS q)))]) (fun v b => v = .slice (some ⟨b, 0, none⟩) 26 26)) := by
 refine SC_body (fn := Tryd.f23) (n := 2) Tryd.func23 rfl (by kernel_rfl) (ρ := []) rfl ?_
 refine sr ?_
 refine os 1 ?_
 refine nsr ?_
 refine L (nws 9 26 26 [.string (bS [98, 114, 101, 97, 107]), .string (bS [99, 97, 116, 99, 104]), .string (bS [99, 111, 110, 115, 116]), .string (bS [99, 111, 110, 116, 105, 110, 117, 101]), .string (bS [100, 101, 108, 101, 116, 101]), .string (bS [101, 108, 115, 101]), .string (bS [102, 97, 108, 115, 101]), .string (bS [102, 105, 110, 97, 108, 108, 121]), .string (bS [102, 111, 114]), .string (bS [102, 117, 110, 99, 116, 105, 111, 110]), .string (bS [105, 102]), .string (bS [105, 110]), .string (bS [105, 110, 115, 116, 97, 110, 99, 101, 111, 102]), .string (bS [108, 101, 116]), .string (bS [110, 101, 119]), .string (bS [110, 117, 108, 108]), .string (bS [114, 101, 116, 117, 114, 110]), .string (bS [116, 104, 105, 115]), .string (bS [116, 104, 114, 111, 119]), .string (bS [116, 114, 117, 101]), .string (bS [116, 114, 121]), .string (bS [116, 121, 112, 101, 111, 102]), .string (bS [117, 110, 100, 101, 102, 105, 110, 101, 100]), .string (bS [118, 111, 105, 100]), .string (bS [119, 104, 105, 108, 101]), .string (bS [121, 105, 101, 108, 100])] ?_)
 intro b1
 refine os 1 ?_
 refine nt ?_
 refine SW_ret ?_
 refine body_end (.slice (some ⟨b1, 0, none⟩) 26 26) (fun _ => rfl) ?_
 exact ⟨b1, (ow (S := ((b1, .cells 9 26 [.string (bS [98, 114, 101, 97, 107]), .string (bS [99, 97, 116, 99, 104]), .string (bS [99, 111, 110, 115, 116]), .string (bS [99, 111, 110, 116, 105, 110, 117, 101]), .string (bS [100, 101, 108, 101, 116, 101]), .string (bS [101, 108, 115, 101]), .string (bS [102, 97, 108, 115, 101]), .string (bS [102, 105, 110, 97, 108, 108, 121]), .string (bS [102, 111, 114]), .string (bS [102, 117, 110, 99, 116, 105, 111, 110]), .string (bS [105, 102]), .string (bS [105, 110]), .string (bS [105, 110, 115, 116, 97, 110, 99, 101, 111, 102]), .string (bS [108, 101, 116]), .string (bS [110, 101, 119]), .string (bS [110, 117, 108, 108]), .string (bS [114, 101, 116, 117, 114, 110]), .string (bS [116, 104, 105, 115]), .string (bS [116, 104, 114, 111, 119]), .string (bS [116, 114, 117, 101]), .string (bS [116, 114, 121]), .string (bS [116, 121, 112, 101, 111, 102]), .string (bS [117, 110, 100, 101, 102, 105, 110, 101, 100]), .string (bS [118, 111, 105, 100]), .string (bS [119, 104, 105, 108, 101]), .string (bS [121, 105, 101, 108, 100])]) :: ([])))), rfl⟩

theorem law_Kept5 {W0 : World} {X : Bytes} : SC Tryd.prog W0 14 #[.string (bS X)] [] (Ret (fun _ : Unit => []) (fun v _ => v = .bool (decide (X ∈ wordsL)))) := by
 refine SC_body (fn := Tryd.f14) (n := 18) Tryd.func14 rfl (by kernel_rfl) (ρ := [(0, .string (bS X))]) rfl ?_
 refine sr ?_
 refine os 1 ?_
 refine nsr ?_
 refine L (cl (law_Words5) ?_)
 rintro _ b1 rfl
 refine un ?_
 refine os 1 ?_
 refine nq ?_
 refine sr ?_
 refine os 1 ?_
 refine nt ?_
 refine SW_block ?_
 refine SW_loop (α := Nat) (fun z_ ρ_ σ_ => Fits ρ_ σ_ [(0, .string (bS X)), (3, .slice (some ⟨b1, 0, none⟩) 26 26), (4, .int .i64 (z_ : Int))] ((b1, .cells 9 26 (wordsL.map fun q => Value.string (bS q))) :: ([])) ∧ z_ ≤ 26 ∧ ∀ y ∈ wordsL.take z_, y ≠ X) (fun z_ => 26 - z_) 0 ⟨⟨fun _ => rfl, ow⟩, Nat.zero_le _, fun _ h_ => by simp at h_⟩ ?_
 rintro i ρ_ σ_ ⟨hfit, hi0, hi1⟩
 refine SW_fits hfit ?_
 clear hfit
 refine SW_seq ?_
 refine sr ?_
 refine os 4 ?_
 refine kp [9, 0, 3, 4] ?_
 refine nt ?_
 refine cdp (fun hc2 : (i : Int) < 26 => ?_) (fun hc2 => ?_)
 ·refine SW_skip (n_then ?_)
  refine SW_seq ?_
  refine SW_block ?_
  refine sr ?_
  refine os 2 ?_
  refine L (O_indexAddr' (i : Int) (i) b1 0 26 26 .i64 1 Tryd.underlying48 (by kernel_rfl) (fun _ => rfl) (fun _ => rfl) (by omega) (by omega) (by omega) rfl ?_)
  obtain ⟨e1, he1⟩ : ∃ y_, wordsL[i]? = some y_ := ⟨_, List.getElem?_eq_getElem (by rw [words_n]; omega)⟩
  refine L (ld ?_ (hc := cell_own mem_z (strs_at he1)))
  refine os 1 ?_
  refine oX (.bool ((bS e1).toList == (bS X).toList)) (.bool (decide (e1 = X))) (congrArg Value.bool (by rw [strB_eq])) ?_
  refine kp [17, 9, 0, 3, 4] ?_
  refine nt ?_
  refine cdp (fun hc3 : e1 = X => ?_) (fun hc3 => ?_)
  ·refine sr ?_
   refine os 1 ?_
   refine nt ?_
   refine SW_ret (r_in (r_then (r_then (r_in (r_then ?_)))))
   refine body_end (.bool true) (fun _ => rfl) ?_
   exact ⟨(), ow, congrArg Value.bool (decide_eq_true (hc3 ▸ List.mem_of_getElem? he1)).symm⟩
  refine SW_skip (n_in (n_then ?_))
  refine SW_region ?_
  refine os 3 ?_
  refine nt ?_
  exact ⟨i + 1, by omega, ⟨fun _ => rfl, ow⟩, by omega, kept_step hi1 he1 hc3⟩
 refine SW_exit (x_then (x_then (x_in (n_then ?_))))
 refine sr ?_
 refine os 1 ?_
 refine nt ?_
 refine SW_ret ?_
 refine body_end (.bool false) (fun _ => rfl) ?_
 exact ⟨(), ow, congrArg Value.bool (decide_eq_false (kept_no (by omega) hi1)).symm⟩

theorem law_LexWords {W0 : World} (hL : LaidL W0) {X : Bytes} : SC Tryd.prog W0 7 #[.string (bS X)] [] (Ret (fun _ : Unit => []) (fun v _ => v = .bool true)) := by
 refine SC_body (fn := Tryd.f7) (n := 76) Tryd.func7 rfl (by kernel_rfl) (ρ := [(0, .string (bS X))]) rfl ?_
 refine sr ?_
 refine os 1 ?_
 refine nsr ?_
 refine os 1 ?_
 refine L (cl (lex_Scan hL (X := X)) ?_)
 rintro _ g1 ⟨rfl, hkg1⟩
 refine os 7 ?_
 refine kp [5, 3, 2, 0] ?_
 refine nq ?_
 refine sr ?_
 refine os 3 ?_
 refine tb 17 (fun hg2 => ?_) (fun hg2 => ?_)
 ·replace hg2 : (((scanP X).err) != 0) = true := hg2
  simp only [beq_iff_eq, bne_iff_ne, ne_eq, beq_eq_false_iff_ne, bne_eq_false_iff_eq, Classical.not_not] at hg2
  obtain ⟨hn1_, hn2_⟩ := scan_no hg2
  have hn3_ : (scanP X).toks.length = 0 := by rw [hn1_]; rfl
  refine os 11 ?_
  refine kp [28, 5, 3, 2, 0] ?_
  refine nt ?_
  refine ct ?_
  refine sr ?_
  refine L (cl (law_alive5 hL) ?_)
  rintro _ _ rfl
  refine un ?_
  refine os 1 ?_
  refine nt ?_
  refine SW_ret (r_then ?_)
  refine body_end (.bool true) (fun _ => rfl) ?_
  exact ⟨(), ow, rfl⟩
 replace hg2 : (((scanP X).err) != 0) = false := hg2
 simp only [beq_iff_eq, bne_iff_ne, ne_eq, beq_eq_false_iff_ne, bne_eq_false_iff_eq, Classical.not_not] at hg2
 obtain ⟨ho1_, ho2_, ho3_, ho4_, ho5_⟩ := scan_ok (X := X) hg2
 have hol_ := ho3_.len (Nat.zero_le _)
 obtain ⟨n, hn_, hlast_⟩ := ho3_.last
 refine os 5 ?_
 refine kp [22, 5, 3, 2, 0] ?_
 refine tb 22 (fun hg3 => ?_) (fun hg3 => ?_)
 ·replace hg3 : (((((scanP X).toks.length : Nat)) : Int) != 2) = true := hg3
  simp only [beq_iff_eq, bne_iff_ne, ne_eq, beq_eq_false_iff_ne, bne_eq_false_iff_eq, Classical.not_not] at hg3
  refine os 6 ?_
  refine kp [28, 5, 3, 2, 0] ?_
  refine nt ?_
  refine ct ?_
  refine sr ?_
  refine L (cl (law_alive5 hL) ?_)
  rintro _ _ rfl
  refine un ?_
  refine os 1 ?_
  refine nt ?_
  refine SW_ret (r_then ?_)
  refine body_end (.bool true) (fun _ => rfl) ?_
  exact ⟨(), ow, rfl⟩
 replace hg3 : (((((scanP X).toks.length : Nat)) : Int) != 2) = false := hg3
 simp only [beq_iff_eq, bne_iff_ne, ne_eq, beq_eq_false_iff_ne, bne_eq_false_iff_eq, Classical.not_not] at hg3
 refine os 1 ?_
 refine L (ixg 0 (0) hkg1 Tryd.underlying23 ?_)
 refine os 1 ?_
 obtain ⟨e1, he1⟩ : ∃ y_, ((scanP X).toks)[0]? = some y_ := ⟨_, List.getElem?_eq_getElem (by omega)⟩
 refine L (ld ?_ (hc := Gs.cell hkg1 (fun e he => (mem_h he)) (flat_cell Tok.len he1 (j := 0) (by decide) rfl)))
 refine os 2 ?_
 refine kp [28, 5, 3, 2, 0] ?_
 refine nt ?_
 refine cd (fun hc4 : (e1.kind != 2) = true => ?_) (fun hc4 => ?_)
 ·simp only [beq_iff_eq, bne_iff_ne, ne_eq, beq_eq_false_iff_ne, bne_eq_false_iff_eq, Classical.not_not] at hc4
  refine sr ?_
  refine L (cl (law_alive5 hL) ?_)
  rintro _ _ rfl
  refine un ?_
  refine os 1 ?_
  refine nt ?_
  refine SW_ret (r_then ?_)
  refine body_end (.bool true) (fun _ => rfl) ?_
  exact ⟨(), ow, rfl⟩
 simp only [beq_iff_eq, bne_iff_ne, ne_eq, beq_eq_false_iff_ne, bne_eq_false_iff_eq, Classical.not_not] at hc4
 refine SW_skip (n_then ?_)
 refine SW_seq ?_
 have hwm_ := word_of ho3_ he1 (by omega)
 obtain ⟨wa, wb, hw1_, hw2_, hw3_⟩ := word_more hwm_
 refine SW_region ?_
 refine os 1 ?_
 refine L (ixg 0 (0) hkg1 Tryd.underlying23 ?_)
 refine os 1 ?_
 refine L (ld ?_ (hc := Gs.cell hkg1 (fun e he => (mem_h he)) (flat_cell Tok.len he1 (j := 2) (by decide) rfl)))
 refine oV (.string (bS (e1.text ++ [95]))) ?_ (hs := (fun δ w_ => run_catB e1.text [95] (by have := words_le _ hwm_; simp; omega) rfl rfl))
 have hwl_ : ([wa, wb] : List Tok).length = 2 := rfl
 refine L (cl ((lex_scan_good hL (l := [wa, wb]) hw1_)) ?_)
 rintro _ g5 ⟨rfl, hkg5⟩
 refine os 7 ?_
 refine kp [8, 6, 28, 5, 3, 2, 0] ?_
 refine nq ?_
 refine SW_draw [((Gs.blk g1), 2, .string (bS e1.text)), ((Gs.blk g5), 0, .int .i64 wa.kind), ((Gs.blk g5), 2, .string (bS wa.text)), ((Gs.blk g1), 2, .string (bS e1.text))] [0, 1, 2, 3, 4, 5, 6, 7, 8, 9, 10, 11, 12, 13, 14, 15, 16, 17, 18, 19, 20, 21, 22, 23, 24, 25, 26, 27, 28, 29, 30, 31, 32, 33] (by kernel_rfl) (rd_cons (Gs.cell hkg1 (fun e he => (mem_a (mem_h he))) (flat_cell Tok.len he1 (j := 2) (by decide) rfl)) (rd_cons (Gs.cell hkg5 (fun e he => (mem_h he)) (flat_cell Tok.len (show ([wa, wb] : List Tok)[0]? = some wa from rfl) (j := 0) (by decide) rfl)) (rd_cons (Gs.cell hkg5 (fun e he => (mem_h he)) (flat_cell Tok.len (show ([wa, wb] : List Tok)[0]? = some wa from rfl) (j := 2) (by decide) rfl)) (rd_cons (Gs.cell hkg1 (fun e he => (mem_a (mem_h he))) (flat_cell Tok.len he1 (j := 2) (by decide) rfl)) rd_nil)))) ?_
 refine sa1 true 0 (h := cl (law_alive5 hL) ?_)
 rintro _ _ rfl
 try simp only [List.cons_append, List.append_assoc, List.nil_append]
 refine ⟨fun hnd => (rd_cons (Gs.cell hkg1 (fun e he => (mem_a (mem_h he))) (flat_cell Tok.len he1 (j := 2) (by decide) rfl)) (rd_cons (Gs.cell hkg5 (fun e he => (mem_h he)) (flat_cell Tok.len (show ([wa, wb] : List Tok)[0]? = some wa from rfl) (j := 0) (by decide) rfl)) (rd_cons (Gs.cell hkg5 (fun e he => (mem_h he)) (flat_cell Tok.len (show ([wa, wb] : List Tok)[0]? = some wa from rfl) (j := 2) (by decide) rfl)) (rd_cons (Gs.cell hkg1 (fun e he => (mem_a (mem_h he))) (flat_cell Tok.len he1 (j := 2) (by decide) rfl)) rd_nil)))), ?_⟩
 refine aS 1 ?_
 refine aS 2 ?_
 refine aI 3 0 (0) hkg1 Tryd.underlying23 ?_
 refine aF 4 ?_
 refine aL 5 ?_
 refine sa1 true 6 (h := cl (law_Kept5 (X := e1.text)) ?_)
 rintro v9 _ hv9
 obtain rfl : v9 = .bool true := hv9.trans (congrArg Value.bool (decide_eq_true hwm_))
 try simp only [List.cons_append, List.append_assoc, List.nil_append]
 refine ⟨fun hnd => (rd_cons (Gs.cell hkg1 (fun e he => (mem_a (mem_h he))) (flat_cell Tok.len he1 (j := 2) (by decide) rfl)) (rd_cons (Gs.cell hkg5 (fun e he => (mem_h he)) (flat_cell Tok.len (show ([wa, wb] : List Tok)[0]? = some wa from rfl) (j := 0) (by decide) rfl)) (rd_cons (Gs.cell hkg5 (fun e he => (mem_h he)) (flat_cell Tok.len (show ([wa, wb] : List Tok)[0]? = some wa from rfl) (j := 2) (by decide) rfl)) (rd_cons (Gs.cell hkg1 (fun e he => (mem_a (mem_h he))) (flat_cell Tok.len he1 (j := 2) (by decide) rfl)) rd_nil)))), ?_⟩
 refine aS 7 ?_
 refine aS 8 ?_
 refine kpA [48, 8, 6, 28, 5, 3, 2, 0] ?_
 refine aS 9 ?_
 refine tk 10 (.bool true) ?_
 refine aS 11 ?_
 refine aS 12 ?_
 refine aS 13 ?_
 refine aS 14 ?_
 refine aS 15 ?_
 refine aS 16 ?_
 refine kpA [56, 8, 6, 28, 5, 3, 2, 0] ?_
 refine aS 17 ?_
 refine pnA 57 (show (((([wa, wb].length : Nat)) : Int) == 2) = true from (beq_iff_eq.2 (by omega))) ?_
 refine aS 18 ?_
 refine aI 19 0 (0) hkg5 Tryd.underlying23 ?_
 refine aF 20 ?_
 refine aL 21 ?_
 refine aS 22 ?_
 refine aS 23 ?_
 refine aS 24 ?_
 refine kpA [64, 8, 6, 28, 5, 3, 2, 0] ?_
 refine pnA 64 (show (wa.kind == 1) = true from (beq_iff_eq.2 (by omega))) ?_
 refine aS 25 ?_
 refine aI 26 0 (0) hkg5 Tryd.underlying23 ?_
 refine aF 27 ?_
 refine aL 28 ?_
 refine aS 29 ?_
 refine aI 30 0 (0) hkg1 Tryd.underlying23 ?_
 refine aF 31 ?_
 refine aL 32 ?_
 refine tk 33 (.string (bS (e1.text ++ [95]))) ?_ (hy := (fun δ w_ => run_catB e1.text [95] (by have := words_le _ hwm_; simp; omega) rfl rfl))
 refine tk 34 (.bool ((bS wa.text).toList == (bS (e1.text ++ [95])).toList)) ?_
 rw [show ((bS wa.text).toList == (bS (e1.text ++ [95])).toList) = (decide (wa.text = (e1.text ++ [95]))) from by rw [strB_eq]]
 refine kpA [74, 64, 8, 6, 28, 5, 3, 2, 0] ?_
 refine aS 35 ?_
 refine aS 36 ?_
 refine SA_done (by kernel_rfl) (n_then ?_)
 refine SW_ret ?_
 refine body_end (.bool (decide (wa.text = (e1.text ++ [95])))) (fun _ => rfl) ?_
 exact ⟨(), ow, congrArg Value.bool (by rw [hw3_]; simp)⟩

end Go.Proofs.YtnhmmjogfkjceaaDoor
namespace Go.Proofs.YtnhmmjogfkjceaaDoor
open Go.Sl Go.ChangeShapes Go.WideShapes Go.ChangeAt Go.RowKit

theorem LexWords_contract (H : Type) (enc : TypeId × Value → H) (W : World) (base : Nat) (args : Array Value) (ds gs : List (DataW H)) (before : List MemPlace)
   (hval : ∀ (j : Nat) t v, Tryd.f7.params[j]? = some t → args[j]? = some v → Value.okWide Tryd.prog W .any base t v)
   (hW : DataW.Whole enc Tryd.prog Tryd.f7.params.toList Rows.lexWordsSpec.vars false W args.toList ds gs before) (hk : Rows.uptoSmall H (ds ++ gs) = true) (hLd : laidMetH Tryd.prog Rows.lexWordsUptoRow.laid W) (hsh : W.ShapedOpen Tryd.prog) :
   Calls Tryd.prog 7 args W fun e W' => ∃ v, e = .returned v ∧ Rows.lexWordsSpec.post enc Tryd.prog Tryd.f7 false true false false W args v W' := by
 have hL := laid_lex hLd hsh
 have hW' := hW
 obtain ⟨p, q, hA0, hV, rfl, hfz, hnd⟩ := hW
 have hA : DataW.TrodAll enc Tryd.prog W 0 (fun _ => true) true Tryd.f7.params.toList args.toList ds p := hA0
 rw [Tryd.params7] at hA hval
 obtain ⟨v0, vs0, d0, ds0, p0, q0, hargs, rfl, rfl, h0, r0⟩ := trodAll_cons hA
 obtain ⟨rfl, rfl, rfl⟩ := trodAll_nil r0
 obtain rfl : args = #[v0] := by cases args; simp_all
 obtain ⟨rfl, rfl⟩ := trodVars_none hV
 obtain ⟨x0, rfl, hz0⟩ := arg_strB hk (by simp) (hval 0 9 v0 rfl rfl) h0
 refine (calls_law (law_LexWords hL)).mono fun e W' ⟨he, hb⟩ => ?_
 subst he
 exact ⟨_, rfl, post_law (tb := 4) hW' (by rw [Tryd.params7]; decide) rfl rfl rfl rfl rfl Tryd.underlying4 hb⟩

theorem LexWords_reads (os : Os) {H : Type} (enc : TypeId × Value → H) : ∃ places, DataW.whole enc Tryd.prog ((laidWorld os).forCall (fun _ _ => 0) ⟨#[], #[.string .empty], []⟩).memory Tryd.f7.params.toList Rows.lexWordsSpec.vars false #[.string .empty].toList 8 = some ([.lit (.string [])], [], places) :=
 ⟨[], by kernel_rfl⟩
theorem LexWords_lifted (os : Os) (started : os.Started) (H : Type) (enc : TypeId × Value → H) (F : Stop.Interp) :
   ReturnsInHanded {} Tryd.checked os 7 .any ((Rows.OpenSpec.upto Rows.lexWordsSpec).preRow enc Tryd.prog Tryd.f7 Rows.lexWordsUptoRow.domain false Rows.lexWordsUptoRow.laid) (((Rows.OpenSpec.upto Rows.lexWordsSpec).at F).post enc Tryd.prog Tryd.f7 false true false false) := by
 obtain ⟨places, hx⟩ := LexWords_reads os enc
 refine returnsInHanded_of_row (C := Tryd.checked) (s := Rows.OpenSpec.upto Rows.lexWordsSpec) rown started (by kernel_rfl) Tryd.func7
   (witness_row_atRef (enc := enc) (C := Tryd.checked) false (laidWorld os) #[.string .empty] rfl (by kernel_rfl) (by kernel_rfl) (by kernel_rfl)
     (OpenSpec.preRow_of_cond 8 hx (by kernel_rfl) (fun k hk => by cases hk; kernel_rfl) (by kernel_rfl) (laid_met os _))) ?_
 intro W base args ds gs before hval hW _ hcond _ hL hsh _
 exact LexWords_contract H enc W base args ds gs before hval hW (hcond _ rfl) hL hsh

theorem LexWords_row : Rows.LexWordsUptoSaid :=
 OpenClaim.holds_of_cond 7 Tryd.f7 rfl rfl rfl rfl rfl rfl rfl ⟨rfl, rfl, rfl, rfl, rfl⟩ rfl rfl rfl rfl rfl (by kernel_rfl) Tryd.func7 (by kernel_rfl)
   (of_decide_eq_true (by kernel_rfl)) (by unfold Func.isWrapper; first | (rw [if_pos (by decide +kernel)]; kernel_rfl) | (rw [if_neg (by decide +kernel)]; exact ⟨rfl, rfl⟩))
   (fun os started H enc _ F => by rw [OpenClaim.pre_eq_preRow]; exact LexWords_lifted os started H enc F)
theorem LexWords_plain (f : FuncId) (fn : Func) (hf : Tryd.pinned.checked.prog.funcNamed "brazier/brazierlaw05.LexWords" = some f) (hfn : Tryd.pinned.checked.prog.funcs[f]? = some fn) :
   false = Tryd.pinned.checked.prog.looks [] ∧ ∀ (j : Nat) t, fn.params[j]? = some t → Tryd.pinned.checked.prog.wantsStandIn t = false := by
 obtain rfl : f = 7 := Option.some.inj ((show Tryd.prog.funcNamed "brazier/brazierlaw05.LexWords" = some 7 by kernel_rfl).symm.trans hf) |>.symm
 obtain rfl : fn = Tryd.f7 := (Option.some.inj (Tryd.func7.symm.trans hfn)).symm
 refine ⟨by kernel_rfl, fun j t ht => ?_⟩
 rw [Tryd.params7] at ht
 have hm : t = 9 := by simpa using Array.mem_of_getElem? ht
 rcases hm with rfl
 · exact (show Tryd.prog.wantsStandIn 9 = false by kernel_rfl)
theorem LexWords_proved : Rows.LexWordsUptoCardSaid :=
 Claim7.holds_tied_plain_at .later [] _ _ _ _ LexWords_row (fun _ h => by cases h) (by kernel_rfl) (fun _ h => by cases h) lexWordsUpto_row_tie rfl ⟨rfl, rfl⟩ (by kernel_rfl) rfl LexWords_plain (by kernel_rfl)
end Go.Proofs.YtnhmmjogfkjceaaDoor
