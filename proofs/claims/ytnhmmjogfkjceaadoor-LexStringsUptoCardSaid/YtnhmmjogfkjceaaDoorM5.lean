/-
  What the functions of numbers as texts do, step by step: each theorem is one function's contract. Conditions: those that each theorem names.
-/
import Derived.Test.YtnhmmjogfkjceaaDoorProg
import Derived.Test.YtnhmmjogfkjceaaDoorM4
import Derived.Test.YtnhmmjogfkjceaaDoorM2
set_option linter.unusedVariables false
set_option linter.unusedSimpArgs false
set_option maxRecDepth 100000
set_option maxHeartbeats 4000000
namespace Go.Proofs.YtnhmmjogfkjceaaDoor
open Go.Sl

theorem lex_escape {W0 : World} {Y : Bytes} (hY : Y.length ≤ 1048576) : SC Tryd.prog W0 72 #[.string (bS Y)] [] (Ret (fun _ : Unit => []) (fun v _ => v = .tuple #[.int .u8 ((escP Y).1.toNat : Int), .int .i64 ((escP Y).2 : Int)])) := by
 refine SC_body (fn := Tryd.f72) (n := 41) Tryd.func72 rfl (by kernel_rfl) (ρ := [(0, .string (bS Y))]) rfl ?_
 refine sr ?_
 refine os 2 ?_
 refine nq ?_
 refine sr ?_
 refine os 1 ?_
 refine oX (.int .i64 ((bS Y).size : Int)) (.int .i64 (Y.length : Int)) (congrArg (fun n_ : Nat => Value.int .i64 (n_ : Int)) (bS_size _)) ?_
 refine os 2 ?_
 refine tbp 8 (fun hg1 => ?_) (fun hg1 => ?_)
 ·replace hg1 : (Y.length : Int) > 3 := hg1
  refine os 1 ?_
  obtain ⟨e1, he1⟩ : ∃ y_, Y[1]? = some y_ := ⟨_, List.getElem?_eq_getElem (by omega)⟩
  refine ixb 1 Y .i64 e1 Tryd.underlying9 he1 ?_
  refine os 3 ?_
  refine kp [13, 3, 2, 0] ?_
  refine tb 13 (fun hg2 => ?_) (fun hg2 => ?_)
  ·replace hg2 : ((e1.toNat : Int) == 120) = true := hg2
   simp only [beq_iff_eq, bne_iff_ne, ne_eq, beq_eq_false_iff_ne, bne_eq_false_iff_eq, Classical.not_not] at hg2
   refine os 1 ?_
   obtain ⟨e2, he2⟩ : ∃ y_, Y[2]? = some y_ := ⟨_, List.getElem?_eq_getElem (by omega)⟩
   refine ixb 2 Y .i64 e2 Tryd.underlying9 he2 ?_
   refine L (cl (lex_base (c := e2)) ?_)
   rintro _ _ rfl
   refine un ?_
   refine os 2 ?_
   refine tb 18 (fun hg3 => ?_) (fun hg3 => ?_)
   ·replace hg3 : (isHx e2) = true := hg3
    refine os 1 ?_
    obtain ⟨e3, he3⟩ : ∃ y_, Y[3]? = some y_ := ⟨_, List.getElem?_eq_getElem (by omega)⟩
    refine ixb 3 Y .i64 e3 Tryd.underlying9 he3 ?_
    refine L (cl (lex_base (c := e3)) ?_)
    rintro _ _ rfl
    refine un ?_
    refine os 1 ?_
    refine kp [22, 3, 2, 0] ?_
    refine nt ?_
    refine cd (fun hc4 : (isHx e3) = true => ?_) (fun hc4 => ?_)
    ·refine SW_seq ?_
     have hn2_ := nibV_lt hg3
     have hn3_ := nibV_lt hc4
     refine SW_draw [] [] (by kernel_rfl) rd_nil ?_
     refine aS 0 ?_
     refine tk 1 (.int .u8 (e2.toNat : Int)) ?_ (hy := fun δ w => run_indexB 2 Y .i64 e2 Tryd.underlying9 rfl rfl (by omega) he2)
     refine aS 4 ?_
     refine tk 5 (.int .u8 (e3.toNat : Int)) ?_ (hy := fun δ w => run_indexB 3 Y .i64 e3 Tryd.underlying9 rfl rfl (by omega) he3)
     refine sa1 false 2 (h := cl (lex_nibble hg3) ?_)
     rintro _ _ rfl
     try simp only [List.cons_append, List.append_assoc, List.nil_append]
     refine ⟨fun hnd => (by cases hnd), ?_⟩
     refine tk 3 (.int .u8 (IntKind.wrap .u8 ((nibV e2 : Int) * 16))) ?_
     rw [show IntKind.wrap .u8 ((nibV e2 : Int) * 16) = (nibV e2 : Int) * 16 from IntWalk.u8_in _ (by omega)]
     refine sa1 false 6 (h := cl (lex_nibble hc4) ?_)
     rintro _ _ rfl
     try simp only [List.cons_append, List.append_assoc, List.nil_append]
     refine ⟨fun hnd => (by cases hnd), ?_⟩
     refine tk 7 (.int .u8 ((nib16 e2 e3).toNat : Int)) ?_ (hy := or8R (m := (nibV e2 : Int) * 16) (c := (nibV e3 : Int)) _ (by rw [nib16_at hn2_ hn3_]; exact or_nib8 hn2_ hn3_))
     refine aS 8 ?_
     refine kpA [2, 22, 3, 0] ?_
     refine aS 9 ?_
     refine SA_done (by kernel_rfl) (n_then ?_)
     refine SW_ret (r_then ?_)
     refine body_end (.tuple #[.int .u8 ((nib16 e2 e3).toNat : Int), .int .i64 4]) (fun _ => rfl) ?_
     have he_ : escP Y = (nib16 e2 e3, 4) := by have := escP_hex (Y := Y) (by omega) (by rw [atB_some he1]; omega) (by rw [atB_some he2]; assumption) (by rw [atB_some he3]; assumption); rwa [atB_some he2, atB_some he3] at this
     rw [he_]
     exact ⟨(), ow, rfl⟩
    refine SW_skip (n_then ?_)
    refine SW_seq ?_
    refine sr ?_
    refine os 1 ?_
    refine oX (.int .i64 ((bS Y).size : Int)) (.int .i64 (Y.length : Int)) (congrArg (fun n_ : Nat => Value.int .i64 (n_ : Int)) (bS_size _)) ?_
    refine os 1 ?_
    refine nt ?_
    refine cdp (fun hc5 : (Y.length : Int) < 2 => ?_) (fun hc5 => ?_)
    ·refine sr ?_
     refine os 2 ?_
     refine nt ?_
     refine SW_ret (r_then ?_)
     refine body_end (.tuple #[.int .u8 0, .int .i64 0]) (fun _ => rfl) ?_
     have hnx_ : ¬ (Y.length > 3 ∧ (atB Y 1).toNat = 120 ∧ isHx (atB Y 2) = true ∧ isHx (atB Y 3) = true) := by rintro ⟨q1, q2, q3, q4⟩; try rw [atB_some he1] at q2; try rw [atB_some he2] at q3; try rw [atB_some he3] at q4; first | omega | simp_all
     rw [escP_short hnx_ (by omega)]
     exact ⟨(), ow, rfl⟩
    refine SW_skip (n_then ?_)
    refine sr ?_
    refine os 1 ?_
    refine ixb 1 Y .i64 e1 Tryd.underlying9 he1 ?_
    refine L (cl (str_IndexByte [110, 116, 92, 39, 34] e1) ?_)
    rintro _ _ rfl
    refine un ?_
    refine os 1 ?_
    refine kp [4, 33, 22, 3, 2, 0] ?_
    refine nq ?_
    refine sr ?_
    refine os 2 ?_
    refine nt ?_
    refine cdp (fun hc6 : (Lib.indexByte [110, 116, 92, 39, 34] e1) < 0 => ?_) (fun hc6 => ?_)
    ·refine sr ?_
     refine os 2 ?_
     refine nt ?_
     refine SW_ret (r_then ?_)
     refine body_end (.tuple #[.int .u8 0, .int .i64 0]) (fun _ => rfl) ?_
     have hnx_ : ¬ (Y.length > 3 ∧ (atB Y 1).toNat = 120 ∧ isHx (atB Y 2) = true ∧ isHx (atB Y 3) = true) := by rintro ⟨q1, q2, q3, q4⟩; try rw [atB_some he1] at q2; try rw [atB_some he2] at q3; try rw [atB_some he3] at q4; first | omega | simp_all
     rw [escP_none hnx_ (by omega) (by rw [atB_some he1]; assumption)]
     exact ⟨(), ow, rfl⟩
    refine SW_skip (n_then ?_)
    refine SW_seq ?_
    have hix_ : (Lib.indexByte [110, 116, 92, 39, 34] e1).toNat < [10, 9, 92, 39, 34].length := idx_lt e1
    refine SW_region ?_
    refine os 1 ?_
    obtain ⟨e4, he4⟩ : ∃ y_, escB[((Lib.indexByte [110, 116, 92, 39, 34] e1)).toNat]? = some y_ := ⟨_, List.getElem?_eq_getElem (by exact hix_)⟩
    refine ixb (Lib.indexByte [110, 116, 92, 39, 34] e1) escB .i64 e4 Tryd.underlying9 (by rw [show ((Lib.indexByte [110, 116, 92, 39, 34] e1)).toNat = ((Lib.indexByte [110, 116, 92, 39, 34] e1)).toNat from by omega]; exact he4) ?_
    refine os 2 ?_
    refine kp [3, 2, 38, 4, 33, 22, 0] ?_
    refine nt ?_
    refine SW_ret ?_
    refine body_end (.tuple #[.int .u8 (e4.toNat : Int), .int .i64 2]) (fun _ => rfl) ?_
    have hnx_ : ¬ (Y.length > 3 ∧ (atB Y 1).toNat = 120 ∧ isHx (atB Y 2) = true ∧ isHx (atB Y 3) = true) := by rintro ⟨q1, q2, q3, q4⟩; try rw [atB_some he1] at q2; try rw [atB_some he2] at q3; try rw [atB_some he3] at q4; first | omega | simp_all
    rw [escP_one hnx_ (by omega) (by rw [atB_some he1]; assumption), atB_some he1, atB_some he4]
    exact ⟨(), ow, rfl⟩
   replace hg3 : (isHx e2) = false := hg3
   refine os 4 ?_
   refine kp [22, 3, 2, 0] ?_
   refine nt ?_
   refine cf ?_
   refine SW_skip (n_then ?_)
   refine SW_seq ?_
   refine sr ?_
   refine os 1 ?_
   refine oX (.int .i64 ((bS Y).size : Int)) (.int .i64 (Y.length : Int)) (congrArg (fun n_ : Nat => Value.int .i64 (n_ : Int)) (bS_size _)) ?_
   refine os 1 ?_
   refine nt ?_
   refine cdp (fun hc7 : (Y.length : Int) < 2 => ?_) (fun hc7 => ?_)
   ·refine sr ?_
    refine os 2 ?_
    refine nt ?_
    refine SW_ret (r_then ?_)
    refine body_end (.tuple #[.int .u8 0, .int .i64 0]) (fun _ => rfl) ?_
    have hnx_ : ¬ (Y.length > 3 ∧ (atB Y 1).toNat = 120 ∧ isHx (atB Y 2) = true ∧ isHx (atB Y 3) = true) := by rintro ⟨q1, q2, q3, q4⟩; try rw [atB_some he1] at q2; try rw [atB_some he2] at q3; first | omega | simp_all
    rw [escP_short hnx_ (by omega)]
    exact ⟨(), ow, rfl⟩
   refine SW_skip (n_then ?_)
   refine sr ?_
   refine os 1 ?_
   refine ixb 1 Y .i64 e1 Tryd.underlying9 he1 ?_
   refine L (cl (str_IndexByte [110, 116, 92, 39, 34] e1) ?_)
   rintro _ _ rfl
   refine un ?_
   refine os 1 ?_
   refine kp [4, 33, 22, 3, 2, 0] ?_
   refine nq ?_
   refine sr ?_
   refine os 2 ?_
   refine nt ?_
   refine cdp (fun hc8 : (Lib.indexByte [110, 116, 92, 39, 34] e1) < 0 => ?_) (fun hc8 => ?_)
   ·refine sr ?_
    refine os 2 ?_
    refine nt ?_
    refine SW_ret (r_then ?_)
    refine body_end (.tuple #[.int .u8 0, .int .i64 0]) (fun _ => rfl) ?_
    have hnx_ : ¬ (Y.length > 3 ∧ (atB Y 1).toNat = 120 ∧ isHx (atB Y 2) = true ∧ isHx (atB Y 3) = true) := by rintro ⟨q1, q2, q3, q4⟩; try rw [atB_some he1] at q2; try rw [atB_some he2] at q3; first | omega | simp_all
    rw [escP_none hnx_ (by omega) (by rw [atB_some he1]; assumption)]
    exact ⟨(), ow, rfl⟩
   refine SW_skip (n_then ?_)
   refine SW_seq ?_
   have hix_ : (Lib.indexByte [110, 116, 92, 39, 34] e1).toNat < [10, 9, 92, 39, 34].length := idx_lt e1
   refine SW_region ?_
   refine os 1 ?_
   obtain ⟨e5, he5⟩ : ∃ y_, escB[((Lib.indexByte [110, 116, 92, 39, 34] e1)).toNat]? = some y_ := ⟨_, List.getElem?_eq_getElem (by exact hix_)⟩
   refine ixb (Lib.indexByte [110, 116, 92, 39, 34] e1) escB .i64 e5 Tryd.underlying9 (by rw [show ((Lib.indexByte [110, 116, 92, 39, 34] e1)).toNat = ((Lib.indexByte [110, 116, 92, 39, 34] e1)).toNat from by omega]; exact he5) ?_
   refine os 2 ?_
   refine kp [3, 2, 38, 4, 33, 22, 0] ?_
   refine nt ?_
   refine SW_ret ?_
   refine body_end (.tuple #[.int .u8 (e5.toNat : Int), .int .i64 2]) (fun _ => rfl) ?_
   have hnx_ : ¬ (Y.length > 3 ∧ (atB Y 1).toNat = 120 ∧ isHx (atB Y 2) = true ∧ isHx (atB Y 3) = true) := by rintro ⟨q1, q2, q3, q4⟩; try rw [atB_some he1] at q2; try rw [atB_some he2] at q3; first | omega | simp_all
   rw [escP_one hnx_ (by omega) (by rw [atB_some he1]; assumption), atB_some he1, atB_some he5]
   exact ⟨(), ow, rfl⟩
  replace hg2 : ((e1.toNat : Int) == 120) = false := hg2
  simp only [beq_iff_eq, bne_iff_ne, ne_eq, beq_eq_false_iff_ne, bne_eq_false_iff_eq, Classical.not_not] at hg2
  refine os 9 ?_
  refine kp [22, 3, 2, 0] ?_
  refine nt ?_
  refine cf ?_
  refine SW_skip (n_then ?_)
  refine SW_seq ?_
  refine sr ?_
  refine os 1 ?_
  refine oX (.int .i64 ((bS Y).size : Int)) (.int .i64 (Y.length : Int)) (congrArg (fun n_ : Nat => Value.int .i64 (n_ : Int)) (bS_size _)) ?_
  refine os 1 ?_
  refine nt ?_
  refine cdp (fun hc9 : (Y.length : Int) < 2 => ?_) (fun hc9 => ?_)
  ·refine sr ?_
   refine os 2 ?_
   refine nt ?_
   refine SW_ret (r_then ?_)
   refine body_end (.tuple #[.int .u8 0, .int .i64 0]) (fun _ => rfl) ?_
   have hnx_ : ¬ (Y.length > 3 ∧ (atB Y 1).toNat = 120 ∧ isHx (atB Y 2) = true ∧ isHx (atB Y 3) = true) := by rintro ⟨q1, q2, q3, q4⟩; try rw [atB_some he1] at q2; first | omega | simp_all
   rw [escP_short hnx_ (by omega)]
   exact ⟨(), ow, rfl⟩
  refine SW_skip (n_then ?_)
  refine sr ?_
  refine os 1 ?_
  refine ixb 1 Y .i64 e1 Tryd.underlying9 he1 ?_
  refine L (cl (str_IndexByte [110, 116, 92, 39, 34] e1) ?_)
  rintro _ _ rfl
  refine un ?_
  refine os 1 ?_
  refine kp [4, 33, 22, 3, 2, 0] ?_
  refine nq ?_
  refine sr ?_
  refine os 2 ?_
  refine nt ?_
  refine cdp (fun hc10 : (Lib.indexByte [110, 116, 92, 39, 34] e1) < 0 => ?_) (fun hc10 => ?_)
  ·refine sr ?_
   refine os 2 ?_
   refine nt ?_
   refine SW_ret (r_then ?_)
   refine body_end (.tuple #[.int .u8 0, .int .i64 0]) (fun _ => rfl) ?_
   have hnx_ : ¬ (Y.length > 3 ∧ (atB Y 1).toNat = 120 ∧ isHx (atB Y 2) = true ∧ isHx (atB Y 3) = true) := by rintro ⟨q1, q2, q3, q4⟩; try rw [atB_some he1] at q2; first | omega | simp_all
   rw [escP_none hnx_ (by omega) (by rw [atB_some he1]; assumption)]
   exact ⟨(), ow, rfl⟩
  refine SW_skip (n_then ?_)
  refine SW_seq ?_
  have hix_ : (Lib.indexByte [110, 116, 92, 39, 34] e1).toNat < [10, 9, 92, 39, 34].length := idx_lt e1
  refine SW_region ?_
  refine os 1 ?_
  obtain ⟨e6, he6⟩ : ∃ y_, escB[((Lib.indexByte [110, 116, 92, 39, 34] e1)).toNat]? = some y_ := ⟨_, List.getElem?_eq_getElem (by exact hix_)⟩
  refine ixb (Lib.indexByte [110, 116, 92, 39, 34] e1) escB .i64 e6 Tryd.underlying9 (by rw [show ((Lib.indexByte [110, 116, 92, 39, 34] e1)).toNat = ((Lib.indexByte [110, 116, 92, 39, 34] e1)).toNat from by omega]; exact he6) ?_
  refine os 2 ?_
  refine kp [3, 2, 38, 4, 33, 22, 0] ?_
  refine nt ?_
  refine SW_ret ?_
  refine body_end (.tuple #[.int .u8 (e6.toNat : Int), .int .i64 2]) (fun _ => rfl) ?_
  have hnx_ : ¬ (Y.length > 3 ∧ (atB Y 1).toNat = 120 ∧ isHx (atB Y 2) = true ∧ isHx (atB Y 3) = true) := by rintro ⟨q1, q2, q3, q4⟩; try rw [atB_some he1] at q2; first | omega | simp_all
  rw [escP_one hnx_ (by omega) (by rw [atB_some he1]; assumption), atB_some he1, atB_some he6]
  exact ⟨(), ow, rfl⟩
 replace hg1 : ¬ ((Y.length : Int) > 3) := hg1
 refine os 14 ?_
 refine kp [22, 3, 2, 0] ?_
 refine nt ?_
 refine cf ?_
 refine SW_skip (n_then ?_)
 refine SW_seq ?_
 refine sr ?_
 refine os 1 ?_
 refine oX (.int .i64 ((bS Y).size : Int)) (.int .i64 (Y.length : Int)) (congrArg (fun n_ : Nat => Value.int .i64 (n_ : Int)) (bS_size _)) ?_
 refine os 1 ?_
 refine nt ?_
 refine cdp (fun hc11 : (Y.length : Int) < 2 => ?_) (fun hc11 => ?_)
 ·refine sr ?_
  refine os 2 ?_
  refine nt ?_
  refine SW_ret (r_then ?_)
  refine body_end (.tuple #[.int .u8 0, .int .i64 0]) (fun _ => rfl) ?_
  have hnx_ : ¬ (Y.length > 3 ∧ (atB Y 1).toNat = 120 ∧ isHx (atB Y 2) = true ∧ isHx (atB Y 3) = true) := by rintro ⟨q1, q2, q3, q4⟩; first | omega | simp_all
  rw [escP_short hnx_ (by omega)]
  exact ⟨(), ow, rfl⟩
 refine SW_skip (n_then ?_)
 refine sr ?_
 refine os 1 ?_
 obtain ⟨e7, he7⟩ : ∃ y_, Y[1]? = some y_ := ⟨_, List.getElem?_eq_getElem (by omega)⟩
 refine ixb 1 Y .i64 e7 Tryd.underlying9 he7 ?_
 refine L (cl (str_IndexByte [110, 116, 92, 39, 34] e7) ?_)
 rintro _ _ rfl
 refine un ?_
 refine os 1 ?_
 refine kp [4, 33, 22, 3, 2, 0] ?_
 refine nq ?_
 refine sr ?_
 refine os 2 ?_
 refine nt ?_
 refine cdp (fun hc12 : (Lib.indexByte [110, 116, 92, 39, 34] e7) < 0 => ?_) (fun hc12 => ?_)
 ·refine sr ?_
  refine os 2 ?_
  refine nt ?_
  refine SW_ret (r_then ?_)
  refine body_end (.tuple #[.int .u8 0, .int .i64 0]) (fun _ => rfl) ?_
  have hnx_ : ¬ (Y.length > 3 ∧ (atB Y 1).toNat = 120 ∧ isHx (atB Y 2) = true ∧ isHx (atB Y 3) = true) := by rintro ⟨q1, q2, q3, q4⟩; try rw [atB_some he7] at q2; first | omega | simp_all
  rw [escP_none hnx_ (by omega) (by rw [atB_some he7]; assumption)]
  exact ⟨(), ow, rfl⟩
 refine SW_skip (n_then ?_)
 refine SW_seq ?_
 have hix_ : (Lib.indexByte [110, 116, 92, 39, 34] e7).toNat < [10, 9, 92, 39, 34].length := idx_lt e7
 refine SW_region ?_
 refine os 1 ?_
 obtain ⟨e8, he8⟩ : ∃ y_, escB[((Lib.indexByte [110, 116, 92, 39, 34] e7)).toNat]? = some y_ := ⟨_, List.getElem?_eq_getElem (by exact hix_)⟩
 refine ixb (Lib.indexByte [110, 116, 92, 39, 34] e7) escB .i64 e8 Tryd.underlying9 (by rw [show ((Lib.indexByte [110, 116, 92, 39, 34] e7)).toNat = ((Lib.indexByte [110, 116, 92, 39, 34] e7)).toNat from by omega]; exact he8) ?_
 refine os 2 ?_
 refine kp [3, 2, 38, 4, 33, 22, 0] ?_
 refine nt ?_
 refine SW_ret ?_
 refine body_end (.tuple #[.int .u8 (e8.toNat : Int), .int .i64 2]) (fun _ => rfl) ?_
 have hnx_ : ¬ (Y.length > 3 ∧ (atB Y 1).toNat = 120 ∧ isHx (atB Y 2) = true ∧ isHx (atB Y 3) = true) := by rintro ⟨q1, q2, q3, q4⟩; try rw [atB_some he7] at q2; first | omega | simp_all
 rw [escP_one hnx_ (by omega) (by rw [atB_some he7]; assumption), atB_some he7, atB_some he8]
 exact ⟨(), ow, rfl⟩

theorem lex_WriteByte {W0 : World} {q : Nat} {p : Value} {c : UInt8} {z : Int} {h : Gs} {m : Bytes} (hp : p = .pointer none ∨ p = pt q 0) (hz : z = (c.toNat : Int)) (hk : Gs.ok 1 m.length h (m.map u8V)) (hm : m.length ≤ 2097152) : SC Tryd.prog W0 73 #[pt q 0, .int .u8 z] ((q, .cells 94 2 [p, Gs.val h m.length]) :: (Gs.ent 5 1 h (m.map u8V))) (Ret (fun r : Gs => (q, .cells 94 2 [pt q 0, Gs.val r (m ++ [c]).length]) :: (Gs.ent 5 1 r ((m ++ [c]).map u8V))) (fun v r => v = .nilIface ∧ Gs.ok 1 (m ++ [c]).length r ((m ++ [c]).map u8V))) := by
 subst hz
 rcases hp with rfl | rfl
 · exact lex_WriteByte_fresh hk hm
 · exact lex_WriteByte_used hk hm
theorem lex_String {W0 : World} {q : Nat} {p : Value} {h : Gs} {m : Bytes} (hk : Gs.ok 1 m.length h (m.map u8V)) (hm : m = [] → h = Gs.nil) : SC Tryd.prog W0 75 #[pt q 0] ((q, .cells 94 2 [p, Gs.val h m.length]) :: (Gs.ent 5 1 h (m.map u8V))) (Ret (fun _ : Unit => []) (fun v _ => v = .string (bS m))) := by
 cases h with
 | nil =>
   obtain ⟨_, h2⟩ := hk
   obtain rfl : m = [] := by simpa using h2
   exact lex_String_nil
 | «at» x y => exact lex_String_at hk fun e => by cases hm e

theorem lex_text {W0 : World} (hL : LaidL W0) {X : Bytes} {a b : Nat} {g : Gs} {l : List Tok} (hk : Gs.ok 4 l.length g (l.flatMap Tok.cells)) (hX : X.length ≤ 1048576) (hl : l.length ≤ 2097152) (ha : a < X.length) : SC Tryd.prog W0 41 #[pt b 0] ((b, .cells 45 3 [.string (bS X), .int .i64 (a : Int), Gs.val g l.length]) :: (Gs.ent 29 4 g (l.flatMap Tok.cells))) (Ret (fun q : Gs => (b, .cells 45 3 [.string (bS X), .int .i64 ((textR X a).past a : Int), Gs.val q ((textR X a).toks a l).length]) :: (Gs.ent 29 4 q (((textR X a).toks a l).flatMap Tok.cells))) (fun v q => v = .int .i64 (textR X a).err ∧ Gs.ok 4 ((textR X a).toks a l).length q (((textR X a).toks a l).flatMap Tok.cells))) := by
 refine SC_body (fn := Tryd.f41) (n := 80) Tryd.func41 rfl (by kernel_rfl) (ρ := [(0, pt b 0)]) rfl ?_
 refine SW_sig ((b, .cells 45 3 [.string (bS X), .int .i64 (a : Int), Gs.val g l.length]) :: ((Gs.ent 29 4 g (l.flatMap Tok.cells)) ++ ([]))) (by simp only [List.append_nil, List.append_assoc]) ?_
 refine sr ?_
 refine os 1 ?_
 refine nsr ?_
 refine os 1 ?_
 refine L (cl (lex_peek (X := X) (a := a) (k := 0) (l := l) hk hX (by omega) (by decide)) ?_)
 rintro v1 _ hv1
 obtain rfl : v1 = .int .u8 ((atB X a).toNat : Int) := hv1.trans (rfl)
 refine un ?_
 refine os 1 ?_
 refine nsr ?_
 refine L (nw 94 2 [.pointer none, .slice none 0 0] ?_)
 intro b1
 refine nsr ?_
 refine os 3 ?_
 refine L (ld ?_)
 refine os 2 ?_
 refine kp [5, 4, 3, 2, 0] ?_
 refine nq ?_
 refine SW_block ?_
 refine SW_sig ((b1, .cells 94 2 [.pointer none, Gs.val Gs.nil (([] : Bytes).length)]) :: ((Gs.ent 5 1 Gs.nil (([] : Bytes).map u8V)) ++ ((b, .cells 45 3 [.string (bS X), .int .i64 (a : Int), Gs.val g l.length]) :: ((Gs.ent 29 4 g (l.flatMap Tok.cells)) ++ ([]))))) rfl ?_
 refine SW_loop (α := Nat × Nat × Gs × Bytes × Value) (fun z_ ρ_ σ_ => Fits ρ_ σ_ [(0, pt b 0), (3, .int .u8 ((atB X a).toNat : Int)), (4, pt b1 0), (5, .int .i64 (z_.2.1 : Int))] ((b1, .cells 94 2 [z_.2.2.2.2, Gs.val z_.2.2.1 z_.2.2.2.1.length]) :: ((Gs.ent 5 1 z_.2.2.1 (z_.2.2.2.1.map u8V)) ++ ((b, .cells 45 3 [.string (bS X), .int .i64 (a : Int), Gs.val g l.length]) :: ((Gs.ent 29 4 g (l.flatMap Tok.cells)) ++ ([]))))) ∧ z_.2.1 ≤ X.length ∧ X.length - z_.2.1 < z_.1 ∧ strE z_.1 X (atB X a) z_.2.1 z_.2.2.2.1 = strP X a ∧ Gs.ok 1 z_.2.2.2.1.length z_.2.2.1 (z_.2.2.2.1.map u8V) ∧ z_.2.2.2.1.length ≤ z_.2.1 ∧ (z_.2.2.2.1 = [] → z_.2.2.1 = Gs.nil) ∧ (z_.2.2.2.2 = .pointer none ∨ z_.2.2.2.2 = pt b1 0)) (fun z_ => X.length - z_.2.1) ((X.length + 1), (a + 1), Gs.nil, ([] : Bytes), (.pointer none)) ⟨⟨fun _ => rfl, ow⟩, by simp only []; omega, by simp only []; omega, rfl, ⟨rfl, rfl⟩, Nat.zero_le _, fun _ => rfl, .inl rfl⟩ ?_
 rintro ⟨f, n, h, m, p⟩ ρ_ σ_ ⟨hfit, hi0, hi1, hi2, hi3, hi4, hi5, hi6⟩
 refine SW_fits hfit ?_
 clear hfit
 simp only [] at hi0 hi1 hi2 hi3 hi4 hi5 hi6 ⊢
 obtain ⟨f, rfl⟩ : ∃ q_, f = q_ + 1 := ⟨f - 1, by omega⟩
 refine SW_seq ?_
 refine sr ?_
 refine os 4 ?_
 refine L (ld ?_)
 refine oX (.int .i64 ((bS X).size : Int)) (.int .i64 (X.length : Int)) (congrArg (fun n_ : Nat => Value.int .i64 (n_ : Int)) (bS_size _)) ?_
 refine os 2 ?_
 refine kp [23, 0, 3, 4, 5] ?_
 refine tbp 23 (fun hg2 => ?_) (fun hg2 => ?_)
 ·replace hg2 : (n : Int) < (X.length : Int) := hg2
  refine os 3 ?_
  refine L (ld ?_)
  refine os 1 ?_
  obtain ⟨e1, he1⟩ : ∃ y_, X[n]? = some y_ := ⟨_, List.getElem?_eq_getElem (by omega)⟩
  refine ixb (n : Int) X .i64 e1 Tryd.underlying9 he1 ?_
  refine os 3 ?_
  refine kp [32, 0, 3, 4, 5] ?_
  refine nt ?_
  refine cd (fun hc3 : ((e1.toNat : Int) != ((atB X a).toNat : Int)) = true => ?_) (fun hc3 => ?_)
  ·simp only [beq_iff_eq, bne_iff_ne, ne_eq, beq_eq_false_iff_ne, bne_eq_false_iff_eq, Classical.not_not] at hc3
   refine SW_skip (n_then ?_)
   refine SW_seq ?_
   refine SW_block ?_
   refine sr ?_
   refine os 3 ?_
   refine L (ld ?_)
   refine os 1 ?_
   refine ixb (n : Int) X .i64 e1 Tryd.underlying9 he1 ?_
   refine os 1 ?_
   refine kp [6, 32, 0, 3, 4, 5] ?_
   refine nq ?_
   refine sr ?_
   refine os 2 ?_
   refine nt ?_
   refine cd (fun hc4 : ((e1.toNat : Int) == 10) = true => ?_) (fun hc4 => ?_)
   ·simp only [beq_iff_eq, bne_iff_ne, ne_eq, beq_eq_false_iff_ne, bne_eq_false_iff_eq, Classical.not_not] at hc4
    refine sr ?_
    refine os 1 ?_
    refine nt ?_
    refine SW_ret (r_then (r_in (r_then (r_then (r_in (r_then ?_))))))
    refine body_end (.int .i64 55) (fun _ => rfl) ?_
    have hne_ : atB X n ≠ atB X a := fun q_ => hc3 (by rw [← atB_some he1, q_])
    have hen_ := atB_some he1
    have hen2_ : (atB X n).toNat = e1.toNat := by rw [hen_]
    rw [strE_nl (by omega) hne_ (by omega)] at hi2
    have hr_ : textR X a = .bad 55 := textR_none hi2.symm
    rw [hr_]
    exact ⟨g, (ow (S := ((b, .cells 45 3 [.string (bS X), .int .i64 (a : Int), Gs.val g l.length]) :: (Gs.ent 29 4 g (l.flatMap Tok.cells))))), rfl, hk⟩
   simp only [beq_iff_eq, bne_iff_ne, ne_eq, beq_eq_false_iff_ne, bne_eq_false_iff_eq, Classical.not_not] at hc4
   refine SW_skip (n_then ?_)
   refine SW_seq ?_
   refine sr ?_
   refine os 2 ?_
   refine nt ?_
   refine cd (fun hc5 : ((e1.toNat : Int) == 92) = true => ?_) (fun hc5 => ?_)
   ·simp only [beq_iff_eq, bne_iff_ne, ne_eq, beq_eq_false_iff_ne, bne_eq_false_iff_eq, Classical.not_not] at hc5
    refine SW_seq ?_
    have hei_ := escP_in (X.drop n)
    rw [List.length_drop] at hei_
    refine SW_region ?_
    refine os 3 ?_
    refine L (ld ?_)
    refine os 1 ?_
    refine L (O_val (.string (bS (X.drop ((n : Int)).toNat))) rfl (fun δ w _ => run_strFrom (l := X) (n : Int) .i64 Tryd.underlying9 rfl rfl (by omega) (by omega)) ?_)
    rw [show ((n : Int)).toNat = n from by omega]
    refine L (cl (lex_escape (Y := (X.drop n)) (by simp; omega)) ?_)
    rintro _ _ rfl
    refine un ?_
    refine os 5 ?_
    refine kp [8, 7, 44, 42, 6, 32, 0, 3, 4, 5] ?_
    refine nq ?_
    refine sr ?_
    refine os 2 ?_
    refine nt ?_
    refine cd (fun hc6 : (((escP (X.drop n)).2 : Int) == 0) = true => ?_) (fun hc6 => ?_)
    ·simp only [beq_iff_eq, bne_iff_ne, ne_eq, beq_eq_false_iff_ne, bne_eq_false_iff_eq, Classical.not_not] at hc6
     refine sr ?_
     refine os 1 ?_
     refine nt ?_
     refine SW_ret (r_then (r_then (r_in (r_then (r_then (r_in (r_then ?_)))))))
     refine body_end (.int .i64 55) (fun _ => rfl) ?_
     have hne_ : atB X n ≠ atB X a := fun q_ => hc3 (by rw [← atB_some he1, q_])
     have hen_ := atB_some he1
     have hen2_ : (atB X n).toNat = e1.toNat := by rw [hen_]
     rw [strE_no (by omega) hne_ (by omega) (by omega)] at hi2
     have hr_ : textR X a = .bad 55 := textR_none hi2.symm
     rw [hr_]
     exact ⟨g, (ow (S := ((b, .cells 45 3 [.string (bS X), .int .i64 (a : Int), Gs.val g l.length]) :: (Gs.ent 29 4 g (l.flatMap Tok.cells))))), rfl, hk⟩
    simp only [beq_iff_eq, bne_iff_ne, ne_eq, beq_eq_false_iff_ne, bne_eq_false_iff_eq, Classical.not_not] at hc6
    refine SW_skip (n_then ?_)
    refine SW_region ?_
    refine os 7 ?_
    refine kp [5, 6, 56, 8, 7, 44, 42, 32, 0, 3, 4] ?_
    refine nr ?_
    refine os 1 ?_
    refine L (cl (lex_WriteByte (q := b1) (p := p) (c := (escP (X.drop n)).1) (m := m) hi6 rfl hi3 (by omega)) ?_)
    rintro _ r7 ⟨rfl, hkr7⟩
    refine un ?_
    have hmlr7 : (m ++ [(escP (X.drop n)).1]).length = m.length + 1 := by simp
    refine SL_nil (n_in (n_then ?_))
    refine SW_region ?_
    refine os 3 ?_
    refine kp [5, 6, 56, 8, 7, 44, 42, 32, 0, 3, 4] ?_
    refine nt ?_
    have hne_ : atB X n ≠ atB X a := fun q_ => hc3 (by rw [← atB_some he1, q_])
    have hen_ := atB_some he1
    have hen2_ : (atB X n).toNat = e1.toNat := by rw [hen_]
    rw [strE_esc (by omega) hne_ (by omega) (by omega)] at hi2
    rw [show (((n : Int) + ((escP (X.drop n)).2 : Int)) - 1) + 1 = (((n + (escP (X.drop n)).2) : Nat) : Int) from by omega]
    exact ⟨(f, (n + (escP (X.drop n)).2), r7, (m ++ [(escP (X.drop n)).1]), pt b1 0), by simp only []; omega, ⟨fun _ => rfl, ow⟩, by simp only []; omega, by simp only []; omega, hi2, hkr7, by simp only []; omega, fun q_ => by simp at q_, .inr rfl⟩
   simp only [beq_iff_eq, bne_iff_ne, ne_eq, beq_eq_false_iff_ne, bne_eq_false_iff_eq, Classical.not_not] at hc5
   refine SW_skip (n_then ?_)
   refine SW_region ?_
   refine os 1 ?_
   refine L (cl (lex_WriteByte (q := b1) (p := p) (c := e1) (m := m) hi6 rfl hi3 (by omega)) ?_)
   rintro _ r8 ⟨rfl, hkr8⟩
   refine un ?_
   have hmlr8 : (m ++ [e1]).length = m.length + 1 := by simp
   refine SL_nil (n_in (n_then ?_))
   refine SW_region ?_
   refine os 3 ?_
   refine kp [5, 44, 42, 6, 32, 0, 3, 4] ?_
   refine nt ?_
   have hne_ : atB X n ≠ atB X a := fun q_ => hc3 (by rw [← atB_some he1, q_])
   have hen_ := atB_some he1
   have hen2_ : (atB X n).toNat = e1.toNat := by rw [hen_]
   rw [strE_one (by omega) hne_ (by omega) (by omega), hen_] at hi2
   rw [show (n : Int) + 1 = (((n + 1) : Nat) : Int) from by omega]
   exact ⟨(f, (n + 1), r8, (m ++ [e1]), pt b1 0), by simp only []; omega, ⟨fun _ => rfl, ow⟩, by simp only []; omega, by simp only []; omega, hi2, hkr8, by simp only []; omega, fun q_ => by simp at q_, .inr rfl⟩
  simp only [beq_iff_eq, bne_iff_ne, ne_eq, beq_eq_false_iff_ne, bne_eq_false_iff_eq, Classical.not_not] at hc3
  refine SW_exit (x_then (x_then (x_in (n_then ?_))))
  refine SW_seq ?_
  refine SW_block ?_
  refine sr ?_
  refine os 4 ?_
  refine L (ld ?_)
  refine oX (.int .i64 ((bS X).size : Int)) (.int .i64 (X.length : Int)) (congrArg (fun n_ : Nat => Value.int .i64 (n_ : Int)) (bS_size _)) ?_
  refine os 2 ?_
  refine kp [64, 32, 0, 3, 4, 5] ?_
  refine nt ?_
  refine SW_false (fun _ => (congrArg Value.bool (show ((n : Int) == (X.length : Int)) = false from (by simp; omega)))) ?_
  refine sr ?_
  refine L (cl (lex_Len (q := b1) (m := m) hi3) ?_)
  rintro _ _ rfl
  refine un ?_
  refine os 2 ?_
  refine nt ?_
  refine cdp (fun hc9 : (m.length : Int) > 4096 => ?_) (fun hc9 => ?_)
  ·refine sr ?_
   refine os 1 ?_
   refine nt ?_
   refine SW_ret (r_in (r_then ?_))
   refine body_end (.int .i64 56) (fun _ => rfl) ?_
   rw [strE_close (by omega) (by rw [atB_some he1]; exact UInt8.toNat_inj.1 (by omega))] at hi2
   have hr_ : textR X a = .bad 56 := textR_long hi2.symm (by omega)
   rw [hr_]
   exact ⟨g, (ow (S := ((b, .cells 45 3 [.string (bS X), .int .i64 (a : Int), Gs.val g l.length]) :: (Gs.ent 29 4 g (l.flatMap Tok.cells))))), rfl, hk⟩
  refine SW_skip (n_in (n_then ?_))
  refine sr ?_
  refine os 1 ?_
  refine L (cl (lex_String (q := b1) (m := m) hi3 hi5) ?_)
  rintro _ _ rfl
  refine un ?_
  refine os 2 ?_
  refine L (cl (lex_putZ (X := X) (T := m) (a := a) (num := 0) (too := (n + 1)) (z := ((n : Int) + 1)) (kind := 4) (l := l) (by omega) hk (by omega)) ?_)
  rintro _ q10 ⟨rfl, hkq10⟩
  refine un ?_
  refine nsr ?_
  refine os 1 ?_
  refine kp [2, 72, 64, 32, 0, 3, 4, 5] ?_
  refine nt ?_
  refine SW_ret ?_
  refine body_end (.int .i64 0) (fun _ => rfl) ?_
  rw [strE_close (by omega) (by rw [atB_some he1]; exact UInt8.toNat_inj.1 (by omega))] at hi2
  have hr_ : textR X a = .tok 4 m 0 (n + 1) := textR_some hi2.symm (by omega)
  rw [hr_]
  exact ⟨q10, (ow (S := ((b, .cells 45 3 [.string (bS X), .int .i64 ((n + 1 : Nat) : Int), Gs.val q10 (l ++ [(⟨4, a, m, 0⟩ : Tok)]).length]) :: (Gs.ent 29 4 q10 ((l ++ [(⟨4, a, m, 0⟩ : Tok)]).flatMap Tok.cells))))), rfl, hkq10⟩
 replace hg2 : ¬ ((n : Int) < (X.length : Int)) := hg2
 refine os 9 ?_
 refine kp [32, 0, 3, 4, 5] ?_
 refine nt ?_
 refine cf ?_
 refine SW_exit (x_then (x_then (x_in (n_then ?_))))
 refine SW_seq ?_
 refine SW_block ?_
 refine sr ?_
 refine os 4 ?_
 refine L (ld ?_)
 refine oX (.int .i64 ((bS X).size : Int)) (.int .i64 (X.length : Int)) (congrArg (fun n_ : Nat => Value.int .i64 (n_ : Int)) (bS_size _)) ?_
 refine os 2 ?_
 refine kp [64, 32, 0, 3, 4, 5] ?_
 refine nt ?_
 refine SW_true (fun _ => (congrArg Value.bool (show ((n : Int) == (X.length : Int)) = true from (by simp; omega)))) ?_
 refine sr ?_
 refine os 1 ?_
 refine nt ?_
 refine SW_ret (r_in (r_then ?_))
 refine body_end (.int .i64 55) (fun _ => rfl) ?_
 rw [strE_end (by omega)] at hi2
 have hr_ : textR X a = .bad 55 := textR_none hi2.symm
 rw [hr_]
 exact ⟨g, (ow (S := ((b, .cells 45 3 [.string (bS X), .int .i64 (a : Int), Gs.val g l.length]) :: (Gs.ent 29 4 g (l.flatMap Tok.cells))))), rfl, hk⟩

end Go.Proofs.YtnhmmjogfkjceaaDoor
namespace Go.Proofs.YtnhmmjogfkjceaaDoor
open Go.Sl

theorem lex_signs {W0 : World} (hL : LaidL W0) : SC Tryd.prog W0 76 #[.string (bS signsB)] [] (Ret (fun b : Nat => [(b, .txt (signsL.map fun q => Value.string (bS q)))]) (fun v b => v = .slice (some ⟨b, 0, none⟩) 48 48)) := by
 have h := str_Fields hL signsB (by decide) signs_ascii
 rw [signs_fields] at h
 exact h

theorem lex_sign {W0 : World} (hL : LaidL W0) {X : Bytes} {a b : Nat} {g : Gs} {l : List Tok} (hk : Gs.ok 4 l.length g (l.flatMap Tok.cells)) (hX : X.length ≤ 1048576) (hl : l.length ≤ 2097152) (ha : a < X.length) : SC Tryd.prog W0 42 #[pt b 0] ((b, .cells 45 3 [.string (bS X), .int .i64 (a : Int), Gs.val g l.length]) :: (Gs.ent 29 4 g (l.flatMap Tok.cells))) (Ret (fun q : Gs => (b, .cells 45 3 [.string (bS X), .int .i64 ((signR X a).past a : Int), Gs.val q ((signR X a).toks a l).length]) :: (Gs.ent 29 4 q (((signR X a).toks a l).flatMap Tok.cells))) (fun v q => v = .int .i64 (signR X a).err ∧ Gs.ok 4 ((signR X a).toks a l).length q (((signR X a).toks a l).flatMap Tok.cells))) := by
 refine SC_body (fn := Tryd.f42) (n := 33) Tryd.func42 rfl (by kernel_rfl) (ρ := [(0, pt b 0)]) rfl ?_
 refine SW_sig ((b, .cells 45 3 [.string (bS X), .int .i64 (a : Int), Gs.val g l.length]) :: ((Gs.ent 29 4 g (l.flatMap Tok.cells)) ++ ([]))) (by simp only [List.append_nil, List.append_assoc]) ?_
 refine sr ?_
 refine os 1 ?_
 refine nq ?_
 refine sr ?_
 refine L (cl (lex_signs hL) ?_)
 rintro _ b1 rfl
 refine un ?_
 refine os 2 ?_
 refine nt ?_
 refine SW_block ?_
 refine SW_loop (α := Nat) (fun z_ ρ_ σ_ => Fits ρ_ σ_ [(0, pt b 0), (5, .slice (some ⟨b1, 0, none⟩) 48 48), (6, .int .i64 48), (7, .int .i64 (z_ : Int))] ((b1, .txt (signsL.map fun q => Value.string (bS q))) :: ((b, .cells 45 3 [.string (bS X), .int .i64 (a : Int), Gs.val g l.length]) :: ((Gs.ent 29 4 g (l.flatMap Tok.cells)) ++ ([])))) ∧ z_ ≤ 48 ∧ ∀ y ∈ signsL.take z_, Lib.hasPrefix (X.drop a) y = false) (fun z_ => 48 - z_) 0 ⟨⟨fun _ => rfl, ow⟩, Nat.zero_le _, fun _ h_ => by simp at h_⟩ ?_
 rintro i ρ_ σ_ ⟨hfit, hi0, hi1⟩
 refine SW_fits hfit ?_
 clear hfit
 refine sr ?_
 refine os 1 ?_
 refine nq ?_
 refine cdp (fun hc2 : (i : Int) < 48 => ?_) (fun hc2 => ?_)
 ·refine SW_skip (n_then ?_)
  refine SW_seq ?_
  refine SW_block ?_
  refine sr ?_
  refine L (O_indexAddr' (i : Int) (i) b1 0 48 48 .i64 1 Tryd.underlying48 (by kernel_rfl) (fun _ => rfl) (fun _ => rfl) (by omega) (by omega) (by omega) rfl ?_)
  obtain ⟨e1, he1⟩ : ∃ y_, signsL[i]? = some y_ := ⟨_, List.getElem?_eq_getElem (by rw [signs_n]; omega)⟩
  refine L (ld ?_ (hc := Cell.txt mem_z (strs_at he1)))
  refine os 1 ?_
  refine nq ?_
  refine SW_draw [(b, 0, .string (bS X)), (b, 1, .int .i64 (a : Int))] [0, 1, 2, 3, 4, 5, 6, 7, 9] (by kernel_rfl) (rd_cons (Cell.own (mem_c mem_z) rfl) (rd_cons (Cell.own (mem_c mem_z) rfl) rd_nil)) ?_
  refine aS 0 ?_
  refine aS 1 ?_
  refine aF 2 ?_
  refine aL 3 ?_
  refine aS 4 ?_
  refine aS 5 ?_
  refine aF 6 ?_
  refine aL 7 ?_
  refine kpA [18, 14, 4, 8, 0, 5, 6, 7] ?_
  refine tk 8 (.string (bS (X.drop ((a : Int)).toNat))) ?_ (hy := fun δ w => run_strFrom (l := X) (a : Int) .i64 Tryd.underlying9 rfl rfl (by omega) (by omega))
  rw [show ((a : Int)).toNat = a from by omega]
  refine aS 9 ?_
  refine sa1 false 10 (h := cl (str_HasPrefix (X.drop a) e1) ?_)
  rintro _ _ rfl
  try simp only [List.cons_append, List.append_assoc, List.nil_append]
  refine ⟨fun hnd => (by cases hnd), ?_⟩
  refine SA_done (by kernel_rfl) (n_then ?_)
  refine cd (fun hc3 : (Lib.hasPrefix (X.drop a) e1) = true => ?_) (fun hc3 => ?_)
  ·refine SW_seq ?_
   have hxl_ := signs_le _ (List.mem_of_getElem? he1)
   refine SW_region ?_
   refine os 5 ?_
   refine kp [26, 23, 22, 21, 4, 8, 0, 5, 6, 7] ?_
   refine L (ld ?_)
   refine os 1 ?_
   refine oX (.int .i64 ((bS e1).size : Int)) (.int .i64 (e1.length : Int)) (congrArg (fun n_ : Nat => Value.int .i64 (n_ : Int)) (bS_size _)) ?_
   refine os 1 ?_
   refine L (cl (lex_putZ (X := X) (T := e1) (a := a) (num := 0) (too := ((a : Int) + (e1.length : Int)).toNat) (z := ((a : Int) + (e1.length : Int))) (kind := 5) (l := l) (by omega) hk (by omega)) ?_)
   rintro _ q4 ⟨rfl, hkq4⟩
   refine un ?_
   refine nsr ?_
   refine os 1 ?_
   refine kp [2, 21, 4, 8, 0, 5, 6, 7] ?_
   refine nt ?_
   refine SW_ret (r_in (r_then (r_then (r_in (r_then ?_)))))
   refine body_end (.int .i64 0) (fun _ => rfl) ?_
   have hr_ : signR X a = .tok 5 e1 0 (a + e1.length) := signR_at hi1 he1 hc3
   rw [hr_]
   exact ⟨q4, (ow (S := ((b, .cells 45 3 [.string (bS X), .int .i64 ((((a : Int) + (e1.length : Int)).toNat : Nat) : Int), Gs.val q4 (l ++ [(⟨5, a, e1, 0⟩ : Tok)]).length]) :: (Gs.ent 29 4 q4 ((l ++ [(⟨5, a, e1, 0⟩ : Tok)]).flatMap Tok.cells))))), rfl, hkq4⟩
  refine SW_skip (n_in (n_then ?_))
  refine SW_region ?_
  refine os 2 ?_
  refine kp [7, 21, 4, 8, 0, 5, 6] ?_
  refine nt ?_
  exact ⟨i + 1, by omega, ⟨fun _ => rfl, ow⟩, by omega, sign_step hi1 he1 hc3⟩
 refine SW_exit (x_then (x_then (x_in (n_then ?_))))
 refine sr ?_
 refine os 1 ?_
 refine nt ?_
 refine SW_ret ?_
 refine body_end (.int .i64 57) (fun _ => rfl) ?_
 have hr_ : signR X a = .bad 57 := signR_no (by omega) hi1
 rw [hr_]
 exact ⟨g, (ow (S := ((b, .cells 45 3 [.string (bS X), .int .i64 (a : Int), Gs.val g l.length]) :: (Gs.ent 29 4 g (l.flatMap Tok.cells))))), rfl, hk⟩

theorem lex_next {W0 : World} (hL : LaidL W0) {X : Bytes} {a b : Nat} {g : Gs} {l : List Tok} (hk : Gs.ok 4 l.length g (l.flatMap Tok.cells)) (hX : X.length ≤ 1048576) (hl : l.length ≤ 2097152) (ha : a < X.length) : SC Tryd.prog W0 21 #[pt b 0] ((b, .cells 45 3 [.string (bS X), .int .i64 (a : Int), Gs.val g l.length]) :: (Gs.ent 29 4 g (l.flatMap Tok.cells))) (Ret (fun q : Gs => (b, .cells 45 3 [.string (bS X), .int .i64 ((tokR X a).past a : Int), Gs.val q ((tokR X a).toks a l).length]) :: (Gs.ent 29 4 q (((tokR X a).toks a l).flatMap Tok.cells))) (fun v q => v = .int .i64 (tokR X a).err ∧ Gs.ok 4 ((tokR X a).toks a l).length q (((tokR X a).toks a l).flatMap Tok.cells))) := by
 refine SC_body (fn := Tryd.f21) (n := 27) Tryd.func21 rfl (by kernel_rfl) (ρ := [(0, pt b 0)]) rfl ?_
 refine SW_sig ((b, .cells 45 3 [.string (bS X), .int .i64 (a : Int), Gs.val g l.length]) :: ((Gs.ent 29 4 g (l.flatMap Tok.cells)) ++ ([]))) (by simp only [List.append_nil, List.append_assoc]) ?_
 refine sr ?_
 refine os 1 ?_
 refine nq ?_
 refine sr ?_
 refine os 1 ?_
 refine L (cl (lex_peek (X := X) (a := a) (k := 0) (l := l) hk hX (by omega) (by decide)) ?_)
 rintro v1 _ hv1
 obtain rfl : v1 = .int .u8 ((atB X a).toNat : Int) := hv1.trans (rfl)
 refine un ?_
 refine os 1 ?_
 refine nt ?_
 refine SW_block ?_
 refine sr ?_
 refine os 1 ?_
 refine L (cl (lex_digit (c := (atB X a))) ?_)
 rintro v2 _ hv2
 obtain rfl : v2 = .bool (decide (48 ≤ ((atB X a).toNat : Int) ∧ ((atB X a).toNat : Int) ≤ 57)) := hv2.trans (by rw [dig_at])
 refine un ?_
 refine os 1 ?_
 refine kp [6, 3, 2, 0] ?_
 refine nt ?_
 refine cdp (fun hc1 : 48 ≤ ((atB X a).toNat : Int) ∧ ((atB X a).toNat : Int) ≤ 57 => ?_) (fun hc1 => ?_)
 ·refine sr ?_
  refine os 1 ?_
  refine L (cl (lex_number hL (X := X) (a := a) (l := l) hk hX (by omega) (by omega)) ?_)
  rintro v3 q2 ⟨hv3, hkq2⟩
  obtain rfl : v3 = .int .i64 ((numR X a).err) := hv3.trans (rfl)
  refine un ?_
  refine os 1 ?_
  refine nt ?_
  refine SW_ret (r_in (r_then ?_))
  refine body_end (.int .i64 ((numR X a).err)) (fun _ => rfl) ?_
  have hr_ : tokR X a = numR X a := tok_num (by rw [dig_at]; exact decide_eq_true hc1)
  rw [hr_]
  exact ⟨q2, ow, rfl, hkq2⟩
 refine sr ?_
 refine os 1 ?_
 refine L (cl (lex_small (c := (atB X a))) ?_)
 rintro _ _ rfl
 refine un ?_
 refine os 1 ?_
 refine nt ?_
 refine cd (fun hc3 : (isSm (atB X a)) = true => ?_) (fun hc3 => ?_)
 ·refine sr ?_
  refine os 1 ?_
  refine L (cl (lex_name hL (X := X) (a := a) (l := l) hk hX (by omega) (by omega)) ?_)
  rintro v5 q4 ⟨hv5, hkq4⟩
  obtain rfl : v5 = .int .i64 ((nameR X a).err) := hv5.trans (rfl)
  refine un ?_
  refine os 1 ?_
  refine kp [2, 11, 6, 3, 0] ?_
  refine nt ?_
  refine SW_ret (r_in (r_then ?_))
  refine body_end (.int .i64 ((nameR X a).err)) (fun _ => rfl) ?_
  have hr_ : tokR X a = nameR X a := tok_name (by rw [dig_at]; exact decide_eq_false hc1) hc3
  rw [hr_]
  exact ⟨q4, ow, rfl, hkq4⟩
 refine sr ?_
 refine os 3 ?_
 refine tb 19 (fun hg5 => ?_) (fun hg5 => ?_)
 ·replace hg5 : (((atB X a).toNat : Int) == 34) = true := hg5
  simp only [beq_iff_eq, bne_iff_ne, ne_eq, beq_eq_false_iff_ne, bne_eq_false_iff_eq, Classical.not_not] at hg5
  refine os 4 ?_
  refine kp [16, 11, 6, 3, 2, 0] ?_
  refine nt ?_
  refine ct ?_
  refine sr ?_
  refine os 1 ?_
  refine L (cl (lex_text hL (X := X) (a := a) (l := l) hk hX (by omega) (by omega)) ?_)
  rintro v6 q6 ⟨hv6, hkq6⟩
  obtain rfl : v6 = .int .i64 ((textR X a).err) := hv6.trans (rfl)
  refine un ?_
  refine os 1 ?_
  refine nt ?_
  refine SW_ret (r_in (r_then ?_))
  refine body_end (.int .i64 ((textR X a).err)) (fun _ => rfl) ?_
  have hr_ : tokR X a = textR X a := tok_text (by rw [dig_at]; exact decide_eq_false hc1) hc3 (by omega)
  rw [hr_]
  exact ⟨q6, ow, rfl, hkq6⟩
 replace hg5 : (((atB X a).toNat : Int) == 34) = false := hg5
 simp only [beq_iff_eq, bne_iff_ne, ne_eq, beq_eq_false_iff_ne, bne_eq_false_iff_eq, Classical.not_not] at hg5
 refine os 4 ?_
 refine kp [16, 11, 6, 3, 2, 0] ?_
 refine nt ?_
 refine cd (fun hc7 : (((atB X a).toNat : Int) == 39) = true => ?_) (fun hc7 => ?_)
 ·simp only [beq_iff_eq, bne_iff_ne, ne_eq, beq_eq_false_iff_ne, bne_eq_false_iff_eq, Classical.not_not] at hc7
  refine sr ?_
  refine os 1 ?_
  refine L (cl (lex_text hL (X := X) (a := a) (l := l) hk hX (by omega) (by omega)) ?_)
  rintro v7 q8 ⟨hv7, hkq8⟩
  obtain rfl : v7 = .int .i64 ((textR X a).err) := hv7.trans (rfl)
  refine un ?_
  refine os 1 ?_
  refine nt ?_
  refine SW_ret (r_in (r_then ?_))
  refine body_end (.int .i64 ((textR X a).err)) (fun _ => rfl) ?_
  have hr_ : tokR X a = textR X a := tok_text (by rw [dig_at]; exact decide_eq_false hc1) hc3 (by omega)
  rw [hr_]
  exact ⟨q8, ow, rfl, hkq8⟩
 simp only [beq_iff_eq, bne_iff_ne, ne_eq, beq_eq_false_iff_ne, bne_eq_false_iff_eq, Classical.not_not] at hc7
 refine SW_skip (n_in (n_then ?_))
 refine sr ?_
 refine os 1 ?_
 refine L (cl (lex_sign hL (X := X) (a := a) (l := l) hk hX (by omega) (by omega)) ?_)
 rintro v8 q9 ⟨hv8, hkq9⟩
 obtain rfl : v8 = .int .i64 ((signR X a).err) := hv8.trans (rfl)
 refine un ?_
 refine os 1 ?_
 refine nt ?_
 refine SW_ret ?_
 refine body_end (.int .i64 ((signR X a).err)) (fun _ => rfl) ?_
 have hr_ : tokR X a = signR X a := tok_sign (by rw [dig_at]; exact decide_eq_false hc1) hc3 (by omega)
 rw [hr_]
 exact ⟨q9, ow, rfl, hkq9⟩

theorem lex_Scan {W0 : World} (hL : LaidL W0) {X : Bytes} : SC Tryd.prog W0 11 #[.string (bS X)] [] (Ret (fun q : Gs => Gs.ent 29 4 q (((scanP X).toks).flatMap Tok.cells)) (fun v q => v = .tuple #[Gs.val q (scanP X).toks.length, .int .i64 ((scanP X).place : Int), .int .i64 (scanP X).err] ∧ Gs.ok 4 ((scanP X).toks).length q (((scanP X).toks).flatMap Tok.cells))) := by
 refine SC_body (fn := Tryd.f11) (n := 59) Tryd.func11 rfl (by kernel_rfl) (ρ := [(0, .string (bS X))]) rfl ?_
 refine sr ?_
 refine os 3 ?_
 refine nq ?_
 refine sr ?_
 refine os 1 ?_
 refine oX (.int .i64 ((bS X).size : Int)) (.int .i64 (X.length : Int)) (congrArg (fun n_ : Nat => Value.int .i64 (n_ : Int)) (bS_size _)) ?_
 refine os 1 ?_
 refine nt ?_
 refine cdp (fun hc1 : (X.length : Int) > 65536 => ?_) (fun hc1 => ?_)
 ·refine sr ?_
  refine os 3 ?_
  refine nt ?_
  refine SW_ret (r_then ?_)
  refine body_end (.tuple #[.slice none 0 0, .int .i64 0, .int .i64 50]) (fun _ => rfl) ?_
  have hr_ : scanP X = .bad 0 50 := by unfold scanP; rw [if_pos (by omega)]
  rw [hr_]
  exact ⟨Gs.nil, (ow (S := [])), rfl, rfl, rfl⟩
 refine SW_skip (n_then ?_)
 refine SW_seq ?_
 refine sr ?_
 refine os 1 ?_
 refine L (O_range (bS X) (by kernel_rfl) (fun _ => rfl) rfl ?_)
 intro b2
 refine nt ?_
 refine SW_block ?_
 refine SW_loop (α := Nat) (fun z_ ρ_ σ_ => Fits ρ_ σ_ [(0, .string (bS X)), (13, pt b2 0)] ((b2, .it (bS X) z_) :: ([])) ∧ z_ ≤ X.length ∧ ∀ c ∈ X.take z_, okR (c.toNat : Int) = true) (fun z_ => X.length - z_) 0 ⟨⟨fun _ => rfl, ow⟩, Nat.zero_le _, fun _ h_ => by simp at h_⟩ ?_
 rintro n ρ_ σ_ ⟨hfit, hi0, hi1⟩
 refine SW_fits hfit ?_
 clear hfit
 refine sr ?_
 by_cases hp1 : n < X.length
 ·obtain ⟨e2, he2⟩ : ∃ y_, X[n]? = some y_ := ⟨_, List.getElem?_eq_getElem (by omega)⟩
  by_cases hp3 : e2.toNat < 128
  ·refine L (O_next (p' := (n + 1)) (.tuple #[.bool true, .int .i64 (n : Int), .int .i32 (e2.toNat : Int)]) rfl (fun _ => rfl) (fun w_ hw_ => next_ascii he2 hp3 hw_) ?_)
   refine os 1 ?_
   refine nq ?_
   refine ct ?_
   refine SW_skip (n_then ?_)
   refine SW_block ?_
   refine sr ?_
   refine os 4 ?_
   refine nsr ?_
   refine os 1 ?_
   refine L (cl (lex_allowed (z := (e2.toNat : Int))) ?_)
   rintro _ _ rfl
   refine un ?_
   refine os 1 ?_
   refine kp [20, 6, 5, 15, 14, 0, 13] ?_
   refine nt ?_
   refine cd (fun hc3 : (!(okR (e2.toNat : Int))) = true => ?_) (fun hc3 => ?_)
   ·replace hc3 := bnot_t hc3
    refine sr ?_
    refine os 4 ?_
    refine nt ?_
    refine SW_ret (r_in (r_then (r_in (r_then ?_))))
    refine body_end (.tuple #[.slice none 0 0, .int .i64 (n : Int), .int .i64 51]) (fun _ => rfl) ?_
    have hr_ : scanP X = .bad n 51 := by unfold scanP; rw [if_neg (by omega), badAt_some hi1 he2 (by simpa using hc3)]
    rw [hr_]
    exact ⟨Gs.nil, (ow (S := [])), rfl, rfl, rfl⟩
   replace hc3 := bnot_f hc3
   refine SW_skip (n_in (n_then ?_))
   exact ⟨n + 1, by omega, ⟨fun _ => rfl, ow⟩, by omega, ok_step hi1 he2 (by simpa using hc3)⟩
  refine L (O_next (p' := (n + (Utf8.decode (bS X) n).2)) (.tuple #[.bool true, .int .i64 (n : Int), .int .i32 ((Utf8.decode (bS X) n).1 : Int)]) rfl (fun _ => rfl) (fun w_ hw_ => next_high he2 hw_) ?_)
  refine os 1 ?_
  refine nq ?_
  refine ct ?_
  refine SW_skip (n_then ?_)
  refine SW_block ?_
  refine sr ?_
  refine os 4 ?_
  refine nsr ?_
  refine os 1 ?_
  refine L (cl (lex_allowed (z := ((Utf8.decode (bS X) n).1 : Int))) ?_)
  rintro _ _ rfl
  refine un ?_
  refine os 1 ?_
  refine kp [20, 6, 5, 15, 14, 0, 13] ?_
  refine nt ?_
  refine cd (fun hc4 : (!(okR ((Utf8.decode (bS X) n).1 : Int))) = true => ?_) (fun hc4 => ?_)
  ·replace hc4 := bnot_t hc4
   refine sr ?_
   refine os 4 ?_
   refine nt ?_
   refine SW_ret (r_in (r_then (r_in (r_then ?_))))
   refine body_end (.tuple #[.slice none 0 0, .int .i64 (n : Int), .int .i64 51]) (fun _ => rfl) ?_
   have hr_ : scanP X = .bad n 51 := by unfold scanP; rw [if_neg (by omega), badAt_some hi1 he2 (ok_low hp3)]
   rw [hr_]
   exact ⟨Gs.nil, (ow (S := [])), rfl, rfl, rfl⟩
  replace hc4 := bnot_f hc4
  exact absurd hc4 (by rw [ok_hi (by have := decode_hi he2 hp3; omega)]; decide)
 refine L (O_nextE (by rw [bS_size]; exact hp1) rfl (fun _ => rfl) ?_)
 refine os 1 ?_
 refine nq ?_
 refine cf ?_
 refine SW_exit (x_then (x_then (x_in (n_then ?_))))
 refine SW_seq ?_
 have hall_ : ∀ c ∈ X, okR (c.toNat : Int) = true := by rw [show n = X.length from by omega, List.take_length] at hi1; exact hi1
 have hscan_ : scanP X = scanE (X.length + 1) X 0 [] := by unfold scanP; rw [if_neg (by omega), badAt_none hall_]
 have hX : X.length ≤ 1048576 := by omega
 clear hi0 hi1
 refine SW_region ?_
 refine os 1 ?_
 refine oV (.agg #[.string (bS X), .int .i64 0, .slice none 0 0]) ?_
 refine L (nw 45 3 [.string (bS X), .int .i64 0, .slice none 0 0] ?_)
 intro b5
 refine os 1 ?_
 refine kp [7, 15, 14, 0, 13] ?_
 refine nt ?_
 refine SW_block ?_
 refine SW_sig ((b5, .cells 45 3 [.string (bS X), .int .i64 ((0 : Nat) : Int), Gs.val Gs.nil (([] : List Tok).length)]) :: ((Gs.ent 29 4 Gs.nil (([] : List Tok).flatMap Tok.cells)) ++ ((b2, .it (bS X) n) :: ([])))) rfl ?_
 refine SW_loop (α := Nat × Nat × Gs × List Tok) (fun z_ ρ_ σ_ => Fits ρ_ σ_ [(0, .string (bS X)), (7, pt b5 0)] ((b5, .cells 45 3 [.string (bS X), .int .i64 (z_.2.1 : Int), Gs.val z_.2.2.1 z_.2.2.2.length]) :: ((Gs.ent 29 4 z_.2.2.1 (z_.2.2.2.flatMap Tok.cells)) ++ ((b2, .it (bS X) n) :: ([])))) ∧ z_.2.1 ≤ X.length ∧ X.length - z_.2.1 < z_.1 ∧ z_.2.2.2.length ≤ z_.2.1 ∧ Gs.ok 4 z_.2.2.2.length z_.2.2.1 (z_.2.2.2.flatMap Tok.cells) ∧ scanE z_.1 X z_.2.1 z_.2.2.2 = scanE (X.length + 1) X 0 []) (fun z_ => X.length - z_.2.1) ((X.length + 1), 0, Gs.nil, ([] : List Tok)) ⟨⟨fun _ => rfl, ow⟩, Nat.zero_le _, by simp only []; omega, Nat.zero_le _, ⟨rfl, rfl⟩, rfl⟩ ?_
 rintro ⟨f, n, g, l⟩ ρ_ σ_ ⟨hfit, hi0, hi1, hi2, hi3, hi4⟩
 refine SW_fits hfit ?_
 clear hfit
 simp only [] at hi0 hi1 hi2 hi3 hi4 ⊢
 obtain ⟨f, rfl⟩ : ∃ q_, f = q_ + 1 := ⟨f - 1, by omega⟩
 have hbg_ := blP_ge X n
 have hbl_ := blP_le hi0
 refine SW_block ?_
 refine sr ?_
 refine os 1 ?_
 by_cases hp4 : (blP X n).2 = true
 ·refine L (cl (lex_blanks hL (X := X) (a := n) (l := l) hi3 hX (by omega)) ?_)
  rintro v3 _ hv3
  obtain rfl : v3 = .int .i64 0 := hv3.trans (by rw [if_pos hp4])
  refine un ?_
  refine os 1 ?_
  refine nq ?_
  refine sr ?_
  refine os 1 ?_
  refine oV (.bool true) ?_
  refine os 4 ?_
  refine kp [32, 29, 8, 0, 7] ?_
  refine L (ld ?_)
  refine os 1 ?_
  refine oX (.int .i64 ((bS X).size : Int)) (.int .i64 (X.length : Int)) (congrArg (fun n_ : Nat => Value.int .i64 (n_ : Int)) (bS_size _)) ?_
  refine os 2 ?_
  refine kp [37, 8, 0, 7] ?_
  refine nt ?_
  refine cdp (fun hc6 : ((blP X n).1 : Int) < (X.length : Int) => ?_) (fun hc6 => ?_)
  ·refine SW_region ?_
   refine os 1 ?_
   refine L (cl (lex_next hL (X := X) (a := (blP X n).1) (l := l) hi3 hX (by omega) (by omega)) ?_)
   rintro v4 q7 ⟨hv4, hkq7⟩
   obtain rfl : v4 = .int .i64 ((tokR X ((blP X n).1)).err) := hv4.trans (rfl)
   refine un ?_
   refine os 1 ?_
   refine nsr ?_
   refine os 2 ?_
   refine kp [53, 8, 37, 0, 7] ?_
   refine nt ?_
   refine cd (fun hc8 : (((tokR X ((blP X n).1)).err) != 0) = true => ?_) (fun hc8 => ?_)
   ·simp only [beq_iff_eq, bne_iff_ne, ne_eq, beq_eq_false_iff_ne, bne_eq_false_iff_eq, Classical.not_not] at hc8
    refine SW_seq ?_
    refine SW_draw [(b5, 1, .int .i64 ((tokR X ((blP X n).1)).past ((blP X n).1) : Int))] [0, 1, 2, 4, 5] (by kernel_rfl) (rd_cons (Cell.own mem_z rfl) rd_nil) ?_
    refine aS 0 ?_
    refine aS 1 ?_
    refine aF 2 ?_
    refine aL 3 ?_
    refine aS 4 ?_
    refine aS 5 ?_
    refine aS 6 ?_
    refine aS 7 ?_
    refine SA_done (by kernel_rfl) (n_then ?_)
    refine SW_ret (r_in (r_then (r_in ?_)))
    refine body_end (.tuple #[.slice none 0 0, .int .i64 ((tokR X ((blP X n).1)).past ((blP X n).1) : Int), .int .i64 ((tokR X ((blP X n).1)).err)]) (fun _ => rfl) ?_
    have hne_ : (tokR X (blP X n).1).err ≠ 0 := by simpa using hc8
    rw [scanE_bad hp4 (by omega) hne_] at hi4
    have hr_ := hscan_.trans hi4.symm
    rw [(tok_err (by omega) hne_).1]
    rw [hr_]
    exact ⟨Gs.nil, (ow (S := [])), rfl, rfl, rfl⟩
   simp only [beq_iff_eq, bne_iff_ne, ne_eq, beq_eq_false_iff_ne, bne_eq_false_iff_eq, Classical.not_not] at hc8
   refine SW_skip (n_in (n_then ?_))
   have hok_ : (tokR X (blP X n).1).err = 0 := by simpa using hc8
   obtain ⟨ht1_, ht2_, ht3_⟩ := tok_good (by omega) hok_
   have ht4_ := ht3_ l
   rw [scanE_tok hp4 (by omega) hok_] at hi4
   exact ⟨(f, (tokR X (blP X n).1).past (blP X n).1, q7, (tokR X (blP X n).1).toks (blP X n).1 l), by simp only []; omega, ⟨fun _ => rfl, ow⟩, by simp only []; omega, by simp only []; omega, by simp only []; omega, hkq7, hi4⟩
  refine sr ?_
  refine os 1 ?_
  refine oV (.bool true) ?_
  refine nt ?_
  refine ct ?_
  refine sr ?_
  refine os 4 ?_
  refine L (ld ?_)
  refine L (cl (lex_putZ (X := X) (T := []) (a := ((blP X n).1)) (num := 0) (too := ((blP X n).1)) (z := ((blP X n).1 : Int)) (kind := 0) (l := l) (by omega) hi3 (by omega)) ?_)
  rintro _ q9 ⟨rfl, hkq9⟩
  refine un ?_
  refine nsr ?_
  refine os 3 ?_
  refine kp [50, 41, 37, 8, 0, 7] ?_
  refine L (ld ?_)
  refine os 3 ?_
  refine nt ?_
  refine SW_ret (r_then (r_in (r_then (r_in ?_))))
  refine body_end (.tuple #[Gs.val q9 ((l ++ [(⟨0, (blP X n).1, [], 0⟩ : Tok)]).length), .int .i64 0, .int .i64 0]) (fun _ => rfl) ?_
  rw [scanE_end hp4 (by omega)] at hi4
  have hr_ := hscan_.trans hi4.symm
  rw [hr_]
  exact ⟨q9, (ow (S := Gs.ent 29 4 q9 ((l ++ [(⟨0, (blP X n).1, [], 0⟩ : Tok)]).flatMap Tok.cells))), rfl, hkq9⟩
 refine L (cl (lex_blanks hL (X := X) (a := n) (l := l) hi3 hX (by omega)) ?_)
 rintro v6 _ hv6
 obtain rfl : v6 = .int .i64 52 := hv6.trans (by rw [if_neg hp4])
 refine un ?_
 refine os 1 ?_
 refine nq ?_
 refine sr ?_
 refine os 1 ?_
 refine oV (.bool false) ?_
 refine os 9 ?_
 refine kp [37, 8, 0, 7] ?_
 refine nt ?_
 refine cf ?_
 refine sr ?_
 refine os 1 ?_
 refine oV (.bool false) ?_
 refine nt ?_
 refine cf ?_
 refine SW_skip (n_then ?_)
 refine sr ?_
 refine os 1 ?_
 refine oV (.bool true) ?_
 refine nt ?_
 refine ct ?_
 refine SW_seq ?_
 refine SW_draw [(b5, 1, .int .i64 ((blP X n).1 : Int))] [0, 1, 2, 4, 5] (by kernel_rfl) (rd_cons (Cell.own mem_z rfl) rd_nil) ?_
 refine aS 0 ?_
 refine aS 1 ?_
 refine aF 2 ?_
 refine aL 3 ?_
 refine aS 4 ?_
 refine aS 5 ?_
 refine aS 6 ?_
 refine aS 7 ?_
 refine SA_done (by kernel_rfl) (n_then ?_)
 refine SW_ret (r_in (r_then (r_in ?_)))
 refine body_end (.tuple #[.slice none 0 0, .int .i64 ((blP X n).1 : Int), .int .i64 52]) (fun _ => rfl) ?_
 rw [scanE_bl (by simpa using hp4)] at hi4
 have hr_ := hscan_.trans hi4.symm
 rw [hr_]
 exact ⟨Gs.nil, (ow (S := [])), rfl, rfl, rfl⟩

end Go.Proofs.YtnhmmjogfkjceaaDoor
namespace Go.Proofs.YtnhmmjogfkjceaaDoor
open Go.Sl

theorem lex_scan_good {W0 : World} (hL : LaidL W0) {X : Bytes} {l : List Tok} (h : scanP X = .good l) : SC Tryd.prog W0 11 #[.string (bS X)] [] (Ret (fun q : Gs => Gs.ent 29 4 q (l.flatMap Tok.cells)) (fun v q => v = .tuple #[Gs.val q l.length, .int .i64 0, .int .i64 0] ∧ Gs.ok 4 l.length q (l.flatMap Tok.cells))) := by
 have := lex_Scan hL (X := X); rw [h] at this; exact this
theorem lex_scan_bad {W0 : World} (hL : LaidL W0) {X : Bytes} {p : Nat} {e : Int} (h : scanP X = .bad p e) : SC Tryd.prog W0 11 #[.string (bS X)] [] (Ret (fun q : Gs => Gs.ent 29 4 q (([] : List Tok).flatMap Tok.cells)) (fun v q => v = .tuple #[Gs.val q ([] : List Tok).length, .int .i64 (p : Int), .int .i64 e] ∧ Gs.ok 4 ([] : List Tok).length q (([] : List Tok).flatMap Tok.cells))) := by
 have := lex_Scan hL (X := X); rw [h] at this; exact this

theorem law_alive5 {W0 : World} (hL : LaidL W0) : SC Tryd.prog W0 10 #[] [] (Ret (fun _ : Unit => []) (fun v _ => v = .bool true)) := by
 refine SC_body (fn := Tryd.f10) (n := 50) Tryd.func10 rfl (by kernel_rfl) (ρ := []) rfl ?_
 have hal_ : aliveL.length = 5 := rfl
 refine sr ?_
 refine os 1 ?_
 refine nsr ?_
 refine L (cl ((lex_scan_good hL (l := aliveL) alive_A)) ?_)
 rintro _ ga ⟨rfl, hkga⟩
 refine os 7 ?_
 refine kp [3, 2, 1, 0] ?_
 refine nsr ?_
 refine L (cl ((lex_scan_bad hL alive_B)) ?_)
 rintro _ gb ⟨rfl, hkgb⟩
 refine os 7 ?_
 refine kp [6, 5, 3, 2, 1, 0] ?_
 refine nsr ?_
 refine os 1 ?_
 refine oV (.bool true) ?_
 refine os 2 ?_
 refine oV (.bool true) ?_
 refine os 7 ?_
 refine kp [28, 6, 5, 3, 2, 1, 0] ?_
 refine pn 28 (show ((aliveL.length : Int) == 5) = true from (by decide)) ?_
 refine os 1 ?_
 refine L (ixg 1 (4) hkga Tryd.underlying23 ?_)
 refine L (ldr [.int .i64 5, .int .i64 1, .string (bS [62, 62, 62, 61]), .int .u64 0] (cells_cons (Gs.cell hkga (fun e he => (mem_a (mem_h he))) (flat_cell Tok.len (show aliveL[1]? = some (⟨5, 1, [62, 62, 62, 61], 0⟩ : Tok) from rfl) (j := 0) (by decide) rfl)) (cells_cons (Gs.cell hkga (fun e he => (mem_a (mem_h he))) (flat_cell Tok.len (show aliveL[1]? = some (⟨5, 1, [62, 62, 62, 61], 0⟩ : Tok) from rfl) (j := 1) (by decide) rfl)) (cells_cons (Gs.cell hkga (fun e he => (mem_a (mem_h he))) (flat_cell Tok.len (show aliveL[1]? = some (⟨5, 1, [62, 62, 62, 61], 0⟩ : Tok) from rfl) (j := 2) (by decide) rfl)) (cells_cons (Gs.cell hkga (fun e he => (mem_a (mem_h he))) (flat_cell Tok.len (show aliveL[1]? = some (⟨5, 1, [62, 62, 62, 61], 0⟩ : Tok) from rfl) (j := 3) (by decide) rfl)) cells_nil)))) ?_)
 refine oV (.agg #[.int .i64 5, .int .i64 1, .string (bS [62, 62, 62, 61]), .int .u64 0]) ?_
 refine oV (.bool (eqT 5 5 1 1 ([62, 62, 62, 61]) ([62, 62, 62, 61]) 0 0)) ?_ (hs := eqlT)
 refine os 2 ?_
 refine kp [35, 6, 5, 3, 2, 1, 0] ?_
 refine pn 35 (show (eqT 5 5 1 1 ([62, 62, 62, 61]) ([62, 62, 62, 61]) 0 0) = true from (by decide)) ?_
 refine os 1 ?_
 refine L (ixg 2 (8) hkga Tryd.underlying23 ?_)
 refine L (ldr [.int .i64 3, .int .i64 5, .string (bS []), .int .u64 4629418941960159232] (cells_cons (Gs.cell hkga (fun e he => (mem_a (mem_h he))) (flat_cell Tok.len (show aliveL[2]? = some (⟨3, 5, [], 4629418941960159232⟩ : Tok) from rfl) (j := 0) (by decide) rfl)) (cells_cons (Gs.cell hkga (fun e he => (mem_a (mem_h he))) (flat_cell Tok.len (show aliveL[2]? = some (⟨3, 5, [], 4629418941960159232⟩ : Tok) from rfl) (j := 1) (by decide) rfl)) (cells_cons (Gs.cell hkga (fun e he => (mem_a (mem_h he))) (flat_cell Tok.len (show aliveL[2]? = some (⟨3, 5, [], 4629418941960159232⟩ : Tok) from rfl) (j := 2) (by decide) rfl)) (cells_cons (Gs.cell hkga (fun e he => (mem_a (mem_h he))) (flat_cell Tok.len (show aliveL[2]? = some (⟨3, 5, [], 4629418941960159232⟩ : Tok) from rfl) (j := 3) (by decide) rfl)) cells_nil)))) ?_)
 refine oV (.agg #[.int .i64 3, .int .i64 5, .string (bS []), .int .u64 4629418941960159232]) ?_
 refine oV (.bool (eqT 3 3 5 5 ([]) ([]) 4629418941960159232 4629418941960159232)) ?_ (hs := eqlT)
 refine os 2 ?_
 refine kp [42, 6, 5, 3, 2, 1, 0] ?_
 refine pn 42 (show (eqT 3 3 5 5 ([]) ([]) 4629418941960159232 4629418941960159232) = true from (by decide)) ?_
 refine os 4 ?_
 refine pn 46 (show (((2 : Nat) : Int) == 2) = true from (by decide)) ?_
 refine os 1 ?_
 refine oV (.bool true) ?_
 refine os 2 ?_
 refine kp [0, 6, 5, 3, 2, 1] ?_
 refine nt ?_
 refine SW_ret ?_
 refine body_end (.bool true) (fun _ => rfl) ?_
 exact ⟨(), ow, congrArg Value.bool (by decide)⟩

theorem law_same5 {W0 : World} {a b : Gs} {l : List Tok} (hka : Gs.ok 4 l.length a (l.flatMap Tok.cells)) (hkb : Gs.ok 4 l.length b (l.flatMap Tok.cells)) : SC Tryd.prog W0 12 #[a.val l.length, b.val l.length] (Gs.ent 29 4 a (l.flatMap Tok.cells) ++ Gs.ent 29 4 b (l.flatMap Tok.cells)) (Ret (fun _ : Unit => []) (fun v _ => v = .bool true)) := by
 refine SC_body (fn := Tryd.f12) (n := 26) Tryd.func12 rfl (by kernel_rfl) (ρ := [(0, Gs.val a l.length), (1, Gs.val b l.length)]) rfl ?_
 refine SW_sig ((Gs.ent 29 4 a (l.flatMap Tok.cells)) ++ ((Gs.ent 29 4 b (l.flatMap Tok.cells)) ++ ([]))) (by simp only [List.append_nil, List.append_assoc]) ?_
 have hll_ : l.length ≤ maxLen := Nat.le_trans (Gs.ok.cap_le hka) (Gs.ok.cap_max hka)
 unfold maxLen at hll_
 refine sr ?_
 refine os 1 ?_
 refine nq ?_
 refine sr ?_
 refine os 5 ?_
 refine kp [10, 4, 0, 1] ?_
 refine nt ?_
 refine SW_false (fun _ => (congrArg Value.bool (show ((l.length : Int) != (l.length : Int)) = false from (bne_eq_false_iff_eq.2 (by omega))))) ?_
 refine SW_skip (n_then ?_)
 refine SW_seq ?_
 refine sr ?_
 refine os 1 ?_
 refine nt ?_
 refine SW_block ?_
 refine SW_loop (α := Nat) (fun z_ ρ_ σ_ => Fits ρ_ σ_ [(0, Gs.val a l.length), (1, Gs.val b l.length), (5, .int .i64 (z_ : Int))] ((Gs.ent 29 4 a (l.flatMap Tok.cells)) ++ ((Gs.ent 29 4 b (l.flatMap Tok.cells)) ++ ([]))) ∧ z_ ≤ l.length) (fun z_ => l.length - z_) 0 ⟨⟨fun _ => rfl, ow⟩, Nat.zero_le _⟩ ?_
 rintro i ρ_ σ_ ⟨hfit, hi0⟩
 refine SW_fits hfit ?_
 clear hfit
 refine SW_seq ?_
 refine sr ?_
 refine os 4 ?_
 refine kp [14, 0, 1, 5] ?_
 refine nt ?_
 refine cdp (fun hc1 : (i : Int) < (l.length : Int) => ?_) (fun hc1 => ?_)
 ·refine SW_skip (n_then ?_)
  refine SW_seq ?_
  refine SW_block ?_
  refine SW_seq ?_
  obtain ⟨e1, he1⟩ : ∃ y_, l[i]? = some y_ := ⟨_, List.getElem?_eq_getElem (by omega)⟩
  refine SW_draw [((Gs.blk a), i * 4, .int .i64 e1.kind), ((Gs.blk a), i * 4 + 1, .int .i64 (e1.pos : Int)), ((Gs.blk a), i * 4 + 2, .string (bS e1.text)), ((Gs.blk a), i * 4 + 3, .int .u64 (e1.num : Int)), ((Gs.blk b), i * 4, .int .i64 e1.kind), ((Gs.blk b), i * 4 + 1, .int .i64 (e1.pos : Int)), ((Gs.blk b), i * 4 + 2, .string (bS e1.text)), ((Gs.blk b), i * 4 + 3, .int .u64 (e1.num : Int))] [0, 1, 2, 3, 4, 5, 6, 7] (by kernel_rfl) (rd_cons (Gs.cell hka (fun e he => (mem_h he)) (flat_cell Tok.len he1 (j := 0) (by decide) rfl)) (rd_cons (Gs.cell hka (fun e he => (mem_h he)) (flat_cell Tok.len he1 (j := 1) (by decide) rfl)) (rd_cons (Gs.cell hka (fun e he => (mem_h he)) (flat_cell Tok.len he1 (j := 2) (by decide) rfl)) (rd_cons (Gs.cell hka (fun e he => (mem_h he)) (flat_cell Tok.len he1 (j := 3) (by decide) rfl)) (rd_cons (Gs.cell hkb (fun e he => (mem_a (mem_h he))) (flat_cell Tok.len he1 (j := 0) (by decide) rfl)) (rd_cons (Gs.cell hkb (fun e he => (mem_a (mem_h he))) (flat_cell Tok.len he1 (j := 1) (by decide) rfl)) (rd_cons (Gs.cell hkb (fun e he => (mem_a (mem_h he))) (flat_cell Tok.len he1 (j := 2) (by decide) rfl)) (rd_cons (Gs.cell hkb (fun e he => (mem_a (mem_h he))) (flat_cell Tok.len he1 (j := 3) (by decide) rfl)) rd_nil)))))))) ?_
  refine aS 0 ?_
  refine aS 1 ?_
  refine aI 2 (i : Int) (i * 4) hka Tryd.underlying23 ?_
  refine tr 3 (.agg #[.int .i64 e1.kind, .int .i64 (e1.pos : Int), .string (bS e1.text), .int .u64 (e1.num : Int)]) ?_ (hy := fun δ w_ hr => Rd_loads (Gs.blk a) (i * 4) [.int .i64 e1.kind, .int .i64 (e1.pos : Int), .string (bS e1.text), .int .u64 (e1.num : Int)] rfl (by kernel_rfl) (rdm_cons List.mem_cons_self (rdm_cons (List.mem_cons_of_mem _ List.mem_cons_self) (rdm_cons (List.mem_cons_of_mem _ (List.mem_cons_of_mem _ List.mem_cons_self)) (rdm_cons (List.mem_cons_of_mem _ (List.mem_cons_of_mem _ (List.mem_cons_of_mem _ List.mem_cons_self))) rdm_nil)))) hr)
  refine aS 4 ?_
  refine aS 5 ?_
  refine aI 6 (i : Int) (i * 4) hkb Tryd.underlying23 ?_
  refine tr 7 (.agg #[.int .i64 e1.kind, .int .i64 (e1.pos : Int), .string (bS e1.text), .int .u64 (e1.num : Int)]) ?_ (hy := fun δ w_ hr => Rd_loads (Gs.blk b) (i * 4) [.int .i64 e1.kind, .int .i64 (e1.pos : Int), .string (bS e1.text), .int .u64 (e1.num : Int)] rfl (by kernel_rfl) (rdm_cons (List.mem_cons_of_mem _ (List.mem_cons_of_mem _ (List.mem_cons_of_mem _ (List.mem_cons_of_mem _ List.mem_cons_self)))) (rdm_cons (List.mem_cons_of_mem _ (List.mem_cons_of_mem _ (List.mem_cons_of_mem _ (List.mem_cons_of_mem _ (List.mem_cons_of_mem _ List.mem_cons_self))))) (rdm_cons (List.mem_cons_of_mem _ (List.mem_cons_of_mem _ (List.mem_cons_of_mem _ (List.mem_cons_of_mem _ (List.mem_cons_of_mem _ (List.mem_cons_of_mem _ List.mem_cons_self)))))) (rdm_cons (List.mem_cons_of_mem _ (List.mem_cons_of_mem _ (List.mem_cons_of_mem _ (List.mem_cons_of_mem _ (List.mem_cons_of_mem _ (List.mem_cons_of_mem _ (List.mem_cons_of_mem _ List.mem_cons_self))))))) rdm_nil)))) hr)
  refine tk 8 (.bool (!(eqT e1.kind e1.kind (e1.pos : Int) (e1.pos : Int) e1.text e1.text (e1.num : Int) (e1.num : Int)))) ?_ (hy := neqT)
  refine kpA [25, 14, 0, 1, 5] ?_
  refine SA_done (by kernel_rfl) (n_then ?_)
  refine SW_false (fun _ => (congrArg Value.bool (show (!(eqT e1.kind e1.kind (e1.pos : Int) (e1.pos : Int) e1.text e1.text (e1.num : Int) (e1.num : Int))) = false from (by rw [eqT_same]; rfl)))) ?_
  refine SW_skip (n_in (n_then ?_))
  refine SW_region ?_
  refine os 3 ?_
  refine nt ?_
  exact ⟨i + 1, by omega, ⟨fun _ => rfl, ow⟩, by omega⟩
 refine SW_exit (x_then (x_then (x_in (n_then ?_))))
 refine sr ?_
 refine os 1 ?_
 refine nt ?_
 refine SW_ret ?_
 refine body_end (.bool true) (fun _ => rfl) ?_
 exact ⟨(), ow, rfl⟩

end Go.Proofs.YtnhmmjogfkjceaaDoor
