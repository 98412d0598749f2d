/-
  LexParts, within the bound on what it reads, and tied to the program's text: it returns true whatever it is given, and leaves its arguments as they were. Conditions: the arguments' bulk is at most 1048576; the listed library variables stand as their text lays them, as the statement says.
-/
import Derived.Test.YtnhmmjogfkjceaaDoorProg
import Derived.Test.YtnhmmjogfkjceaaDoorM5
import Derived.Test.YtnhmmjogfkjceaaDoorM2
set_option linter.unusedVariables false
set_option linter.unusedSimpArgs false
set_option maxRecDepth 100000
set_option maxHeartbeats 4000000
namespace Go.Proofs.YtnhmmjogfkjceaaDoor
open Go.Sl

theorem law_LexParts {W0 : World} (hL : LaidL W0) {A B : Bytes} (hA : A.length ≤ 1048576) (hB : B.length ≤ 1048576) : SC Tryd.prog W0 5 #[.string (bS A), .string (bS B)] [] (Ret (fun _ : Unit => []) (fun v _ => v = .bool true)) := by
 refine SC_body (fn := Tryd.f5) (n := 133) Tryd.func5 rfl (by kernel_rfl) (ρ := [(0, .string (bS A)), (1, .string (bS B))]) rfl ?_
 refine sr ?_
 refine os 1 ?_
 refine nq ?_
 refine sr ?_
 refine L (cl (law_alive5 hL) ?_)
 rintro _ _ rfl
 refine un ?_
 refine oV (.bool false) ?_
 refine nt ?_
 refine cf ?_
 refine SW_skip (n_then ?_)
 refine SW_seq ?_
 refine sr ?_
 refine os 1 ?_
 refine oX (.int .i64 ((bS A).size : Int)) (.int .i64 (A.length : Int)) (congrArg (fun n_ : Nat => Value.int .i64 (n_ : Int)) (bS_size _)) ?_
 refine os 2 ?_
 refine tbp 22 (fun hg1 => ?_) (fun hg1 => ?_)
 ·replace hg1 : (A.length : Int) > 65536 := hg1
  refine os 7 ?_
  refine kp [29, 18, 4, 0, 1] ?_
  refine nt ?_
  refine ct ?_
  refine sr ?_
  refine os 1 ?_
  refine nt ?_
  refine SW_ret (r_then ?_)
  refine body_end (.bool true) (fun _ => rfl) ?_
  exact ⟨(), ow, rfl⟩
 replace hg1 : ¬ ((A.length : Int) > 65536) := hg1
 refine os 1 ?_
 refine oX (.int .i64 ((bS B).size : Int)) (.int .i64 (B.length : Int)) (congrArg (fun n_ : Nat => Value.int .i64 (n_ : Int)) (bS_size _)) ?_
 refine os 1 ?_
 refine oX (.int .i64 ((bS A).size : Int)) (.int .i64 (A.length : Int)) (congrArg (fun n_ : Nat => Value.int .i64 (n_ : Int)) (bS_size _)) ?_
 refine os 3 ?_
 refine kp [29, 18, 4, 0, 1] ?_
 refine nt ?_
 refine cdp (fun hc2 : (B.length : Int) ≥ (65536 - (A.length : Int)) => ?_) (fun hc2 => ?_)
 ·refine sr ?_
  refine os 1 ?_
  refine nt ?_
  refine SW_ret (r_then ?_)
  refine body_end (.bool true) (fun _ => rfl) ?_
  exact ⟨(), ow, rfl⟩
 refine SW_skip (n_then ?_)
 refine sr ?_
 refine os 1 ?_
 refine L (cl (lex_Scan hL (X := A)) ?_)
 rintro _ g3 ⟨rfl, hkg3⟩
 refine os 7 ?_
 refine kp [7, 6, 5, 29, 18, 4, 0, 1] ?_
 refine nsr ?_
 refine os 1 ?_
 refine L (cl (lex_Scan hL (X := B)) ?_)
 rintro _ g4 ⟨rfl, hkg4⟩
 refine os 7 ?_
 refine kp [10, 8, 7, 6, 5, 29, 18, 4, 0, 1] ?_
 refine nsr ?_
 refine os 1 ?_
 refine oV (.string (bS (A ++ [10]))) ?_ (hs := (fun δ w_ => run_catB A [10] (by simp; omega) rfl rfl))
 refine os 1 ?_
 refine oV (.string (bS ((A ++ [10]) ++ B))) ?_ (hs := (fun δ w_ => run_catB (A ++ [10]) B (by simp; omega) rfl rfl))
 rw [show ((A ++ [10]) ++ B : Bytes) = (A ++ 10 :: B) from by simp]
 refine L (cl (lex_Scan hL (X := (A ++ 10 :: B))) ?_)
 rintro _ g5 ⟨rfl, hkg5⟩
 refine os 7 ?_
 refine kp [13, 12, 11, 10, 8, 7, 6, 5, 29, 18, 4, 0, 1] ?_
 refine nq ?_
 refine sr ?_
 refine os 3 ?_
 refine tb 53 (fun hg6 => ?_) (fun hg6 => ?_)
 ·replace hg6 : (((scanP A).err) != 0) = true := hg6
  simp only [beq_iff_eq, bne_iff_ne, ne_eq, beq_eq_false_iff_ne, bne_eq_false_iff_eq, Classical.not_not] at hg6
  refine os 3 ?_
  refine kp [56, 13, 12, 11, 10, 8, 7, 6, 5, 29, 18, 4, 0, 1] ?_
  refine nt ?_
  refine ct ?_
  refine SW_seq ?_
  obtain ⟨hpa_, hpb_⟩ := parts_err (A := A) (B := B) (by omega) (.inl hg6)
  refine SW_region ?_
  refine L (cl (law_alive5 hL) ?_)
  rintro _ _ rfl
  refine un ?_
  refine os 4 ?_
  refine tb 61 (fun hg7 => ?_) (fun hg7 => ?_)
  ·replace hg7 : (((scanP (A ++ 10 :: B)).err) != 0) = true := hg7
   simp only [beq_iff_eq, bne_iff_ne, ne_eq, beq_eq_false_iff_ne, bne_eq_false_iff_eq, Classical.not_not] at hg7
   refine os 8 ?_
   refine kp [69, 66, 56, 13, 12, 11, 10, 8, 7, 6, 5, 29, 18, 4, 0, 1] ?_
   refine tb 69 (fun hg8 => ?_) (fun hg8 => ?_)
   ·replace hg8 : (((scanP A).err) == 0) = true := hg8
    simp only [beq_iff_eq, bne_iff_ne, ne_eq, beq_eq_false_iff_ne, bne_eq_false_iff_eq, Classical.not_not] at hg8
    refine os 23 ?_
    refine kp [4, 56, 13, 12, 11, 10, 8, 7, 6, 5, 29, 18, 0, 1] ?_
    refine nt ?_
    refine SW_ret (r_then ?_)
    refine body_end (.bool true) (fun _ => rfl) ?_
    exact ⟨(), ow, rfl⟩
   replace hg8 : (((scanP A).err) == 0) = false := hg8
   simp only [beq_iff_eq, bne_iff_ne, ne_eq, beq_eq_false_iff_ne, bne_eq_false_iff_eq, Classical.not_not] at hg8
   refine os 4 ?_
   refine tb 73 (fun hg9 => ?_) (fun hg9 => ?_)
   ·replace hg9 : (((scanP A).err) == 52) = true := hg9
    simp only [beq_iff_eq, bne_iff_ne, ne_eq, beq_eq_false_iff_ne, bne_eq_false_iff_eq, Classical.not_not] at hg9
    refine os 19 ?_
    refine kp [4, 56, 13, 12, 11, 10, 8, 7, 6, 5, 29, 18, 0, 1] ?_
    refine nt ?_
    refine SW_ret (r_then ?_)
    refine body_end (.bool true) (fun _ => rfl) ?_
    exact ⟨(), ow, rfl⟩
   replace hg9 : (((scanP A).err) == 52) = false := hg9
   simp only [beq_iff_eq, bne_iff_ne, ne_eq, beq_eq_false_iff_ne, bne_eq_false_iff_eq, Classical.not_not] at hg9
   refine os 3 ?_
   refine kp [76, 73, 66, 56, 13, 12, 11, 10, 8, 7, 6, 5, 29, 18, 4, 0, 1] ?_
   refine tb 76 (fun hg10 => ?_) (fun hg10 => ?_)
   ·replace hg10 : (((scanP B).err) == 51) = true := hg10
    simp only [beq_iff_eq, bne_iff_ne, ne_eq, beq_eq_false_iff_ne, bne_eq_false_iff_eq, Classical.not_not] at hg10
    refine os 5 ?_
    refine kp [81, 66, 56, 13, 12, 11, 10, 8, 7, 6, 5, 29, 18, 4, 0, 1] ?_
    refine tb 81 (fun hg11 => ?_) (fun hg11 => ?_)
    ·replace hg11 : (((scanP A).err) != 51) = true := hg11
     simp only [beq_iff_eq, bne_iff_ne, ne_eq, beq_eq_false_iff_ne, bne_eq_false_iff_eq, Classical.not_not] at hg11
     refine os 11 ?_
     refine kp [4, 56, 13, 12, 11, 10, 8, 7, 6, 5, 29, 18, 0, 1] ?_
     refine nt ?_
     refine SW_ret (r_then ?_)
     refine body_end (.bool true) (fun _ => rfl) ?_
     exact ⟨(), ow, rfl⟩
    replace hg11 : (((scanP A).err) != 51) = false := hg11
    simp only [beq_iff_eq, bne_iff_ne, ne_eq, beq_eq_false_iff_ne, bne_eq_false_iff_eq, Classical.not_not] at hg11
    refine os 4 ?_
    refine tb 85 (fun hg12 => ?_) (fun hg12 => ?_)
    ·replace hg12 : (((scanP (A ++ 10 :: B)).err) == ((scanP A).err)) = true := hg12
     simp only [beq_iff_eq, bne_iff_ne, ne_eq, beq_eq_false_iff_ne, bne_eq_false_iff_eq, Classical.not_not] at hg12
     refine os 7 ?_
     refine kp [4, 56, 13, 12, 11, 10, 8, 7, 6, 5, 29, 18, 0, 1] ?_
     refine nt ?_
     refine SW_ret (r_then ?_)
     refine body_end (.bool (((scanP (A ++ 10 :: B)).place : Int) == ((scanP A).place : Int))) (fun _ => rfl) ?_
     exact ⟨(), ow, congrArg Value.bool (by first | (exfalso; omega) | (rw [beq_iff_eq]; omega) | (rw [bne_iff_ne]; omega))⟩
    replace hg12 : (((scanP (A ++ 10 :: B)).err) == ((scanP A).err)) = false := hg12
    simp only [beq_iff_eq, bne_iff_ne, ne_eq, beq_eq_false_iff_ne, bne_eq_false_iff_eq, Classical.not_not] at hg12
    refine os 7 ?_
    refine kp [4, 56, 13, 12, 11, 10, 8, 7, 6, 5, 29, 18, 0, 1] ?_
    refine nt ?_
    refine SW_ret (r_then ?_)
    refine body_end (.bool false) (fun _ => rfl) ?_
    exact ⟨(), ow, congrArg Value.bool (by first | (exfalso; omega) | (rw [beq_iff_eq]; omega) | (rw [bne_iff_ne]; omega))⟩
   replace hg10 : (((scanP B).err) == 51) = false := hg10
   simp only [beq_iff_eq, bne_iff_ne, ne_eq, beq_eq_false_iff_ne, bne_eq_false_iff_eq, Classical.not_not] at hg10
   refine os 9 ?_
   refine kp [85, 81, 66, 56, 13, 12, 11, 10, 8, 7, 6, 5, 29, 18, 4, 0, 1] ?_
   refine tb 85 (fun hg13 => ?_) (fun hg13 => ?_)
   ·replace hg13 : (((scanP (A ++ 10 :: B)).err) == ((scanP A).err)) = true := hg13
    simp only [beq_iff_eq, bne_iff_ne, ne_eq, beq_eq_false_iff_ne, bne_eq_false_iff_eq, Classical.not_not] at hg13
    refine os 7 ?_
    refine kp [4, 56, 13, 12, 11, 10, 8, 7, 6, 5, 29, 18, 0, 1] ?_
    refine nt ?_
    refine SW_ret (r_then ?_)
    refine body_end (.bool (((scanP (A ++ 10 :: B)).place : Int) == ((scanP A).place : Int))) (fun _ => rfl) ?_
    exact ⟨(), ow, congrArg Value.bool (by first | (exfalso; omega) | (rw [beq_iff_eq]; omega) | (rw [bne_iff_ne]; omega))⟩
   replace hg13 : (((scanP (A ++ 10 :: B)).err) == ((scanP A).err)) = false := hg13
   simp only [beq_iff_eq, bne_iff_ne, ne_eq, beq_eq_false_iff_ne, bne_eq_false_iff_eq, Classical.not_not] at hg13
   refine os 7 ?_
   refine kp [4, 56, 13, 12, 11, 10, 8, 7, 6, 5, 29, 18, 0, 1] ?_
   refine nt ?_
   refine SW_ret (r_then ?_)
   refine body_end (.bool false) (fun _ => rfl) ?_
   exact ⟨(), ow, congrArg Value.bool (by first | (exfalso; omega) | (rw [beq_iff_eq]; omega) | (rw [bne_iff_ne]; omega))⟩
  replace hg7 : (((scanP (A ++ 10 :: B)).err) != 0) = false := hg7
  simp only [beq_iff_eq, bne_iff_ne, ne_eq, beq_eq_false_iff_ne, bne_eq_false_iff_eq, Classical.not_not] at hg7
  refine os 5 ?_
  refine kp [66, 56, 13, 12, 11, 10, 8, 7, 6, 5, 29, 18, 4, 0, 1] ?_
  refine tb 66 (fun hg14 => ?_) (fun hg14 => ?_)
  ·replace hg14 : (((scanP A).err) == 52) = true := hg14
   simp only [beq_iff_eq, bne_iff_ne, ne_eq, beq_eq_false_iff_ne, bne_eq_false_iff_eq, Classical.not_not] at hg14
   refine os 3 ?_
   refine tb 69 (fun hg15 => ?_) (fun hg15 => ?_)
   ·replace hg15 : (((scanP A).err) == 0) = true := hg15
    simp only [beq_iff_eq, bne_iff_ne, ne_eq, beq_eq_false_iff_ne, bne_eq_false_iff_eq, Classical.not_not] at hg15
    refine os 23 ?_
    refine kp [4, 56, 13, 12, 11, 10, 8, 7, 6, 5, 29, 18, 0, 1] ?_
    refine nt ?_
    refine SW_ret (r_then ?_)
    refine body_end (.bool true) (fun _ => rfl) ?_
    exact ⟨(), ow, rfl⟩
   replace hg15 : (((scanP A).err) == 0) = false := hg15
   simp only [beq_iff_eq, bne_iff_ne, ne_eq, beq_eq_false_iff_ne, bne_eq_false_iff_eq, Classical.not_not] at hg15
   refine os 4 ?_
   refine kp [73, 66, 56, 13, 12, 11, 10, 8, 7, 6, 5, 29, 18, 4, 0, 1] ?_
   refine tb 73 (fun hg16 => ?_) (fun hg16 => ?_)
   ·replace hg16 : (((scanP A).err) == 52) = true := hg16
    simp only [beq_iff_eq, bne_iff_ne, ne_eq, beq_eq_false_iff_ne, bne_eq_false_iff_eq, Classical.not_not] at hg16
    refine os 19 ?_
    refine kp [4, 56, 13, 12, 11, 10, 8, 7, 6, 5, 29, 18, 0, 1] ?_
    refine nt ?_
    refine SW_ret (r_then ?_)
    refine body_end (.bool true) (fun _ => rfl) ?_
    exact ⟨(), ow, rfl⟩
   replace hg16 : (((scanP A).err) == 52) = false := hg16
   simp only [beq_iff_eq, bne_iff_ne, ne_eq, beq_eq_false_iff_ne, bne_eq_false_iff_eq, Classical.not_not] at hg16
   refine os 3 ?_
   refine tb 76 (fun hg17 => ?_) (fun hg17 => ?_)
   ·replace hg17 : (((scanP B).err) == 51) = true := hg17
    simp only [beq_iff_eq, bne_iff_ne, ne_eq, beq_eq_false_iff_ne, bne_eq_false_iff_eq, Classical.not_not] at hg17
    refine os 5 ?_
    refine kp [81, 66, 56, 13, 12, 11, 10, 8, 7, 6, 5, 29, 18, 4, 0, 1] ?_
    refine tb 81 (fun hg18 => ?_) (fun hg18 => ?_)
    ·replace hg18 : (((scanP A).err) != 51) = true := hg18
     simp only [beq_iff_eq, bne_iff_ne, ne_eq, beq_eq_false_iff_ne, bne_eq_false_iff_eq, Classical.not_not] at hg18
     refine os 11 ?_
     refine kp [4, 56, 13, 12, 11, 10, 8, 7, 6, 5, 29, 18, 0, 1] ?_
     refine nt ?_
     refine SW_ret (r_then ?_)
     refine body_end (.bool true) (fun _ => rfl) ?_
     exact ⟨(), ow, rfl⟩
    replace hg18 : (((scanP A).err) != 51) = false := hg18
    simp only [beq_iff_eq, bne_iff_ne, ne_eq, beq_eq_false_iff_ne, bne_eq_false_iff_eq, Classical.not_not] at hg18
    refine os 4 ?_
    refine tb 85 (fun hg19 => ?_) (fun hg19 => ?_)
    ·replace hg19 : (((scanP (A ++ 10 :: B)).err) == ((scanP A).err)) = true := hg19
     simp only [beq_iff_eq, bne_iff_ne, ne_eq, beq_eq_false_iff_ne, bne_eq_false_iff_eq, Classical.not_not] at hg19
     refine os 7 ?_
     refine kp [4, 56, 13, 12, 11, 10, 8, 7, 6, 5, 29, 18, 0, 1] ?_
     refine nt ?_
     refine SW_ret (r_then ?_)
     refine body_end (.bool (((scanP (A ++ 10 :: B)).place : Int) == ((scanP A).place : Int))) (fun _ => rfl) ?_
     exact ⟨(), ow, congrArg Value.bool (by first | (exfalso; omega) | (rw [beq_iff_eq]; omega) | (rw [bne_iff_ne]; omega))⟩
    replace hg19 : (((scanP (A ++ 10 :: B)).err) == ((scanP A).err)) = false := hg19
    simp only [beq_iff_eq, bne_iff_ne, ne_eq, beq_eq_false_iff_ne, bne_eq_false_iff_eq, Classical.not_not] at hg19
    refine os 7 ?_
    refine kp [4, 56, 13, 12, 11, 10, 8, 7, 6, 5, 29, 18, 0, 1] ?_
    refine nt ?_
    refine SW_ret (r_then ?_)
    refine body_end (.bool false) (fun _ => rfl) ?_
    exact ⟨(), ow, congrArg Value.bool (by first | (exfalso; omega) | (rw [beq_iff_eq]; omega) | (rw [bne_iff_ne]; omega))⟩
   replace hg17 : (((scanP B).err) == 51) = false := hg17
   simp only [beq_iff_eq, bne_iff_ne, ne_eq, beq_eq_false_iff_ne, bne_eq_false_iff_eq, Classical.not_not] at hg17
   refine os 9 ?_
   refine kp [85, 81, 66, 56, 13, 12, 11, 10, 8, 7, 6, 5, 29, 18, 4, 0, 1] ?_
   refine tb 85 (fun hg20 => ?_) (fun hg20 => ?_)
   ·replace hg20 : (((scanP (A ++ 10 :: B)).err) == ((scanP A).err)) = true := hg20
    simp only [beq_iff_eq, bne_iff_ne, ne_eq, beq_eq_false_iff_ne, bne_eq_false_iff_eq, Classical.not_not] at hg20
    refine os 7 ?_
    refine kp [4, 56, 13, 12, 11, 10, 8, 7, 6, 5, 29, 18, 0, 1] ?_
    refine nt ?_
    refine SW_ret (r_then ?_)
    refine body_end (.bool (((scanP (A ++ 10 :: B)).place : Int) == ((scanP A).place : Int))) (fun _ => rfl) ?_
    exact ⟨(), ow, congrArg Value.bool (by first | (exfalso; omega) | (rw [beq_iff_eq]; omega) | (rw [bne_iff_ne]; omega))⟩
   replace hg20 : (((scanP (A ++ 10 :: B)).err) == ((scanP A).err)) = false := hg20
   simp only [beq_iff_eq, bne_iff_ne, ne_eq, beq_eq_false_iff_ne, bne_eq_false_iff_eq, Classical.not_not] at hg20
   refine os 7 ?_
   refine kp [4, 56, 13, 12, 11, 10, 8, 7, 6, 5, 29, 18, 0, 1] ?_
   refine nt ?_
   refine SW_ret (r_then ?_)
   refine body_end (.bool false) (fun _ => rfl) ?_
   exact ⟨(), ow, congrArg Value.bool (by first | (exfalso; omega) | (rw [beq_iff_eq]; omega) | (rw [bne_iff_ne]; omega))⟩
  replace hg14 : (((scanP A).err) == 52) = false := hg14
  simp only [beq_iff_eq, bne_iff_ne, ne_eq, beq_eq_false_iff_ne, bne_eq_false_iff_eq, Classical.not_not] at hg14
  refine os 26 ?_
  refine kp [4, 56, 13, 12, 11, 10, 8, 7, 6, 5, 29, 18, 0, 1] ?_
  refine nt ?_
  refine SW_ret (r_then ?_)
  refine body_end (.bool false) (fun _ => rfl) ?_
  exact ⟨(), ow, congrArg Value.bool (by first | (exfalso; omega) | (rw [beq_iff_eq]; omega) | (rw [bne_iff_ne]; omega))⟩
 replace hg6 : (((scanP A).err) != 0) = false := hg6
 simp only [beq_iff_eq, bne_iff_ne, ne_eq, beq_eq_false_iff_ne, bne_eq_false_iff_eq, Classical.not_not] at hg6
 obtain ⟨ho1_a, ho2_a, ho3_a, ho4_a, ho5_a⟩ := scan_ok (X := A) hg6
 have hol_a := ho3_a.len (Nat.zero_le _)
 refine os 3 ?_
 refine kp [56, 13, 12, 11, 10, 8, 7, 6, 5, 29, 18, 4, 0, 1] ?_
 refine nt ?_
 refine cd (fun hc21 : (((scanP B).err) != 0) = true => ?_) (fun hc21 => ?_)
 ·simp only [beq_iff_eq, bne_iff_ne, ne_eq, beq_eq_false_iff_ne, bne_eq_false_iff_eq, Classical.not_not] at hc21
  refine SW_seq ?_
  obtain ⟨hpa_, hpb_⟩ := parts_err (A := A) (B := B) (by omega) (.inr hc21)
  refine SW_region ?_
  refine L (cl (law_alive5 hL) ?_)
  rintro _ _ rfl
  refine un ?_
  refine os 4 ?_
  refine tb 61 (fun hg22 => ?_) (fun hg22 => ?_)
  ·replace hg22 : (((scanP (A ++ 10 :: B)).err) != 0) = true := hg22
   simp only [beq_iff_eq, bne_iff_ne, ne_eq, beq_eq_false_iff_ne, bne_eq_false_iff_eq, Classical.not_not] at hg22
   refine os 8 ?_
   refine kp [69, 66, 56, 13, 12, 11, 10, 8, 7, 6, 5, 29, 18, 4, 0, 1] ?_
   refine tb 69 (fun hg23 => ?_) (fun hg23 => ?_)
   ·replace hg23 : (((scanP A).err) == 0) = true := hg23
    simp only [beq_iff_eq, bne_iff_ne, ne_eq, beq_eq_false_iff_ne, bne_eq_false_iff_eq, Classical.not_not] at hg23
    refine os 23 ?_
    refine kp [4, 56, 13, 12, 11, 10, 8, 7, 6, 5, 29, 18, 0, 1] ?_
    refine nt ?_
    refine SW_ret (r_then ?_)
    refine body_end (.bool true) (fun _ => rfl) ?_
    exact ⟨(), ow, rfl⟩
   replace hg23 : (((scanP A).err) == 0) = false := hg23
   simp only [beq_iff_eq, bne_iff_ne, ne_eq, beq_eq_false_iff_ne, bne_eq_false_iff_eq, Classical.not_not] at hg23
   refine os 4 ?_
   refine tb 73 (fun hg24 => ?_) (fun hg24 => ?_)
   ·replace hg24 : (((scanP A).err) == 52) = true := hg24
    simp only [beq_iff_eq, bne_iff_ne, ne_eq, beq_eq_false_iff_ne, bne_eq_false_iff_eq, Classical.not_not] at hg24
    refine os 19 ?_
    refine kp [4, 56, 13, 12, 11, 10, 8, 7, 6, 5, 29, 18, 0, 1] ?_
    refine nt ?_
    refine SW_ret (r_then ?_)
    refine body_end (.bool true) (fun _ => rfl) ?_
    exact ⟨(), ow, rfl⟩
   replace hg24 : (((scanP A).err) == 52) = false := hg24
   simp only [beq_iff_eq, bne_iff_ne, ne_eq, beq_eq_false_iff_ne, bne_eq_false_iff_eq, Classical.not_not] at hg24
   refine os 3 ?_
   refine kp [76, 73, 66, 56, 13, 12, 11, 10, 8, 7, 6, 5, 29, 18, 4, 0, 1] ?_
   refine tb 76 (fun hg25 => ?_) (fun hg25 => ?_)
   ·replace hg25 : (((scanP B).err) == 51) = true := hg25
    simp only [beq_iff_eq, bne_iff_ne, ne_eq, beq_eq_false_iff_ne, bne_eq_false_iff_eq, Classical.not_not] at hg25
    refine os 5 ?_
    refine kp [81, 66, 56, 13, 12, 11, 10, 8, 7, 6, 5, 29, 18, 4, 0, 1] ?_
    refine tb 81 (fun hg26 => ?_) (fun hg26 => ?_)
    ·replace hg26 : (((scanP A).err) != 51) = true := hg26
     simp only [beq_iff_eq, bne_iff_ne, ne_eq, beq_eq_false_iff_ne, bne_eq_false_iff_eq, Classical.not_not] at hg26
     refine os 11 ?_
     refine kp [4, 56, 13, 12, 11, 10, 8, 7, 6, 5, 29, 18, 0, 1] ?_
     refine nt ?_
     refine SW_ret (r_then ?_)
     refine body_end (.bool true) (fun _ => rfl) ?_
     exact ⟨(), ow, rfl⟩
    replace hg26 : (((scanP A).err) != 51) = false := hg26
    simp only [beq_iff_eq, bne_iff_ne, ne_eq, beq_eq_false_iff_ne, bne_eq_false_iff_eq, Classical.not_not] at hg26
    refine os 4 ?_
    refine tb 85 (fun hg27 => ?_) (fun hg27 => ?_)
    ·replace hg27 : (((scanP (A ++ 10 :: B)).err) == ((scanP A).err)) = true := hg27
     simp only [beq_iff_eq, bne_iff_ne, ne_eq, beq_eq_false_iff_ne, bne_eq_false_iff_eq, Classical.not_not] at hg27
     refine os 7 ?_
     refine kp [4, 56, 13, 12, 11, 10, 8, 7, 6, 5, 29, 18, 0, 1] ?_
     refine nt ?_
     refine SW_ret (r_then ?_)
     refine body_end (.bool (((scanP (A ++ 10 :: B)).place : Int) == ((scanP A).place : Int))) (fun _ => rfl) ?_
     exact ⟨(), ow, congrArg Value.bool (by first | (exfalso; omega) | (rw [beq_iff_eq]; omega) | (rw [bne_iff_ne]; omega))⟩
    replace hg27 : (((scanP (A ++ 10 :: B)).err) == ((scanP A).err)) = false := hg27
    simp only [beq_iff_eq, bne_iff_ne, ne_eq, beq_eq_false_iff_ne, bne_eq_false_iff_eq, Classical.not_not] at hg27
    refine os 7 ?_
    refine kp [4, 56, 13, 12, 11, 10, 8, 7, 6, 5, 29, 18, 0, 1] ?_
    refine nt ?_
    refine SW_ret (r_then ?_)
    refine body_end (.bool false) (fun _ => rfl) ?_
    exact ⟨(), ow, congrArg Value.bool (by first | (exfalso; omega) | (rw [beq_iff_eq]; omega) | (rw [bne_iff_ne]; omega))⟩
   replace hg25 : (((scanP B).err) == 51) = false := hg25
   simp only [beq_iff_eq, bne_iff_ne, ne_eq, beq_eq_false_iff_ne, bne_eq_false_iff_eq, Classical.not_not] at hg25
   refine os 9 ?_
   refine kp [85, 81, 66, 56, 13, 12, 11, 10, 8, 7, 6, 5, 29, 18, 4, 0, 1] ?_
   refine tb 85 (fun hg28 => ?_) (fun hg28 => ?_)
   ·replace hg28 : (((scanP (A ++ 10 :: B)).err) == ((scanP A).err)) = true := hg28
    simp only [beq_iff_eq, bne_iff_ne, ne_eq, beq_eq_false_iff_ne, bne_eq_false_iff_eq, Classical.not_not] at hg28
    refine os 7 ?_
    refine kp [4, 56, 13, 12, 11, 10, 8, 7, 6, 5, 29, 18, 0, 1] ?_
    refine nt ?_
    refine SW_ret (r_then ?_)
    refine body_end (.bool (((scanP (A ++ 10 :: B)).place : Int) == ((scanP A).place : Int))) (fun _ => rfl) ?_
    exact ⟨(), ow, congrArg Value.bool (by first | (exfalso; omega) | (rw [beq_iff_eq]; omega) | (rw [bne_iff_ne]; omega))⟩
   replace hg28 : (((scanP (A ++ 10 :: B)).err) == ((scanP A).err)) = false := hg28
   simp only [beq_iff_eq, bne_iff_ne, ne_eq, beq_eq_false_iff_ne, bne_eq_false_iff_eq, Classical.not_not] at hg28
   refine os 7 ?_
   refine kp [4, 56, 13, 12, 11, 10, 8, 7, 6, 5, 29, 18, 0, 1] ?_
   refine nt ?_
   refine SW_ret (r_then ?_)
   refine body_end (.bool false) (fun _ => rfl) ?_
   exact ⟨(), ow, congrArg Value.bool (by first | (exfalso; omega) | (rw [beq_iff_eq]; omega) | (rw [bne_iff_ne]; omega))⟩
  replace hg22 : (((scanP (A ++ 10 :: B)).err) != 0) = false := hg22
  simp only [beq_iff_eq, bne_iff_ne, ne_eq, beq_eq_false_iff_ne, bne_eq_false_iff_eq, Classical.not_not] at hg22
  refine os 5 ?_
  refine kp [66, 56, 13, 12, 11, 10, 8, 7, 6, 5, 29, 18, 4, 0, 1] ?_
  refine tb 66 (fun hg29 => ?_) (fun hg29 => ?_)
  ·replace hg29 : (((scanP A).err) == 52) = true := hg29
   simp only [beq_iff_eq, bne_iff_ne, ne_eq, beq_eq_false_iff_ne, bne_eq_false_iff_eq, Classical.not_not] at hg29
   refine os 3 ?_
   refine tb 69 (fun hg30 => ?_) (fun hg30 => ?_)
   ·replace hg30 : (((scanP A).err) == 0) = true := hg30
    simp only [beq_iff_eq, bne_iff_ne, ne_eq, beq_eq_false_iff_ne, bne_eq_false_iff_eq, Classical.not_not] at hg30
    refine os 23 ?_
    refine kp [4, 56, 13, 12, 11, 10, 8, 7, 6, 5, 29, 18, 0, 1] ?_
    refine nt ?_
    refine SW_ret (r_then ?_)
    refine body_end (.bool true) (fun _ => rfl) ?_
    exact ⟨(), ow, rfl⟩
   replace hg30 : (((scanP A).err) == 0) = false := hg30
   simp only [beq_iff_eq, bne_iff_ne, ne_eq, beq_eq_false_iff_ne, bne_eq_false_iff_eq, Classical.not_not] at hg30
   refine os 4 ?_
   refine kp [73, 66, 56, 13, 12, 11, 10, 8, 7, 6, 5, 29, 18, 4, 0, 1] ?_
   refine tb 73 (fun hg31 => ?_) (fun hg31 => ?_)
   ·replace hg31 : (((scanP A).err) == 52) = true := hg31
    simp only [beq_iff_eq, bne_iff_ne, ne_eq, beq_eq_false_iff_ne, bne_eq_false_iff_eq, Classical.not_not] at hg31
    refine os 19 ?_
    refine kp [4, 56, 13, 12, 11, 10, 8, 7, 6, 5, 29, 18, 0, 1] ?_
    refine nt ?_
    refine SW_ret (r_then ?_)
    refine body_end (.bool true) (fun _ => rfl) ?_
    exact ⟨(), ow, rfl⟩
   replace hg31 : (((scanP A).err) == 52) = false := hg31
   simp only [beq_iff_eq, bne_iff_ne, ne_eq, beq_eq_false_iff_ne, bne_eq_false_iff_eq, Classical.not_not] at hg31
   refine os 3 ?_
   refine tb 76 (fun hg32 => ?_) (fun hg32 => ?_)
   ·replace hg32 : (((scanP B).err) == 51) = true := hg32
    simp only [beq_iff_eq, bne_iff_ne, ne_eq, beq_eq_false_iff_ne, bne_eq_false_iff_eq, Classical.not_not] at hg32
    refine os 5 ?_
    refine kp [81, 66, 56, 13, 12, 11, 10, 8, 7, 6, 5, 29, 18, 4, 0, 1] ?_
    refine tb 81 (fun hg33 => ?_) (fun hg33 => ?_)
    ·replace hg33 : (((scanP A).err) != 51) = true := hg33
     simp only [beq_iff_eq, bne_iff_ne, ne_eq, beq_eq_false_iff_ne, bne_eq_false_iff_eq, Classical.not_not] at hg33
     refine os 11 ?_
     refine kp [4, 56, 13, 12, 11, 10, 8, 7, 6, 5, 29, 18, 0, 1] ?_
     refine nt ?_
     refine SW_ret (r_then ?_)
     refine body_end (.bool true) (fun _ => rfl) ?_
     exact ⟨(), ow, rfl⟩
    replace hg33 : (((scanP A).err) != 51) = false := hg33
    simp only [beq_iff_eq, bne_iff_ne, ne_eq, beq_eq_false_iff_ne, bne_eq_false_iff_eq, Classical.not_not] at hg33
    refine os 4 ?_
    refine tb 85 (fun hg34 => ?_) (fun hg34 => ?_)
    ·replace hg34 : (((scanP (A ++ 10 :: B)).err) == ((scanP A).err)) = true := hg34
     simp only [beq_iff_eq, bne_iff_ne, ne_eq, beq_eq_false_iff_ne, bne_eq_false_iff_eq, Classical.not_not] at hg34
     refine os 7 ?_
     refine kp [4, 56, 13, 12, 11, 10, 8, 7, 6, 5, 29, 18, 0, 1] ?_
     refine nt ?_
     refine SW_ret (r_then ?_)
     refine body_end (.bool (((scanP (A ++ 10 :: B)).place : Int) == ((scanP A).place : Int))) (fun _ => rfl) ?_
     exact ⟨(), ow, congrArg Value.bool (by first | (exfalso; omega) | (rw [beq_iff_eq]; omega) | (rw [bne_iff_ne]; omega))⟩
    replace hg34 : (((scanP (A ++ 10 :: B)).err) == ((scanP A).err)) = false := hg34
    simp only [beq_iff_eq, bne_iff_ne, ne_eq, beq_eq_false_iff_ne, bne_eq_false_iff_eq, Classical.not_not] at hg34
    refine os 7 ?_
    refine kp [4, 56, 13, 12, 11, 10, 8, 7, 6, 5, 29, 18, 0, 1] ?_
    refine nt ?_
    refine SW_ret (r_then ?_)
    refine body_end (.bool false) (fun _ => rfl) ?_
    exact ⟨(), ow, congrArg Value.bool (by first | (exfalso; omega) | (rw [beq_iff_eq]; omega) | (rw [bne_iff_ne]; omega))⟩
   replace hg32 : (((scanP B).err) == 51) = false := hg32
   simp only [beq_iff_eq, bne_iff_ne, ne_eq, beq_eq_false_iff_ne, bne_eq_false_iff_eq, Classical.not_not] at hg32
   refine os 9 ?_
   refine kp [85, 81, 66, 56, 13, 12, 11, 10, 8, 7, 6, 5, 29, 18, 4, 0, 1] ?_
   refine tb 85 (fun hg35 => ?_) (fun hg35 => ?_)
   ·replace hg35 : (((scanP (A ++ 10 :: B)).err) == ((scanP A).err)) = true := hg35
    simp only [beq_iff_eq, bne_iff_ne, ne_eq, beq_eq_false_iff_ne, bne_eq_false_iff_eq, Classical.not_not] at hg35
    refine os 7 ?_
    refine kp [4, 56, 13, 12, 11, 10, 8, 7, 6, 5, 29, 18, 0, 1] ?_
    refine nt ?_
    refine SW_ret (r_then ?_)
    refine body_end (.bool (((scanP (A ++ 10 :: B)).place : Int) == ((scanP A).place : Int))) (fun _ => rfl) ?_
    exact ⟨(), ow, congrArg Value.bool (by first | (exfalso; omega) | (rw [beq_iff_eq]; omega) | (rw [bne_iff_ne]; omega))⟩
   replace hg35 : (((scanP (A ++ 10 :: B)).err) == ((scanP A).err)) = false := hg35
   simp only [beq_iff_eq, bne_iff_ne, ne_eq, beq_eq_false_iff_ne, bne_eq_false_iff_eq, Classical.not_not] at hg35
   refine os 7 ?_
   refine kp [4, 56, 13, 12, 11, 10, 8, 7, 6, 5, 29, 18, 0, 1] ?_
   refine nt ?_
   refine SW_ret (r_then ?_)
   refine body_end (.bool false) (fun _ => rfl) ?_
   exact ⟨(), ow, congrArg Value.bool (by first | (exfalso; omega) | (rw [beq_iff_eq]; omega) | (rw [bne_iff_ne]; omega))⟩
  replace hg29 : (((scanP A).err) == 52) = false := hg29
  simp only [beq_iff_eq, bne_iff_ne, ne_eq, beq_eq_false_iff_ne, bne_eq_false_iff_eq, Classical.not_not] at hg29
  refine os 26 ?_
  refine kp [4, 56, 13, 12, 11, 10, 8, 7, 6, 5, 29, 18, 0, 1] ?_
  refine nt ?_
  refine SW_ret (r_then ?_)
  refine body_end (.bool false) (fun _ => rfl) ?_
  exact ⟨(), ow, congrArg Value.bool (by first | (exfalso; omega) | (rw [beq_iff_eq]; omega) | (rw [bne_iff_ne]; omega))⟩
 simp only [beq_iff_eq, bne_iff_ne, ne_eq, beq_eq_false_iff_ne, bne_eq_false_iff_eq, Classical.not_not] at hc21
 obtain ⟨ho1_b, ho2_b, ho3_b, ho4_b, ho5_b⟩ := scan_ok (X := B) hc21
 have hol_b := ho3_b.len (Nat.zero_le _)
 refine SW_skip (n_then ?_)
 refine SW_seq ?_
 refine SW_seq ?_
 obtain ⟨n, hn_, hlast_⟩ := ho3_a.last
 have hcp_ := Gs.ok.cap_le hkg3
 have hpg_ := parts_good (A := A) (B := B) (by omega) (by assumption) (by assumption)
 have hpt_ : (scanP (A ++ 10 :: B)).toks = ((scanP A).toks.take n ++ (scanP B).toks.map (Tok.mv (A.length + 1))) := by rw [hpg_]; show (scanP A).toks.dropLast ++ _ = _; rw [List.dropLast_eq_take, hn_]; rfl
 have hpe_ : (scanP (A ++ 10 :: B)).err = 0 := by rw [hpg_]; rfl
 rw [hpt_] at hkg5
 rw [hpt_, hpe_]
 refine SW_region ?_
 refine os 3 ?_
 refine nt ?_
 refine SW_false (fun _ => (congrArg Value.bool (show (((((scanP A).toks.length : Nat)) : Int) == 0) = false from (beq_eq_false_iff_ne.2 (by omega))))) ?_
 refine SW_skip (n_then ?_)
 refine sr ?_
 refine L (nws 29 0 0 [] ?_)
 intro b36
 refine os 4 ?_
 refine L (O_val (.slice (Gs.addr g3) (((((scanP A).toks.length : Nat)) : Int) - 1).toNat (Gs.cap g3)) rfl (fun δ w _ => run_slice_to (((((scanP A).toks.length : Nat)) : Int) - 1) (Gs.addr g3) ((scanP A).toks.length) (Gs.cap g3) .i64 Tryd.underlying23 (by kernel_rfl) rfl rfl (by omega) (by omega)) ?_)
 rw [show (((((scanP A).toks.length : Nat)) : Int) - 1).toNat = n from by omega]
 refine SL_sig ((Gs.ent 29 4 (Gs.at b36 0) (([] : List Tok).flatMap Tok.cells)) ++ ((Gs.ent 29 4 g5 ((((scanP A).toks.take n ++ (scanP B).toks.map (Tok.mv (A.length + 1)))).flatMap Tok.cells)) ++ ((Gs.ent 29 4 g4 (((scanP B).toks).flatMap Tok.cells)) ++ ((Gs.ent 29 4 g3 (((scanP A).toks).flatMap Tok.cells)) ++ ([]))))) rfl ?_
 refine L (O_append (size := 4) (bytes := 40) (z := .agg #[.int .i64 0, .int .i64 0, .string (bS []), .int .u64 0]) (Gs.at b36 0) 0 n (Gs.addr g3) (Gs.cap g3) (([] : List Tok).flatMap Tok.cells) (((scanP A).toks.take n).flatMap Tok.cells) ((([] : List Tok) ++ ((scanP A).toks.take n)).flatMap Tok.cells) (flat_app _ _) (fun _ => rfl) (fun _ => rfl) Tryd.underlying23 (by kernel_rfl) rfl (by decide) ⟨Nat.le_refl _, by unfold maxLen; omega, rfl⟩ (by rw [flat_len Tok.len, List.length_take]; omega) (toks_elems (by omega) (Gs.src0 hkg3 (fun e he => (mem_a (mem_a (mem_a (mem_h he))))))) (flat_one (fun _ => rfl) _) (by omega) (by decide) rfl ?_)
 intro s37 hks37 hfs37
 rw [show 0 + n = (([] : List Tok) ++ ((scanP A).toks.take n)).length from by first | (simp; done) | (simp; omega)]
 rw [show 0 + n = (([] : List Tok) ++ ((scanP A).toks.take n)).length from by first | (simp; done) | (simp; omega)] at hks37
 have hls37 : (([] : List Tok) ++ ((scanP A).toks.take n)).length = ([] : List Tok).length + ((scanP A).toks.take n).length := by simp
 refine os 1 ?_
 refine kp [14, 94, 56, 13, 12, 11, 10, 8, 7, 6, 5, 29, 18, 4, 0, 1] ?_
 refine nq ?_
 refine sr ?_
 refine os 1 ?_
 refine nt ?_
 refine SW_block ?_
 have hw0_ : (([] : List Tok) ++ ((scanP A).toks.take n)) = ((scanP A).toks.take n ++ ((scanP B).toks.take 0).map (Tok.mv (A.length + 1))) := by simp
 rw [hw0_] at hks37
 rw [hw0_]
 refine SW_loop (α := Nat × Gs) (fun z_ ρ_ σ_ => Fits ρ_ σ_ [(0, .string (bS A)), (8, Gs.val g4 ((scanP B).toks.length)), (11, Gs.val g5 (((scanP A).toks.take n ++ (scanP B).toks.map (Tok.mv (A.length + 1))).length)), (13, .int .i64 0), (14, Gs.val z_.2 (((scanP A).toks.take n ++ ((scanP B).toks.take z_.1).map (Tok.mv (A.length + 1))).length)), (15, .int .i64 (z_.1 : Int))] ((Gs.ent 29 4 z_.2 (((scanP A).toks.take n ++ ((scanP B).toks.take z_.1).map (Tok.mv (A.length + 1))).flatMap Tok.cells)) ++ ((Gs.ent 29 4 g5 ((((scanP A).toks.take n ++ (scanP B).toks.map (Tok.mv (A.length + 1)))).flatMap Tok.cells)) ++ ((Gs.ent 29 4 g4 (((scanP B).toks).flatMap Tok.cells)) ++ ((Gs.ent 29 4 g3 (((scanP A).toks).flatMap Tok.cells)) ++ ([]))))) ∧ z_.1 ≤ (scanP B).toks.length ∧ Gs.ok 4 ((scanP A).toks.take n ++ ((scanP B).toks.take z_.1).map (Tok.mv (A.length + 1))).length z_.2 (((scanP A).toks.take n ++ ((scanP B).toks.take z_.1).map (Tok.mv (A.length + 1))).flatMap Tok.cells)) (fun z_ => (scanP B).toks.length - z_.1) (0, s37) ⟨⟨fun _ => rfl, ow⟩, Nat.zero_le _, hks37⟩ ?_
 rintro ⟨i, g⟩ ρ_ σ_ ⟨hfit, hi0, hi1⟩
 refine SW_fits hfit ?_
 clear hfit
 simp only [] at hi0 hi1 ⊢
 have hwl_ : ((scanP A).toks.take n ++ ((scanP B).toks.take i).map (Tok.mv (A.length + 1))).length = n + i := by rw [List.length_append, List.length_map, List.length_take, List.length_take]; omega
 refine SW_seq ?_
 refine sr ?_
 refine os 4 ?_
 refine kp [105, 0, 8, 11, 13, 14, 15] ?_
 refine nt ?_
 refine cdp (fun hc38 : (i : Int) < ((((scanP B).toks.length : Nat)) : Int) => ?_) (fun hc38 => ?_)
 ·refine SW_skip (n_then ?_)
  refine SW_seq ?_
  refine SW_block ?_
  refine sr ?_
  refine os 2 ?_
  refine L (ixg (i : Int) (i * 4) hkg4 Tryd.underlying23 ?_)
  obtain ⟨e1, he1⟩ : ∃ y_, ((scanP B).toks)[i]? = some y_ := ⟨_, List.getElem?_eq_getElem (by omega)⟩
  refine L (ldr [.int .i64 e1.kind, .int .i64 (e1.pos : Int), .string (bS e1.text), .int .u64 (e1.num : Int)] (cells_cons (Gs.cell hkg4 (fun e he => (mem_a (mem_a (mem_h he)))) (flat_cell Tok.len he1 (j := 0) (by decide) rfl)) (cells_cons (Gs.cell hkg4 (fun e he => (mem_a (mem_a (mem_h he)))) (flat_cell Tok.len he1 (j := 1) (by decide) rfl)) (cells_cons (Gs.cell hkg4 (fun e he => (mem_a (mem_a (mem_h he)))) (flat_cell Tok.len he1 (j := 2) (by decide) rfl)) (cells_cons (Gs.cell hkg4 (fun e he => (mem_a (mem_a (mem_h he)))) (flat_cell Tok.len he1 (j := 3) (by decide) rfl)) cells_nil)))) ?_)
  refine L (nw 29 4 [.int .i64 0, .int .i64 0, .string (bS []), .int .u64 0] ?_)
  intro b39
  refine L (st [.int .i64 e1.kind, .int .i64 (e1.pos : Int), .string (bS e1.text), .int .u64 (e1.num : Int)] ?_)
  refine nq ?_
  have hpl_ := ho3_b.posle (Nat.zero_le _) _ (List.mem_of_getElem? he1)
  refine SW_region ?_
  refine os 1 ?_
  refine L (ld ?_)
  refine os 1 ?_
  refine oX (.int .i64 ((bS A).size : Int)) (.int .i64 (A.length : Int)) (congrArg (fun n_ : Nat => Value.int .i64 (n_ : Int)) (bS_size _)) ?_
  refine os 3 ?_
  refine kp [118, 117, 16, 105, 0, 8, 11, 13, 14, 15] ?_
  refine L (st [.int .i64 e1.kind, .int .i64 (((e1.pos : Int) + (A.length : Int)) + 1), .string (bS e1.text), .int .u64 (e1.num : Int)] ?_)
  refine nt ?_
  rw [show ((e1.pos : Int) + (A.length : Int)) + 1 = ((A.length + 1 + e1.pos : Nat) : Int) from by omega]
  refine SW_region ?_
  refine os 1 ?_
  refine L (lds 4 ?_)
  refine L (nws 29 4 1 [.int .i64 e1.kind, .int .i64 ((A.length + 1 + e1.pos : Nat) : Int), .string (bS e1.text), .int .u64 (e1.num : Int)] ?_)
  intro b40
  refine SL_perm _ (perm_cc (perm_cc perm_cz)) ?_
  refine L (O_append (size := 4) (bytes := 40) (z := .agg #[.int .i64 0, .int .i64 0, .string (bS []), .int .u64 0]) g (((scanP A).toks.take n ++ ((scanP B).toks.take i).map (Tok.mv (A.length + 1))).length) 1 (some ⟨b40, 0, none⟩) 1 (((scanP A).toks.take n ++ ((scanP B).toks.take i).map (Tok.mv (A.length + 1))).flatMap Tok.cells) ([.int .i64 e1.kind, .int .i64 ((A.length + 1 + e1.pos : Nat) : Int), .string (bS e1.text), .int .u64 (e1.num : Int)]) ((((scanP A).toks.take n ++ ((scanP B).toks.take i).map (Tok.mv (A.length + 1))) ++ [(⟨e1.kind, A.length + 1 + e1.pos, e1.text, e1.num⟩ : Tok)]).flatMap Tok.cells) (flat_snoc _ (⟨e1.kind, A.length + 1 + e1.pos, e1.text, e1.num⟩ : Tok) rfl) (fun _ => rfl) (fun _ => rfl) Tryd.underlying23 (by kernel_rfl) rfl (by decide) hi1 rfl (.inr ⟨b40, 0, rfl, Cells.own (mem_a mem_z) rfl⟩) rfl (by omega) (by decide) rfl ?_)
  intro s41 hks41 hfs41
  rw [show ((scanP A).toks.take n ++ ((scanP B).toks.take i).map (Tok.mv (A.length + 1))).length + 1 = (((scanP A).toks.take n ++ ((scanP B).toks.take i).map (Tok.mv (A.length + 1))) ++ [(⟨e1.kind, A.length + 1 + e1.pos, e1.text, e1.num⟩ : Tok)]).length from by first | (simp; done) | (simp; omega)]
  rw [show ((scanP A).toks.take n ++ ((scanP B).toks.take i).map (Tok.mv (A.length + 1))).length + 1 = (((scanP A).toks.take n ++ ((scanP B).toks.take i).map (Tok.mv (A.length + 1))) ++ [(⟨e1.kind, A.length + 1 + e1.pos, e1.text, e1.num⟩ : Tok)]).length from by first | (simp; done) | (simp; omega)] at hks41
  have hls41 : (((scanP A).toks.take n ++ ((scanP B).toks.take i).map (Tok.mv (A.length + 1))) ++ [(⟨e1.kind, A.length + 1 + e1.pos, e1.text, e1.num⟩ : Tok)]).length = ((scanP A).toks.take n ++ ((scanP B).toks.take i).map (Tok.mv (A.length + 1))).length + 1 := by first | (simp; done) | (simp; omega)
  refine os 1 ?_
  refine kp [14, 16, 105, 0, 8, 11, 13, 15] ?_
  refine SL_nil (n_in (n_then ?_))
  refine SW_region ?_
  refine os 3 ?_
  refine nt ?_
  have hsn_ := mv_snoc (L := (scanP A).toks.take n) (n := A.length) he1 (show A.length + 1 + e1.pos = A.length + 1 + e1.pos from rfl)
  rw [hsn_] at hks41 ⊢
  exact ⟨(i + 1, s41), by simp only []; omega, ⟨fun _ => rfl, ow⟩, by simp only []; omega, hks41⟩
 refine SW_exit (x_then (x_then (x_in (n_then ?_))))
 refine SW_seq ?_
 have hte_ : (scanP B).toks.take i = (scanP B).toks := List.take_of_length_le (by omega)
 rw [hte_] at hi1
 rw [hte_]
 refine SW_region ?_
 refine L (cl (law_alive5 hL) ?_)
 rintro _ _ rfl
 refine un ?_
 refine os 2 ?_
 refine oV (.bool true) ?_
 refine os 4 ?_
 refine L (cl (law_same5 (l := ((scanP A).toks.take n ++ (scanP B).toks.map (Tok.mv (A.length + 1)))) hkg5 hi1) ?_)
 rintro _ _ rfl
 refine un ?_
 refine os 2 ?_
 refine kp [4, 105, 0, 8, 11, 13, 14, 15] ?_
 refine nt ?_
 refine SW_ret ?_
 refine body_end (.bool true) (fun _ => rfl) ?_
 exact ⟨(), ow, rfl⟩

end Go.Proofs.YtnhmmjogfkjceaaDoor
namespace Go.Proofs.YtnhmmjogfkjceaaDoor
open Go.Sl Go.ChangeShapes Go.WideShapes Go.ChangeAt Go.RowKit

theorem LexParts_contract (H : Type) (enc : TypeId × Value → H) (W : World) (base : Nat) (args : Array Value) (ds gs : List (DataW H)) (before : List MemPlace)
   (hval : ∀ (j : Nat) t v, Tryd.f5.params[j]? = some t → args[j]? = some v → Value.okWide Tryd.prog W .any base t v)
   (hW : DataW.Whole enc Tryd.prog Tryd.f5.params.toList Rows.lexPartsSpec.vars false W args.toList ds gs before) (hk : Rows.uptoSmall H (ds ++ gs) = true) (hLd : laidMetH Tryd.prog Rows.lexPartsUptoRow.laid W) (hsh : W.ShapedOpen Tryd.prog) :
   Calls Tryd.prog 5 args W fun e W' => ∃ v, e = .returned v ∧ Rows.lexPartsSpec.post enc Tryd.prog Tryd.f5 false true false false W args v W' := by
 have hL := laid_lex hLd hsh
 have hW' := hW
 obtain ⟨p, q, hA0, hV, rfl, hfz, hnd⟩ := hW
 have hA : DataW.TrodAll enc Tryd.prog W 0 (fun _ => true) true Tryd.f5.params.toList args.toList ds p := hA0
 rw [Tryd.params5] at hA hval
 obtain ⟨v0, vs0, d0, ds0, p0, q0, hargs, rfl, rfl, h0, r0⟩ := trodAll_cons hA
 obtain ⟨v1, vs1, d1, ds1, p1, q1, rfl, rfl, rfl, h1, r1⟩ := trodAll_cons r0
 obtain ⟨rfl, rfl, rfl⟩ := trodAll_nil r1
 obtain rfl : args = #[v0, v1] := by cases args; simp_all
 obtain ⟨rfl, rfl⟩ := trodVars_none hV
 obtain ⟨x0, rfl, hz0⟩ := arg_strB hk (by simp) (hval 0 9 v0 rfl rfl) h0
 obtain ⟨x1, rfl, hz1⟩ := arg_strB hk (by simp) (hval 1 9 v1 rfl rfl) h1
 refine (calls_law (law_LexParts hL hz0 hz1)).mono fun e W' ⟨he, hb⟩ => ?_
 subst he
 exact ⟨_, rfl, post_law (tb := 4) hW' (by rw [Tryd.params5]; decide) rfl rfl rfl rfl rfl Tryd.underlying4 hb⟩

theorem LexParts_reads (os : Os) {H : Type} (enc : TypeId × Value → H) : ∃ places, DataW.whole enc Tryd.prog ((laidWorld os).forCall (fun _ _ => 0) ⟨#[], #[.string .empty, .string .empty], []⟩).memory Tryd.f5.params.toList Rows.lexPartsSpec.vars false #[.string .empty, .string .empty].toList 8 = some ([.lit (.string []), .lit (.string [])], [], places) :=
 ⟨[], by kernel_rfl⟩
theorem LexParts_lifted (os : Os) (started : os.Started) (H : Type) (enc : TypeId × Value → H) (F : Stop.Interp) :
   ReturnsInHanded {} Tryd.checked os 5 .any ((Rows.OpenSpec.upto Rows.lexPartsSpec).preRow enc Tryd.prog Tryd.f5 Rows.lexPartsUptoRow.domain false Rows.lexPartsUptoRow.laid) (((Rows.OpenSpec.upto Rows.lexPartsSpec).at F).post enc Tryd.prog Tryd.f5 false true false false) := by
 obtain ⟨places, hx⟩ := LexParts_reads os enc
 refine returnsInHanded_of_row (C := Tryd.checked) (s := Rows.OpenSpec.upto Rows.lexPartsSpec) rown started (by kernel_rfl) Tryd.func5
   (witness_row_atRef (enc := enc) (C := Tryd.checked) false (laidWorld os) #[.string .empty, .string .empty] rfl (by kernel_rfl) (by kernel_rfl) (by kernel_rfl)
     (OpenSpec.preRow_of_cond 8 hx (by kernel_rfl) (fun k hk => by cases hk; kernel_rfl) (by kernel_rfl) (laid_met os _))) ?_
 intro W base args ds gs before hval hW _ hcond _ hL hsh _
 exact LexParts_contract H enc W base args ds gs before hval hW (hcond _ rfl) hL hsh

theorem LexParts_row : Rows.LexPartsUptoSaid :=
 OpenClaim.holds_of_cond 5 Tryd.f5 rfl rfl rfl rfl rfl rfl rfl ⟨rfl, rfl, rfl, rfl, rfl⟩ rfl rfl rfl rfl rfl (by kernel_rfl) Tryd.func5 (by kernel_rfl)
   (of_decide_eq_true (by kernel_rfl)) (by unfold Func.isWrapper; first | (rw [if_pos (by decide +kernel)]; kernel_rfl) | (rw [if_neg (by decide +kernel)]; exact ⟨rfl, rfl⟩))
   (fun os started H enc _ F => by rw [OpenClaim.pre_eq_preRow]; exact LexParts_lifted os started H enc F)
theorem LexParts_plain (f : FuncId) (fn : Func) (hf : Tryd.pinned.checked.prog.funcNamed "brazier/brazierlaw05.LexParts" = some f) (hfn : Tryd.pinned.checked.prog.funcs[f]? = some fn) :
   false = Tryd.pinned.checked.prog.looks [] ∧ ∀ (j : Nat) t, fn.params[j]? = some t → Tryd.pinned.checked.prog.wantsStandIn t = false := by
 obtain rfl : f = 5 := Option.some.inj ((show Tryd.prog.funcNamed "brazier/brazierlaw05.LexParts" = some 5 by kernel_rfl).symm.trans hf) |>.symm
 obtain rfl : fn = Tryd.f5 := (Option.some.inj (Tryd.func5.symm.trans hfn)).symm
 refine ⟨by kernel_rfl, fun j t ht => ?_⟩
 rw [Tryd.params5] at ht
 have hm : t = 9 ∨ t = 9 := by simpa using Array.mem_of_getElem? ht
 rcases hm with rfl | rfl
 · exact (show Tryd.prog.wantsStandIn 9 = false by kernel_rfl)
 · exact (show Tryd.prog.wantsStandIn 9 = false by kernel_rfl)
theorem LexParts_proved : Rows.LexPartsUptoCardSaid :=
 Claim7.holds_tied_plain_at .later [] _ _ _ _ LexParts_row (fun _ h => by cases h) (by kernel_rfl) (fun _ h => by cases h) lexPartsUpto_row_tie rfl ⟨rfl, rfl⟩ (by kernel_rfl) rfl LexParts_plain (by kernel_rfl)
end Go.Proofs.YtnhmmjogfkjceaaDoor
