/-
  NumtextReads, within the bound on what it reads, and tied to the program's text: it returns true whatever it is given, and leaves its arguments as they were. Conditions: the arguments' bulk is at most 1048576; the listed library variables stand as their text lays them, as the statement says.
-/
import Derived.Test.YtnhmmjogfkjceaaGreatDoorProg
import Derived.Test.YtnhmmjogfkjceaaGreatDoorM6
import Derived.Test.YtnhmmjogfkjceaaGreatDoorM5
import Derived.Test.YtnhmmjogfkjceaaGreatDoorM1
set_option linter.unusedVariables false
set_option linter.unusedSimpArgs false
set_option maxRecDepth 100000
set_option maxHeartbeats 4000000
namespace Go.Proofs.YtnhmmjogfkjceaaGreatDoor
open Go.Sl

theorem r2_Literal {W0 : World} {X : Bytes} (hX : X.length ≤ 1048576) : SC Tryz.prog W0 20 #[.string (bS X)] [] (Ret (fun _ : Unit => []) (fun v _ => v = .tuple #[.int .u64 ((litP X).1 : Int), .bool (litP X).2])) := by
 refine SC_body (fn := Tryz.f20) (n := 52) Tryz.func20 rfl (by kernel_rfl) (ρ := [(0, .string (bS X))]) rfl ?_
 refine sr ?_
 refine os 2 ?_
 refine nq ?_
 refine sr ?_
 refine os 1 ?_
 refine oX (.int .i64 ((bS X).size : Int)) (.int .i64 (X.length : Int)) (congrArg (fun n_ : Nat => Value.int .i64 (n_ : Int)) (bS_size _)) ?_
 refine os 2 ?_
 refine tbp 11 (fun hg1 => ?_) (fun hg1 => ?_)
 ·replace hg1 : (X.length : Int) ≥ 2 := hg1
  refine os 1 ?_
  refine L (O_val (.string (bS (X.take 2))) rfl (fun δ w _ => run_strTo (l := X) 2 .i64 Tryz.underlying9 rfl rfl (by omega) (by omega)) ?_)
  refine oX (.bool ((bS (X.take 2)).toList == (bS [48, 120]).toList)) (.bool (decide ((X.take 2) = [48, 120]))) (congrArg Value.bool (by rw [strB_eq])) ?_
  refine os 1 ?_
  refine kp [15, 3, 2, 0] ?_
  refine nt ?_
  refine cdp (fun hc2 : (X.take 2) = [48, 120] => ?_) (fun hc2 => ?_)
  ·refine sr ?_
   refine os 1 ?_
   refine L (O_val (.string (bS (X.drop 2))) rfl (fun δ w _ => run_strFrom (l := X) 2 .i64 Tryz.underlying9 rfl rfl (by omega) (by omega)) ?_)
   have hdp2_ : (X.drop 2).length ≤ 1048576 := by rw [List.length_drop]; omega
   refine L (cl (r2_Hexadecimal (X := X.drop 2) (by omega)) ?_)
   rintro _ _ rfl
   refine un ?_
   refine os 4 ?_
   refine kp [3, 2, 15, 0] ?_
   refine nt ?_
   refine SW_ret (r_then ?_)
   refine body_end (.tuple #[.int .u64 ((hexP (X.drop 2)).1 : Int), .bool ((hexP (X.drop 2)).2)]) (fun _ => rfl) ?_
   exact ⟨(), ow, by rw [litP_hex (pre2_take.2 (by assumption))]⟩
  refine SW_skip (n_then ?_)
  refine SW_seq ?_
  have hnp_ : Lib.hasPrefix X [48, 120] = false := by rw [Bool.eq_false_iff]; intro q_; exact absurd (pre2_take.1 q_) (by assumption)
  refine SW_region ?_
  refine os 1 ?_
  refine L (cl (r2_Decimal (X := X) (by omega)) ?_)
  rintro _ ⟨da, db, dp⟩ ⟨rfl, hdf_⟩
  refine un ?_
  refine os 9 ?_
  refine kp [7, 6, 5, 4, 15, 3, 2, 0] ?_
  refine nq ?_
  refine sr ?_
  refine os 3 ?_
  refine tb 30 (fun hg3 => ?_) (fun hg3 => ?_)
  ·replace hg3 : (!((decP X).2)) = true := hg3
   replace hg3 := bnot_t hg3
   refine os 19 ?_
   refine kp [49, 7, 6, 5, 4, 15, 3, 2, 0] ?_
   refine nt ?_
   refine ct ?_
   refine sr ?_
   refine os 2 ?_
   refine nt ?_
   refine SW_ret (r_then ?_)
   refine body_end (.tuple #[.int .u64 0, .bool false]) (fun _ => rfl) ?_
   have hbad_ : litBad X := by unfold litBad; exact .inl hg3
   exact ⟨(), ow, by rw [litP_bad hnp_ hbad_]; rfl⟩
  replace hg3 : (!((decP X).2)) = false := hg3
  replace hg3 := bnot_f hg3
  have hok_ := hg3
  obtain ⟨hda_, hdb_, hdp_⟩ := hdf_ hg3
  simp only [] at hda_ hdb_ hdp_
  have hfl_ := (decP_facts X).2.1
  refine os 4 ?_
  refine kp [34, 7, 6, 5, 4, 15, 3, 2, 0] ?_
  refine tb 34 (fun hg4 => ?_) (fun hg4 => ?_)
  ·replace hg4 : (da == 0) = true := hg4
   simp only [beq_iff_eq, bne_iff_ne, ne_eq, beq_eq_false_iff_ne, bne_eq_false_iff_eq, Classical.not_not] at hg4
   refine os 15 ?_
   refine kp [49, 7, 6, 5, 4, 15, 3, 2, 0] ?_
   refine nt ?_
   refine ct ?_
   refine sr ?_
   refine os 2 ?_
   refine nt ?_
   refine SW_ret (r_then ?_)
   refine body_end (.tuple #[.int .u64 0, .bool false]) (fun _ => rfl) ?_
   have hbad_ : litBad X := (lit_test hok_ hda_ hdb_ hdp_).2 (by first | exact .inl (by omega) | exact .inr (.inl ⟨by assumption, by omega⟩))
   exact ⟨(), ow, by rw [litP_bad hnp_ hbad_]; rfl⟩
  replace hg4 : (da == 0) = false := hg4
  simp only [beq_iff_eq, bne_iff_ne, ne_eq, beq_eq_false_iff_ne, bne_eq_false_iff_eq, Classical.not_not] at hg4
  refine os 2 ?_
  refine tb 36 (fun hg5 => ?_) (fun hg5 => ?_)
  ·replace hg5 : dp = true := hg5
   refine os 5 ?_
   refine kp [41, 7, 6, 5, 4, 15, 3, 2, 0] ?_
   refine tb 41 (fun hg6 => ?_) (fun hg6 => ?_)
   ·replace hg6 : (db == 0) = true := hg6
    simp only [beq_iff_eq, bne_iff_ne, ne_eq, beq_eq_false_iff_ne, bne_eq_false_iff_eq, Classical.not_not] at hg6
    refine os 8 ?_
    refine kp [49, 7, 6, 5, 4, 15, 3, 2, 0] ?_
    refine nt ?_
    refine ct ?_
    refine sr ?_
    refine os 2 ?_
    refine nt ?_
    refine SW_ret (r_then ?_)
    refine body_end (.tuple #[.int .u64 0, .bool false]) (fun _ => rfl) ?_
    have hbad_ : litBad X := (lit_test hok_ hda_ hdb_ hdp_).2 (by first | exact .inl (by omega) | exact .inr (.inl ⟨by assumption, by omega⟩))
    exact ⟨(), ow, by rw [litP_bad hnp_ hbad_]; rfl⟩
   replace hg6 : (db == 0) = false := hg6
   simp only [beq_iff_eq, bne_iff_ne, ne_eq, beq_eq_false_iff_ne, bne_eq_false_iff_eq, Classical.not_not] at hg6
   refine os 3 ?_
   refine tbp 44 (fun hg7 => ?_) (fun hg7 => ?_)
   ·replace hg7 : da > 1 := hg7
    refine os 1 ?_
    obtain ⟨e1, he1⟩ : ∃ y_, X[0]? = some y_ := ⟨_, List.getElem?_eq_getElem (by omega)⟩
    refine ixb 0 X .i64 e1 Tryz.underlying9 he1 ?_
    refine os 3 ?_
    refine kp [49, 7, 6, 5, 4, 15, 3, 2, 0] ?_
    refine nt ?_
    refine cd (fun hc8 : ((e1.toNat : Int) == 48) = true => ?_) (fun hc8 => ?_)
    ·simp only [beq_iff_eq, bne_iff_ne, ne_eq, beq_eq_false_iff_ne, bne_eq_false_iff_eq, Classical.not_not] at hc8
     refine sr ?_
     refine os 2 ?_
     refine nt ?_
     refine SW_ret (r_then ?_)
     refine body_end (.tuple #[.int .u64 0, .bool false]) (fun _ => rfl) ?_
     have hbad_ : litBad X := (lit_test hok_ hda_ hdb_ hdp_).2 (by first | exact .inl (by omega) | exact .inr (.inl ⟨by assumption, by omega⟩) | exact .inr (.inr ⟨by omega, _, he1, by omega⟩))
     exact ⟨(), ow, by rw [litP_bad hnp_ hbad_]; rfl⟩
    simp only [beq_iff_eq, bne_iff_ne, ne_eq, beq_eq_false_iff_ne, bne_eq_false_iff_eq, Classical.not_not] at hc8
    refine SW_skip (n_then ?_)
    refine sr ?_
    refine os 1 ?_
    refine L (cl (r2_parsed (X := X) (by omega) (by assumption)) ?_)
    rintro _ _ rfl
    refine un ?_
    refine os 2 ?_
    refine nt ?_
    refine SW_ret ?_
    refine body_end (.tuple #[.int .u64 (nearestP (decP X).1 : Int), .bool true]) (fun _ => rfl) ?_
    have hgood_ : ¬ litBad X := by intro q_; rcases (lit_test hok_ hda_ hdb_ hdp_).1 q_ with q_ | ⟨q1_, q2_⟩ | ⟨q1_, c_, q2_, q3_⟩ <;> first | omega | (simp_all; done) | (rw [he1] at q2_; cases q2_; omega)
    exact ⟨(), ow, by rw [litP_good hnp_ hgood_]⟩
   replace hg7 : ¬ (da > 1) := hg7
   refine os 5 ?_
   refine kp [49, 7, 6, 5, 4, 15, 3, 2, 0] ?_
   refine nt ?_
   refine cf ?_
   refine SW_skip (n_then ?_)
   refine sr ?_
   refine os 1 ?_
   refine L (cl (r2_parsed (X := X) (by omega) (by assumption)) ?_)
   rintro _ _ rfl
   refine un ?_
   refine os 2 ?_
   refine nt ?_
   refine SW_ret ?_
   refine body_end (.tuple #[.int .u64 (nearestP (decP X).1 : Int), .bool true]) (fun _ => rfl) ?_
   have hgood_ : ¬ litBad X := by intro q_; rcases (lit_test hok_ hda_ hdb_ hdp_).1 q_ with q_ | ⟨q1_, q2_⟩ | ⟨q1_, c_, q2_, q3_⟩ <;> first | omega | (simp_all; done) | (rw [hok_] at q2_; cases q2_; omega)
   exact ⟨(), ow, by rw [litP_good hnp_ hgood_]⟩
  replace hg5 : dp = false := hg5
  refine os 8 ?_
  refine kp [44, 41, 7, 6, 5, 4, 15, 3, 2, 0] ?_
  refine tbp 44 (fun hg9 => ?_) (fun hg9 => ?_)
  ·replace hg9 : da > 1 := hg9
   refine os 1 ?_
   obtain ⟨e2, he2⟩ : ∃ y_, X[0]? = some y_ := ⟨_, List.getElem?_eq_getElem (by omega)⟩
   refine ixb 0 X .i64 e2 Tryz.underlying9 he2 ?_
   refine os 3 ?_
   refine kp [49, 7, 6, 5, 4, 15, 3, 2, 0] ?_
   refine nt ?_
   refine cd (fun hc10 : ((e2.toNat : Int) == 48) = true => ?_) (fun hc10 => ?_)
   ·simp only [beq_iff_eq, bne_iff_ne, ne_eq, beq_eq_false_iff_ne, bne_eq_false_iff_eq, Classical.not_not] at hc10
    refine sr ?_
    refine os 2 ?_
    refine nt ?_
    refine SW_ret (r_then ?_)
    refine body_end (.tuple #[.int .u64 0, .bool false]) (fun _ => rfl) ?_
    have hbad_ : litBad X := (lit_test hok_ hda_ hdb_ hdp_).2 (by first | exact .inl (by omega) | exact .inr (.inl ⟨by assumption, by omega⟩) | exact .inr (.inr ⟨by omega, _, he2, by omega⟩))
    exact ⟨(), ow, by rw [litP_bad hnp_ hbad_]; rfl⟩
   simp only [beq_iff_eq, bne_iff_ne, ne_eq, beq_eq_false_iff_ne, bne_eq_false_iff_eq, Classical.not_not] at hc10
   refine SW_skip (n_then ?_)
   refine sr ?_
   refine os 1 ?_
   refine L (cl (r2_parsed (X := X) (by omega) (by assumption)) ?_)
   rintro _ _ rfl
   refine un ?_
   refine os 2 ?_
   refine nt ?_
   refine SW_ret ?_
   refine body_end (.tuple #[.int .u64 (nearestP (decP X).1 : Int), .bool true]) (fun _ => rfl) ?_
   have hgood_ : ¬ litBad X := by intro q_; rcases (lit_test hok_ hda_ hdb_ hdp_).1 q_ with q_ | ⟨q1_, q2_⟩ | ⟨q1_, c_, q2_, q3_⟩ <;> first | omega | (simp_all; done) | (rw [he2] at q2_; cases q2_; omega)
   exact ⟨(), ow, by rw [litP_good hnp_ hgood_]⟩
  replace hg9 : ¬ (da > 1) := hg9
  refine os 5 ?_
  refine kp [49, 7, 6, 5, 4, 15, 3, 2, 0] ?_
  refine nt ?_
  refine cf ?_
  refine SW_skip (n_then ?_)
  refine sr ?_
  refine os 1 ?_
  refine L (cl (r2_parsed (X := X) (by omega) (by assumption)) ?_)
  rintro _ _ rfl
  refine un ?_
  refine os 2 ?_
  refine nt ?_
  refine SW_ret ?_
  refine body_end (.tuple #[.int .u64 (nearestP (decP X).1 : Int), .bool true]) (fun _ => rfl) ?_
  have hgood_ : ¬ litBad X := by intro q_; rcases (lit_test hok_ hda_ hdb_ hdp_).1 q_ with q_ | ⟨q1_, q2_⟩ | ⟨q1_, c_, q2_, q3_⟩ <;> first | omega | (simp_all; done) | (rw [hok_] at q2_; cases q2_; omega)
  exact ⟨(), ow, by rw [litP_good hnp_ hgood_]⟩
 replace hg1 : ¬ ((X.length : Int) ≥ 2) := hg1
 refine os 4 ?_
 refine kp [15, 3, 2, 0] ?_
 refine nt ?_
 refine cf ?_
 refine SW_skip (n_then ?_)
 refine SW_seq ?_
 have hnp_ : Lib.hasPrefix X [48, 120] = false := pre2_short (p := [48, 120]) (by first | assumption | (simp; omega))
 refine SW_region ?_
 refine os 1 ?_
 refine L (cl (r2_Decimal (X := X) (by omega)) ?_)
 rintro _ ⟨da, db, dp⟩ ⟨rfl, hdf_⟩
 refine un ?_
 refine os 9 ?_
 refine kp [7, 6, 5, 4, 15, 3, 2, 0] ?_
 refine nq ?_
 refine sr ?_
 refine os 3 ?_
 refine tb 30 (fun hg11 => ?_) (fun hg11 => ?_)
 ·replace hg11 : (!((decP X).2)) = true := hg11
  replace hg11 := bnot_t hg11
  refine os 19 ?_
  refine kp [49, 7, 6, 5, 4, 15, 3, 2, 0] ?_
  refine nt ?_
  refine ct ?_
  refine sr ?_
  refine os 2 ?_
  refine nt ?_
  refine SW_ret (r_then ?_)
  refine body_end (.tuple #[.int .u64 0, .bool false]) (fun _ => rfl) ?_
  have hbad_ : litBad X := by unfold litBad; exact .inl hg11
  exact ⟨(), ow, by rw [litP_bad hnp_ hbad_]; rfl⟩
 replace hg11 : (!((decP X).2)) = false := hg11
 replace hg11 := bnot_f hg11
 have hok_ := hg11
 obtain ⟨hda_, hdb_, hdp_⟩ := hdf_ hg11
 simp only [] at hda_ hdb_ hdp_
 have hfl_ := (decP_facts X).2.1
 refine os 4 ?_
 refine kp [34, 7, 6, 5, 4, 15, 3, 2, 0] ?_
 refine tb 34 (fun hg12 => ?_) (fun hg12 => ?_)
 ·replace hg12 : (da == 0) = true := hg12
  simp only [beq_iff_eq, bne_iff_ne, ne_eq, beq_eq_false_iff_ne, bne_eq_false_iff_eq, Classical.not_not] at hg12
  refine os 15 ?_
  refine kp [49, 7, 6, 5, 4, 15, 3, 2, 0] ?_
  refine nt ?_
  refine ct ?_
  refine sr ?_
  refine os 2 ?_
  refine nt ?_
  refine SW_ret (r_then ?_)
  refine body_end (.tuple #[.int .u64 0, .bool false]) (fun _ => rfl) ?_
  have hbad_ : litBad X := (lit_test hok_ hda_ hdb_ hdp_).2 (by first | exact .inl (by omega) | exact .inr (.inl ⟨by assumption, by omega⟩))
  exact ⟨(), ow, by rw [litP_bad hnp_ hbad_]; rfl⟩
 replace hg12 : (da == 0) = false := hg12
 simp only [beq_iff_eq, bne_iff_ne, ne_eq, beq_eq_false_iff_ne, bne_eq_false_iff_eq, Classical.not_not] at hg12
 refine os 2 ?_
 refine tb 36 (fun hg13 => ?_) (fun hg13 => ?_)
 ·replace hg13 : dp = true := hg13
  refine os 5 ?_
  refine kp [41, 7, 6, 5, 4, 15, 3, 2, 0] ?_
  refine tb 41 (fun hg14 => ?_) (fun hg14 => ?_)
  ·replace hg14 : (db == 0) = true := hg14
   simp only [beq_iff_eq, bne_iff_ne, ne_eq, beq_eq_false_iff_ne, bne_eq_false_iff_eq, Classical.not_not] at hg14
   refine os 8 ?_
   refine kp [49, 7, 6, 5, 4, 15, 3, 2, 0] ?_
   refine nt ?_
   refine ct ?_
   refine sr ?_
   refine os 2 ?_
   refine nt ?_
   refine SW_ret (r_then ?_)
   refine body_end (.tuple #[.int .u64 0, .bool false]) (fun _ => rfl) ?_
   have hbad_ : litBad X := (lit_test hok_ hda_ hdb_ hdp_).2 (by first | exact .inl (by omega) | exact .inr (.inl ⟨by assumption, by omega⟩))
   exact ⟨(), ow, by rw [litP_bad hnp_ hbad_]; rfl⟩
  replace hg14 : (db == 0) = false := hg14
  simp only [beq_iff_eq, bne_iff_ne, ne_eq, beq_eq_false_iff_ne, bne_eq_false_iff_eq, Classical.not_not] at hg14
  refine os 3 ?_
  refine tbp 44 (fun hg15 => ?_) (fun hg15 => ?_)
  ·replace hg15 : da > 1 := hg15
   refine os 1 ?_
   obtain ⟨e3, he3⟩ : ∃ y_, X[0]? = some y_ := ⟨_, List.getElem?_eq_getElem (by omega)⟩
   refine ixb 0 X .i64 e3 Tryz.underlying9 he3 ?_
   refine os 3 ?_
   refine kp [49, 7, 6, 5, 4, 15, 3, 2, 0] ?_
   refine nt ?_
   refine cd (fun hc16 : ((e3.toNat : Int) == 48) = true => ?_) (fun hc16 => ?_)
   ·simp only [beq_iff_eq, bne_iff_ne, ne_eq, beq_eq_false_iff_ne, bne_eq_false_iff_eq, Classical.not_not] at hc16
    refine sr ?_
    refine os 2 ?_
    refine nt ?_
    refine SW_ret (r_then ?_)
    refine body_end (.tuple #[.int .u64 0, .bool false]) (fun _ => rfl) ?_
    have hbad_ : litBad X := (lit_test hok_ hda_ hdb_ hdp_).2 (by first | exact .inl (by omega) | exact .inr (.inl ⟨by assumption, by omega⟩) | exact .inr (.inr ⟨by omega, _, he3, by omega⟩))
    exact ⟨(), ow, by rw [litP_bad hnp_ hbad_]; rfl⟩
   simp only [beq_iff_eq, bne_iff_ne, ne_eq, beq_eq_false_iff_ne, bne_eq_false_iff_eq, Classical.not_not] at hc16
   refine SW_skip (n_then ?_)
   refine sr ?_
   refine os 1 ?_
   refine L (cl (r2_parsed (X := X) (by omega) (by assumption)) ?_)
   rintro _ _ rfl
   refine un ?_
   refine os 2 ?_
   refine nt ?_
   refine SW_ret ?_
   refine body_end (.tuple #[.int .u64 (nearestP (decP X).1 : Int), .bool true]) (fun _ => rfl) ?_
   have hgood_ : ¬ litBad X := by intro q_; rcases (lit_test hok_ hda_ hdb_ hdp_).1 q_ with q_ | ⟨q1_, q2_⟩ | ⟨q1_, c_, q2_, q3_⟩ <;> first | omega | (simp_all; done) | (rw [he3] at q2_; cases q2_; omega)
   exact ⟨(), ow, by rw [litP_good hnp_ hgood_]⟩
  replace hg15 : ¬ (da > 1) := hg15
  refine os 5 ?_
  refine kp [49, 7, 6, 5, 4, 15, 3, 2, 0] ?_
  refine nt ?_
  refine cf ?_
  refine SW_skip (n_then ?_)
  refine sr ?_
  refine os 1 ?_
  refine L (cl (r2_parsed (X := X) (by omega) (by assumption)) ?_)
  rintro _ _ rfl
  refine un ?_
  refine os 2 ?_
  refine nt ?_
  refine SW_ret ?_
  refine body_end (.tuple #[.int .u64 (nearestP (decP X).1 : Int), .bool true]) (fun _ => rfl) ?_
  have hgood_ : ¬ litBad X := by intro q_; rcases (lit_test hok_ hda_ hdb_ hdp_).1 q_ with q_ | ⟨q1_, q2_⟩ | ⟨q1_, c_, q2_, q3_⟩ <;> first | omega | (simp_all; done) | (rw [hok_] at q2_; cases q2_; omega)
  exact ⟨(), ow, by rw [litP_good hnp_ hgood_]⟩
 replace hg13 : dp = false := hg13
 refine os 8 ?_
 refine kp [44, 41, 7, 6, 5, 4, 15, 3, 2, 0] ?_
 refine tbp 44 (fun hg17 => ?_) (fun hg17 => ?_)
 ·replace hg17 : da > 1 := hg17
  refine os 1 ?_
  obtain ⟨e4, he4⟩ : ∃ y_, X[0]? = some y_ := ⟨_, List.getElem?_eq_getElem (by omega)⟩
  refine ixb 0 X .i64 e4 Tryz.underlying9 he4 ?_
  refine os 3 ?_
  refine kp [49, 7, 6, 5, 4, 15, 3, 2, 0] ?_
  refine nt ?_
  refine cd (fun hc18 : ((e4.toNat : Int) == 48) = true => ?_) (fun hc18 => ?_)
  ·simp only [beq_iff_eq, bne_iff_ne, ne_eq, beq_eq_false_iff_ne, bne_eq_false_iff_eq, Classical.not_not] at hc18
   refine sr ?_
   refine os 2 ?_
   refine nt ?_
   refine SW_ret (r_then ?_)
   refine body_end (.tuple #[.int .u64 0, .bool false]) (fun _ => rfl) ?_
   have hbad_ : litBad X := (lit_test hok_ hda_ hdb_ hdp_).2 (by first | exact .inl (by omega) | exact .inr (.inl ⟨by assumption, by omega⟩) | exact .inr (.inr ⟨by omega, _, he4, by omega⟩))
   exact ⟨(), ow, by rw [litP_bad hnp_ hbad_]; rfl⟩
  simp only [beq_iff_eq, bne_iff_ne, ne_eq, beq_eq_false_iff_ne, bne_eq_false_iff_eq, Classical.not_not] at hc18
  refine SW_skip (n_then ?_)
  refine sr ?_
  refine os 1 ?_
  refine L (cl (r2_parsed (X := X) (by omega) (by assumption)) ?_)
  rintro _ _ rfl
  refine un ?_
  refine os 2 ?_
  refine nt ?_
  refine SW_ret ?_
  refine body_end (.tuple #[.int .u64 (nearestP (decP X).1 : Int), .bool true]) (fun _ => rfl) ?_
  have hgood_ : ¬ litBad X := by intro q_; rcases (lit_test hok_ hda_ hdb_ hdp_).1 q_ with q_ | ⟨q1_, q2_⟩ | ⟨q1_, c_, q2_, q3_⟩ <;> first | omega | (simp_all; done) | (rw [he4] at q2_; cases q2_; omega)
  exact ⟨(), ow, by rw [litP_good hnp_ hgood_]⟩
 replace hg17 : ¬ (da > 1) := hg17
 refine os 5 ?_
 refine kp [49, 7, 6, 5, 4, 15, 3, 2, 0] ?_
 refine nt ?_
 refine cf ?_
 refine SW_skip (n_then ?_)
 refine sr ?_
 refine os 1 ?_
 refine L (cl (r2_parsed (X := X) (by omega) (by assumption)) ?_)
 rintro _ _ rfl
 refine un ?_
 refine os 2 ?_
 refine nt ?_
 refine SW_ret ?_
 refine body_end (.tuple #[.int .u64 (nearestP (decP X).1 : Int), .bool true]) (fun _ => rfl) ?_
 have hgood_ : ¬ litBad X := by intro q_; rcases (lit_test hok_ hda_ hdb_ hdp_).1 q_ with q_ | ⟨q1_, q2_⟩ | ⟨q1_, c_, q2_, q3_⟩ <;> first | omega | (simp_all; done) | (rw [hok_] at q2_; cases q2_; omega)
 exact ⟨(), ow, by rw [litP_good hnp_ hgood_]⟩

theorem r2_Read {W0 : World} {X : Bytes} (hX : X.length ≤ 1048576) : SC Tryz.prog W0 21 #[.string (bS X)] [] (Ret (fun _ : Unit => []) (fun v _ => v = .int .u64 (readP X : Int))) := by
 refine SC_body (fn := Tryz.f21) (n := 121) Tryz.func21 rfl (by kernel_rfl) (ρ := [(0, .string (bS X))]) rfl ?_
 refine sr ?_
 refine os 1 ?_
 refine nq ?_
 refine SW_cut (fun ρ_ σ_ => Fits ρ_ σ_ [(0, .string (bS (X.dropWhile isBl)))] ([])) ?_ ?_
 ·refine SW_block ?_
  refine SW_loop (α := Bytes) (fun z_ ρ_ σ_ => Fits ρ_ σ_ [(0, .string (bS z_))] ([]) ∧ z_.dropWhile isBl = X.dropWhile isBl ∧ z_.length ≤ X.length) (fun z_ => z_.length) X ⟨⟨fun _ => rfl, ow⟩, rfl, Nat.le_refl _⟩ ?_
  rintro Y ρ_ σ_ ⟨hfit, hi0, hi1⟩
  refine SW_fits hfit ?_
  clear hfit
  refine SW_seq ?_
  refine sr ?_
  refine os 1 ?_
  refine oX (.int .i64 ((bS Y).size : Int)) (.int .i64 (Y.length : Int)) (congrArg (fun n_ : Nat => Value.int .i64 (n_ : Int)) (bS_size _)) ?_
  refine os 2 ?_
  refine tbp 13 (fun hg1 => ?_) (fun hg1 => ?_)
  ·replace hg1 : (Y.length : Int) > 0 := hg1
   refine os 1 ?_
   obtain ⟨e1, he1⟩ : ∃ y_, Y[0]? = some y_ := ⟨_, List.getElem?_eq_getElem (by omega)⟩
   refine ixb 0 Y .i64 e1 Tryz.underlying9 he1 ?_
   refine os 2 ?_
   refine kp [17, 13, 0] ?_
   refine tb 17 (fun hg2 => ?_) (fun hg2 => ?_)
   ·replace hg2 : ((e1.toNat : Int) == 9) = true := hg2
    simp only [beq_iff_eq, bne_iff_ne, ne_eq, beq_eq_false_iff_ne, bne_eq_false_iff_eq, Classical.not_not] at hg2
    refine os 10 ?_
    refine kp [27, 0] ?_
    refine nt ?_
    refine ct ?_
    refine SW_skip (n_then ?_)
    refine SW_block ?_
    refine SW_region ?_
    refine os 1 ?_
    refine L (O_val (.string (bS (Y.drop 1))) rfl (fun δ w _ => run_strFrom (l := Y) 1 .i64 Tryz.underlying9 rfl rfl (by omega) (by omega)) ?_)
    refine os 1 ?_
    refine SL_nil (n_in (n_then ?_))
    exact ⟨Y.drop 1, by rw [List.length_drop]; omega, ⟨fun _ => rfl, ow⟩, (bl_head he1 (bl_of (by omega))).trans hi0, by rw [List.length_drop]; omega⟩
   replace hg2 : ((e1.toNat : Int) == 9) = false := hg2
   simp only [beq_iff_eq, bne_iff_ne, ne_eq, beq_eq_false_iff_ne, bne_eq_false_iff_eq, Classical.not_not] at hg2
   refine os 1 ?_
   refine ixb 0 Y .i64 e1 Tryz.underlying9 he1 ?_
   refine os 3 ?_
   refine tb 22 (fun hg3 => ?_) (fun hg3 => ?_)
   ·replace hg3 : ((e1.toNat : Int) == 10) = true := hg3
    simp only [beq_iff_eq, bne_iff_ne, ne_eq, beq_eq_false_iff_ne, bne_eq_false_iff_eq, Classical.not_not] at hg3
    refine os 5 ?_
    refine kp [27, 0] ?_
    refine nt ?_
    refine ct ?_
    refine SW_skip (n_then ?_)
    refine SW_block ?_
    refine SW_region ?_
    refine os 1 ?_
    refine L (O_val (.string (bS (Y.drop 1))) rfl (fun δ w _ => run_strFrom (l := Y) 1 .i64 Tryz.underlying9 rfl rfl (by omega) (by omega)) ?_)
    refine os 1 ?_
    refine SL_nil (n_in (n_then ?_))
    exact ⟨Y.drop 1, by rw [List.length_drop]; omega, ⟨fun _ => rfl, ow⟩, (bl_head he1 (bl_of (by omega))).trans hi0, by rw [List.length_drop]; omega⟩
   replace hg3 : ((e1.toNat : Int) == 10) = false := hg3
   simp only [beq_iff_eq, bne_iff_ne, ne_eq, beq_eq_false_iff_ne, bne_eq_false_iff_eq, Classical.not_not] at hg3
   refine os 1 ?_
   refine ixb 0 Y .i64 e1 Tryz.underlying9 he1 ?_
   refine os 3 ?_
   refine kp [27, 0] ?_
   refine nt ?_
   refine cd (fun hc4 : ((e1.toNat : Int) == 32) = true => ?_) (fun hc4 => ?_)
   ·simp only [beq_iff_eq, bne_iff_ne, ne_eq, beq_eq_false_iff_ne, bne_eq_false_iff_eq, Classical.not_not] at hc4
    refine SW_skip (n_then ?_)
    refine SW_block ?_
    refine SW_region ?_
    refine os 1 ?_
    refine L (O_val (.string (bS (Y.drop 1))) rfl (fun δ w _ => run_strFrom (l := Y) 1 .i64 Tryz.underlying9 rfl rfl (by omega) (by omega)) ?_)
    refine os 1 ?_
    refine SL_nil (n_in (n_then ?_))
    exact ⟨Y.drop 1, by rw [List.length_drop]; omega, ⟨fun _ => rfl, ow⟩, (bl_head he1 (bl_of (by omega))).trans hi0, by rw [List.length_drop]; omega⟩
   simp only [beq_iff_eq, bne_iff_ne, ne_eq, beq_eq_false_iff_ne, bne_eq_false_iff_eq, Classical.not_not] at hc4
   refine SW_exit (x_then (x_then (x_in (n_then ?_))))
   have hY_ : X.dropWhile isBl = Y := by rw [← hi0]; exact bl_stop he1 (bl_not (by omega) (by omega) (by omega))
   rw [hY_]
   exact ⟨fun _ => rfl, ow⟩
  replace hg1 : ¬ ((Y.length : Int) > 0) := hg1
  refine os 14 ?_
  refine kp [27, 0] ?_
  refine nt ?_
  refine cf ?_
  refine SW_exit (x_then (x_then (x_in (n_then ?_))))
  have hY_ : X.dropWhile isBl = Y := by rw [← hi0]; rw [show Y = [] from List.length_eq_zero_iff.1 (by omega)]; rfl
  rw [hY_]
  exact ⟨fun _ => rfl, ow⟩
 ·rintro ρ_ σ_ hfit
  refine SW_fits hfit ?_
  clear hfit
  refine SW_seq ?_
  refine SW_cut (fun ρ_ σ_ => Fits ρ_ σ_ [(0, .string (bS (Lib.trimS X [9, 10, 32])))] ([])) ?_ ?_
  ·refine SW_block ?_
   refine SW_loop (α := Bytes) (fun z_ ρ_ σ_ => Fits ρ_ σ_ [(0, .string (bS z_))] ([]) ∧ Lib.trimS z_ [9, 10, 32] = Lib.trimS X [9, 10, 32] ∧ (∀ c, z_[0]? = some c → isBl c = false) ∧ z_.length ≤ X.length) (fun z_ => z_.length) (X.dropWhile isBl) ⟨⟨fun _ => rfl, ow⟩, trim_dw X, dw_head, dropWhile_len _ _⟩ ?_
   rintro Y ρ_ σ_ ⟨hfit, hi0, hi1, hi2⟩
   refine SW_fits hfit ?_
   clear hfit
   refine SW_seq ?_
   refine sr ?_
   refine os 1 ?_
   refine oX (.int .i64 ((bS Y).size : Int)) (.int .i64 (Y.length : Int)) (congrArg (fun n_ : Nat => Value.int .i64 (n_ : Int)) (bS_size _)) ?_
   refine os 2 ?_
   refine tbp 33 (fun hg5 => ?_) (fun hg5 => ?_)
   ·replace hg5 : (Y.length : Int) > 0 := hg5
    refine os 2 ?_
    refine oX (.int .i64 ((bS Y).size : Int)) (.int .i64 (Y.length : Int)) (congrArg (fun n_ : Nat => Value.int .i64 (n_ : Int)) (bS_size _)) ?_
    refine os 1 ?_
    obtain ⟨e2, he2⟩ : ∃ y_, Y[(Y.length - 1)]? = some y_ := ⟨_, List.getElem?_eq_getElem (by omega)⟩
    refine ixb ((Y.length : Int) - 1) Y .i64 e2 Tryz.underlying9 (by rw [show ((Y.length : Int) - 1).toNat = (Y.length - 1) from by omega]; exact he2) ?_
    refine os 2 ?_
    refine kp [40, 33, 0] ?_
    refine tb 40 (fun hg6 => ?_) (fun hg6 => ?_)
    ·replace hg6 : ((e2.toNat : Int) == 9) = true := hg6
     simp only [beq_iff_eq, bne_iff_ne, ne_eq, beq_eq_false_iff_ne, bne_eq_false_iff_eq, Classical.not_not] at hg6
     refine os 16 ?_
     refine kp [56, 0] ?_
     refine nt ?_
     refine ct ?_
     refine SW_skip (n_then ?_)
     refine SW_block ?_
     refine SW_region ?_
     refine os 2 ?_
     refine oX (.int .i64 ((bS Y).size : Int)) (.int .i64 (Y.length : Int)) (congrArg (fun n_ : Nat => Value.int .i64 (n_ : Int)) (bS_size _)) ?_
     refine os 1 ?_
     refine L (O_val (.string (bS (Y.take ((Y.length : Int) - 1).toNat))) rfl (fun δ w _ => run_strTo (l := Y) ((Y.length : Int) - 1) .i64 Tryz.underlying9 rfl rfl (by omega) (by omega)) ?_)
     rw [show ((Y.length : Int) - 1).toNat = (Y.length - 1) from by omega]
     refine os 1 ?_
     refine kp [0, 56] ?_
     refine SL_nil (n_in (n_then ?_))
     exact ⟨Y.take (Y.length - 1), by rw [List.length_take]; omega, ⟨fun _ => rfl, ow⟩, (bl_last rfl he2 (bl_of (by omega))).trans hi0, head_take hi1, by rw [List.length_take]; omega⟩
    replace hg6 : ((e2.toNat : Int) == 9) = false := hg6
    simp only [beq_iff_eq, bne_iff_ne, ne_eq, beq_eq_false_iff_ne, bne_eq_false_iff_eq, Classical.not_not] at hg6
    refine os 2 ?_
    refine oX (.int .i64 ((bS Y).size : Int)) (.int .i64 (Y.length : Int)) (congrArg (fun n_ : Nat => Value.int .i64 (n_ : Int)) (bS_size _)) ?_
    refine os 1 ?_
    refine ixb ((Y.length : Int) - 1) Y .i64 e2 Tryz.underlying9 (by rw [show ((Y.length : Int) - 1).toNat = (Y.length - 1) from by omega]; exact he2) ?_
    refine os 3 ?_
    refine kp [48, 33, 0] ?_
    refine tb 48 (fun hg7 => ?_) (fun hg7 => ?_)
    ·replace hg7 : ((e2.toNat : Int) == 10) = true := hg7
     simp only [beq_iff_eq, bne_iff_ne, ne_eq, beq_eq_false_iff_ne, bne_eq_false_iff_eq, Classical.not_not] at hg7
     refine os 8 ?_
     refine kp [56, 0] ?_
     refine nt ?_
     refine ct ?_
     refine SW_skip (n_then ?_)
     refine SW_block ?_
     refine SW_region ?_
     refine os 2 ?_
     refine oX (.int .i64 ((bS Y).size : Int)) (.int .i64 (Y.length : Int)) (congrArg (fun n_ : Nat => Value.int .i64 (n_ : Int)) (bS_size _)) ?_
     refine os 1 ?_
     refine L (O_val (.string (bS (Y.take ((Y.length : Int) - 1).toNat))) rfl (fun δ w _ => run_strTo (l := Y) ((Y.length : Int) - 1) .i64 Tryz.underlying9 rfl rfl (by omega) (by omega)) ?_)
     rw [show ((Y.length : Int) - 1).toNat = (Y.length - 1) from by omega]
     refine os 1 ?_
     refine kp [0, 56] ?_
     refine SL_nil (n_in (n_then ?_))
     exact ⟨Y.take (Y.length - 1), by rw [List.length_take]; omega, ⟨fun _ => rfl, ow⟩, (bl_last rfl he2 (bl_of (by omega))).trans hi0, head_take hi1, by rw [List.length_take]; omega⟩
    replace hg7 : ((e2.toNat : Int) == 10) = false := hg7
    simp only [beq_iff_eq, bne_iff_ne, ne_eq, beq_eq_false_iff_ne, bne_eq_false_iff_eq, Classical.not_not] at hg7
    refine os 2 ?_
    refine oX (.int .i64 ((bS Y).size : Int)) (.int .i64 (Y.length : Int)) (congrArg (fun n_ : Nat => Value.int .i64 (n_ : Int)) (bS_size _)) ?_
    refine os 1 ?_
    refine ixb ((Y.length : Int) - 1) Y .i64 e2 Tryz.underlying9 (by rw [show ((Y.length : Int) - 1).toNat = (Y.length - 1) from by omega]; exact he2) ?_
    refine os 3 ?_
    refine kp [56, 0] ?_
    refine nt ?_
    refine cd (fun hc8 : ((e2.toNat : Int) == 32) = true => ?_) (fun hc8 => ?_)
    ·simp only [beq_iff_eq, bne_iff_ne, ne_eq, beq_eq_false_iff_ne, bne_eq_false_iff_eq, Classical.not_not] at hc8
     refine SW_skip (n_then ?_)
     refine SW_block ?_
     refine SW_region ?_
     refine os 2 ?_
     refine oX (.int .i64 ((bS Y).size : Int)) (.int .i64 (Y.length : Int)) (congrArg (fun n_ : Nat => Value.int .i64 (n_ : Int)) (bS_size _)) ?_
     refine os 1 ?_
     refine L (O_val (.string (bS (Y.take ((Y.length : Int) - 1).toNat))) rfl (fun δ w _ => run_strTo (l := Y) ((Y.length : Int) - 1) .i64 Tryz.underlying9 rfl rfl (by omega) (by omega)) ?_)
     rw [show ((Y.length : Int) - 1).toNat = (Y.length - 1) from by omega]
     refine os 1 ?_
     refine kp [0, 56] ?_
     refine SL_nil (n_in (n_then ?_))
     exact ⟨Y.take (Y.length - 1), by rw [List.length_take]; omega, ⟨fun _ => rfl, ow⟩, (bl_last rfl he2 (bl_of (by omega))).trans hi0, head_take hi1, by rw [List.length_take]; omega⟩
    simp only [beq_iff_eq, bne_iff_ne, ne_eq, beq_eq_false_iff_ne, bne_eq_false_iff_eq, Classical.not_not] at hc8
    refine SW_exit (x_then (x_then (x_in (n_then ?_))))
    have hY_ : Lib.trimS X [9, 10, 32] = Y := hi0.symm.trans (trim_self hi1 (.inr ⟨_, _, rfl, he2, bl_not (by omega) (by omega) (by omega)⟩))
    rw [hY_]
    exact ⟨fun _ => rfl, ow⟩
   replace hg5 : ¬ ((Y.length : Int) > 0) := hg5
   refine os 23 ?_
   refine kp [56, 0] ?_
   refine nt ?_
   refine cf ?_
   refine SW_exit (x_then (x_then (x_in (n_then ?_))))
   have hY_ : Lib.trimS X [9, 10, 32] = Y := hi0.symm.trans (trim_self hi1 (.inl (List.length_eq_zero_iff.1 (by omega))))
   rw [hY_]
   exact ⟨fun _ => rfl, ow⟩
  ·rintro ρ_ σ_ hfit
   refine SW_fits hfit ?_
   clear hfit
   refine SW_seq ?_
   refine SW_seq ?_
   have htl_ := trimS_len X [9, 10, 32]
   generalize hT_ : Lib.trimS X [9, 10, 32] = T at htl_ ⊢
   refine SW_region ?_
   refine os 1 ?_
   refine oX (.bool ((bS T).toList == (bS []).toList)) (.bool (decide (T = []))) (congrArg Value.bool (by rw [strB_eq])) ?_
   refine nt ?_
   refine cdp (fun hc9 : T = [] => ?_) (fun hc9 => ?_)
   ·refine sr ?_
    refine os 1 ?_
    refine nt ?_
    refine SW_ret (r_then ?_)
    refine body_end (.int .u64 0) (fun _ => rfl) ?_
    exact ⟨(), ow, by rw [readP_nil hT_ (by assumption)]; rfl⟩
   have htp_ : 0 < T.length := List.length_pos_iff.2 hc9
   refine SW_skip (n_then ?_)
   refine SW_seq ?_
   refine SW_seq ?_
   refine SW_cut3 (fun ρ_ σ_ => Fits ρ_ σ_ [(0, .string (bS T))] ([]) ∧ (¬ (Lib.hasPrefix T [48, 120] = true ∨ Lib.hasPrefix T [48, 88] = true))) ?_ ?_
   ·refine SW_region ?_
    refine os 1 ?_
    refine oX (.int .i64 ((bS T).size : Int)) (.int .i64 (T.length : Int)) (congrArg (fun n_ : Nat => Value.int .i64 (n_ : Int)) (bS_size _)) ?_
    refine os 2 ?_
    refine tbp 67 (fun hg10 => ?_) (fun hg10 => ?_)
    ·replace hg10 : (T.length : Int) ≥ 2 := hg10
     refine os 1 ?_
     obtain ⟨e3, he3⟩ : ∃ y_, T[0]? = some y_ := ⟨_, List.getElem?_eq_getElem (by omega)⟩
     refine ixb 0 T .i64 e3 Tryz.underlying9 he3 ?_
     refine os 3 ?_
     refine kp [72, 63, 0] ?_
     refine tb 72 (fun hg11 => ?_) (fun hg11 => ?_)
     ·replace hg11 : ((e3.toNat : Int) == 48) = true := hg11
      simp only [beq_iff_eq, bne_iff_ne, ne_eq, beq_eq_false_iff_ne, bne_eq_false_iff_eq, Classical.not_not] at hg11
      refine os 1 ?_
      obtain ⟨e4, he4⟩ : ∃ y_, T[1]? = some y_ := ⟨_, List.getElem?_eq_getElem (by omega)⟩
      refine ixb 1 T .i64 e4 Tryz.underlying9 he4 ?_
      refine os 2 ?_
      refine tb 76 (fun hg12 => ?_) (fun hg12 => ?_)
      ·replace hg12 : ((e4.toNat : Int) == 120) = true := hg12
       simp only [beq_iff_eq, bne_iff_ne, ne_eq, beq_eq_false_iff_ne, bne_eq_false_iff_eq, Classical.not_not] at hg12
       refine os 5 ?_
       refine kp [81, 63, 0] ?_
       refine nt ?_
       refine ct ?_
       refine SW_seq ?_
       have hpx_ : Lib.hasPrefix T [48, 120] = true ∨ Lib.hasPrefix T [48, 88] = true := by rw [pre2_at he3 he4, pre2_at he3 he4]; first | exact .inl ⟨is48 (by omega), is120 (by omega)⟩ | exact .inr ⟨is48 (by omega), is88 (by omega)⟩
       refine SW_region ?_
       refine os 1 ?_
       refine L (O_val (.string (bS (T.drop 2))) rfl (fun δ w _ => run_strFrom (l := T) 2 .i64 Tryz.underlying9 rfl rfl (by omega) (by omega)) ?_)
       have hdp8_ : (T.drop 2).length ≤ 1048576 := by rw [List.length_drop]; omega
       refine L (cl (r2_Hexadecimal (X := T.drop 2) (by omega)) ?_)
       rintro _ _ rfl
       refine un ?_
       refine os 5 ?_
       refine kp [4, 3, 81, 63, 0] ?_
       refine nq ?_
       refine sr ?_
       refine os 2 ?_
       refine nt ?_
       refine cd (fun hc13 : (!((hexP (T.drop 2)).2)) = true => ?_) (fun hc13 => ?_)
       ·replace hc13 := bnot_t hc13
        refine sr ?_
        refine os 1 ?_
        refine nt ?_
        refine SW_ret (r_then (r_then ?_))
        refine body_end (.int .u64 9221120237041090560) (fun _ => rfl) ?_
        exact ⟨(), ow, by rw [readP_hex hT_ hc9 hpx_, if_neg (by rw [hc13]; decide)]; rfl⟩
       replace hc13 := bnot_f hc13
       refine SW_skip (n_then ?_)
       refine sr ?_
       refine os 2 ?_
       refine nt ?_
       refine SW_ret (r_then ?_)
       refine body_end (.int .u64 ((hexP (T.drop 2)).1 : Int)) (fun _ => rfl) ?_
       exact ⟨(), ow, by rw [readP_hex hT_ hc9 hpx_, if_pos hc13]⟩
      replace hg12 : ((e4.toNat : Int) == 120) = false := hg12
      simp only [beq_iff_eq, bne_iff_ne, ne_eq, beq_eq_false_iff_ne, bne_eq_false_iff_eq, Classical.not_not] at hg12
      refine os 1 ?_
      refine ixb 1 T .i64 e4 Tryz.underlying9 he4 ?_
      refine os 3 ?_
      refine kp [81, 63, 0] ?_
      refine nt ?_
      refine cd (fun hc14 : ((e4.toNat : Int) == 88) = true => ?_) (fun hc14 => ?_)
      ·simp only [beq_iff_eq, bne_iff_ne, ne_eq, beq_eq_false_iff_ne, bne_eq_false_iff_eq, Classical.not_not] at hc14
       refine SW_seq ?_
       have hpx_ : Lib.hasPrefix T [48, 120] = true ∨ Lib.hasPrefix T [48, 88] = true := by rw [pre2_at he3 he4, pre2_at he3 he4]; first | exact .inl ⟨is48 (by omega), is120 (by omega)⟩ | exact .inr ⟨is48 (by omega), is88 (by omega)⟩
       refine SW_region ?_
       refine os 1 ?_
       refine L (O_val (.string (bS (T.drop 2))) rfl (fun δ w _ => run_strFrom (l := T) 2 .i64 Tryz.underlying9 rfl rfl (by omega) (by omega)) ?_)
       have hdp8_ : (T.drop 2).length ≤ 1048576 := by rw [List.length_drop]; omega
       refine L (cl (r2_Hexadecimal (X := T.drop 2) (by omega)) ?_)
       rintro _ _ rfl
       refine un ?_
       refine os 5 ?_
       refine kp [4, 3, 81, 63, 0] ?_
       refine nq ?_
       refine sr ?_
       refine os 2 ?_
       refine nt ?_
       refine cd (fun hc15 : (!((hexP (T.drop 2)).2)) = true => ?_) (fun hc15 => ?_)
       ·replace hc15 := bnot_t hc15
        refine sr ?_
        refine os 1 ?_
        refine nt ?_
        refine SW_ret (r_then (r_then ?_))
        refine body_end (.int .u64 9221120237041090560) (fun _ => rfl) ?_
        exact ⟨(), ow, by rw [readP_hex hT_ hc9 hpx_, if_neg (by rw [hc15]; decide)]; rfl⟩
       replace hc15 := bnot_f hc15
       refine SW_skip (n_then ?_)
       refine sr ?_
       refine os 2 ?_
       refine nt ?_
       refine SW_ret (r_then ?_)
       refine body_end (.int .u64 ((hexP (T.drop 2)).1 : Int)) (fun _ => rfl) ?_
       exact ⟨(), ow, by rw [readP_hex hT_ hc9 hpx_, if_pos hc15]⟩
      simp only [beq_iff_eq, bne_iff_ne, ne_eq, beq_eq_false_iff_ne, bne_eq_false_iff_eq, Classical.not_not] at hc14
      refine SW_skip (n_then ?_)
      exact ⟨⟨fun _ => rfl, ow⟩, by rw [pre2_at he3 he4, pre2_at he3 he4]; rintro (⟨-, q_⟩ | ⟨-, q_⟩); exact no120 (by omega) q_; exact no88 (by omega) q_⟩
     replace hg11 : ((e3.toNat : Int) == 48) = false := hg11
     simp only [beq_iff_eq, bne_iff_ne, ne_eq, beq_eq_false_iff_ne, bne_eq_false_iff_eq, Classical.not_not] at hg11
     refine os 9 ?_
     refine kp [81, 63, 0] ?_
     refine nt ?_
     refine cf ?_
     refine SW_skip (n_then ?_)
     exact ⟨⟨fun _ => rfl, ow⟩, by rw [pre2_at0 he3 (no48 (by omega)), pre2_at0 he3 (no48 (by omega))]; simp⟩
    replace hg10 : ¬ ((T.length : Int) ≥ 2) := hg10
    refine os 14 ?_
    refine kp [81, 63, 0] ?_
    refine nt ?_
    refine cf ?_
    refine SW_skip (n_then ?_)
    exact ⟨⟨fun _ => rfl, ow⟩, by rw [pre2_short (p := [48, 120]) (by simp; omega), pre2_short (p := [48, 88]) (by simp; omega)]; simp⟩
   ·rintro ρ_ σ_ ⟨hfit, hnp_⟩
    refine SW_fits hfit ?_
    clear hfit
    refine sr ?_
    refine os 1 ?_
    refine nq ?_
    refine SW_seq ?_
    refine SW_cut3 (fun ρ_ σ_ => Fits ρ_ σ_ [(0, .string (bS (wayR T).2)), (5, .int .u64 ((wayR T).1 : Int))] ([])) ?_ ?_
    ·refine SW_region ?_
     refine os 1 ?_
     obtain ⟨e5, he5⟩ : ∃ y_, T[0]? = some y_ := ⟨_, List.getElem?_eq_getElem (by omega)⟩
     refine ixb 0 T .i64 e5 Tryz.underlying9 he5 ?_
     refine os 2 ?_
     refine tb 94 (fun hg16 => ?_) (fun hg16 => ?_)
     ·replace hg16 : ((e5.toNat : Int) == 43) = true := hg16
      simp only [beq_iff_eq, bne_iff_ne, ne_eq, beq_eq_false_iff_ne, bne_eq_false_iff_eq, Classical.not_not] at hg16
      refine os 4 ?_
      refine kp [98, 5, 0] ?_
      refine nt ?_
      refine ct ?_
      refine SW_seq ?_
      refine sr ?_
      refine os 1 ?_
      refine ixb 0 T .i64 e5 Tryz.underlying9 he5 ?_
      refine os 1 ?_
      refine nt ?_
      refine cd (fun hc17 : ((e5.toNat : Int) == 45) = true => ?_) (fun hc17 => ?_)
      ·simp only [beq_iff_eq, bne_iff_ne, ne_eq, beq_eq_false_iff_ne, bne_eq_false_iff_eq, Classical.not_not] at hc17
       refine SW_region ?_
       refine os 1 ?_
       refine nr ?_
       refine os 1 ?_
       refine L (O_val (.string (bS (T.drop 1))) rfl (fun δ w _ => run_strFrom (l := T) 1 .i64 Tryz.underlying9 rfl rfl (by omega) (by omega)) ?_)
       refine os 1 ?_
       refine kp [0, 5, 101, 98] ?_
       refine nt ?_
       rw [wayR_minus he5 (is45 (by omega))]
       exact ⟨fun _ => rfl, ow⟩
      simp only [beq_iff_eq, bne_iff_ne, ne_eq, beq_eq_false_iff_ne, bne_eq_false_iff_eq, Classical.not_not] at hc17
      refine SW_skip (n_then ?_)
      refine SW_region ?_
      refine os 1 ?_
      refine L (O_val (.string (bS (T.drop 1))) rfl (fun δ w _ => run_strFrom (l := T) 1 .i64 Tryz.underlying9 rfl rfl (by omega) (by omega)) ?_)
      refine os 1 ?_
      refine kp [0, 101, 98, 5] ?_
      refine nt ?_
      rw [wayR_plus he5 (is43 (by omega))]
      exact ⟨fun _ => rfl, ow⟩
     replace hg16 : ((e5.toNat : Int) == 43) = false := hg16
     simp only [beq_iff_eq, bne_iff_ne, ne_eq, beq_eq_false_iff_ne, bne_eq_false_iff_eq, Classical.not_not] at hg16
     refine os 1 ?_
     refine ixb 0 T .i64 e5 Tryz.underlying9 he5 ?_
     refine os 2 ?_
     refine kp [98, 5, 0] ?_
     refine nt ?_
     refine cd (fun hc18 : ((e5.toNat : Int) == 45) = true => ?_) (fun hc18 => ?_)
     ·simp only [beq_iff_eq, bne_iff_ne, ne_eq, beq_eq_false_iff_ne, bne_eq_false_iff_eq, Classical.not_not] at hc18
      refine SW_seq ?_
      refine sr ?_
      refine os 1 ?_
      refine ixb 0 T .i64 e5 Tryz.underlying9 he5 ?_
      refine os 1 ?_
      refine nt ?_
      refine cd (fun hc19 : ((e5.toNat : Int) == 45) = true => ?_) (fun hc19 => ?_)
      ·simp only [beq_iff_eq, bne_iff_ne, ne_eq, beq_eq_false_iff_ne, bne_eq_false_iff_eq, Classical.not_not] at hc19
       refine SW_region ?_
       refine os 1 ?_
       refine nr ?_
       refine os 1 ?_
       refine L (O_val (.string (bS (T.drop 1))) rfl (fun δ w _ => run_strFrom (l := T) 1 .i64 Tryz.underlying9 rfl rfl (by omega) (by omega)) ?_)
       refine os 1 ?_
       refine kp [0, 5, 101, 98] ?_
       refine nt ?_
       rw [wayR_minus he5 (is45 (by omega))]
       exact ⟨fun _ => rfl, ow⟩
      simp only [beq_iff_eq, bne_iff_ne, ne_eq, beq_eq_false_iff_ne, bne_eq_false_iff_eq, Classical.not_not] at hc19
      refine SW_skip (n_then ?_)
      refine SW_region ?_
      refine os 1 ?_
      refine L (O_val (.string (bS (T.drop 1))) rfl (fun δ w _ => run_strFrom (l := T) 1 .i64 Tryz.underlying9 rfl rfl (by omega) (by omega)) ?_)
      refine os 1 ?_
      refine kp [0, 101, 98, 5] ?_
      refine nt ?_
      rw [wayR_plus he5 (is43 (by omega))]
      exact ⟨fun _ => rfl, ow⟩
     simp only [beq_iff_eq, bne_iff_ne, ne_eq, beq_eq_false_iff_ne, bne_eq_false_iff_eq, Classical.not_not] at hc18
     refine SW_skip (n_then ?_)
     rw [wayR_no he5 (no43 (by omega)) (no45 (by omega))]
     exact ⟨fun _ => rfl, ow⟩
    ·rintro ρ_ σ_ hfit
     refine SW_fits hfit ?_
     clear hfit
     refine SW_seq ?_
     refine SW_seq ?_
     obtain ⟨hw1_, hw2_⟩ := wayR_facts T
     generalize hws_ : (wayR T).2 = Q at hw2_ ⊢
     generalize hwn_ : (wayR T).1 = V at hw1_ ⊢
     refine SW_region ?_
     refine os 1 ?_
     refine oX (.bool ((bS Q).toList == (bS [73, 110, 102, 105, 110, 105, 116, 121]).toList)) (.bool (decide (Q = [73, 110, 102, 105, 110, 105, 116, 121]))) (congrArg Value.bool (by rw [strB_eq])) ?_
     refine nt ?_
     refine cdp (fun hc20 : Q = [73, 110, 102, 105, 110, 105, 116, 121] => ?_) (fun hc20 => ?_)
     ·refine sr ?_
      refine os 3 ?_
      refine kp [2, 105, 0, 5] ?_
      refine nt ?_
      refine SW_ret (r_then ?_)
      refine body_end (.int .u64 ((V : Int) + 9218868437227405312)) (fun _ => rfl) ?_
      subst hws_
      exact ⟨(), ow, congrArg (Value.int .u64) (by rw [readP_inf hT_ hc9 hnp_ (by assumption), hwn_]; omega)⟩
     refine SW_skip (n_then ?_)
     refine sr ?_
     refine os 1 ?_
     refine L (cl (r2_Decimal (X := Q) (by omega)) ?_)
     rintro _ ⟨da, db, dp⟩ ⟨rfl, hdf_⟩
     refine un ?_
     refine os 9 ?_
     refine kp [9, 105, 0, 5] ?_
     refine nq ?_
     refine sr ?_
     refine os 2 ?_
     refine nt ?_
     refine cd (fun hc21 : (!((decP Q).2)) = true => ?_) (fun hc21 => ?_)
     ·replace hc21 := bnot_t hc21
      refine sr ?_
      refine os 1 ?_
      refine nt ?_
      refine SW_ret (r_then ?_)
      refine body_end (.int .u64 9221120237041090560) (fun _ => rfl) ?_
      subst hws_
      exact ⟨(), ow, by rw [readP_dec hT_ hc9 hnp_ (by assumption), if_neg (by rw [hc21]; decide)]; rfl⟩
     replace hc21 := bnot_f hc21
     refine SW_skip (n_then ?_)
     refine SW_seq ?_
     have hnl_ := nearestP_lt (decP Q).1
     refine SW_region ?_
     refine os 2 ?_
     refine L (cl (r2_parsed (X := Q) (by omega) (by assumption)) ?_)
     rintro _ _ rfl
     refine un ?_
     refine os 2 ?_
     refine kp [2, 116, 9, 105, 0, 5] ?_
     refine nt ?_
     refine SW_ret ?_
     refine body_end (.int .u64 ((V : Int) + (nearestP (decP Q).1 : Int))) (fun _ => rfl) ?_
     subst hws_
     exact ⟨(), ow, congrArg (Value.int .u64) (by rw [readP_dec hT_ hc9 hnp_ (by assumption), if_pos hc21, hwn_]; omega)⟩

end Go.Proofs.YtnhmmjogfkjceaaGreatDoor
namespace Go.Proofs.YtnhmmjogfkjceaaGreatDoor
open Go.Sl

theorem law_NumtextReads {W0 : World} (hL : LaidN W0) {X : Bytes} (hX : X.length ≤ 1048576) : SC Tryz.prog W0 6 #[.string (bS X)] [] (Ret (fun _ : Unit => []) (fun v _ => v = .bool true)) := by
 refine SC_body (fn := Tryz.f6) (n := 39) Tryz.func6 rfl (by kernel_rfl) (ρ := [(0, .string (bS X))]) rfl ?_
 refine sr ?_
 refine os 1 ?_
 refine nq ?_
 refine sr ?_
 refine os 1 ?_
 refine oX (.int .i64 ((bS X).size : Int)) (.int .i64 (X.length : Int)) (congrArg (fun n_ : Nat => Value.int .i64 (n_ : Int)) (bS_size _)) ?_
 refine os 1 ?_
 refine nt ?_
 refine cdp (fun hc1 : (X.length : Int) > 4096 => ?_) (fun hc1 => ?_)
 ·refine sr ?_
  refine L (cl (law_alive2 hL) ?_)
  rintro _ _ rfl
  refine un ?_
  refine os 1 ?_
  refine kp [2, 9, 0] ?_
  refine nt ?_
  refine SW_ret (r_then ?_)
  refine body_end (.bool true) (fun _ => rfl) ?_
  exact ⟨(), ow, rfl⟩
 refine SW_skip (n_then ?_)
 refine sr ?_
 refine os 1 ?_
 refine L (cl (num_Literal (X := X) (by omega)) ?_)
 rintro _ _ rfl
 refine un ?_
 refine os 5 ?_
 refine kp [4, 3, 9, 2, 0] ?_
 refine nsr ?_
 refine os 1 ?_
 refine L (cl (r2_Literal (X := X) (by omega)) ?_)
 rintro _ _ rfl
 refine un ?_
 refine os 5 ?_
 refine kp [6, 5, 4, 3, 9, 2, 0] ?_
 refine nsr ?_
 refine L (cl (law_alive2 hL) ?_)
 rintro _ _ rfl
 refine un ?_
 refine os 2 ?_
 refine L (cl (num_Read (X := X) (by first | omega | (simp; omega))) ?_)
 rintro _ _ rfl
 refine un ?_
 refine os 1 ?_
 refine L (cl (r2_Read (X := X) (by omega)) ?_)
 rintro _ _ rfl
 refine un ?_
 refine os 3 ?_
 refine kp [29, 6, 5, 4, 3, 9, 2, 0] ?_
 refine pn 29 (show ((readP X : Int) == (readP X : Int)) = true from (beq_self_eq_true _)) ?_
 refine os 5 ?_
 refine pn 34 (show (((litP X).1 : Int) == ((litP X).1 : Int)) = true from (beq_self_eq_true _)) ?_
 refine os 5 ?_
 refine kp [2, 6, 5, 4, 3, 9, 0] ?_
 refine nt ?_
 refine SW_ret ?_
 refine body_end (.bool (((litP X).2) == ((litP X).2))) (fun _ => rfl) ?_
 exact ⟨(), ow, congrArg Value.bool (beq_self_eq_true _)⟩

end Go.Proofs.YtnhmmjogfkjceaaGreatDoor
namespace Go.Proofs.YtnhmmjogfkjceaaGreatDoor
open Go.Sl Go.ChangeShapes Go.WideShapes Go.ChangeAt Go.RowKit

theorem NumtextReads_contract (H : Type) (enc : TypeId × Value → H) (W : World) (base : Nat) (args : Array Value) (ds gs : List (DataW H)) (before : List MemPlace)
   (hval : ∀ (j : Nat) t v, Tryz.f6.params[j]? = some t → args[j]? = some v → Value.okWide Tryz.prog W .any base t v)
   (hW : DataW.Whole enc Tryz.prog Tryz.f6.params.toList Rows.numtextReadsSpec.vars false W args.toList ds gs before) (hk : Rows.uptoSmall H (ds ++ gs) = true) (hLd : laidMetH Tryz.prog Rows.numtextReadsUptoRow.laid W) (hsh : W.ShapedOpen Tryz.prog) :
   Calls Tryz.prog 6 args W fun e W' => ∃ v, e = .returned v ∧ Rows.numtextReadsSpec.post enc Tryz.prog Tryz.f6 false true false false W args v W' := by
 have hL := laid_num hLd hsh
 have hW' := hW
 obtain ⟨p, q, hA0, hV, rfl, hfz, hnd⟩ := hW
 have hA : DataW.TrodAll enc Tryz.prog W 0 (fun _ => true) true Tryz.f6.params.toList args.toList ds p := hA0
 rw [Tryz.params6] at hA hval
 obtain ⟨v0, vs0, d0, ds0, p0, q0, hargs, rfl, rfl, h0, r0⟩ := trodAll_cons hA
 obtain ⟨rfl, rfl, rfl⟩ := trodAll_nil r0
 obtain rfl : args = #[v0] := by cases args; simp_all
 obtain ⟨rfl, rfl⟩ := trodVars_none hV
 obtain ⟨x0, rfl, hz0⟩ := arg_strB hk (by simp) (hval 0 9 v0 rfl rfl) h0
 refine (calls_law (law_NumtextReads hL hz0)).mono fun e W' ⟨he, hb⟩ => ?_
 subst he
 exact ⟨_, rfl, post_law (tb := 4) hW' (by rw [Tryz.params6]; decide) rfl rfl rfl rfl rfl Tryz.underlying4 hb⟩

theorem NumtextReads_reads (os : Os) {H : Type} (enc : TypeId × Value → H) : ∃ places, DataW.whole enc Tryz.prog ((laidWorldN os).forCall (fun _ _ => 0) ⟨#[], #[.string .empty], []⟩).memory Tryz.f6.params.toList Rows.numtextReadsSpec.vars false #[.string .empty].toList 8 = some ([.lit (.string [])], [], places) :=
 ⟨[], by kernel_rfl⟩
theorem NumtextReads_lifted (os : Os) (started : os.Started) (H : Type) (enc : TypeId × Value → H) (F : Stop.Interp) :
   ReturnsInHanded {} Tryz.checked os 6 .any ((Rows.OpenSpec.upto Rows.numtextReadsSpec).preRow enc Tryz.prog Tryz.f6 Rows.numtextReadsUptoRow.domain false Rows.numtextReadsUptoRow.laid) (((Rows.OpenSpec.upto Rows.numtextReadsSpec).at F).post enc Tryz.prog Tryz.f6 false true false false) := by
 obtain ⟨places, hx⟩ := NumtextReads_reads os enc
 refine returnsInHanded_of_row (C := Tryz.checked) (s := Rows.OpenSpec.upto Rows.numtextReadsSpec) rown started (by kernel_rfl) Tryz.func6
   (witness_row_atRef (enc := enc) (C := Tryz.checked) false (laidWorldN os) #[.string .empty] rfl (by kernel_rfl) (by kernel_rfl) (by kernel_rfl)
     (OpenSpec.preRow_of_cond 8 hx (by kernel_rfl) (fun k hk => by cases hk; kernel_rfl) (by kernel_rfl) (laid_metN os _))) ?_
 intro W base args ds gs before hval hW _ hcond _ hL hsh _
 exact NumtextReads_contract H enc W base args ds gs before hval hW (hcond _ rfl) hL hsh

theorem NumtextReads_row : Rows.NumtextReadsUptoSaid :=
 OpenClaim.holds_of_cond 6 Tryz.f6 rfl rfl rfl rfl rfl rfl rfl ⟨rfl, rfl, rfl, rfl, rfl⟩ rfl rfl rfl rfl rfl (by kernel_rfl) Tryz.func6 (by kernel_rfl)
   (of_decide_eq_true (by kernel_rfl)) (by unfold Func.isWrapper; first | (rw [if_pos (by decide +kernel)]; kernel_rfl) | (rw [if_neg (by decide +kernel)]; exact ⟨rfl, rfl⟩))
   (fun os started H enc _ F => by rw [OpenClaim.pre_eq_preRow]; exact NumtextReads_lifted os started H enc F)
theorem NumtextReads_plain (f : FuncId) (fn : Func) (hf : Tryz.pinned.checked.prog.funcNamed "brazier/brazierlaw02.NumtextReads" = some f) (hfn : Tryz.pinned.checked.prog.funcs[f]? = some fn) :
   true = Tryz.pinned.checked.prog.looks [] ∧ ∀ (j : Nat) t, fn.params[j]? = some t → Tryz.pinned.checked.prog.wantsStandIn t = false := by
 obtain rfl : f = 6 := Option.some.inj ((show Tryz.prog.funcNamed "brazier/brazierlaw02.NumtextReads" = some 6 by kernel_rfl).symm.trans hf) |>.symm
 obtain rfl : fn = Tryz.f6 := (Option.some.inj (Tryz.func6.symm.trans hfn)).symm
 refine ⟨by kernel_rfl, fun j t ht => ?_⟩
 rw [Tryz.params6] at ht
 have hm : t = 9 := by simpa using Array.mem_of_getElem? ht
 rcases hm with rfl
 · exact (show Tryz.prog.wantsStandIn 9 = false by kernel_rfl)
theorem NumtextReads_proved : Rows.NumtextReadsUptoCardSaid :=
 Claim7.holds_tied_plain_at .later [] _ _ _ _ NumtextReads_row (fun _ h => by cases h) (by kernel_rfl) (fun _ h => by cases h) numtextReadsUpto_row_tie rfl ⟨rfl, rfl⟩ (by kernel_rfl) rfl NumtextReads_plain (by kernel_rfl)
end Go.Proofs.YtnhmmjogfkjceaaGreatDoor
