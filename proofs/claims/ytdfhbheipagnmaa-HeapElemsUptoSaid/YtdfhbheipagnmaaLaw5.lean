/-
  What functions of the laws of layer 13 do to the memory they own, step by step: each theorem is one function's contract. Conditions: those that each theorem names.
-/
import Derived.Test.YtdfhbheipagnmaaLaw2
import Derived.Test.YtdfhbheipagnmaaElemsD
set_option linter.unusedVariables false
set_option linter.unusedSimpArgs false
set_option maxRecDepth 100000
set_option maxHeartbeats 4000000
namespace Go.Proofs.Ytdfhbheipagnmaa
open Go.Sl

theorem law_HeapElems {W0 : World} {A : Option Addr} {c : Nat} {l : List Int} (hls : ∀ σ, Src W0 σ A (l.map encI)) (hl : l.length ≤ 1048576) (w many : Int) : SC Try.prog W0 6 #[.slice A l.length c, .int .u64 w, .int .i64 many] [] (Ret (fun _ : Unit => []) (fun v _ => v = .bool true)) := by
  by_cases hz : l.length = 0
  · skip
    refine SC_body (fn := Try.f6) (n := 125) Try.func6 rfl (by kernel_rfl) (ρ := [(0, .slice A l.length c), (1, .int .u64 w), (2, .int .i64 many)]) rfl ?_
    refine SW_seq ?_
    refine SW_region ?_
    refine SL_s1 1 6 (.bool false) (by intro δ w; kernel_rfl) ?_
    refine SL_nil (n_then ?_)
    refine SW_seq ?_
    refine SW_region ?_
    refine SL_sig ([] ++ ([])) rfl ?_
    refine SL_cons ⟨rfl, fun _ => rfl⟩ (O_call 9 #[.int .i64 3] rfl (by intro δ w; kernel_rfl) ((hp_New 3).use _) ?_)
    rintro _ σ1 ⟨⟨H0, F⟩, hσ1, rfl, hI0, hp0, ht0, htr0, ho0, hcl0⟩
    obtain rfl : σ1 = ((HeapV.ent H0 F) ++ ([])) := hσ1.trans (rfl)
    simp only [] at hp0 ht0 htr0 ho0 hcl0 hI0
    refine SL_s1 1 7 (pt F.p 0) (by intro δ w; kernel_rfl) ?_
    refine SL_nil (n_then ?_)
    refine SW_seq ?_
    refine SW_seq ?_
    refine SW_region ?_
    refine SL_s3 3 23 (.bool false) 22 (.bool false) 21 (pt F.p 0) (by intro δ w; kernel_rfl) ?_
    refine SL_sig ([] ++ ((HeapV.ent H0 F) ++ ([]))) rfl ?_
    refine SL_cons ⟨rfl, fun _ => rfl⟩ (O_call 10 #[] rfl (by intro δ w; kernel_rfl) ((law_alive).use _) ?_)
    rintro _ σ2 ⟨_, hσ2, rfl⟩
    obtain rfl : σ2 = ((HeapV.ent H0 F) ++ ([])) := hσ2.trans (rfl)
    refine SL_s2 2 26 (.bool false) 25 (.bool false) (by intro δ w; kernel_rfl) ?_
    refine SL_nil (n_then ?_)
    refine SW_false (fun _ => rfl) ?_
    refine SW_skip (n_then ?_)
    refine SW_seq ?_
    refine SW_region ?_
    refine SL_s1 1 28 (pt F.p 0) (by intro δ w; kernel_rfl) ?_
    refine SL_cons ⟨rfl, fun _ => rfl⟩ (O_call 11 #[pt F.p 0, .int .i64 1, .int .u64 18445336698825998337] rfl (by intro δ w; kernel_rfl) ((hp_Make hI0 (kind := 1) (proto := 18445336698825998337) ⟨by omega, .inl rfl, by rw [hp0]; decide⟩).use _) ?_)
    rintro v3 σ3 ⟨H1, hσ3, hv3, hI1, hp1, ht1, m1, ok1, hr1, ho1⟩
    obtain rfl : v3 = .tuple #[.int .u64 (65530 * 281474976710656 + ((0 : Nat) : Int)), .bool true] := hv3.trans (by rw [hp0]; rfl)
    obtain rfl : σ3 = ((HeapV.ent H1 F) ++ ([])) := hσ3.trans (rfl)
    rw [hp0, List.nil_append] at hp1
    refine SL_s5 5 9 (.bool true) 8 (.int .u64 (65530 * 281474976710656 + ((0 : Nat) : Int))) 31 (.bool true) 30 (.int .u64 (65530 * 281474976710656 + ((0 : Nat) : Int))) 27 (.tuple #[.int .u64 (65530 * 281474976710656 + ((0 : Nat) : Int)), .bool true]) (by intro δ w; kernel_rfl) ?_
    refine SL_nil (n_then ?_)
    refine SW_seq ?_
    refine SW_region ?_
    refine SL_s1 1 10 (.int .i64 0) (by intro δ w; kernel_rfl) ?_
    refine SL_nil (n_then ?_)
    refine SW_seq ?_
    refine SW_seq ?_
    refine SW_region ?_
    refine SL_s3 3 34 (.int .i64 0) 33 (.int .i64 (l.length : Int)) 32 (.slice A l.length c) (by intro δ w; kernel_rfl) ?_
    refine SL_nil (n_then ?_)
    refine SW_block ?_
    refine SW_loop (α := Nat × HeapV × List Int × Int) (fun z_ ρ_ σ_ => Fits ρ_ σ_ [(0, .slice A l.length c), (1, .int .u64 w), (2, .int .i64 many), (7, pt F.p 0), (8, .int .u64 (65530 * 281474976710656 + ((0 : Nat) : Int))), (10, .int .i64 z_.2.2.2), (32, .slice A l.length c), (33, .int .i64 (l.length : Int)), (34, .int .i64 (z_.1 : Int))] ((HeapV.ent z_.2.1 F) ++ ([])) ∧ z_.1 ≤ l.length ∧ HInv 0 z_.2.1 F ∧ HeapV.pub z_.2.1 F = [⟨1, 18445336698825998337, false, [], [], z_.2.2.1, []⟩] ∧ ElI l w z_.1 z_.2.2.1 ∧ z_.2.2.2 = (List.length z_.2.2.1 : Int)) (fun z_ => l.length - z_.1) (0, H1, [], 0) ⟨⟨fun _ => rfl, (own_mk (J := ([])) (List.Perm.refl _) (by simp only [List.cons_append, List.append_assoc, List.nil_append, List.append_nil]))⟩, Nat.zero_le _, hI1, hp1, ElI.start l w, rfl⟩ ?_
    rintro ⟨i, H, E, mo⟩ ρ_ σ_ ⟨hfit, hi0, hi1, hi2, hi3, hi4⟩
    refine SW_fits hfit ?_
    clear hfit
    simp only [] at hi0 hi1 hi2 hi3 hi4 ⊢
    have hlen := hi3.len
    refine SW_seq ?_
    refine SW_region ?_
    refine SL_s1 1 35 (.bool (decide ((i : Int) < (l.length : Int)))) (by intro δ w; kernel_rfl) ?_
    refine SL_nil (n_then ?_)
    refine SW_seq ?_
    refine SW_false (fun _ => (congrArg Value.bool (show (decide ((i : Int) < (l.length : Int))) = false from (by simp; omega)))) ?_
    refine SW_exit (x_then (x_then (x_in (n_then ?_))))
    refine SW_seq ?_
    refine SW_seq ?_
    refine SW_region ?_
    refine SL_s2 2 58 (.int .u64 (65530 * 281474976710656 + ((0 : Nat) : Int))) 57 (pt F.p 0) (by intro δ w; kernel_rfl) ?_
    refine SL_cons ⟨rfl, fun _ => rfl⟩ (O_call 24 #[pt F.p 0, .int .u64 (65530 * 281474976710656 + ((0 : Nat) : Int))] rfl (by intro δ w; kernel_rfl) ((hp_Len hi1 (n := 0) (by rw [hi2]; exact objA 1 (by decide) (by decide)) (by rw [hi2]; rfl)).use _) ?_)
    rintro _ σ4 ⟨_, hσ4, rfl⟩
    obtain rfl : σ4 = ((HeapV.ent H F) ++ ([])) := hσ4.trans (rfl)
    refine SL_s2 2 61 (.bool ((List.length E : Int) != mo)) 60 (.int .i64 mo) (by intro δ w; kernel_rfl) ?_
    refine SL_nil (n_then ?_)
    refine SW_cond ((List.length E : Int) != mo) (fun _ => rfl) (fun hc1 => ?_) (fun hc1 => ?_)
    · skip
      refine SW_seq ?_
      refine SW_region ?_
      refine SL_s1 1 6 (.bool false) (by intro δ w; kernel_rfl) ?_
      refine SL_nil (n_then ?_)
      refine SW_ret (r_then ?_)
      refine body_end (.bool false) (fun _ => rfl) ?_
      exfalso
      first | omega | (simp at hc1; done) | (simp at hc1; omega) | (simp_all; done) | (simp_all; omega)
    · skip
      refine SW_skip (n_then ?_)
      refine SW_seq ?_
      refine SW_region ?_
      refine SL_s3 3 64 (.int .i64 many) 63 (.int .u64 (65530 * 281474976710656 + ((0 : Nat) : Int))) 62 (pt F.p 0) (by intro δ w; kernel_rfl) ?_
      refine SL_cons ⟨rfl, fun _ => rfl⟩ (O_call 25 #[pt F.p 0, .int .u64 (65530 * 281474976710656 + ((0 : Nat) : Int)), .int .i64 many] rfl (by intro δ w; kernel_rfl) ((hp_SetLenQ (by omega) hi1 (n := 0) (by rw [hi2]; exact objA 1 (by decide) (by decide)) (by rw [hi2]; rfl) many).use _) ?_)
      rintro _ σ5 ⟨K1, hσ5, rfl, hIK1, hpK1, htK1⟩
      obtain rfl : σ5 = ((HeapV.ent K1 F) ++ ([])) := hσ5.trans (rfl)
      rw [hi2] at hpK1
      have hqK1 : HeapV.pub K1 F = [⟨1, 18445336698825998337, false, [], [], setLenQ E many, []⟩] := hpK1
      refine SL_s1 1 14 (.bool (decide (0 ≤ many ∧ many ≤ 4096))) (by intro δ w; kernel_rfl) ?_
      refine SL_nil (n_then ?_)
      refine SW_seq ?_
      refine SW_seq ?_
      refine SW_region ?_
      refine SL_s4 4 69 (.bool (decide (many ≥ 0))) 68 (.bool (decide (many ≥ 0))) 67 (.int .i64 many) 66 (.bool (decide (0 ≤ many ∧ many ≤ 4096))) (by intro δ w; kernel_rfl) ?_
      refine SL_tb (decide (many ≥ 0)) (fun tb_ => [(69, .bool tb_), (68, .bool tb_), (67, .int .i64 many), (66, .bool (decide (0 ≤ many ∧ many ≤ 4096))), (14, .bool (decide (0 ≤ many ∧ many ≤ 4096))), (65, .bool (decide (0 ≤ many ∧ many ≤ 4096))), (64, .int .i64 many), (63, .int .u64 (65530 * 281474976710656 + ((0 : Nat) : Int))), (62, pt F.p 0), (61, .bool ((List.length E : Int) != mo)), (60, .int .i64 mo), (59, .int .i64 (List.length E : Int)), (58, .int .u64 (65530 * 281474976710656 + ((0 : Nat) : Int))), (57, pt F.p 0), (35, .bool (decide ((i : Int) < (l.length : Int)))), (0, .slice A l.length c), (1, .int .u64 w), (2, .int .i64 many), (7, pt F.p 0), (8, .int .u64 (65530 * 281474976710656 + ((0 : Nat) : Int))), (10, .int .i64 mo), (32, .slice A l.length c), (33, .int .i64 (l.length : Int)), (34, .int .i64 (i : Int))]) (fun hg2 => ?_) (fun hg2 => ?_)
      · skip
        replace hg2 := of_decide_eq_true hg2
        refine SL_segT 4 [(73, .bool (!((decide (0 ≤ many ∧ many ≤ 4096)) == (decide (many ≤ 4096))))), (14, .bool (decide (0 ≤ many ∧ many ≤ 4096))), (61, .bool ((List.length E : Int) != mo)), (35, .bool (decide ((i : Int) < (l.length : Int)))), (0, .slice A l.length c), (1, .int .u64 w), (2, .int .i64 many), (7, pt F.p 0), (8, .int .u64 (65530 * 281474976710656 + ((0 : Nat) : Int))), (10, .int .i64 mo), (32, .slice A l.length c), (33, .int .i64 (l.length : Int)), (34, .int .i64 (i : Int))] (by intro δ w; kernel_rfl) ?_
        refine SL_nil (n_then ?_)
        refine SW_cond (!((decide (0 ≤ many ∧ many ≤ 4096)) == (decide (many ≤ 4096)))) (fun _ => rfl) (fun hc3 => ?_) (fun hc3 => ?_)
        · skip
          replace hc3 := bnot_t hc3
          replace hc3 := of_decide_eq_false hc3
          refine SW_seq ?_
          refine SW_region ?_
          refine SL_s1 1 6 (.bool false) (by intro δ w; kernel_rfl) ?_
          refine SL_nil (n_then ?_)
          refine SW_ret (r_then ?_)
          refine body_end (.bool false) (fun _ => rfl) ?_
          exfalso
          first | omega | (simp at hc3; done) | (simp at hc3; omega) | (simp_all; done) | (simp_all; omega)
        · skip
          replace hc3 := bnot_f hc3
          replace hc3 := of_decide_eq_true hc3
          refine SW_skip (n_then ?_)
          refine SW_seq ?_
          refine SW_seq ?_
          refine SW_region ?_
          refine SL_s1 1 74 (.bool (decide (0 ≤ many ∧ many ≤ 4096))) (by intro δ w; kernel_rfl) ?_
          refine SL_nil (n_then ?_)
          refine SW_cond (decide (0 ≤ many ∧ many ≤ 4096)) (fun _ => rfl) (fun hc4 => ?_) (fun hc4 => ?_)
          · skip
            replace hc4 := of_decide_eq_true hc4
            refine SW_region ?_
            refine SL_segT 2 [(10, .int .i64 many), (74, .bool (decide (0 ≤ many ∧ many ≤ 4096))), (73, .bool (!((decide (0 ≤ many ∧ many ≤ 4096)) == (decide (many ≤ 4096))))), (14, .bool (decide (0 ≤ many ∧ many ≤ 4096))), (61, .bool ((List.length E : Int) != mo)), (35, .bool (decide ((i : Int) < (l.length : Int)))), (0, .slice A l.length c), (1, .int .u64 w), (2, .int .i64 many), (7, pt F.p 0), (8, .int .u64 (65530 * 281474976710656 + ((0 : Nat) : Int))), (32, .slice A l.length c), (33, .int .i64 (l.length : Int)), (34, .int .i64 (i : Int))] (by intro δ w; kernel_rfl) ?_
            refine SL_nil (n_then ?_)
            refine SW_seq ?_
            refine SW_seq ?_
            refine SW_region ?_
            refine SL_s3 3 78 (.int .i64 0) 77 (.int .i64 (l.length : Int)) 76 (.slice A l.length c) (by intro δ w; kernel_rfl) ?_
            refine SL_nil (n_then ?_)
            refine SW_block ?_
            have hil : i = l.length := by omega
            rw [hil] at hi3
            have hQ : setLenQ E many = setLenL E many.toNat := by unfold setLenQ; rw [if_pos hc4]
            have htell : ∀ (j : Nat) (m : Int), l[j]? = some m → elemO (setLenQ E many) m = if 0 ≤ m ∧ m < many ∧ w ≠ 18445336698825998340 then (w, true) else (18445336698825998336, false) := fun j m hm => by rw [hQ, hi3.tells hm (by omega)]; rw [show ((many.toNat : Nat) : Int) = many from by omega]
            have hqlen : ((setLenQ E many).length : Int) = many := by rw [hQ, setLenL_len]; omega
            clear hil
            refine SW_loop (α := Nat) (fun z_ ρ_ σ_ => Fits ρ_ σ_ [(0, .slice A l.length c), (1, .int .u64 w), (2, .int .i64 many), (7, pt F.p 0), (8, .int .u64 (65530 * 281474976710656 + ((0 : Nat) : Int))), (10, .int .i64 many), (76, .slice A l.length c), (77, .int .i64 (l.length : Int)), (78, .int .i64 (z_ : Int))] ((HeapV.ent K1 F) ++ ([])) ∧ z_ ≤ l.length) (fun z_ => l.length - z_) 0 ⟨⟨fun _ => rfl, (own_mk (J := ([])) (List.Perm.refl _) (by simp only [List.cons_append, List.append_assoc, List.nil_append, List.append_nil]))⟩, Nat.zero_le _⟩ ?_
            rintro i2_ ρ_ σ_ ⟨hfit, hi0⟩
            refine SW_fits hfit ?_
            clear hfit
            refine SW_seq ?_
            refine SW_region ?_
            refine SL_s1 1 79 (.bool (decide ((i2_ : Int) < (l.length : Int)))) (by intro δ w; kernel_rfl) ?_
            refine SL_nil (n_then ?_)
            refine SW_seq ?_
            refine SW_false (fun _ => (congrArg Value.bool (show (decide ((i2_ : Int) < (l.length : Int))) = false from (by simp; omega)))) ?_
            refine SW_exit (x_then (x_then (x_in (n_then ?_))))
            refine SW_seq ?_
            refine SW_region ?_
            refine SL_s2 2 121 (.int .u64 (65530 * 281474976710656 + ((0 : Nat) : Int))) 120 (pt F.p 0) (by intro δ w; kernel_rfl) ?_
            refine SL_cons ⟨rfl, fun _ => rfl⟩ (O_call 24 #[pt F.p 0, .int .u64 (65530 * 281474976710656 + ((0 : Nat) : Int))] rfl (by intro δ w; kernel_rfl) ((hp_Len hIK1 (n := 0) (by rw [hqK1]; exact objA 1 (by decide) (by decide)) (by rw [hqK1]; rfl)).use _) ?_)
            rintro _ σ6 ⟨_, hσ6, rfl⟩
            obtain rfl : σ6 = ((HeapV.ent K1 F) ++ ([])) := hσ6.trans (rfl)
            refine SL_s3 3 6 (.bool ((List.length (setLenQ E many) : Int) == many)) 124 (.bool ((List.length (setLenQ E many) : Int) == many)) 123 (.int .i64 many) (by intro δ w; kernel_rfl) ?_
            refine SL_nil (n_then ?_)
            refine SW_ret ?_
            refine body_end (.bool ((List.length (setLenQ E many) : Int) == many)) (fun _ => rfl) ?_
            exact ⟨(), ⟨_, List.Perm.refl _⟩, congrArg Value.bool (by rw [hqlen]; simp)⟩
          · skip
            replace hc4 := of_decide_eq_false hc4
            refine SW_skip (n_then ?_)
            refine SW_seq ?_
            refine SW_seq ?_
            refine SW_region ?_
            refine SL_s3 3 78 (.int .i64 0) 77 (.int .i64 (l.length : Int)) 76 (.slice A l.length c) (by intro δ w; kernel_rfl) ?_
            refine SL_nil (n_then ?_)
            refine SW_block ?_
            have hil : i = l.length := by omega
            rw [hil] at hi3
            have hQ : setLenQ E many = setLenL E E.length := by unfold setLenQ; rw [if_neg hc4, setLenL_self]
            have htell : ∀ (j : Nat) (m : Int), l[j]? = some m → elemO (setLenQ E many) m = if 0 ≤ m ∧ m < mo ∧ w ≠ 18445336698825998340 then (w, true) else (18445336698825998336, false) := fun j m hm => by rw [hQ, hi3.tells hm (by omega)]; rw [show ((E.length : Nat) : Int) = mo from by omega]
            have hqlen : ((setLenQ E many).length : Int) = mo := by rw [hQ, setLenL_len]; omega
            clear hil
            refine SW_loop (α := Nat) (fun z_ ρ_ σ_ => Fits ρ_ σ_ [(0, .slice A l.length c), (1, .int .u64 w), (2, .int .i64 many), (7, pt F.p 0), (8, .int .u64 (65530 * 281474976710656 + ((0 : Nat) : Int))), (10, .int .i64 mo), (76, .slice A l.length c), (77, .int .i64 (l.length : Int)), (78, .int .i64 (z_ : Int))] ((HeapV.ent K1 F) ++ ([])) ∧ z_ ≤ l.length) (fun z_ => l.length - z_) 0 ⟨⟨fun _ => rfl, (own_mk (J := ([])) (List.Perm.refl _) (by simp only [List.cons_append, List.append_assoc, List.nil_append, List.append_nil]))⟩, Nat.zero_le _⟩ ?_
            rintro i2_ ρ_ σ_ ⟨hfit, hi0⟩
            refine SW_fits hfit ?_
            clear hfit
            refine SW_seq ?_
            refine SW_region ?_
            refine SL_s1 1 79 (.bool (decide ((i2_ : Int) < (l.length : Int)))) (by intro δ w; kernel_rfl) ?_
            refine SL_nil (n_then ?_)
            refine SW_seq ?_
            refine SW_false (fun _ => (congrArg Value.bool (show (decide ((i2_ : Int) < (l.length : Int))) = false from (by simp; omega)))) ?_
            refine SW_exit (x_then (x_then (x_in (n_then ?_))))
            refine SW_seq ?_
            refine SW_region ?_
            refine SL_s2 2 121 (.int .u64 (65530 * 281474976710656 + ((0 : Nat) : Int))) 120 (pt F.p 0) (by intro δ w; kernel_rfl) ?_
            refine SL_cons ⟨rfl, fun _ => rfl⟩ (O_call 24 #[pt F.p 0, .int .u64 (65530 * 281474976710656 + ((0 : Nat) : Int))] rfl (by intro δ w; kernel_rfl) ((hp_Len hIK1 (n := 0) (by rw [hqK1]; exact objA 1 (by decide) (by decide)) (by rw [hqK1]; rfl)).use _) ?_)
            rintro _ σ7 ⟨_, hσ7, rfl⟩
            obtain rfl : σ7 = ((HeapV.ent K1 F) ++ ([])) := hσ7.trans (rfl)
            refine SL_s3 3 6 (.bool ((List.length (setLenQ E many) : Int) == mo)) 124 (.bool ((List.length (setLenQ E many) : Int) == mo)) 123 (.int .i64 mo) (by intro δ w; kernel_rfl) ?_
            refine SL_nil (n_then ?_)
            refine SW_ret ?_
            refine body_end (.bool ((List.length (setLenQ E many) : Int) == mo)) (fun _ => rfl) ?_
            exact ⟨(), ⟨_, List.Perm.refl _⟩, congrArg Value.bool (by rw [hqlen]; simp)⟩
      · skip
        replace hg2 := of_decide_eq_false hg2
        refine SL_segT 4 [(73, .bool (!((decide (0 ≤ many ∧ many ≤ 4096)) == false))), (14, .bool (decide (0 ≤ many ∧ many ≤ 4096))), (61, .bool ((List.length E : Int) != mo)), (35, .bool (decide ((i : Int) < (l.length : Int)))), (0, .slice A l.length c), (1, .int .u64 w), (2, .int .i64 many), (7, pt F.p 0), (8, .int .u64 (65530 * 281474976710656 + ((0 : Nat) : Int))), (10, .int .i64 mo), (32, .slice A l.length c), (33, .int .i64 (l.length : Int)), (34, .int .i64 (i : Int))] (by intro δ w; kernel_rfl) ?_
        refine SL_nil (n_then ?_)
        refine SW_cond (!((decide (0 ≤ many ∧ many ≤ 4096)) == false)) (fun _ => rfl) (fun hc5 => ?_) (fun hc5 => ?_)
        · skip
          replace hc5 := bnot_t hc5
          refine SW_seq ?_
          refine SW_region ?_
          refine SL_s1 1 6 (.bool false) (by intro δ w; kernel_rfl) ?_
          refine SL_nil (n_then ?_)
          refine SW_ret (r_then ?_)
          refine body_end (.bool false) (fun _ => rfl) ?_
          exfalso
          first | omega | (simp at hc5; done) | (simp at hc5; omega) | (simp_all; done) | (simp_all; omega)
        · skip
          replace hc5 := bnot_f hc5
          refine SW_skip (n_then ?_)
          refine SW_seq ?_
          refine SW_seq ?_
          refine SW_region ?_
          refine SL_s1 1 74 (.bool (decide (0 ≤ many ∧ many ≤ 4096))) (by intro δ w; kernel_rfl) ?_
          refine SL_nil (n_then ?_)
          refine SW_cond (decide (0 ≤ many ∧ many ≤ 4096)) (fun _ => rfl) (fun hc6 => ?_) (fun hc6 => ?_)
          · skip
            replace hc6 := of_decide_eq_true hc6
            refine SW_region ?_
            refine SL_segT 2 [(10, .int .i64 many), (74, .bool (decide (0 ≤ many ∧ many ≤ 4096))), (73, .bool (!((decide (0 ≤ many ∧ many ≤ 4096)) == false))), (14, .bool (decide (0 ≤ many ∧ many ≤ 4096))), (61, .bool ((List.length E : Int) != mo)), (35, .bool (decide ((i : Int) < (l.length : Int)))), (0, .slice A l.length c), (1, .int .u64 w), (2, .int .i64 many), (7, pt F.p 0), (8, .int .u64 (65530 * 281474976710656 + ((0 : Nat) : Int))), (32, .slice A l.length c), (33, .int .i64 (l.length : Int)), (34, .int .i64 (i : Int))] (by intro δ w; kernel_rfl) ?_
            refine SL_nil (n_then ?_)
            refine SW_seq ?_
            refine SW_seq ?_
            refine SW_region ?_
            refine SL_s3 3 78 (.int .i64 0) 77 (.int .i64 (l.length : Int)) 76 (.slice A l.length c) (by intro δ w; kernel_rfl) ?_
            refine SL_nil (n_then ?_)
            refine SW_block ?_
            have hil : i = l.length := by omega
            rw [hil] at hi3
            have hQ : setLenQ E many = setLenL E many.toNat := by unfold setLenQ; rw [if_pos hc6]
            have htell : ∀ (j : Nat) (m : Int), l[j]? = some m → elemO (setLenQ E many) m = if 0 ≤ m ∧ m < many ∧ w ≠ 18445336698825998340 then (w, true) else (18445336698825998336, false) := fun j m hm => by rw [hQ, hi3.tells hm (by omega)]; rw [show ((many.toNat : Nat) : Int) = many from by omega]
            have hqlen : ((setLenQ E many).length : Int) = many := by rw [hQ, setLenL_len]; omega
            clear hil
            refine SW_loop (α := Nat) (fun z_ ρ_ σ_ => Fits ρ_ σ_ [(0, .slice A l.length c), (1, .int .u64 w), (2, .int .i64 many), (7, pt F.p 0), (8, .int .u64 (65530 * 281474976710656 + ((0 : Nat) : Int))), (10, .int .i64 many), (76, .slice A l.length c), (77, .int .i64 (l.length : Int)), (78, .int .i64 (z_ : Int))] ((HeapV.ent K1 F) ++ ([])) ∧ z_ ≤ l.length) (fun z_ => l.length - z_) 0 ⟨⟨fun _ => rfl, (own_mk (J := ([])) (List.Perm.refl _) (by simp only [List.cons_append, List.append_assoc, List.nil_append, List.append_nil]))⟩, Nat.zero_le _⟩ ?_
            rintro i2_ ρ_ σ_ ⟨hfit, hi0⟩
            refine SW_fits hfit ?_
            clear hfit
            refine SW_seq ?_
            refine SW_region ?_
            refine SL_s1 1 79 (.bool (decide ((i2_ : Int) < (l.length : Int)))) (by intro δ w; kernel_rfl) ?_
            refine SL_nil (n_then ?_)
            refine SW_seq ?_
            refine SW_false (fun _ => (congrArg Value.bool (show (decide ((i2_ : Int) < (l.length : Int))) = false from (by simp; omega)))) ?_
            refine SW_exit (x_then (x_then (x_in (n_then ?_))))
            refine SW_seq ?_
            refine SW_region ?_
            refine SL_s2 2 121 (.int .u64 (65530 * 281474976710656 + ((0 : Nat) : Int))) 120 (pt F.p 0) (by intro δ w; kernel_rfl) ?_
            refine SL_cons ⟨rfl, fun _ => rfl⟩ (O_call 24 #[pt F.p 0, .int .u64 (65530 * 281474976710656 + ((0 : Nat) : Int))] rfl (by intro δ w; kernel_rfl) ((hp_Len hIK1 (n := 0) (by rw [hqK1]; exact objA 1 (by decide) (by decide)) (by rw [hqK1]; rfl)).use _) ?_)
            rintro _ σ8 ⟨_, hσ8, rfl⟩
            obtain rfl : σ8 = ((HeapV.ent K1 F) ++ ([])) := hσ8.trans (rfl)
            refine SL_s3 3 6 (.bool ((List.length (setLenQ E many) : Int) == many)) 124 (.bool ((List.length (setLenQ E many) : Int) == many)) 123 (.int .i64 many) (by intro δ w; kernel_rfl) ?_
            refine SL_nil (n_then ?_)
            refine SW_ret ?_
            refine body_end (.bool ((List.length (setLenQ E many) : Int) == many)) (fun _ => rfl) ?_
            exact ⟨(), ⟨_, List.Perm.refl _⟩, congrArg Value.bool (by rw [hqlen]; simp)⟩
          · skip
            replace hc6 := of_decide_eq_false hc6
            refine SW_skip (n_then ?_)
            refine SW_seq ?_
            refine SW_seq ?_
            refine SW_region ?_
            refine SL_s3 3 78 (.int .i64 0) 77 (.int .i64 (l.length : Int)) 76 (.slice A l.length c) (by intro δ w; kernel_rfl) ?_
            refine SL_nil (n_then ?_)
            refine SW_block ?_
            have hil : i = l.length := by omega
            rw [hil] at hi3
            have hQ : setLenQ E many = setLenL E E.length := by unfold setLenQ; rw [if_neg hc6, setLenL_self]
            have htell : ∀ (j : Nat) (m : Int), l[j]? = some m → elemO (setLenQ E many) m = if 0 ≤ m ∧ m < mo ∧ w ≠ 18445336698825998340 then (w, true) else (18445336698825998336, false) := fun j m hm => by rw [hQ, hi3.tells hm (by omega)]; rw [show ((E.length : Nat) : Int) = mo from by omega]
            have hqlen : ((setLenQ E many).length : Int) = mo := by rw [hQ, setLenL_len]; omega
            clear hil
            refine SW_loop (α := Nat) (fun z_ ρ_ σ_ => Fits ρ_ σ_ [(0, .slice A l.length c), (1, .int .u64 w), (2, .int .i64 many), (7, pt F.p 0), (8, .int .u64 (65530 * 281474976710656 + ((0 : Nat) : Int))), (10, .int .i64 mo), (76, .slice A l.length c), (77, .int .i64 (l.length : Int)), (78, .int .i64 (z_ : Int))] ((HeapV.ent K1 F) ++ ([])) ∧ z_ ≤ l.length) (fun z_ => l.length - z_) 0 ⟨⟨fun _ => rfl, (own_mk (J := ([])) (List.Perm.refl _) (by simp only [List.cons_append, List.append_assoc, List.nil_append, List.append_nil]))⟩, Nat.zero_le _⟩ ?_
            rintro i2_ ρ_ σ_ ⟨hfit, hi0⟩
            refine SW_fits hfit ?_
            clear hfit
            refine SW_seq ?_
            refine SW_region ?_
            refine SL_s1 1 79 (.bool (decide ((i2_ : Int) < (l.length : Int)))) (by intro δ w; kernel_rfl) ?_
            refine SL_nil (n_then ?_)
            refine SW_seq ?_
            refine SW_false (fun _ => (congrArg Value.bool (show (decide ((i2_ : Int) < (l.length : Int))) = false from (by simp; omega)))) ?_
            refine SW_exit (x_then (x_then (x_in (n_then ?_))))
            refine SW_seq ?_
            refine SW_region ?_
            refine SL_s2 2 121 (.int .u64 (65530 * 281474976710656 + ((0 : Nat) : Int))) 120 (pt F.p 0) (by intro δ w; kernel_rfl) ?_
            refine SL_cons ⟨rfl, fun _ => rfl⟩ (O_call 24 #[pt F.p 0, .int .u64 (65530 * 281474976710656 + ((0 : Nat) : Int))] rfl (by intro δ w; kernel_rfl) ((hp_Len hIK1 (n := 0) (by rw [hqK1]; exact objA 1 (by decide) (by decide)) (by rw [hqK1]; rfl)).use _) ?_)
            rintro _ σ9 ⟨_, hσ9, rfl⟩
            obtain rfl : σ9 = ((HeapV.ent K1 F) ++ ([])) := hσ9.trans (rfl)
            refine SL_s3 3 6 (.bool ((List.length (setLenQ E many) : Int) == mo)) 124 (.bool ((List.length (setLenQ E many) : Int) == mo)) 123 (.int .i64 mo) (by intro δ w; kernel_rfl) ?_
            refine SL_nil (n_then ?_)
            refine SW_ret ?_
            refine body_end (.bool ((List.length (setLenQ E many) : Int) == mo)) (fun _ => rfl) ?_
            exact ⟨(), ⟨_, List.Perm.refl _⟩, congrArg Value.bool (by rw [hqlen]; simp)⟩
  · obtain ⟨b0, o0, rfl, hq0⟩ := (hls []).resolve_left (by simpa using hz)
    refine SC_body (fn := Try.f6) (n := 125) Try.func6 rfl (by kernel_rfl) (ρ := [(0, .slice (some ⟨b0, o0, none⟩) l.length c), (1, .int .u64 w), (2, .int .i64 many)]) rfl ?_
    refine SW_seq ?_
    refine SW_region ?_
    refine SL_s1 1 6 (.bool false) (by intro δ w; kernel_rfl) ?_
    refine SL_nil (n_then ?_)
    refine SW_seq ?_
    refine SW_region ?_
    refine SL_sig ([] ++ ([])) rfl ?_
    refine SL_cons ⟨rfl, fun _ => rfl⟩ (O_call 9 #[.int .i64 3] rfl (by intro δ w; kernel_rfl) ((hp_New 3).use _) ?_)
    rintro _ σ1 ⟨⟨H0, F⟩, hσ1, rfl, hI0, hp0, ht0, htr0, ho0, hcl0⟩
    obtain rfl : σ1 = ((HeapV.ent H0 F) ++ ([])) := hσ1.trans (rfl)
    simp only [] at hp0 ht0 htr0 ho0 hcl0 hI0
    refine SL_s1 1 7 (pt F.p 0) (by intro δ w; kernel_rfl) ?_
    refine SL_nil (n_then ?_)
    refine SW_seq ?_
    refine SW_seq ?_
    refine SW_region ?_
    refine SL_s3 3 23 (.bool false) 22 (.bool false) 21 (pt F.p 0) (by intro δ w; kernel_rfl) ?_
    refine SL_sig ([] ++ ((HeapV.ent H0 F) ++ ([]))) rfl ?_
    refine SL_cons ⟨rfl, fun _ => rfl⟩ (O_call 10 #[] rfl (by intro δ w; kernel_rfl) ((law_alive).use _) ?_)
    rintro _ σ2 ⟨_, hσ2, rfl⟩
    obtain rfl : σ2 = ((HeapV.ent H0 F) ++ ([])) := hσ2.trans (rfl)
    refine SL_s2 2 26 (.bool false) 25 (.bool false) (by intro δ w; kernel_rfl) ?_
    refine SL_nil (n_then ?_)
    refine SW_false (fun _ => rfl) ?_
    refine SW_skip (n_then ?_)
    refine SW_seq ?_
    refine SW_region ?_
    refine SL_s1 1 28 (pt F.p 0) (by intro δ w; kernel_rfl) ?_
    refine SL_cons ⟨rfl, fun _ => rfl⟩ (O_call 11 #[pt F.p 0, .int .i64 1, .int .u64 18445336698825998337] rfl (by intro δ w; kernel_rfl) ((hp_Make hI0 (kind := 1) (proto := 18445336698825998337) ⟨by omega, .inl rfl, by rw [hp0]; decide⟩).use _) ?_)
    rintro v3 σ3 ⟨H1, hσ3, hv3, hI1, hp1, ht1, m1, ok1, hr1, ho1⟩
    obtain rfl : v3 = .tuple #[.int .u64 (65530 * 281474976710656 + ((0 : Nat) : Int)), .bool true] := hv3.trans (by rw [hp0]; rfl)
    obtain rfl : σ3 = ((HeapV.ent H1 F) ++ ([])) := hσ3.trans (rfl)
    rw [hp0, List.nil_append] at hp1
    refine SL_s5 5 9 (.bool true) 8 (.int .u64 (65530 * 281474976710656 + ((0 : Nat) : Int))) 31 (.bool true) 30 (.int .u64 (65530 * 281474976710656 + ((0 : Nat) : Int))) 27 (.tuple #[.int .u64 (65530 * 281474976710656 + ((0 : Nat) : Int)), .bool true]) (by intro δ w; kernel_rfl) ?_
    refine SL_nil (n_then ?_)
    refine SW_seq ?_
    refine SW_region ?_
    refine SL_s1 1 10 (.int .i64 0) (by intro δ w; kernel_rfl) ?_
    refine SL_nil (n_then ?_)
    refine SW_seq ?_
    refine SW_seq ?_
    refine SW_region ?_
    refine SL_s3 3 34 (.int .i64 0) 33 (.int .i64 (l.length : Int)) 32 (.slice (some ⟨b0, o0, none⟩) l.length c) (by intro δ w; kernel_rfl) ?_
    refine SL_nil (n_then ?_)
    refine SW_block ?_
    refine SW_loop (α := Nat × HeapV × List Int × Int) (fun z_ ρ_ σ_ => Fits ρ_ σ_ [(0, .slice (some ⟨b0, o0, none⟩) l.length c), (1, .int .u64 w), (2, .int .i64 many), (7, pt F.p 0), (8, .int .u64 (65530 * 281474976710656 + ((0 : Nat) : Int))), (10, .int .i64 z_.2.2.2), (32, .slice (some ⟨b0, o0, none⟩) l.length c), (33, .int .i64 (l.length : Int)), (34, .int .i64 (z_.1 : Int))] ((HeapV.ent z_.2.1 F) ++ ([])) ∧ z_.1 ≤ l.length ∧ HInv 0 z_.2.1 F ∧ HeapV.pub z_.2.1 F = [⟨1, 18445336698825998337, false, [], [], z_.2.2.1, []⟩] ∧ ElI l w z_.1 z_.2.2.1 ∧ z_.2.2.2 = (List.length z_.2.2.1 : Int)) (fun z_ => l.length - z_.1) (0, H1, [], 0) ⟨⟨fun _ => rfl, (own_mk (J := ([])) (List.Perm.refl _) (by simp only [List.cons_append, List.append_assoc, List.nil_append, List.append_nil]))⟩, Nat.zero_le _, hI1, hp1, ElI.start l w, rfl⟩ ?_
    rintro ⟨i, H, E, mo⟩ ρ_ σ_ ⟨hfit, hi0, hi1, hi2, hi3, hi4⟩
    refine SW_fits hfit ?_
    clear hfit
    simp only [] at hi0 hi1 hi2 hi3 hi4 ⊢
    have hlen := hi3.len
    refine SW_seq ?_
    refine SW_region ?_
    refine SL_s1 1 35 (.bool (decide ((i : Int) < (l.length : Int)))) (by intro δ w; kernel_rfl) ?_
    refine SL_nil (n_then ?_)
    refine SW_seq ?_
    refine SW_cond (decide ((i : Int) < (l.length : Int))) (fun _ => rfl) (fun hc1 => ?_) (fun hc1 => ?_)
    · skip
      replace hc1 := of_decide_eq_true hc1
      refine SW_skip (n_then ?_)
      refine SW_seq ?_
      refine SW_block ?_
      refine SW_seq ?_
      refine SW_region ?_
      refine SL_cons ⟨rfl, fun _ => rfl⟩ (O_indexAddr' (i : Int) (o0 + i) b0 o0 l.length c .i64 1 Try.underlying50 (by kernel_rfl) (fun _ => rfl) (fun _ => rfl) (by omega) (by omega) (by omega) rfl ?_)
      obtain ⟨e1, he1⟩ : ∃ y_, l[i]? = some y_ := ⟨_, List.getElem?_eq_getElem (by omega)⟩
      refine SL_cons ⟨rfl, fun _ => rfl⟩ (O_load b0 (o0 + i) (.int .i64 e1) (fun _ => rfl) (by kernel_rfl) (Cell.mono (hq0 _ _ (map_cell he1 rfl)) (fun e he => absurd he List.not_mem_nil)) rfl ?_)
      refine SL_s1 1 12 (.int .i64 e1) (by intro δ w; kernel_rfl) ?_
      refine SL_nil (n_then ?_)
      refine SW_seq ?_
      refine SW_region ?_
      refine SL_s4 4 41 (.int .u64 w) 40 (.int .i64 e1) 39 (.int .u64 (65530 * 281474976710656 + ((0 : Nat) : Int))) 38 (pt F.p 0) (by intro δ w; kernel_rfl) ?_
      refine SL_cons ⟨rfl, fun _ => rfl⟩ (O_call 23 #[pt F.p 0, .int .u64 (65530 * 281474976710656 + ((0 : Nat) : Int)), .int .i64 e1, .int .u64 w] rfl (by intro δ w; kernel_rfl) ((hp_SetElem (by omega) hi1 (n := 0) (by rw [hi2]; exact objA 1 (by decide) (by decide)) (by rw [hi2]; rfl) e1 w).use _) ?_)
      rintro _ σ4 ⟨K1, hσ4, rfl, hIK1, hpK1, htK1⟩
      obtain rfl : σ4 = ((HeapV.ent K1 F) ++ ([])) := hσ4.trans (rfl)
      rw [hi2] at hpK1
      refine SL_s1 1 13 (.bool (decide (0 ≤ e1 ∧ e1 < 4096))) (by intro δ w; kernel_rfl) ?_
      refine SL_nil (n_then ?_)
      refine SW_seq ?_
      refine SW_seq ?_
      refine SW_region ?_
      refine SL_s4 4 46 (.bool (decide (e1 ≥ 0))) 45 (.bool (decide (e1 ≥ 0))) 44 (.int .i64 e1) 43 (.bool (decide (0 ≤ e1 ∧ e1 < 4096))) (by intro δ w; kernel_rfl) ?_
      refine SL_tb (decide (e1 ≥ 0)) (fun tb_ => [(46, .bool tb_), (45, .bool tb_), (44, .int .i64 e1), (43, .bool (decide (0 ≤ e1 ∧ e1 < 4096))), (13, .bool (decide (0 ≤ e1 ∧ e1 < 4096))), (42, .bool (decide (0 ≤ e1 ∧ e1 < 4096))), (41, .int .u64 w), (40, .int .i64 e1), (39, .int .u64 (65530 * 281474976710656 + ((0 : Nat) : Int))), (38, pt F.p 0), (12, .int .i64 e1), (37, .int .i64 e1), (36, pt b0 (o0 + i)), (35, .bool (decide ((i : Int) < (l.length : Int)))), (0, .slice (some ⟨b0, o0, none⟩) l.length c), (1, .int .u64 w), (2, .int .i64 many), (7, pt F.p 0), (8, .int .u64 (65530 * 281474976710656 + ((0 : Nat) : Int))), (10, .int .i64 mo), (32, .slice (some ⟨b0, o0, none⟩) l.length c), (33, .int .i64 (l.length : Int)), (34, .int .i64 (i : Int))]) (fun hg2 => ?_) (fun hg2 => ?_)
      · skip
        replace hg2 := of_decide_eq_true hg2
        refine SL_segT 4 [(50, .bool (!((decide (0 ≤ e1 ∧ e1 < 4096)) == (decide (e1 < 4096))))), (13, .bool (decide (0 ≤ e1 ∧ e1 < 4096))), (12, .int .i64 e1), (35, .bool (decide ((i : Int) < (l.length : Int)))), (0, .slice (some ⟨b0, o0, none⟩) l.length c), (1, .int .u64 w), (2, .int .i64 many), (7, pt F.p 0), (8, .int .u64 (65530 * 281474976710656 + ((0 : Nat) : Int))), (10, .int .i64 mo), (32, .slice (some ⟨b0, o0, none⟩) l.length c), (33, .int .i64 (l.length : Int)), (34, .int .i64 (i : Int))] (by intro δ w; kernel_rfl) ?_
        refine SL_nil (n_then ?_)
        refine SW_cond (!((decide (0 ≤ e1 ∧ e1 < 4096)) == (decide (e1 < 4096)))) (fun _ => rfl) (fun hc3 => ?_) (fun hc3 => ?_)
        · skip
          replace hc3 := bnot_t hc3
          replace hc3 := of_decide_eq_false hc3
          refine SW_seq ?_
          refine SW_region ?_
          refine SL_s1 1 6 (.bool false) (by intro δ w; kernel_rfl) ?_
          refine SL_nil (n_then ?_)
          refine SW_ret (r_then (r_in (r_then (r_then (r_in (r_then ?_))))))
          refine body_end (.bool false) (fun _ => rfl) ?_
          exfalso
          first | omega | (simp at hc3; done) | (simp at hc3; omega) | (simp_all; done) | (simp_all; omega)
        · skip
          replace hc3 := bnot_f hc3
          replace hc3 := of_decide_eq_true hc3
          refine SW_skip (n_then ?_)
          refine SW_seq ?_
          refine SW_region ?_
          refine SL_s1 1 51 (.bool (decide (0 ≤ e1 ∧ e1 < 4096))) (by intro δ w; kernel_rfl) ?_
          refine SL_nil (n_then ?_)
          refine SW_cond (decide (0 ≤ e1 ∧ e1 < 4096)) (fun _ => rfl) (fun hc4 => ?_) (fun hc4 => ?_)
          · skip
            replace hc4 := of_decide_eq_true hc4
            refine SW_region ?_
            refine SL_s3 3 54 (.int .i64 (IntKind.wrap .i64 (e1 + 1))) 53 (.int .i64 e1) 52 (.int .i64 mo) (by intro δ w; kernel_rfl) ?_
            rw [show IntKind.wrap .i64 (e1 + 1) = e1 + 1 from IntWalk.i64_in _ (by omega)]
            refine SL_segT 2 [(10, .int .i64 (if e1 + 1 > mo then e1 + 1 else mo)), (51, .bool (decide (0 ≤ e1 ∧ e1 < 4096))), (50, .bool (!((decide (0 ≤ e1 ∧ e1 < 4096)) == (decide (e1 < 4096))))), (13, .bool (decide (0 ≤ e1 ∧ e1 < 4096))), (12, .int .i64 e1), (35, .bool (decide ((i : Int) < (l.length : Int)))), (0, .slice (some ⟨b0, o0, none⟩) l.length c), (1, .int .u64 w), (2, .int .i64 many), (7, pt F.p 0), (8, .int .u64 (65530 * 281474976710656 + ((0 : Nat) : Int))), (32, .slice (some ⟨b0, o0, none⟩) l.length c), (33, .int .i64 (l.length : Int)), (34, .int .i64 (i : Int))] (by intro δ w; kernel_rfl) ?_
            refine SL_nil (n_in (n_then ?_))
            refine SW_region ?_
            refine SL_s1 1 56 (.int .i64 (IntKind.wrap .i64 ((i : Int) + 1))) (by intro δ w; kernel_rfl) ?_
            rw [show IntKind.wrap .i64 ((i : Int) + 1) = (i : Int) + 1 from IntWalk.i64_in _ (by omega)]
            refine SL_segT 1 [(34, .int .i64 ((i : Int) + 1)), (10, .int .i64 (if e1 + 1 > mo then e1 + 1 else mo)), (51, .bool (decide (0 ≤ e1 ∧ e1 < 4096))), (50, .bool (!((decide (0 ≤ e1 ∧ e1 < 4096)) == (decide (e1 < 4096))))), (13, .bool (decide (0 ≤ e1 ∧ e1 < 4096))), (12, .int .i64 e1), (35, .bool (decide ((i : Int) < (l.length : Int)))), (0, .slice (some ⟨b0, o0, none⟩) l.length c), (1, .int .u64 w), (2, .int .i64 many), (7, pt F.p 0), (8, .int .u64 (65530 * 281474976710656 + ((0 : Nat) : Int))), (32, .slice (some ⟨b0, o0, none⟩) l.length c), (33, .int .i64 (l.length : Int))] (by intro δ w; kernel_rfl) ?_
            refine SL_nil (n_then ?_)
            exact ⟨(i + 1, K1, setElemL E e1 w, if e1 + 1 > mo then e1 + 1 else mo), by simp only []; omega, ⟨fun _ => rfl, (own_mk (J := ([])) (List.Perm.refl _) (by simp only [List.cons_append, List.append_assoc, List.nil_append, List.append_nil]))⟩, by simp only []; omega, hIK1, hpK1, hi3.step he1, by simp only []; rw [setElemL_len _ _ _ hi3.len]; (first | rw [if_pos hc4] | rw [if_neg hc4]); first | omega | (split <;> omega)⟩
          · skip
            replace hc4 := of_decide_eq_false hc4
            refine SW_skip (n_in (n_then ?_))
            refine SW_region ?_
            refine SL_s1 1 56 (.int .i64 (IntKind.wrap .i64 ((i : Int) + 1))) (by intro δ w; kernel_rfl) ?_
            rw [show IntKind.wrap .i64 ((i : Int) + 1) = (i : Int) + 1 from IntWalk.i64_in _ (by omega)]
            refine SL_segT 1 [(34, .int .i64 ((i : Int) + 1)), (51, .bool (decide (0 ≤ e1 ∧ e1 < 4096))), (50, .bool (!((decide (0 ≤ e1 ∧ e1 < 4096)) == (decide (e1 < 4096))))), (13, .bool (decide (0 ≤ e1 ∧ e1 < 4096))), (12, .int .i64 e1), (35, .bool (decide ((i : Int) < (l.length : Int)))), (0, .slice (some ⟨b0, o0, none⟩) l.length c), (1, .int .u64 w), (2, .int .i64 many), (7, pt F.p 0), (8, .int .u64 (65530 * 281474976710656 + ((0 : Nat) : Int))), (10, .int .i64 mo), (32, .slice (some ⟨b0, o0, none⟩) l.length c), (33, .int .i64 (l.length : Int))] (by intro δ w; kernel_rfl) ?_
            refine SL_nil (n_then ?_)
            exact ⟨(i + 1, K1, setElemL E e1 w, mo), by simp only []; omega, ⟨fun _ => rfl, (own_mk (J := ([])) (List.Perm.refl _) (by simp only [List.cons_append, List.append_assoc, List.nil_append, List.append_nil]))⟩, by simp only []; omega, hIK1, hpK1, hi3.step he1, by simp only []; rw [setElemL_len _ _ _ hi3.len]; (first | rw [if_pos hc4] | rw [if_neg hc4]); first | omega | (split <;> omega)⟩
      · skip
        replace hg2 := of_decide_eq_false hg2
        refine SL_segT 4 [(50, .bool (!((decide (0 ≤ e1 ∧ e1 < 4096)) == false))), (13, .bool (decide (0 ≤ e1 ∧ e1 < 4096))), (12, .int .i64 e1), (35, .bool (decide ((i : Int) < (l.length : Int)))), (0, .slice (some ⟨b0, o0, none⟩) l.length c), (1, .int .u64 w), (2, .int .i64 many), (7, pt F.p 0), (8, .int .u64 (65530 * 281474976710656 + ((0 : Nat) : Int))), (10, .int .i64 mo), (32, .slice (some ⟨b0, o0, none⟩) l.length c), (33, .int .i64 (l.length : Int)), (34, .int .i64 (i : Int))] (by intro δ w; kernel_rfl) ?_
        refine SL_nil (n_then ?_)
        refine SW_cond (!((decide (0 ≤ e1 ∧ e1 < 4096)) == false)) (fun _ => rfl) (fun hc5 => ?_) (fun hc5 => ?_)
        · skip
          replace hc5 := bnot_t hc5
          refine SW_seq ?_
          refine SW_region ?_
          refine SL_s1 1 6 (.bool false) (by intro δ w; kernel_rfl) ?_
          refine SL_nil (n_then ?_)
          refine SW_ret (r_then (r_in (r_then (r_then (r_in (r_then ?_))))))
          refine body_end (.bool false) (fun _ => rfl) ?_
          exfalso
          first | omega | (simp at hc5; done) | (simp at hc5; omega) | (simp_all; done) | (simp_all; omega)
        · skip
          replace hc5 := bnot_f hc5
          refine SW_skip (n_then ?_)
          refine SW_seq ?_
          refine SW_region ?_
          refine SL_s1 1 51 (.bool (decide (0 ≤ e1 ∧ e1 < 4096))) (by intro δ w; kernel_rfl) ?_
          refine SL_nil (n_then ?_)
          refine SW_cond (decide (0 ≤ e1 ∧ e1 < 4096)) (fun _ => rfl) (fun hc6 => ?_) (fun hc6 => ?_)
          · skip
            replace hc6 := of_decide_eq_true hc6
            refine SW_region ?_
            refine SL_s3 3 54 (.int .i64 (IntKind.wrap .i64 (e1 + 1))) 53 (.int .i64 e1) 52 (.int .i64 mo) (by intro δ w; kernel_rfl) ?_
            rw [show IntKind.wrap .i64 (e1 + 1) = e1 + 1 from IntWalk.i64_in _ (by omega)]
            refine SL_segT 2 [(10, .int .i64 (if e1 + 1 > mo then e1 + 1 else mo)), (51, .bool (decide (0 ≤ e1 ∧ e1 < 4096))), (50, .bool (!((decide (0 ≤ e1 ∧ e1 < 4096)) == false))), (13, .bool (decide (0 ≤ e1 ∧ e1 < 4096))), (12, .int .i64 e1), (35, .bool (decide ((i : Int) < (l.length : Int)))), (0, .slice (some ⟨b0, o0, none⟩) l.length c), (1, .int .u64 w), (2, .int .i64 many), (7, pt F.p 0), (8, .int .u64 (65530 * 281474976710656 + ((0 : Nat) : Int))), (32, .slice (some ⟨b0, o0, none⟩) l.length c), (33, .int .i64 (l.length : Int)), (34, .int .i64 (i : Int))] (by intro δ w; kernel_rfl) ?_
            refine SL_nil (n_in (n_then ?_))
            refine SW_region ?_
            refine SL_s1 1 56 (.int .i64 (IntKind.wrap .i64 ((i : Int) + 1))) (by intro δ w; kernel_rfl) ?_
            rw [show IntKind.wrap .i64 ((i : Int) + 1) = (i : Int) + 1 from IntWalk.i64_in _ (by omega)]
            refine SL_segT 1 [(34, .int .i64 ((i : Int) + 1)), (10, .int .i64 (if e1 + 1 > mo then e1 + 1 else mo)), (51, .bool (decide (0 ≤ e1 ∧ e1 < 4096))), (50, .bool (!((decide (0 ≤ e1 ∧ e1 < 4096)) == false))), (13, .bool (decide (0 ≤ e1 ∧ e1 < 4096))), (12, .int .i64 e1), (35, .bool (decide ((i : Int) < (l.length : Int)))), (0, .slice (some ⟨b0, o0, none⟩) l.length c), (1, .int .u64 w), (2, .int .i64 many), (7, pt F.p 0), (8, .int .u64 (65530 * 281474976710656 + ((0 : Nat) : Int))), (32, .slice (some ⟨b0, o0, none⟩) l.length c), (33, .int .i64 (l.length : Int))] (by intro δ w; kernel_rfl) ?_
            refine SL_nil (n_then ?_)
            exact ⟨(i + 1, K1, setElemL E e1 w, if e1 + 1 > mo then e1 + 1 else mo), by simp only []; omega, ⟨fun _ => rfl, (own_mk (J := ([])) (List.Perm.refl _) (by simp only [List.cons_append, List.append_assoc, List.nil_append, List.append_nil]))⟩, by simp only []; omega, hIK1, hpK1, hi3.step he1, by simp only []; rw [setElemL_len _ _ _ hi3.len]; (first | rw [if_pos hc6] | rw [if_neg hc6]); first | omega | (split <;> omega)⟩
          · skip
            replace hc6 := of_decide_eq_false hc6
            refine SW_skip (n_in (n_then ?_))
            refine SW_region ?_
            refine SL_s1 1 56 (.int .i64 (IntKind.wrap .i64 ((i : Int) + 1))) (by intro δ w; kernel_rfl) ?_
            rw [show IntKind.wrap .i64 ((i : Int) + 1) = (i : Int) + 1 from IntWalk.i64_in _ (by omega)]
            refine SL_segT 1 [(34, .int .i64 ((i : Int) + 1)), (51, .bool (decide (0 ≤ e1 ∧ e1 < 4096))), (50, .bool (!((decide (0 ≤ e1 ∧ e1 < 4096)) == false))), (13, .bool (decide (0 ≤ e1 ∧ e1 < 4096))), (12, .int .i64 e1), (35, .bool (decide ((i : Int) < (l.length : Int)))), (0, .slice (some ⟨b0, o0, none⟩) l.length c), (1, .int .u64 w), (2, .int .i64 many), (7, pt F.p 0), (8, .int .u64 (65530 * 281474976710656 + ((0 : Nat) : Int))), (10, .int .i64 mo), (32, .slice (some ⟨b0, o0, none⟩) l.length c), (33, .int .i64 (l.length : Int))] (by intro δ w; kernel_rfl) ?_
            refine SL_nil (n_then ?_)
            exact ⟨(i + 1, K1, setElemL E e1 w, mo), by simp only []; omega, ⟨fun _ => rfl, (own_mk (J := ([])) (List.Perm.refl _) (by simp only [List.cons_append, List.append_assoc, List.nil_append, List.append_nil]))⟩, by simp only []; omega, hIK1, hpK1, hi3.step he1, by simp only []; rw [setElemL_len _ _ _ hi3.len]; (first | rw [if_pos hc6] | rw [if_neg hc6]); first | omega | (split <;> omega)⟩
    · skip
      replace hc1 := of_decide_eq_false hc1
      refine SW_exit (x_then (x_then (x_in (n_then ?_))))
      refine SW_seq ?_
      refine SW_seq ?_
      refine SW_region ?_
      refine SL_s2 2 58 (.int .u64 (65530 * 281474976710656 + ((0 : Nat) : Int))) 57 (pt F.p 0) (by intro δ w; kernel_rfl) ?_
      refine SL_cons ⟨rfl, fun _ => rfl⟩ (O_call 24 #[pt F.p 0, .int .u64 (65530 * 281474976710656 + ((0 : Nat) : Int))] rfl (by intro δ w; kernel_rfl) ((hp_Len hi1 (n := 0) (by rw [hi2]; exact objA 1 (by decide) (by decide)) (by rw [hi2]; rfl)).use _) ?_)
      rintro _ σ5 ⟨_, hσ5, rfl⟩
      obtain rfl : σ5 = ((HeapV.ent H F) ++ ([])) := hσ5.trans (rfl)
      refine SL_s2 2 61 (.bool ((List.length E : Int) != mo)) 60 (.int .i64 mo) (by intro δ w; kernel_rfl) ?_
      refine SL_nil (n_then ?_)
      refine SW_cond ((List.length E : Int) != mo) (fun _ => rfl) (fun hc7 => ?_) (fun hc7 => ?_)
      · skip
        refine SW_seq ?_
        refine SW_region ?_
        refine SL_s1 1 6 (.bool false) (by intro δ w; kernel_rfl) ?_
        refine SL_nil (n_then ?_)
        refine SW_ret (r_then ?_)
        refine body_end (.bool false) (fun _ => rfl) ?_
        exfalso
        first | omega | (simp at hc7; done) | (simp at hc7; omega) | (simp_all; done) | (simp_all; omega)
      · skip
        refine SW_skip (n_then ?_)
        refine SW_seq ?_
        refine SW_region ?_
        refine SL_s3 3 64 (.int .i64 many) 63 (.int .u64 (65530 * 281474976710656 + ((0 : Nat) : Int))) 62 (pt F.p 0) (by intro δ w; kernel_rfl) ?_
        refine SL_cons ⟨rfl, fun _ => rfl⟩ (O_call 25 #[pt F.p 0, .int .u64 (65530 * 281474976710656 + ((0 : Nat) : Int)), .int .i64 many] rfl (by intro δ w; kernel_rfl) ((hp_SetLenQ (by omega) hi1 (n := 0) (by rw [hi2]; exact objA 1 (by decide) (by decide)) (by rw [hi2]; rfl) many).use _) ?_)
        rintro _ σ6 ⟨K1, hσ6, rfl, hIK1, hpK1, htK1⟩
        obtain rfl : σ6 = ((HeapV.ent K1 F) ++ ([])) := hσ6.trans (rfl)
        rw [hi2] at hpK1
        have hqK1 : HeapV.pub K1 F = [⟨1, 18445336698825998337, false, [], [], setLenQ E many, []⟩] := hpK1
        refine SL_s1 1 14 (.bool (decide (0 ≤ many ∧ many ≤ 4096))) (by intro δ w; kernel_rfl) ?_
        refine SL_nil (n_then ?_)
        refine SW_seq ?_
        refine SW_seq ?_
        refine SW_region ?_
        refine SL_s4 4 69 (.bool (decide (many ≥ 0))) 68 (.bool (decide (many ≥ 0))) 67 (.int .i64 many) 66 (.bool (decide (0 ≤ many ∧ many ≤ 4096))) (by intro δ w; kernel_rfl) ?_
        refine SL_tb (decide (many ≥ 0)) (fun tb_ => [(69, .bool tb_), (68, .bool tb_), (67, .int .i64 many), (66, .bool (decide (0 ≤ many ∧ many ≤ 4096))), (14, .bool (decide (0 ≤ many ∧ many ≤ 4096))), (65, .bool (decide (0 ≤ many ∧ many ≤ 4096))), (64, .int .i64 many), (63, .int .u64 (65530 * 281474976710656 + ((0 : Nat) : Int))), (62, pt F.p 0), (61, .bool ((List.length E : Int) != mo)), (60, .int .i64 mo), (59, .int .i64 (List.length E : Int)), (58, .int .u64 (65530 * 281474976710656 + ((0 : Nat) : Int))), (57, pt F.p 0), (35, .bool (decide ((i : Int) < (l.length : Int)))), (0, .slice (some ⟨b0, o0, none⟩) l.length c), (1, .int .u64 w), (2, .int .i64 many), (7, pt F.p 0), (8, .int .u64 (65530 * 281474976710656 + ((0 : Nat) : Int))), (10, .int .i64 mo), (32, .slice (some ⟨b0, o0, none⟩) l.length c), (33, .int .i64 (l.length : Int)), (34, .int .i64 (i : Int))]) (fun hg8 => ?_) (fun hg8 => ?_)
        · skip
          replace hg8 := of_decide_eq_true hg8
          refine SL_segT 4 [(73, .bool (!((decide (0 ≤ many ∧ many ≤ 4096)) == (decide (many ≤ 4096))))), (14, .bool (decide (0 ≤ many ∧ many ≤ 4096))), (61, .bool ((List.length E : Int) != mo)), (35, .bool (decide ((i : Int) < (l.length : Int)))), (0, .slice (some ⟨b0, o0, none⟩) l.length c), (1, .int .u64 w), (2, .int .i64 many), (7, pt F.p 0), (8, .int .u64 (65530 * 281474976710656 + ((0 : Nat) : Int))), (10, .int .i64 mo), (32, .slice (some ⟨b0, o0, none⟩) l.length c), (33, .int .i64 (l.length : Int)), (34, .int .i64 (i : Int))] (by intro δ w; kernel_rfl) ?_
          refine SL_nil (n_then ?_)
          refine SW_cond (!((decide (0 ≤ many ∧ many ≤ 4096)) == (decide (many ≤ 4096)))) (fun _ => rfl) (fun hc9 => ?_) (fun hc9 => ?_)
          · skip
            replace hc9 := bnot_t hc9
            replace hc9 := of_decide_eq_false hc9
            refine SW_seq ?_
            refine SW_region ?_
            refine SL_s1 1 6 (.bool false) (by intro δ w; kernel_rfl) ?_
            refine SL_nil (n_then ?_)
            refine SW_ret (r_then ?_)
            refine body_end (.bool false) (fun _ => rfl) ?_
            exfalso
            first | omega | (simp at hc9; done) | (simp at hc9; omega) | (simp_all; done) | (simp_all; omega)
          · skip
            replace hc9 := bnot_f hc9
            replace hc9 := of_decide_eq_true hc9
            refine SW_skip (n_then ?_)
            refine SW_seq ?_
            refine SW_seq ?_
            refine SW_region ?_
            refine SL_s1 1 74 (.bool (decide (0 ≤ many ∧ many ≤ 4096))) (by intro δ w; kernel_rfl) ?_
            refine SL_nil (n_then ?_)
            refine SW_cond (decide (0 ≤ many ∧ many ≤ 4096)) (fun _ => rfl) (fun hc10 => ?_) (fun hc10 => ?_)
            · skip
              replace hc10 := of_decide_eq_true hc10
              refine SW_region ?_
              refine SL_segT 2 [(10, .int .i64 many), (74, .bool (decide (0 ≤ many ∧ many ≤ 4096))), (73, .bool (!((decide (0 ≤ many ∧ many ≤ 4096)) == (decide (many ≤ 4096))))), (14, .bool (decide (0 ≤ many ∧ many ≤ 4096))), (61, .bool ((List.length E : Int) != mo)), (35, .bool (decide ((i : Int) < (l.length : Int)))), (0, .slice (some ⟨b0, o0, none⟩) l.length c), (1, .int .u64 w), (2, .int .i64 many), (7, pt F.p 0), (8, .int .u64 (65530 * 281474976710656 + ((0 : Nat) : Int))), (32, .slice (some ⟨b0, o0, none⟩) l.length c), (33, .int .i64 (l.length : Int)), (34, .int .i64 (i : Int))] (by intro δ w; kernel_rfl) ?_
              refine SL_nil (n_then ?_)
              refine SW_seq ?_
              refine SW_seq ?_
              refine SW_region ?_
              refine SL_s3 3 78 (.int .i64 0) 77 (.int .i64 (l.length : Int)) 76 (.slice (some ⟨b0, o0, none⟩) l.length c) (by intro δ w; kernel_rfl) ?_
              refine SL_nil (n_then ?_)
              refine SW_block ?_
              have hil : i = l.length := by omega
              rw [hil] at hi3
              have hQ : setLenQ E many = setLenL E many.toNat := by unfold setLenQ; rw [if_pos hc10]
              have htell : ∀ (j : Nat) (m : Int), l[j]? = some m → elemO (setLenQ E many) m = if 0 ≤ m ∧ m < many ∧ w ≠ 18445336698825998340 then (w, true) else (18445336698825998336, false) := fun j m hm => by rw [hQ, hi3.tells hm (by omega)]; rw [show ((many.toNat : Nat) : Int) = many from by omega]
              have hqlen : ((setLenQ E many).length : Int) = many := by rw [hQ, setLenL_len]; omega
              clear hil
              refine SW_loop (α := Nat) (fun z_ ρ_ σ_ => Fits ρ_ σ_ [(0, .slice (some ⟨b0, o0, none⟩) l.length c), (1, .int .u64 w), (2, .int .i64 many), (7, pt F.p 0), (8, .int .u64 (65530 * 281474976710656 + ((0 : Nat) : Int))), (10, .int .i64 many), (76, .slice (some ⟨b0, o0, none⟩) l.length c), (77, .int .i64 (l.length : Int)), (78, .int .i64 (z_ : Int))] ((HeapV.ent K1 F) ++ ([])) ∧ z_ ≤ l.length) (fun z_ => l.length - z_) 0 ⟨⟨fun _ => rfl, (own_mk (J := ([])) (List.Perm.refl _) (by simp only [List.cons_append, List.append_assoc, List.nil_append, List.append_nil]))⟩, Nat.zero_le _⟩ ?_
              rintro i2_ ρ_ σ_ ⟨hfit, hi0⟩
              refine SW_fits hfit ?_
              clear hfit
              refine SW_seq ?_
              refine SW_region ?_
              refine SL_s1 1 79 (.bool (decide ((i2_ : Int) < (l.length : Int)))) (by intro δ w; kernel_rfl) ?_
              refine SL_nil (n_then ?_)
              refine SW_seq ?_
              refine SW_cond (decide ((i2_ : Int) < (l.length : Int))) (fun _ => rfl) (fun hc11 => ?_) (fun hc11 => ?_)
              · skip
                replace hc11 := of_decide_eq_true hc11
                refine SW_skip (n_then ?_)
                refine SW_seq ?_
                refine SW_block ?_
                refine SW_seq ?_
                refine SW_region ?_
                refine SL_cons ⟨rfl, fun _ => rfl⟩ (O_indexAddr' (i2_ : Int) (o0 + i2_) b0 o0 l.length c .i64 1 Try.underlying50 (by kernel_rfl) (fun _ => rfl) (fun _ => rfl) (by omega) (by omega) (by omega) rfl ?_)
                obtain ⟨e2, he2⟩ : ∃ y_, l[i2_]? = some y_ := ⟨_, List.getElem?_eq_getElem (by omega)⟩
                refine SL_cons ⟨rfl, fun _ => rfl⟩ (O_load b0 (o0 + i2_) (.int .i64 e2) (fun _ => rfl) (by kernel_rfl) (Cell.mono (hq0 _ _ (map_cell he2 rfl)) (fun e he => absurd he List.not_mem_nil)) rfl ?_)
                refine SL_s1 1 16 (.int .i64 e2) (by intro δ w; kernel_rfl) ?_
                refine SL_nil (n_then ?_)
                refine SW_seq ?_
                refine SW_region ?_
                refine SL_s3 3 85 (.int .i64 e2) 84 (.int .u64 (65530 * 281474976710656 + ((0 : Nat) : Int))) 83 (pt F.p 0) (by intro δ w; kernel_rfl) ?_
                by_cases hp3 : 0 ≤ e2 ∧ e2 < many ∧ w ≠ 18445336698825998340
                · skip
                  refine SL_cons ⟨rfl, fun _ => rfl⟩ (O_call 26 #[pt F.p 0, .int .u64 (65530 * 281474976710656 + ((0 : Nat) : Int)), .int .i64 e2] rfl (by intro δ w; kernel_rfl) ((hp_Elem hIK1 (n := 0) (by rw [hqK1]; exact objA 1 (by decide) (by decide)) (by rw [hqK1]; rfl) e2).use _) ?_)
                  rintro v7 σ7 ⟨_, hσ7, hv7⟩
                  obtain rfl : v7 = .tuple #[.int .u64 w, .bool true] := hv7.trans (by show Value.tuple #[.int .u64 (elemO (setLenQ E many) e2).1, .bool (elemO (setLenQ E many) e2).2] = _; rw [htell _ _ he2, if_pos hp3])
                  obtain rfl : σ7 = ((HeapV.ent K1 F) ++ ([])) := hσ7.trans (rfl)
                  refine SL_s5 5 18 (.bool true) 17 (.int .u64 w) 88 (.bool true) 87 (.int .u64 w) 82 (.tuple #[.int .u64 w, .bool true]) (by intro δ w; kernel_rfl) ?_
                  refine SL_nil (n_then ?_)
                  refine SW_seq ?_
                  refine SW_region ?_
                  refine SL_s3 3 91 (.bool (decide (e2 ≥ 0))) 90 (.bool (decide (e2 ≥ 0))) 89 (.int .i64 e2) (by intro δ w; kernel_rfl) ?_
                  refine SL_tb (decide (e2 ≥ 0)) (fun tb_ => [(91, .bool tb_), (90, .bool tb_), (89, .int .i64 e2), (18, .bool true), (17, .int .u64 w), (88, .bool true), (87, .int .u64 w), (82, .tuple #[.int .u64 w, .bool true]), (86, .tuple #[.int .u64 w, .bool true]), (85, .int .i64 e2), (84, .int .u64 (65530 * 281474976710656 + ((0 : Nat) : Int))), (83, pt F.p 0), (16, .int .i64 e2), (81, .int .i64 e2), (80, pt b0 (o0 + i2_)), (79, .bool (decide ((i2_ : Int) < (l.length : Int)))), (0, .slice (some ⟨b0, o0, none⟩) l.length c), (1, .int .u64 w), (2, .int .i64 many), (7, pt F.p 0), (8, .int .u64 (65530 * 281474976710656 + ((0 : Nat) : Int))), (10, .int .i64 many), (76, .slice (some ⟨b0, o0, none⟩) l.length c), (77, .int .i64 (l.length : Int)), (78, .int .i64 (i2_ : Int))]) (fun hg12 => ?_) (fun hg12 => ?_)
                  · skip
                    replace hg12 := of_decide_eq_true hg12
                    refine SL_segT 5 [(96, .bool (decide (e2 < many))), (18, .bool true), (17, .int .u64 w), (16, .int .i64 e2), (79, .bool (decide ((i2_ : Int) < (l.length : Int)))), (0, .slice (some ⟨b0, o0, none⟩) l.length c), (1, .int .u64 w), (2, .int .i64 many), (7, pt F.p 0), (8, .int .u64 (65530 * 281474976710656 + ((0 : Nat) : Int))), (10, .int .i64 many), (76, .slice (some ⟨b0, o0, none⟩) l.length c), (77, .int .i64 (l.length : Int)), (78, .int .i64 (i2_ : Int))] (by intro δ w; kernel_rfl) ?_
                    refine SL_tb (decide (e2 < many)) (fun tb_ => [(96, .bool tb_), (18, .bool true), (17, .int .u64 w), (16, .int .i64 e2), (79, .bool (decide ((i2_ : Int) < (l.length : Int)))), (0, .slice (some ⟨b0, o0, none⟩) l.length c), (1, .int .u64 w), (2, .int .i64 many), (7, pt F.p 0), (8, .int .u64 (65530 * 281474976710656 + ((0 : Nat) : Int))), (10, .int .i64 many), (76, .slice (some ⟨b0, o0, none⟩) l.length c), (77, .int .i64 (l.length : Int)), (78, .int .i64 (i2_ : Int))]) (fun hg13 => ?_) (fun hg13 => ?_)
                    · skip
                      replace hg13 := of_decide_eq_true hg13
                      refine SL_s4 4 19 (.bool (w != 18445336698825998340)) 99 (.bool (w != 18445336698825998340)) 98 (.bool (w != 18445336698825998340)) 97 (.int .u64 w) (by intro δ w; kernel_rfl) ?_
                      refine SL_nil (n_then ?_)
                      refine SW_seq ?_
                      refine SW_region ?_
                      refine SL_s4 4 103 (.bool (!(true == (w != 18445336698825998340)))) 102 (.bool (!(true == (w != 18445336698825998340)))) 101 (.bool (w != 18445336698825998340)) 100 (.bool true) (by intro δ w; kernel_rfl) ?_
                      refine SL_tb (!(true == (w != 18445336698825998340))) (fun tb_ => [(103, .bool tb_), (102, .bool tb_), (101, .bool (w != 18445336698825998340)), (100, .bool true), (19, .bool (w != 18445336698825998340)), (99, .bool (w != 18445336698825998340)), (98, .bool (w != 18445336698825998340)), (97, .int .u64 w), (96, .bool true), (18, .bool true), (17, .int .u64 w), (16, .int .i64 e2), (79, .bool (decide ((i2_ : Int) < (l.length : Int)))), (0, .slice (some ⟨b0, o0, none⟩) l.length c), (1, .int .u64 w), (2, .int .i64 many), (7, pt F.p 0), (8, .int .u64 (65530 * 281474976710656 + ((0 : Nat) : Int))), (10, .int .i64 many), (76, .slice (some ⟨b0, o0, none⟩) l.length c), (77, .int .i64 (l.length : Int)), (78, .int .i64 (i2_ : Int))]) (fun hg14 => ?_) (fun hg14 => ?_)
                      · skip
                        replace hg14 := bnot_t hg14
                        refine SL_segT 15 [(118, .bool true), (19, .bool (w != 18445336698825998340)), (18, .bool true), (17, .int .u64 w), (16, .int .i64 e2), (79, .bool (decide ((i2_ : Int) < (l.length : Int)))), (0, .slice (some ⟨b0, o0, none⟩) l.length c), (1, .int .u64 w), (2, .int .i64 many), (7, pt F.p 0), (8, .int .u64 (65530 * 281474976710656 + ((0 : Nat) : Int))), (10, .int .i64 many), (76, .slice (some ⟨b0, o0, none⟩) l.length c), (77, .int .i64 (l.length : Int)), (78, .int .i64 (i2_ : Int))] (by intro δ w; kernel_rfl) ?_
                        refine SL_nil (n_then ?_)
                        refine SW_true (fun _ => rfl) ?_
                        refine SW_seq ?_
                        refine SW_region ?_
                        refine SL_s1 1 6 (.bool false) (by intro δ w; kernel_rfl) ?_
                        refine SL_nil (n_then ?_)
                        refine SW_ret (r_in (r_then (r_then (r_in (r_then ?_)))))
                        refine body_end (.bool false) (fun _ => rfl) ?_
                        exfalso
                        first | omega | (simp at hg14; done) | (simp at hg14; omega) | (simp_all; done) | (simp_all; omega)
                      · skip
                        replace hg14 := bnot_f hg14
                        refine SL_segT 8 [(111, .bool (w != w)), (19, .bool (w != 18445336698825998340)), (18, .bool true), (17, .int .u64 w), (16, .int .i64 e2), (79, .bool (decide ((i2_ : Int) < (l.length : Int)))), (0, .slice (some ⟨b0, o0, none⟩) l.length c), (1, .int .u64 w), (2, .int .i64 many), (7, pt F.p 0), (8, .int .u64 (65530 * 281474976710656 + ((0 : Nat) : Int))), (10, .int .i64 many), (76, .slice (some ⟨b0, o0, none⟩) l.length c), (77, .int .i64 (l.length : Int)), (78, .int .i64 (i2_ : Int))] (by intro δ w; kernel_rfl) ?_
                        refine SL_tb (w != w) (fun tb_ => [(111, .bool tb_), (19, .bool (w != 18445336698825998340)), (18, .bool true), (17, .int .u64 w), (16, .int .i64 e2), (79, .bool (decide ((i2_ : Int) < (l.length : Int)))), (0, .slice (some ⟨b0, o0, none⟩) l.length c), (1, .int .u64 w), (2, .int .i64 many), (7, pt F.p 0), (8, .int .u64 (65530 * 281474976710656 + ((0 : Nat) : Int))), (10, .int .i64 many), (76, .slice (some ⟨b0, o0, none⟩) l.length c), (77, .int .i64 (l.length : Int)), (78, .int .i64 (i2_ : Int))]) (fun hg15 => ?_) (fun hg15 => ?_)
                        · skip
                          refine SL_s7 7 118 (.bool true) 117 (undef) 116 (undef) 115 (undef) 114 (undef) 113 (undef) 112 (undef) (by intro δ w; kernel_rfl) ?_
                          refine SL_nil (n_then ?_)
                          refine SW_true (fun _ => rfl) ?_
                          refine SW_seq ?_
                          refine SW_region ?_
                          refine SL_s1 1 6 (.bool false) (by intro δ w; kernel_rfl) ?_
                          refine SL_nil (n_then ?_)
                          refine SW_ret (r_in (r_then (r_then (r_in (r_then ?_)))))
                          refine body_end (.bool false) (fun _ => rfl) ?_
                          exfalso
                          first | omega | (simp at hg15; done) | (simp at hg15; omega) | (simp_all; done) | (simp_all; omega)
                        · skip
                          refine SL_s7 7 118 (.bool false) 117 (.bool false) 116 (undef) 115 (undef) 114 (.bool false) 113 (.bool false) 112 (.bool true) (by intro δ w; kernel_rfl) ?_
                          refine SL_nil (n_then ?_)
                          refine SW_false (fun _ => rfl) ?_
                          refine SW_skip (n_in (n_then ?_))
                          refine SW_region ?_
                          refine SL_s1 1 119 (.int .i64 (IntKind.wrap .i64 ((i2_ : Int) + 1))) (by intro δ w; kernel_rfl) ?_
                          rw [show IntKind.wrap .i64 ((i2_ : Int) + 1) = (i2_ : Int) + 1 from IntWalk.i64_in _ (by omega)]
                          refine SL_segT 1 [(78, .int .i64 ((i2_ : Int) + 1)), (118, .bool false), (19, .bool (w != 18445336698825998340)), (18, .bool true), (17, .int .u64 w), (16, .int .i64 e2), (79, .bool (decide ((i2_ : Int) < (l.length : Int)))), (0, .slice (some ⟨b0, o0, none⟩) l.length c), (1, .int .u64 w), (2, .int .i64 many), (7, pt F.p 0), (8, .int .u64 (65530 * 281474976710656 + ((0 : Nat) : Int))), (10, .int .i64 many), (76, .slice (some ⟨b0, o0, none⟩) l.length c), (77, .int .i64 (l.length : Int))] (by intro δ w; kernel_rfl) ?_
                          refine SL_nil (n_then ?_)
                          exact ⟨i2_ + 1, by omega, ⟨fun _ => rfl, (own_mk (J := ([])) (List.Perm.refl _) (by simp only [List.cons_append, List.append_assoc, List.nil_append, List.append_nil]))⟩, by omega⟩
                    · skip
                      replace hg13 := of_decide_eq_false hg13
                      refine SL_s4 4 19 (.bool false) 99 (.bool false) 98 (undef) 97 (undef) (by intro δ w; kernel_rfl) ?_
                      refine SL_nil (n_then ?_)
                      refine SW_seq ?_
                      refine SW_region ?_
                      refine SL_segT 19 [(118, .bool true), (19, .bool false), (18, .bool true), (17, .int .u64 w), (16, .int .i64 e2), (79, .bool (decide ((i2_ : Int) < (l.length : Int)))), (0, .slice (some ⟨b0, o0, none⟩) l.length c), (1, .int .u64 w), (2, .int .i64 many), (7, pt F.p 0), (8, .int .u64 (65530 * 281474976710656 + ((0 : Nat) : Int))), (10, .int .i64 many), (76, .slice (some ⟨b0, o0, none⟩) l.length c), (77, .int .i64 (l.length : Int)), (78, .int .i64 (i2_ : Int))] (by intro δ w; kernel_rfl) ?_
                      refine SL_nil (n_then ?_)
                      refine SW_true (fun _ => rfl) ?_
                      refine SW_seq ?_
                      refine SW_region ?_
                      refine SL_s1 1 6 (.bool false) (by intro δ w; kernel_rfl) ?_
                      refine SL_nil (n_then ?_)
                      refine SW_ret (r_in (r_then (r_then (r_in (r_then ?_)))))
                      refine body_end (.bool false) (fun _ => rfl) ?_
                      exfalso
                      first | omega | (simp at hg13; done) | (simp at hg13; omega) | (simp_all; done) | (simp_all; omega)
                  · skip
                    replace hg12 := of_decide_eq_false hg12
                    refine SL_segT 9 [(19, .bool false), (18, .bool true), (17, .int .u64 w), (16, .int .i64 e2), (79, .bool (decide ((i2_ : Int) < (l.length : Int)))), (0, .slice (some ⟨b0, o0, none⟩) l.length c), (1, .int .u64 w), (2, .int .i64 many), (7, pt F.p 0), (8, .int .u64 (65530 * 281474976710656 + ((0 : Nat) : Int))), (10, .int .i64 many), (76, .slice (some ⟨b0, o0, none⟩) l.length c), (77, .int .i64 (l.length : Int)), (78, .int .i64 (i2_ : Int))] (by intro δ w; kernel_rfl) ?_
                    refine SL_nil (n_then ?_)
                    refine SW_seq ?_
                    refine SW_region ?_
                    refine SL_segT 19 [(118, .bool true), (19, .bool false), (18, .bool true), (17, .int .u64 w), (16, .int .i64 e2), (79, .bool (decide ((i2_ : Int) < (l.length : Int)))), (0, .slice (some ⟨b0, o0, none⟩) l.length c), (1, .int .u64 w), (2, .int .i64 many), (7, pt F.p 0), (8, .int .u64 (65530 * 281474976710656 + ((0 : Nat) : Int))), (10, .int .i64 many), (76, .slice (some ⟨b0, o0, none⟩) l.length c), (77, .int .i64 (l.length : Int)), (78, .int .i64 (i2_ : Int))] (by intro δ w; kernel_rfl) ?_
                    refine SL_nil (n_then ?_)
                    refine SW_true (fun _ => rfl) ?_
                    refine SW_seq ?_
                    refine SW_region ?_
                    refine SL_s1 1 6 (.bool false) (by intro δ w; kernel_rfl) ?_
                    refine SL_nil (n_then ?_)
                    refine SW_ret (r_in (r_then (r_then (r_in (r_then ?_)))))
                    refine body_end (.bool false) (fun _ => rfl) ?_
                    exfalso
                    first | omega | (simp at hg12; done) | (simp at hg12; omega) | (simp_all; done) | (simp_all; omega)
                · skip
                  refine SL_cons ⟨rfl, fun _ => rfl⟩ (O_call 26 #[pt F.p 0, .int .u64 (65530 * 281474976710656 + ((0 : Nat) : Int)), .int .i64 e2] rfl (by intro δ w; kernel_rfl) ((hp_Elem hIK1 (n := 0) (by rw [hqK1]; exact objA 1 (by decide) (by decide)) (by rw [hqK1]; rfl) e2).use _) ?_)
                  rintro v8 σ8 ⟨_, hσ8, hv8⟩
                  obtain rfl : v8 = .tuple #[.int .u64 18445336698825998336, .bool false] := hv8.trans (by show Value.tuple #[.int .u64 (elemO (setLenQ E many) e2).1, .bool (elemO (setLenQ E many) e2).2] = _; rw [htell _ _ he2, if_neg hp3])
                  obtain rfl : σ8 = ((HeapV.ent K1 F) ++ ([])) := hσ8.trans (rfl)
                  refine SL_s5 5 18 (.bool false) 17 (.int .u64 18445336698825998336) 88 (.bool false) 87 (.int .u64 18445336698825998336) 82 (.tuple #[.int .u64 18445336698825998336, .bool false]) (by intro δ w; kernel_rfl) ?_
                  refine SL_nil (n_then ?_)
                  refine SW_seq ?_
                  refine SW_region ?_
                  refine SL_s3 3 91 (.bool (decide (e2 ≥ 0))) 90 (.bool (decide (e2 ≥ 0))) 89 (.int .i64 e2) (by intro δ w; kernel_rfl) ?_
                  refine SL_tb (decide (e2 ≥ 0)) (fun tb_ => [(91, .bool tb_), (90, .bool tb_), (89, .int .i64 e2), (18, .bool false), (17, .int .u64 18445336698825998336), (88, .bool false), (87, .int .u64 18445336698825998336), (82, .tuple #[.int .u64 18445336698825998336, .bool false]), (86, .tuple #[.int .u64 18445336698825998336, .bool false]), (85, .int .i64 e2), (84, .int .u64 (65530 * 281474976710656 + ((0 : Nat) : Int))), (83, pt F.p 0), (16, .int .i64 e2), (81, .int .i64 e2), (80, pt b0 (o0 + i2_)), (79, .bool (decide ((i2_ : Int) < (l.length : Int)))), (0, .slice (some ⟨b0, o0, none⟩) l.length c), (1, .int .u64 w), (2, .int .i64 many), (7, pt F.p 0), (8, .int .u64 (65530 * 281474976710656 + ((0 : Nat) : Int))), (10, .int .i64 many), (76, .slice (some ⟨b0, o0, none⟩) l.length c), (77, .int .i64 (l.length : Int)), (78, .int .i64 (i2_ : Int))]) (fun hg16 => ?_) (fun hg16 => ?_)
                  · skip
                    replace hg16 := of_decide_eq_true hg16
                    refine SL_segT 5 [(96, .bool (decide (e2 < many))), (18, .bool false), (17, .int .u64 18445336698825998336), (16, .int .i64 e2), (79, .bool (decide ((i2_ : Int) < (l.length : Int)))), (0, .slice (some ⟨b0, o0, none⟩) l.length c), (1, .int .u64 w), (2, .int .i64 many), (7, pt F.p 0), (8, .int .u64 (65530 * 281474976710656 + ((0 : Nat) : Int))), (10, .int .i64 many), (76, .slice (some ⟨b0, o0, none⟩) l.length c), (77, .int .i64 (l.length : Int)), (78, .int .i64 (i2_ : Int))] (by intro δ w; kernel_rfl) ?_
                    refine SL_tb (decide (e2 < many)) (fun tb_ => [(96, .bool tb_), (18, .bool false), (17, .int .u64 18445336698825998336), (16, .int .i64 e2), (79, .bool (decide ((i2_ : Int) < (l.length : Int)))), (0, .slice (some ⟨b0, o0, none⟩) l.length c), (1, .int .u64 w), (2, .int .i64 many), (7, pt F.p 0), (8, .int .u64 (65530 * 281474976710656 + ((0 : Nat) : Int))), (10, .int .i64 many), (76, .slice (some ⟨b0, o0, none⟩) l.length c), (77, .int .i64 (l.length : Int)), (78, .int .i64 (i2_ : Int))]) (fun hg17 => ?_) (fun hg17 => ?_)
                    · skip
                      replace hg17 := of_decide_eq_true hg17
                      refine SL_s4 4 19 (.bool (w != 18445336698825998340)) 99 (.bool (w != 18445336698825998340)) 98 (.bool (w != 18445336698825998340)) 97 (.int .u64 w) (by intro δ w; kernel_rfl) ?_
                      refine SL_nil (n_then ?_)
                      refine SW_seq ?_
                      refine SW_region ?_
                      refine SL_s4 4 103 (.bool (!(false == (w != 18445336698825998340)))) 102 (.bool (!(false == (w != 18445336698825998340)))) 101 (.bool (w != 18445336698825998340)) 100 (.bool false) (by intro δ w; kernel_rfl) ?_
                      refine SL_tb (!(false == (w != 18445336698825998340))) (fun tb_ => [(103, .bool tb_), (102, .bool tb_), (101, .bool (w != 18445336698825998340)), (100, .bool false), (19, .bool (w != 18445336698825998340)), (99, .bool (w != 18445336698825998340)), (98, .bool (w != 18445336698825998340)), (97, .int .u64 w), (96, .bool true), (18, .bool false), (17, .int .u64 18445336698825998336), (16, .int .i64 e2), (79, .bool (decide ((i2_ : Int) < (l.length : Int)))), (0, .slice (some ⟨b0, o0, none⟩) l.length c), (1, .int .u64 w), (2, .int .i64 many), (7, pt F.p 0), (8, .int .u64 (65530 * 281474976710656 + ((0 : Nat) : Int))), (10, .int .i64 many), (76, .slice (some ⟨b0, o0, none⟩) l.length c), (77, .int .i64 (l.length : Int)), (78, .int .i64 (i2_ : Int))]) (fun hg18 => ?_) (fun hg18 => ?_)
                      · skip
                        replace hg18 := bnot_t hg18
                        refine SL_segT 15 [(118, .bool true), (19, .bool (w != 18445336698825998340)), (18, .bool false), (17, .int .u64 18445336698825998336), (16, .int .i64 e2), (79, .bool (decide ((i2_ : Int) < (l.length : Int)))), (0, .slice (some ⟨b0, o0, none⟩) l.length c), (1, .int .u64 w), (2, .int .i64 many), (7, pt F.p 0), (8, .int .u64 (65530 * 281474976710656 + ((0 : Nat) : Int))), (10, .int .i64 many), (76, .slice (some ⟨b0, o0, none⟩) l.length c), (77, .int .i64 (l.length : Int)), (78, .int .i64 (i2_ : Int))] (by intro δ w; kernel_rfl) ?_
                        refine SL_nil (n_then ?_)
                        refine SW_true (fun _ => rfl) ?_
                        refine SW_seq ?_
                        refine SW_region ?_
                        refine SL_s1 1 6 (.bool false) (by intro δ w; kernel_rfl) ?_
                        refine SL_nil (n_then ?_)
                        refine SW_ret (r_in (r_then (r_then (r_in (r_then ?_)))))
                        refine body_end (.bool false) (fun _ => rfl) ?_
                        exfalso
                        first | omega | (simp at hg18; done) | (simp at hg18; omega) | (simp_all; done) | (simp_all; omega)
                      · skip
                        replace hg18 := bnot_f hg18
                        refine SL_segT 15 [(118, .bool false), (19, .bool (w != 18445336698825998340)), (18, .bool false), (17, .int .u64 18445336698825998336), (16, .int .i64 e2), (79, .bool (decide ((i2_ : Int) < (l.length : Int)))), (0, .slice (some ⟨b0, o0, none⟩) l.length c), (1, .int .u64 w), (2, .int .i64 many), (7, pt F.p 0), (8, .int .u64 (65530 * 281474976710656 + ((0 : Nat) : Int))), (10, .int .i64 many), (76, .slice (some ⟨b0, o0, none⟩) l.length c), (77, .int .i64 (l.length : Int)), (78, .int .i64 (i2_ : Int))] (by intro δ w; kernel_rfl) ?_
                        refine SL_nil (n_then ?_)
                        refine SW_false (fun _ => rfl) ?_
                        refine SW_skip (n_in (n_then ?_))
                        refine SW_region ?_
                        refine SL_s1 1 119 (.int .i64 (IntKind.wrap .i64 ((i2_ : Int) + 1))) (by intro δ w; kernel_rfl) ?_
                        rw [show IntKind.wrap .i64 ((i2_ : Int) + 1) = (i2_ : Int) + 1 from IntWalk.i64_in _ (by omega)]
                        refine SL_segT 1 [(78, .int .i64 ((i2_ : Int) + 1)), (118, .bool false), (19, .bool (w != 18445336698825998340)), (18, .bool false), (17, .int .u64 18445336698825998336), (16, .int .i64 e2), (79, .bool (decide ((i2_ : Int) < (l.length : Int)))), (0, .slice (some ⟨b0, o0, none⟩) l.length c), (1, .int .u64 w), (2, .int .i64 many), (7, pt F.p 0), (8, .int .u64 (65530 * 281474976710656 + ((0 : Nat) : Int))), (10, .int .i64 many), (76, .slice (some ⟨b0, o0, none⟩) l.length c), (77, .int .i64 (l.length : Int))] (by intro δ w; kernel_rfl) ?_
                        refine SL_nil (n_then ?_)
                        exact ⟨i2_ + 1, by omega, ⟨fun _ => rfl, (own_mk (J := ([])) (List.Perm.refl _) (by simp only [List.cons_append, List.append_assoc, List.nil_append, List.append_nil]))⟩, by omega⟩
                    · skip
                      replace hg17 := of_decide_eq_false hg17
                      refine SL_s4 4 19 (.bool false) 99 (.bool false) 98 (undef) 97 (undef) (by intro δ w; kernel_rfl) ?_
                      refine SL_nil (n_then ?_)
                      refine SW_seq ?_
                      refine SW_region ?_
                      refine SL_segT 19 [(118, .bool false), (19, .bool false), (18, .bool false), (17, .int .u64 18445336698825998336), (16, .int .i64 e2), (79, .bool (decide ((i2_ : Int) < (l.length : Int)))), (0, .slice (some ⟨b0, o0, none⟩) l.length c), (1, .int .u64 w), (2, .int .i64 many), (7, pt F.p 0), (8, .int .u64 (65530 * 281474976710656 + ((0 : Nat) : Int))), (10, .int .i64 many), (76, .slice (some ⟨b0, o0, none⟩) l.length c), (77, .int .i64 (l.length : Int)), (78, .int .i64 (i2_ : Int))] (by intro δ w; kernel_rfl) ?_
                      refine SL_nil (n_then ?_)
                      refine SW_false (fun _ => rfl) ?_
                      refine SW_skip (n_in (n_then ?_))
                      refine SW_region ?_
                      refine SL_s1 1 119 (.int .i64 (IntKind.wrap .i64 ((i2_ : Int) + 1))) (by intro δ w; kernel_rfl) ?_
                      rw [show IntKind.wrap .i64 ((i2_ : Int) + 1) = (i2_ : Int) + 1 from IntWalk.i64_in _ (by omega)]
                      refine SL_segT 1 [(78, .int .i64 ((i2_ : Int) + 1)), (118, .bool false), (19, .bool false), (18, .bool false), (17, .int .u64 18445336698825998336), (16, .int .i64 e2), (79, .bool (decide ((i2_ : Int) < (l.length : Int)))), (0, .slice (some ⟨b0, o0, none⟩) l.length c), (1, .int .u64 w), (2, .int .i64 many), (7, pt F.p 0), (8, .int .u64 (65530 * 281474976710656 + ((0 : Nat) : Int))), (10, .int .i64 many), (76, .slice (some ⟨b0, o0, none⟩) l.length c), (77, .int .i64 (l.length : Int))] (by intro δ w; kernel_rfl) ?_
                      refine SL_nil (n_then ?_)
                      exact ⟨i2_ + 1, by omega, ⟨fun _ => rfl, (own_mk (J := ([])) (List.Perm.refl _) (by simp only [List.cons_append, List.append_assoc, List.nil_append, List.append_nil]))⟩, by omega⟩
                  · skip
                    replace hg16 := of_decide_eq_false hg16
                    refine SL_segT 9 [(19, .bool false), (18, .bool false), (17, .int .u64 18445336698825998336), (16, .int .i64 e2), (79, .bool (decide ((i2_ : Int) < (l.length : Int)))), (0, .slice (some ⟨b0, o0, none⟩) l.length c), (1, .int .u64 w), (2, .int .i64 many), (7, pt F.p 0), (8, .int .u64 (65530 * 281474976710656 + ((0 : Nat) : Int))), (10, .int .i64 many), (76, .slice (some ⟨b0, o0, none⟩) l.length c), (77, .int .i64 (l.length : Int)), (78, .int .i64 (i2_ : Int))] (by intro δ w; kernel_rfl) ?_
                    refine SL_nil (n_then ?_)
                    refine SW_seq ?_
                    refine SW_region ?_
                    refine SL_segT 19 [(118, .bool false), (19, .bool false), (18, .bool false), (17, .int .u64 18445336698825998336), (16, .int .i64 e2), (79, .bool (decide ((i2_ : Int) < (l.length : Int)))), (0, .slice (some ⟨b0, o0, none⟩) l.length c), (1, .int .u64 w), (2, .int .i64 many), (7, pt F.p 0), (8, .int .u64 (65530 * 281474976710656 + ((0 : Nat) : Int))), (10, .int .i64 many), (76, .slice (some ⟨b0, o0, none⟩) l.length c), (77, .int .i64 (l.length : Int)), (78, .int .i64 (i2_ : Int))] (by intro δ w; kernel_rfl) ?_
                    refine SL_nil (n_then ?_)
                    refine SW_false (fun _ => rfl) ?_
                    refine SW_skip (n_in (n_then ?_))
                    refine SW_region ?_
                    refine SL_s1 1 119 (.int .i64 (IntKind.wrap .i64 ((i2_ : Int) + 1))) (by intro δ w; kernel_rfl) ?_
                    rw [show IntKind.wrap .i64 ((i2_ : Int) + 1) = (i2_ : Int) + 1 from IntWalk.i64_in _ (by omega)]
                    refine SL_segT 1 [(78, .int .i64 ((i2_ : Int) + 1)), (118, .bool false), (19, .bool false), (18, .bool false), (17, .int .u64 18445336698825998336), (16, .int .i64 e2), (79, .bool (decide ((i2_ : Int) < (l.length : Int)))), (0, .slice (some ⟨b0, o0, none⟩) l.length c), (1, .int .u64 w), (2, .int .i64 many), (7, pt F.p 0), (8, .int .u64 (65530 * 281474976710656 + ((0 : Nat) : Int))), (10, .int .i64 many), (76, .slice (some ⟨b0, o0, none⟩) l.length c), (77, .int .i64 (l.length : Int))] (by intro δ w; kernel_rfl) ?_
                    refine SL_nil (n_then ?_)
                    exact ⟨i2_ + 1, by omega, ⟨fun _ => rfl, (own_mk (J := ([])) (List.Perm.refl _) (by simp only [List.cons_append, List.append_assoc, List.nil_append, List.append_nil]))⟩, by omega⟩
              · skip
                replace hc11 := of_decide_eq_false hc11
                refine SW_exit (x_then (x_then (x_in (n_then ?_))))
                refine SW_seq ?_
                refine SW_region ?_
                refine SL_s2 2 121 (.int .u64 (65530 * 281474976710656 + ((0 : Nat) : Int))) 120 (pt F.p 0) (by intro δ w; kernel_rfl) ?_
                refine SL_cons ⟨rfl, fun _ => rfl⟩ (O_call 24 #[pt F.p 0, .int .u64 (65530 * 281474976710656 + ((0 : Nat) : Int))] rfl (by intro δ w; kernel_rfl) ((hp_Len hIK1 (n := 0) (by rw [hqK1]; exact objA 1 (by decide) (by decide)) (by rw [hqK1]; rfl)).use _) ?_)
                rintro _ σ9 ⟨_, hσ9, rfl⟩
                obtain rfl : σ9 = ((HeapV.ent K1 F) ++ ([])) := hσ9.trans (rfl)
                refine SL_s3 3 6 (.bool ((List.length (setLenQ E many) : Int) == many)) 124 (.bool ((List.length (setLenQ E many) : Int) == many)) 123 (.int .i64 many) (by intro δ w; kernel_rfl) ?_
                refine SL_nil (n_then ?_)
                refine SW_ret ?_
                refine body_end (.bool ((List.length (setLenQ E many) : Int) == many)) (fun _ => rfl) ?_
                exact ⟨(), ⟨_, List.Perm.refl _⟩, congrArg Value.bool (by rw [hqlen]; simp)⟩
            · skip
              replace hc10 := of_decide_eq_false hc10
              refine SW_skip (n_then ?_)
              refine SW_seq ?_
              refine SW_seq ?_
              refine SW_region ?_
              refine SL_s3 3 78 (.int .i64 0) 77 (.int .i64 (l.length : Int)) 76 (.slice (some ⟨b0, o0, none⟩) l.length c) (by intro δ w; kernel_rfl) ?_
              refine SL_nil (n_then ?_)
              refine SW_block ?_
              have hil : i = l.length := by omega
              rw [hil] at hi3
              have hQ : setLenQ E many = setLenL E E.length := by unfold setLenQ; rw [if_neg hc10, setLenL_self]
              have htell : ∀ (j : Nat) (m : Int), l[j]? = some m → elemO (setLenQ E many) m = if 0 ≤ m ∧ m < mo ∧ w ≠ 18445336698825998340 then (w, true) else (18445336698825998336, false) := fun j m hm => by rw [hQ, hi3.tells hm (by omega)]; rw [show ((E.length : Nat) : Int) = mo from by omega]
              have hqlen : ((setLenQ E many).length : Int) = mo := by rw [hQ, setLenL_len]; omega
              clear hil
              refine SW_loop (α := Nat) (fun z_ ρ_ σ_ => Fits ρ_ σ_ [(0, .slice (some ⟨b0, o0, none⟩) l.length c), (1, .int .u64 w), (2, .int .i64 many), (7, pt F.p 0), (8, .int .u64 (65530 * 281474976710656 + ((0 : Nat) : Int))), (10, .int .i64 mo), (76, .slice (some ⟨b0, o0, none⟩) l.length c), (77, .int .i64 (l.length : Int)), (78, .int .i64 (z_ : Int))] ((HeapV.ent K1 F) ++ ([])) ∧ z_ ≤ l.length) (fun z_ => l.length - z_) 0 ⟨⟨fun _ => rfl, (own_mk (J := ([])) (List.Perm.refl _) (by simp only [List.cons_append, List.append_assoc, List.nil_append, List.append_nil]))⟩, Nat.zero_le _⟩ ?_
              rintro i2_ ρ_ σ_ ⟨hfit, hi0⟩
              refine SW_fits hfit ?_
              clear hfit
              refine SW_seq ?_
              refine SW_region ?_
              refine SL_s1 1 79 (.bool (decide ((i2_ : Int) < (l.length : Int)))) (by intro δ w; kernel_rfl) ?_
              refine SL_nil (n_then ?_)
              refine SW_seq ?_
              refine SW_cond (decide ((i2_ : Int) < (l.length : Int))) (fun _ => rfl) (fun hc19 => ?_) (fun hc19 => ?_)
              · skip
                replace hc19 := of_decide_eq_true hc19
                refine SW_skip (n_then ?_)
                refine SW_seq ?_
                refine SW_block ?_
                refine SW_seq ?_
                refine SW_region ?_
                refine SL_cons ⟨rfl, fun _ => rfl⟩ (O_indexAddr' (i2_ : Int) (o0 + i2_) b0 o0 l.length c .i64 1 Try.underlying50 (by kernel_rfl) (fun _ => rfl) (fun _ => rfl) (by omega) (by omega) (by omega) rfl ?_)
                obtain ⟨e4, he4⟩ : ∃ y_, l[i2_]? = some y_ := ⟨_, List.getElem?_eq_getElem (by omega)⟩
                refine SL_cons ⟨rfl, fun _ => rfl⟩ (O_load b0 (o0 + i2_) (.int .i64 e4) (fun _ => rfl) (by kernel_rfl) (Cell.mono (hq0 _ _ (map_cell he4 rfl)) (fun e he => absurd he List.not_mem_nil)) rfl ?_)
                refine SL_s1 1 16 (.int .i64 e4) (by intro δ w; kernel_rfl) ?_
                refine SL_nil (n_then ?_)
                refine SW_seq ?_
                refine SW_region ?_
                refine SL_s3 3 85 (.int .i64 e4) 84 (.int .u64 (65530 * 281474976710656 + ((0 : Nat) : Int))) 83 (pt F.p 0) (by intro δ w; kernel_rfl) ?_
                by_cases hp5 : 0 ≤ e4 ∧ e4 < mo ∧ w ≠ 18445336698825998340
                · skip
                  refine SL_cons ⟨rfl, fun _ => rfl⟩ (O_call 26 #[pt F.p 0, .int .u64 (65530 * 281474976710656 + ((0 : Nat) : Int)), .int .i64 e4] rfl (by intro δ w; kernel_rfl) ((hp_Elem hIK1 (n := 0) (by rw [hqK1]; exact objA 1 (by decide) (by decide)) (by rw [hqK1]; rfl) e4).use _) ?_)
                  rintro v10 σ10 ⟨_, hσ10, hv10⟩
                  obtain rfl : v10 = .tuple #[.int .u64 w, .bool true] := hv10.trans (by show Value.tuple #[.int .u64 (elemO (setLenQ E many) e4).1, .bool (elemO (setLenQ E many) e4).2] = _; rw [htell _ _ he4, if_pos hp5])
                  obtain rfl : σ10 = ((HeapV.ent K1 F) ++ ([])) := hσ10.trans (rfl)
                  refine SL_s5 5 18 (.bool true) 17 (.int .u64 w) 88 (.bool true) 87 (.int .u64 w) 82 (.tuple #[.int .u64 w, .bool true]) (by intro δ w; kernel_rfl) ?_
                  refine SL_nil (n_then ?_)
                  refine SW_seq ?_
                  refine SW_region ?_
                  refine SL_s3 3 91 (.bool (decide (e4 ≥ 0))) 90 (.bool (decide (e4 ≥ 0))) 89 (.int .i64 e4) (by intro δ w; kernel_rfl) ?_
                  refine SL_tb (decide (e4 ≥ 0)) (fun tb_ => [(91, .bool tb_), (90, .bool tb_), (89, .int .i64 e4), (18, .bool true), (17, .int .u64 w), (88, .bool true), (87, .int .u64 w), (82, .tuple #[.int .u64 w, .bool true]), (86, .tuple #[.int .u64 w, .bool true]), (85, .int .i64 e4), (84, .int .u64 (65530 * 281474976710656 + ((0 : Nat) : Int))), (83, pt F.p 0), (16, .int .i64 e4), (81, .int .i64 e4), (80, pt b0 (o0 + i2_)), (79, .bool (decide ((i2_ : Int) < (l.length : Int)))), (0, .slice (some ⟨b0, o0, none⟩) l.length c), (1, .int .u64 w), (2, .int .i64 many), (7, pt F.p 0), (8, .int .u64 (65530 * 281474976710656 + ((0 : Nat) : Int))), (10, .int .i64 mo), (76, .slice (some ⟨b0, o0, none⟩) l.length c), (77, .int .i64 (l.length : Int)), (78, .int .i64 (i2_ : Int))]) (fun hg20 => ?_) (fun hg20 => ?_)
                  · skip
                    replace hg20 := of_decide_eq_true hg20
                    refine SL_segT 5 [(96, .bool (decide (e4 < mo))), (18, .bool true), (17, .int .u64 w), (16, .int .i64 e4), (79, .bool (decide ((i2_ : Int) < (l.length : Int)))), (0, .slice (some ⟨b0, o0, none⟩) l.length c), (1, .int .u64 w), (2, .int .i64 many), (7, pt F.p 0), (8, .int .u64 (65530 * 281474976710656 + ((0 : Nat) : Int))), (10, .int .i64 mo), (76, .slice (some ⟨b0, o0, none⟩) l.length c), (77, .int .i64 (l.length : Int)), (78, .int .i64 (i2_ : Int))] (by intro δ w; kernel_rfl) ?_
                    refine SL_tb (decide (e4 < mo)) (fun tb_ => [(96, .bool tb_), (18, .bool true), (17, .int .u64 w), (16, .int .i64 e4), (79, .bool (decide ((i2_ : Int) < (l.length : Int)))), (0, .slice (some ⟨b0, o0, none⟩) l.length c), (1, .int .u64 w), (2, .int .i64 many), (7, pt F.p 0), (8, .int .u64 (65530 * 281474976710656 + ((0 : Nat) : Int))), (10, .int .i64 mo), (76, .slice (some ⟨b0, o0, none⟩) l.length c), (77, .int .i64 (l.length : Int)), (78, .int .i64 (i2_ : Int))]) (fun hg21 => ?_) (fun hg21 => ?_)
                    · skip
                      replace hg21 := of_decide_eq_true hg21
                      refine SL_s4 4 19 (.bool (w != 18445336698825998340)) 99 (.bool (w != 18445336698825998340)) 98 (.bool (w != 18445336698825998340)) 97 (.int .u64 w) (by intro δ w; kernel_rfl) ?_
                      refine SL_nil (n_then ?_)
                      refine SW_seq ?_
                      refine SW_region ?_
                      refine SL_s4 4 103 (.bool (!(true == (w != 18445336698825998340)))) 102 (.bool (!(true == (w != 18445336698825998340)))) 101 (.bool (w != 18445336698825998340)) 100 (.bool true) (by intro δ w; kernel_rfl) ?_
                      refine SL_tb (!(true == (w != 18445336698825998340))) (fun tb_ => [(103, .bool tb_), (102, .bool tb_), (101, .bool (w != 18445336698825998340)), (100, .bool true), (19, .bool (w != 18445336698825998340)), (99, .bool (w != 18445336698825998340)), (98, .bool (w != 18445336698825998340)), (97, .int .u64 w), (96, .bool true), (18, .bool true), (17, .int .u64 w), (16, .int .i64 e4), (79, .bool (decide ((i2_ : Int) < (l.length : Int)))), (0, .slice (some ⟨b0, o0, none⟩) l.length c), (1, .int .u64 w), (2, .int .i64 many), (7, pt F.p 0), (8, .int .u64 (65530 * 281474976710656 + ((0 : Nat) : Int))), (10, .int .i64 mo), (76, .slice (some ⟨b0, o0, none⟩) l.length c), (77, .int .i64 (l.length : Int)), (78, .int .i64 (i2_ : Int))]) (fun hg22 => ?_) (fun hg22 => ?_)
                      · skip
                        replace hg22 := bnot_t hg22
                        refine SL_segT 15 [(118, .bool true), (19, .bool (w != 18445336698825998340)), (18, .bool true), (17, .int .u64 w), (16, .int .i64 e4), (79, .bool (decide ((i2_ : Int) < (l.length : Int)))), (0, .slice (some ⟨b0, o0, none⟩) l.length c), (1, .int .u64 w), (2, .int .i64 many), (7, pt F.p 0), (8, .int .u64 (65530 * 281474976710656 + ((0 : Nat) : Int))), (10, .int .i64 mo), (76, .slice (some ⟨b0, o0, none⟩) l.length c), (77, .int .i64 (l.length : Int)), (78, .int .i64 (i2_ : Int))] (by intro δ w; kernel_rfl) ?_
                        refine SL_nil (n_then ?_)
                        refine SW_true (fun _ => rfl) ?_
                        refine SW_seq ?_
                        refine SW_region ?_
                        refine SL_s1 1 6 (.bool false) (by intro δ w; kernel_rfl) ?_
                        refine SL_nil (n_then ?_)
                        refine SW_ret (r_in (r_then (r_then (r_in (r_then ?_)))))
                        refine body_end (.bool false) (fun _ => rfl) ?_
                        exfalso
                        first | omega | (simp at hg22; done) | (simp at hg22; omega) | (simp_all; done) | (simp_all; omega)
                      · skip
                        replace hg22 := bnot_f hg22
                        refine SL_segT 8 [(111, .bool (w != w)), (19, .bool (w != 18445336698825998340)), (18, .bool true), (17, .int .u64 w), (16, .int .i64 e4), (79, .bool (decide ((i2_ : Int) < (l.length : Int)))), (0, .slice (some ⟨b0, o0, none⟩) l.length c), (1, .int .u64 w), (2, .int .i64 many), (7, pt F.p 0), (8, .int .u64 (65530 * 281474976710656 + ((0 : Nat) : Int))), (10, .int .i64 mo), (76, .slice (some ⟨b0, o0, none⟩) l.length c), (77, .int .i64 (l.length : Int)), (78, .int .i64 (i2_ : Int))] (by intro δ w; kernel_rfl) ?_
                        refine SL_tb (w != w) (fun tb_ => [(111, .bool tb_), (19, .bool (w != 18445336698825998340)), (18, .bool true), (17, .int .u64 w), (16, .int .i64 e4), (79, .bool (decide ((i2_ : Int) < (l.length : Int)))), (0, .slice (some ⟨b0, o0, none⟩) l.length c), (1, .int .u64 w), (2, .int .i64 many), (7, pt F.p 0), (8, .int .u64 (65530 * 281474976710656 + ((0 : Nat) : Int))), (10, .int .i64 mo), (76, .slice (some ⟨b0, o0, none⟩) l.length c), (77, .int .i64 (l.length : Int)), (78, .int .i64 (i2_ : Int))]) (fun hg23 => ?_) (fun hg23 => ?_)
                        · skip
                          refine SL_s7 7 118 (.bool true) 117 (undef) 116 (undef) 115 (undef) 114 (undef) 113 (undef) 112 (undef) (by intro δ w; kernel_rfl) ?_
                          refine SL_nil (n_then ?_)
                          refine SW_true (fun _ => rfl) ?_
                          refine SW_seq ?_
                          refine SW_region ?_
                          refine SL_s1 1 6 (.bool false) (by intro δ w; kernel_rfl) ?_
                          refine SL_nil (n_then ?_)
                          refine SW_ret (r_in (r_then (r_then (r_in (r_then ?_)))))
                          refine body_end (.bool false) (fun _ => rfl) ?_
                          exfalso
                          first | omega | (simp at hg23; done) | (simp at hg23; omega) | (simp_all; done) | (simp_all; omega)
                        · skip
                          refine SL_s7 7 118 (.bool false) 117 (.bool false) 116 (undef) 115 (undef) 114 (.bool false) 113 (.bool false) 112 (.bool true) (by intro δ w; kernel_rfl) ?_
                          refine SL_nil (n_then ?_)
                          refine SW_false (fun _ => rfl) ?_
                          refine SW_skip (n_in (n_then ?_))
                          refine SW_region ?_
                          refine SL_s1 1 119 (.int .i64 (IntKind.wrap .i64 ((i2_ : Int) + 1))) (by intro δ w; kernel_rfl) ?_
                          rw [show IntKind.wrap .i64 ((i2_ : Int) + 1) = (i2_ : Int) + 1 from IntWalk.i64_in _ (by omega)]
                          refine SL_segT 1 [(78, .int .i64 ((i2_ : Int) + 1)), (118, .bool false), (19, .bool (w != 18445336698825998340)), (18, .bool true), (17, .int .u64 w), (16, .int .i64 e4), (79, .bool (decide ((i2_ : Int) < (l.length : Int)))), (0, .slice (some ⟨b0, o0, none⟩) l.length c), (1, .int .u64 w), (2, .int .i64 many), (7, pt F.p 0), (8, .int .u64 (65530 * 281474976710656 + ((0 : Nat) : Int))), (10, .int .i64 mo), (76, .slice (some ⟨b0, o0, none⟩) l.length c), (77, .int .i64 (l.length : Int))] (by intro δ w; kernel_rfl) ?_
                          refine SL_nil (n_then ?_)
                          exact ⟨i2_ + 1, by omega, ⟨fun _ => rfl, (own_mk (J := ([])) (List.Perm.refl _) (by simp only [List.cons_append, List.append_assoc, List.nil_append, List.append_nil]))⟩, by omega⟩
                    · skip
                      replace hg21 := of_decide_eq_false hg21
                      refine SL_s4 4 19 (.bool false) 99 (.bool false) 98 (undef) 97 (undef) (by intro δ w; kernel_rfl) ?_
                      refine SL_nil (n_then ?_)
                      refine SW_seq ?_
                      refine SW_region ?_
                      refine SL_segT 19 [(118, .bool true), (19, .bool false), (18, .bool true), (17, .int .u64 w), (16, .int .i64 e4), (79, .bool (decide ((i2_ : Int) < (l.length : Int)))), (0, .slice (some ⟨b0, o0, none⟩) l.length c), (1, .int .u64 w), (2, .int .i64 many), (7, pt F.p 0), (8, .int .u64 (65530 * 281474976710656 + ((0 : Nat) : Int))), (10, .int .i64 mo), (76, .slice (some ⟨b0, o0, none⟩) l.length c), (77, .int .i64 (l.length : Int)), (78, .int .i64 (i2_ : Int))] (by intro δ w; kernel_rfl) ?_
                      refine SL_nil (n_then ?_)
                      refine SW_true (fun _ => rfl) ?_
                      refine SW_seq ?_
                      refine SW_region ?_
                      refine SL_s1 1 6 (.bool false) (by intro δ w; kernel_rfl) ?_
                      refine SL_nil (n_then ?_)
                      refine SW_ret (r_in (r_then (r_then (r_in (r_then ?_)))))
                      refine body_end (.bool false) (fun _ => rfl) ?_
                      exfalso
                      first | omega | (simp at hg21; done) | (simp at hg21; omega) | (simp_all; done) | (simp_all; omega)
                  · skip
                    replace hg20 := of_decide_eq_false hg20
                    refine SL_segT 9 [(19, .bool false), (18, .bool true), (17, .int .u64 w), (16, .int .i64 e4), (79, .bool (decide ((i2_ : Int) < (l.length : Int)))), (0, .slice (some ⟨b0, o0, none⟩) l.length c), (1, .int .u64 w), (2, .int .i64 many), (7, pt F.p 0), (8, .int .u64 (65530 * 281474976710656 + ((0 : Nat) : Int))), (10, .int .i64 mo), (76, .slice (some ⟨b0, o0, none⟩) l.length c), (77, .int .i64 (l.length : Int)), (78, .int .i64 (i2_ : Int))] (by intro δ w; kernel_rfl) ?_
                    refine SL_nil (n_then ?_)
                    refine SW_seq ?_
                    refine SW_region ?_
                    refine SL_segT 19 [(118, .bool true), (19, .bool false), (18, .bool true), (17, .int .u64 w), (16, .int .i64 e4), (79, .bool (decide ((i2_ : Int) < (l.length : Int)))), (0, .slice (some ⟨b0, o0, none⟩) l.length c), (1, .int .u64 w), (2, .int .i64 many), (7, pt F.p 0), (8, .int .u64 (65530 * 281474976710656 + ((0 : Nat) : Int))), (10, .int .i64 mo), (76, .slice (some ⟨b0, o0, none⟩) l.length c), (77, .int .i64 (l.length : Int)), (78, .int .i64 (i2_ : Int))] (by intro δ w; kernel_rfl) ?_
                    refine SL_nil (n_then ?_)
                    refine SW_true (fun _ => rfl) ?_
                    refine SW_seq ?_
                    refine SW_region ?_
                    refine SL_s1 1 6 (.bool false) (by intro δ w; kernel_rfl) ?_
                    refine SL_nil (n_then ?_)
                    refine SW_ret (r_in (r_then (r_then (r_in (r_then ?_)))))
                    refine body_end (.bool false) (fun _ => rfl) ?_
                    exfalso
                    first | omega | (simp at hg20; done) | (simp at hg20; omega) | (simp_all; done) | (simp_all; omega)
                · skip
                  refine SL_cons ⟨rfl, fun _ => rfl⟩ (O_call 26 #[pt F.p 0, .int .u64 (65530 * 281474976710656 + ((0 : Nat) : Int)), .int .i64 e4] rfl (by intro δ w; kernel_rfl) ((hp_Elem hIK1 (n := 0) (by rw [hqK1]; exact objA 1 (by decide) (by decide)) (by rw [hqK1]; rfl) e4).use _) ?_)
                  rintro v11 σ11 ⟨_, hσ11, hv11⟩
                  obtain rfl : v11 = .tuple #[.int .u64 18445336698825998336, .bool false] := hv11.trans (by show Value.tuple #[.int .u64 (elemO (setLenQ E many) e4).1, .bool (elemO (setLenQ E many) e4).2] = _; rw [htell _ _ he4, if_neg hp5])
                  obtain rfl : σ11 = ((HeapV.ent K1 F) ++ ([])) := hσ11.trans (rfl)
                  refine SL_s5 5 18 (.bool false) 17 (.int .u64 18445336698825998336) 88 (.bool false) 87 (.int .u64 18445336698825998336) 82 (.tuple #[.int .u64 18445336698825998336, .bool false]) (by intro δ w; kernel_rfl) ?_
                  refine SL_nil (n_then ?_)
                  refine SW_seq ?_
                  refine SW_region ?_
                  refine SL_s3 3 91 (.bool (decide (e4 ≥ 0))) 90 (.bool (decide (e4 ≥ 0))) 89 (.int .i64 e4) (by intro δ w; kernel_rfl) ?_
                  refine SL_tb (decide (e4 ≥ 0)) (fun tb_ => [(91, .bool tb_), (90, .bool tb_), (89, .int .i64 e4), (18, .bool false), (17, .int .u64 18445336698825998336), (88, .bool false), (87, .int .u64 18445336698825998336), (82, .tuple #[.int .u64 18445336698825998336, .bool false]), (86, .tuple #[.int .u64 18445336698825998336, .bool false]), (85, .int .i64 e4), (84, .int .u64 (65530 * 281474976710656 + ((0 : Nat) : Int))), (83, pt F.p 0), (16, .int .i64 e4), (81, .int .i64 e4), (80, pt b0 (o0 + i2_)), (79, .bool (decide ((i2_ : Int) < (l.length : Int)))), (0, .slice (some ⟨b0, o0, none⟩) l.length c), (1, .int .u64 w), (2, .int .i64 many), (7, pt F.p 0), (8, .int .u64 (65530 * 281474976710656 + ((0 : Nat) : Int))), (10, .int .i64 mo), (76, .slice (some ⟨b0, o0, none⟩) l.length c), (77, .int .i64 (l.length : Int)), (78, .int .i64 (i2_ : Int))]) (fun hg24 => ?_) (fun hg24 => ?_)
                  · skip
                    replace hg24 := of_decide_eq_true hg24
                    refine SL_segT 5 [(96, .bool (decide (e4 < mo))), (18, .bool false), (17, .int .u64 18445336698825998336), (16, .int .i64 e4), (79, .bool (decide ((i2_ : Int) < (l.length : Int)))), (0, .slice (some ⟨b0, o0, none⟩) l.length c), (1, .int .u64 w), (2, .int .i64 many), (7, pt F.p 0), (8, .int .u64 (65530 * 281474976710656 + ((0 : Nat) : Int))), (10, .int .i64 mo), (76, .slice (some ⟨b0, o0, none⟩) l.length c), (77, .int .i64 (l.length : Int)), (78, .int .i64 (i2_ : Int))] (by intro δ w; kernel_rfl) ?_
                    refine SL_tb (decide (e4 < mo)) (fun tb_ => [(96, .bool tb_), (18, .bool false), (17, .int .u64 18445336698825998336), (16, .int .i64 e4), (79, .bool (decide ((i2_ : Int) < (l.length : Int)))), (0, .slice (some ⟨b0, o0, none⟩) l.length c), (1, .int .u64 w), (2, .int .i64 many), (7, pt F.p 0), (8, .int .u64 (65530 * 281474976710656 + ((0 : Nat) : Int))), (10, .int .i64 mo), (76, .slice (some ⟨b0, o0, none⟩) l.length c), (77, .int .i64 (l.length : Int)), (78, .int .i64 (i2_ : Int))]) (fun hg25 => ?_) (fun hg25 => ?_)
                    · skip
                      replace hg25 := of_decide_eq_true hg25
                      refine SL_s4 4 19 (.bool (w != 18445336698825998340)) 99 (.bool (w != 18445336698825998340)) 98 (.bool (w != 18445336698825998340)) 97 (.int .u64 w) (by intro δ w; kernel_rfl) ?_
                      refine SL_nil (n_then ?_)
                      refine SW_seq ?_
                      refine SW_region ?_
                      refine SL_s4 4 103 (.bool (!(false == (w != 18445336698825998340)))) 102 (.bool (!(false == (w != 18445336698825998340)))) 101 (.bool (w != 18445336698825998340)) 100 (.bool false) (by intro δ w; kernel_rfl) ?_
                      refine SL_tb (!(false == (w != 18445336698825998340))) (fun tb_ => [(103, .bool tb_), (102, .bool tb_), (101, .bool (w != 18445336698825998340)), (100, .bool false), (19, .bool (w != 18445336698825998340)), (99, .bool (w != 18445336698825998340)), (98, .bool (w != 18445336698825998340)), (97, .int .u64 w), (96, .bool true), (18, .bool false), (17, .int .u64 18445336698825998336), (16, .int .i64 e4), (79, .bool (decide ((i2_ : Int) < (l.length : Int)))), (0, .slice (some ⟨b0, o0, none⟩) l.length c), (1, .int .u64 w), (2, .int .i64 many), (7, pt F.p 0), (8, .int .u64 (65530 * 281474976710656 + ((0 : Nat) : Int))), (10, .int .i64 mo), (76, .slice (some ⟨b0, o0, none⟩) l.length c), (77, .int .i64 (l.length : Int)), (78, .int .i64 (i2_ : Int))]) (fun hg26 => ?_) (fun hg26 => ?_)
                      · skip
                        replace hg26 := bnot_t hg26
                        refine SL_segT 15 [(118, .bool true), (19, .bool (w != 18445336698825998340)), (18, .bool false), (17, .int .u64 18445336698825998336), (16, .int .i64 e4), (79, .bool (decide ((i2_ : Int) < (l.length : Int)))), (0, .slice (some ⟨b0, o0, none⟩) l.length c), (1, .int .u64 w), (2, .int .i64 many), (7, pt F.p 0), (8, .int .u64 (65530 * 281474976710656 + ((0 : Nat) : Int))), (10, .int .i64 mo), (76, .slice (some ⟨b0, o0, none⟩) l.length c), (77, .int .i64 (l.length : Int)), (78, .int .i64 (i2_ : Int))] (by intro δ w; kernel_rfl) ?_
                        refine SL_nil (n_then ?_)
                        refine SW_true (fun _ => rfl) ?_
                        refine SW_seq ?_
                        refine SW_region ?_
                        refine SL_s1 1 6 (.bool false) (by intro δ w; kernel_rfl) ?_
                        refine SL_nil (n_then ?_)
                        refine SW_ret (r_in (r_then (r_then (r_in (r_then ?_)))))
                        refine body_end (.bool false) (fun _ => rfl) ?_
                        exfalso
                        first | omega | (simp at hg26; done) | (simp at hg26; omega) | (simp_all; done) | (simp_all; omega)
                      · skip
                        replace hg26 := bnot_f hg26
                        refine SL_segT 15 [(118, .bool false), (19, .bool (w != 18445336698825998340)), (18, .bool false), (17, .int .u64 18445336698825998336), (16, .int .i64 e4), (79, .bool (decide ((i2_ : Int) < (l.length : Int)))), (0, .slice (some ⟨b0, o0, none⟩) l.length c), (1, .int .u64 w), (2, .int .i64 many), (7, pt F.p 0), (8, .int .u64 (65530 * 281474976710656 + ((0 : Nat) : Int))), (10, .int .i64 mo), (76, .slice (some ⟨b0, o0, none⟩) l.length c), (77, .int .i64 (l.length : Int)), (78, .int .i64 (i2_ : Int))] (by intro δ w; kernel_rfl) ?_
                        refine SL_nil (n_then ?_)
                        refine SW_false (fun _ => rfl) ?_
                        refine SW_skip (n_in (n_then ?_))
                        refine SW_region ?_
                        refine SL_s1 1 119 (.int .i64 (IntKind.wrap .i64 ((i2_ : Int) + 1))) (by intro δ w; kernel_rfl) ?_
                        rw [show IntKind.wrap .i64 ((i2_ : Int) + 1) = (i2_ : Int) + 1 from IntWalk.i64_in _ (by omega)]
                        refine SL_segT 1 [(78, .int .i64 ((i2_ : Int) + 1)), (118, .bool false), (19, .bool (w != 18445336698825998340)), (18, .bool false), (17, .int .u64 18445336698825998336), (16, .int .i64 e4), (79, .bool (decide ((i2_ : Int) < (l.length : Int)))), (0, .slice (some ⟨b0, o0, none⟩) l.length c), (1, .int .u64 w), (2, .int .i64 many), (7, pt F.p 0), (8, .int .u64 (65530 * 281474976710656 + ((0 : Nat) : Int))), (10, .int .i64 mo), (76, .slice (some ⟨b0, o0, none⟩) l.length c), (77, .int .i64 (l.length : Int))] (by intro δ w; kernel_rfl) ?_
                        refine SL_nil (n_then ?_)
                        exact ⟨i2_ + 1, by omega, ⟨fun _ => rfl, (own_mk (J := ([])) (List.Perm.refl _) (by simp only [List.cons_append, List.append_assoc, List.nil_append, List.append_nil]))⟩, by omega⟩
                    · skip
                      replace hg25 := of_decide_eq_false hg25
                      refine SL_s4 4 19 (.bool false) 99 (.bool false) 98 (undef) 97 (undef) (by intro δ w; kernel_rfl) ?_
                      refine SL_nil (n_then ?_)
                      refine SW_seq ?_
                      refine SW_region ?_
                      refine SL_segT 19 [(118, .bool false), (19, .bool false), (18, .bool false), (17, .int .u64 18445336698825998336), (16, .int .i64 e4), (79, .bool (decide ((i2_ : Int) < (l.length : Int)))), (0, .slice (some ⟨b0, o0, none⟩) l.length c), (1, .int .u64 w), (2, .int .i64 many), (7, pt F.p 0), (8, .int .u64 (65530 * 281474976710656 + ((0 : Nat) : Int))), (10, .int .i64 mo), (76, .slice (some ⟨b0, o0, none⟩) l.length c), (77, .int .i64 (l.length : Int)), (78, .int .i64 (i2_ : Int))] (by intro δ w; kernel_rfl) ?_
                      refine SL_nil (n_then ?_)
                      refine SW_false (fun _ => rfl) ?_
                      refine SW_skip (n_in (n_then ?_))
                      refine SW_region ?_
                      refine SL_s1 1 119 (.int .i64 (IntKind.wrap .i64 ((i2_ : Int) + 1))) (by intro δ w; kernel_rfl) ?_
                      rw [show IntKind.wrap .i64 ((i2_ : Int) + 1) = (i2_ : Int) + 1 from IntWalk.i64_in _ (by omega)]
                      refine SL_segT 1 [(78, .int .i64 ((i2_ : Int) + 1)), (118, .bool false), (19, .bool false), (18, .bool false), (17, .int .u64 18445336698825998336), (16, .int .i64 e4), (79, .bool (decide ((i2_ : Int) < (l.length : Int)))), (0, .slice (some ⟨b0, o0, none⟩) l.length c), (1, .int .u64 w), (2, .int .i64 many), (7, pt F.p 0), (8, .int .u64 (65530 * 281474976710656 + ((0 : Nat) : Int))), (10, .int .i64 mo), (76, .slice (some ⟨b0, o0, none⟩) l.length c), (77, .int .i64 (l.length : Int))] (by intro δ w; kernel_rfl) ?_
                      refine SL_nil (n_then ?_)
                      exact ⟨i2_ + 1, by omega, ⟨fun _ => rfl, (own_mk (J := ([])) (List.Perm.refl _) (by simp only [List.cons_append, List.append_assoc, List.nil_append, List.append_nil]))⟩, by omega⟩
                  · skip
                    replace hg24 := of_decide_eq_false hg24
                    refine SL_segT 9 [(19, .bool false), (18, .bool false), (17, .int .u64 18445336698825998336), (16, .int .i64 e4), (79, .bool (decide ((i2_ : Int) < (l.length : Int)))), (0, .slice (some ⟨b0, o0, none⟩) l.length c), (1, .int .u64 w), (2, .int .i64 many), (7, pt F.p 0), (8, .int .u64 (65530 * 281474976710656 + ((0 : Nat) : Int))), (10, .int .i64 mo), (76, .slice (some ⟨b0, o0, none⟩) l.length c), (77, .int .i64 (l.length : Int)), (78, .int .i64 (i2_ : Int))] (by intro δ w; kernel_rfl) ?_
                    refine SL_nil (n_then ?_)
                    refine SW_seq ?_
                    refine SW_region ?_
                    refine SL_segT 19 [(118, .bool false), (19, .bool false), (18, .bool false), (17, .int .u64 18445336698825998336), (16, .int .i64 e4), (79, .bool (decide ((i2_ : Int) < (l.length : Int)))), (0, .slice (some ⟨b0, o0, none⟩) l.length c), (1, .int .u64 w), (2, .int .i64 many), (7, pt F.p 0), (8, .int .u64 (65530 * 281474976710656 + ((0 : Nat) : Int))), (10, .int .i64 mo), (76, .slice (some ⟨b0, o0, none⟩) l.length c), (77, .int .i64 (l.length : Int)), (78, .int .i64 (i2_ : Int))] (by intro δ w; kernel_rfl) ?_
                    refine SL_nil (n_then ?_)
                    refine SW_false (fun _ => rfl) ?_
                    refine SW_skip (n_in (n_then ?_))
                    refine SW_region ?_
                    refine SL_s1 1 119 (.int .i64 (IntKind.wrap .i64 ((i2_ : Int) + 1))) (by intro δ w; kernel_rfl) ?_
                    rw [show IntKind.wrap .i64 ((i2_ : Int) + 1) = (i2_ : Int) + 1 from IntWalk.i64_in _ (by omega)]
                    refine SL_segT 1 [(78, .int .i64 ((i2_ : Int) + 1)), (118, .bool false), (19, .bool false), (18, .bool false), (17, .int .u64 18445336698825998336), (16, .int .i64 e4), (79, .bool (decide ((i2_ : Int) < (l.length : Int)))), (0, .slice (some ⟨b0, o0, none⟩) l.length c), (1, .int .u64 w), (2, .int .i64 many), (7, pt F.p 0), (8, .int .u64 (65530 * 281474976710656 + ((0 : Nat) : Int))), (10, .int .i64 mo), (76, .slice (some ⟨b0, o0, none⟩) l.length c), (77, .int .i64 (l.length : Int))] (by intro δ w; kernel_rfl) ?_
                    refine SL_nil (n_then ?_)
                    exact ⟨i2_ + 1, by omega, ⟨fun _ => rfl, (own_mk (J := ([])) (List.Perm.refl _) (by simp only [List.cons_append, List.append_assoc, List.nil_append, List.append_nil]))⟩, by omega⟩
              · skip
                replace hc19 := of_decide_eq_false hc19
                refine SW_exit (x_then (x_then (x_in (n_then ?_))))
                refine SW_seq ?_
                refine SW_region ?_
                refine SL_s2 2 121 (.int .u64 (65530 * 281474976710656 + ((0 : Nat) : Int))) 120 (pt F.p 0) (by intro δ w; kernel_rfl) ?_
                refine SL_cons ⟨rfl, fun _ => rfl⟩ (O_call 24 #[pt F.p 0, .int .u64 (65530 * 281474976710656 + ((0 : Nat) : Int))] rfl (by intro δ w; kernel_rfl) ((hp_Len hIK1 (n := 0) (by rw [hqK1]; exact objA 1 (by decide) (by decide)) (by rw [hqK1]; rfl)).use _) ?_)
                rintro _ σ12 ⟨_, hσ12, rfl⟩
                obtain rfl : σ12 = ((HeapV.ent K1 F) ++ ([])) := hσ12.trans (rfl)
                refine SL_s3 3 6 (.bool ((List.length (setLenQ E many) : Int) == mo)) 124 (.bool ((List.length (setLenQ E many) : Int) == mo)) 123 (.int .i64 mo) (by intro δ w; kernel_rfl) ?_
                refine SL_nil (n_then ?_)
                refine SW_ret ?_
                refine body_end (.bool ((List.length (setLenQ E many) : Int) == mo)) (fun _ => rfl) ?_
                exact ⟨(), ⟨_, List.Perm.refl _⟩, congrArg Value.bool (by rw [hqlen]; simp)⟩
        · skip
          replace hg8 := of_decide_eq_false hg8
          refine SL_segT 4 [(73, .bool (!((decide (0 ≤ many ∧ many ≤ 4096)) == false))), (14, .bool (decide (0 ≤ many ∧ many ≤ 4096))), (61, .bool ((List.length E : Int) != mo)), (35, .bool (decide ((i : Int) < (l.length : Int)))), (0, .slice (some ⟨b0, o0, none⟩) l.length c), (1, .int .u64 w), (2, .int .i64 many), (7, pt F.p 0), (8, .int .u64 (65530 * 281474976710656 + ((0 : Nat) : Int))), (10, .int .i64 mo), (32, .slice (some ⟨b0, o0, none⟩) l.length c), (33, .int .i64 (l.length : Int)), (34, .int .i64 (i : Int))] (by intro δ w; kernel_rfl) ?_
          refine SL_nil (n_then ?_)
          refine SW_cond (!((decide (0 ≤ many ∧ many ≤ 4096)) == false)) (fun _ => rfl) (fun hc27 => ?_) (fun hc27 => ?_)
          · skip
            replace hc27 := bnot_t hc27
            refine SW_seq ?_
            refine SW_region ?_
            refine SL_s1 1 6 (.bool false) (by intro δ w; kernel_rfl) ?_
            refine SL_nil (n_then ?_)
            refine SW_ret (r_then ?_)
            refine body_end (.bool false) (fun _ => rfl) ?_
            exfalso
            first | omega | (simp at hc27; done) | (simp at hc27; omega) | (simp_all; done) | (simp_all; omega)
          · skip
            replace hc27 := bnot_f hc27
            refine SW_skip (n_then ?_)
            refine SW_seq ?_
            refine SW_seq ?_
            refine SW_region ?_
            refine SL_s1 1 74 (.bool (decide (0 ≤ many ∧ many ≤ 4096))) (by intro δ w; kernel_rfl) ?_
            refine SL_nil (n_then ?_)
            refine SW_cond (decide (0 ≤ many ∧ many ≤ 4096)) (fun _ => rfl) (fun hc28 => ?_) (fun hc28 => ?_)
            · skip
              replace hc28 := of_decide_eq_true hc28
              refine SW_region ?_
              refine SL_segT 2 [(10, .int .i64 many), (74, .bool (decide (0 ≤ many ∧ many ≤ 4096))), (73, .bool (!((decide (0 ≤ many ∧ many ≤ 4096)) == false))), (14, .bool (decide (0 ≤ many ∧ many ≤ 4096))), (61, .bool ((List.length E : Int) != mo)), (35, .bool (decide ((i : Int) < (l.length : Int)))), (0, .slice (some ⟨b0, o0, none⟩) l.length c), (1, .int .u64 w), (2, .int .i64 many), (7, pt F.p 0), (8, .int .u64 (65530 * 281474976710656 + ((0 : Nat) : Int))), (32, .slice (some ⟨b0, o0, none⟩) l.length c), (33, .int .i64 (l.length : Int)), (34, .int .i64 (i : Int))] (by intro δ w; kernel_rfl) ?_
              refine SL_nil (n_then ?_)
              refine SW_seq ?_
              refine SW_seq ?_
              refine SW_region ?_
              refine SL_s3 3 78 (.int .i64 0) 77 (.int .i64 (l.length : Int)) 76 (.slice (some ⟨b0, o0, none⟩) l.length c) (by intro δ w; kernel_rfl) ?_
              refine SL_nil (n_then ?_)
              refine SW_block ?_
              have hil : i = l.length := by omega
              rw [hil] at hi3
              have hQ : setLenQ E many = setLenL E many.toNat := by unfold setLenQ; rw [if_pos hc28]
              have htell : ∀ (j : Nat) (m : Int), l[j]? = some m → elemO (setLenQ E many) m = if 0 ≤ m ∧ m < many ∧ w ≠ 18445336698825998340 then (w, true) else (18445336698825998336, false) := fun j m hm => by rw [hQ, hi3.tells hm (by omega)]; rw [show ((many.toNat : Nat) : Int) = many from by omega]
              have hqlen : ((setLenQ E many).length : Int) = many := by rw [hQ, setLenL_len]; omega
              clear hil
              refine SW_loop (α := Nat) (fun z_ ρ_ σ_ => Fits ρ_ σ_ [(0, .slice (some ⟨b0, o0, none⟩) l.length c), (1, .int .u64 w), (2, .int .i64 many), (7, pt F.p 0), (8, .int .u64 (65530 * 281474976710656 + ((0 : Nat) : Int))), (10, .int .i64 many), (76, .slice (some ⟨b0, o0, none⟩) l.length c), (77, .int .i64 (l.length : Int)), (78, .int .i64 (z_ : Int))] ((HeapV.ent K1 F) ++ ([])) ∧ z_ ≤ l.length) (fun z_ => l.length - z_) 0 ⟨⟨fun _ => rfl, (own_mk (J := ([])) (List.Perm.refl _) (by simp only [List.cons_append, List.append_assoc, List.nil_append, List.append_nil]))⟩, Nat.zero_le _⟩ ?_
              rintro i2_ ρ_ σ_ ⟨hfit, hi0⟩
              refine SW_fits hfit ?_
              clear hfit
              refine SW_seq ?_
              refine SW_region ?_
              refine SL_s1 1 79 (.bool (decide ((i2_ : Int) < (l.length : Int)))) (by intro δ w; kernel_rfl) ?_
              refine SL_nil (n_then ?_)
              refine SW_seq ?_
              refine SW_cond (decide ((i2_ : Int) < (l.length : Int))) (fun _ => rfl) (fun hc29 => ?_) (fun hc29 => ?_)
              · skip
                replace hc29 := of_decide_eq_true hc29
                refine SW_skip (n_then ?_)
                refine SW_seq ?_
                refine SW_block ?_
                refine SW_seq ?_
                refine SW_region ?_
                refine SL_cons ⟨rfl, fun _ => rfl⟩ (O_indexAddr' (i2_ : Int) (o0 + i2_) b0 o0 l.length c .i64 1 Try.underlying50 (by kernel_rfl) (fun _ => rfl) (fun _ => rfl) (by omega) (by omega) (by omega) rfl ?_)
                obtain ⟨e6, he6⟩ : ∃ y_, l[i2_]? = some y_ := ⟨_, List.getElem?_eq_getElem (by omega)⟩
                refine SL_cons ⟨rfl, fun _ => rfl⟩ (O_load b0 (o0 + i2_) (.int .i64 e6) (fun _ => rfl) (by kernel_rfl) (Cell.mono (hq0 _ _ (map_cell he6 rfl)) (fun e he => absurd he List.not_mem_nil)) rfl ?_)
                refine SL_s1 1 16 (.int .i64 e6) (by intro δ w; kernel_rfl) ?_
                refine SL_nil (n_then ?_)
                refine SW_seq ?_
                refine SW_region ?_
                refine SL_s3 3 85 (.int .i64 e6) 84 (.int .u64 (65530 * 281474976710656 + ((0 : Nat) : Int))) 83 (pt F.p 0) (by intro δ w; kernel_rfl) ?_
                by_cases hp7 : 0 ≤ e6 ∧ e6 < many ∧ w ≠ 18445336698825998340
                · skip
                  refine SL_cons ⟨rfl, fun _ => rfl⟩ (O_call 26 #[pt F.p 0, .int .u64 (65530 * 281474976710656 + ((0 : Nat) : Int)), .int .i64 e6] rfl (by intro δ w; kernel_rfl) ((hp_Elem hIK1 (n := 0) (by rw [hqK1]; exact objA 1 (by decide) (by decide)) (by rw [hqK1]; rfl) e6).use _) ?_)
                  rintro v13 σ13 ⟨_, hσ13, hv13⟩
                  obtain rfl : v13 = .tuple #[.int .u64 w, .bool true] := hv13.trans (by show Value.tuple #[.int .u64 (elemO (setLenQ E many) e6).1, .bool (elemO (setLenQ E many) e6).2] = _; rw [htell _ _ he6, if_pos hp7])
                  obtain rfl : σ13 = ((HeapV.ent K1 F) ++ ([])) := hσ13.trans (rfl)
                  refine SL_s5 5 18 (.bool true) 17 (.int .u64 w) 88 (.bool true) 87 (.int .u64 w) 82 (.tuple #[.int .u64 w, .bool true]) (by intro δ w; kernel_rfl) ?_
                  refine SL_nil (n_then ?_)
                  refine SW_seq ?_
                  refine SW_region ?_
                  refine SL_s3 3 91 (.bool (decide (e6 ≥ 0))) 90 (.bool (decide (e6 ≥ 0))) 89 (.int .i64 e6) (by intro δ w; kernel_rfl) ?_
                  refine SL_tb (decide (e6 ≥ 0)) (fun tb_ => [(91, .bool tb_), (90, .bool tb_), (89, .int .i64 e6), (18, .bool true), (17, .int .u64 w), (88, .bool true), (87, .int .u64 w), (82, .tuple #[.int .u64 w, .bool true]), (86, .tuple #[.int .u64 w, .bool true]), (85, .int .i64 e6), (84, .int .u64 (65530 * 281474976710656 + ((0 : Nat) : Int))), (83, pt F.p 0), (16, .int .i64 e6), (81, .int .i64 e6), (80, pt b0 (o0 + i2_)), (79, .bool (decide ((i2_ : Int) < (l.length : Int)))), (0, .slice (some ⟨b0, o0, none⟩) l.length c), (1, .int .u64 w), (2, .int .i64 many), (7, pt F.p 0), (8, .int .u64 (65530 * 281474976710656 + ((0 : Nat) : Int))), (10, .int .i64 many), (76, .slice (some ⟨b0, o0, none⟩) l.length c), (77, .int .i64 (l.length : Int)), (78, .int .i64 (i2_ : Int))]) (fun hg30 => ?_) (fun hg30 => ?_)
                  · skip
                    replace hg30 := of_decide_eq_true hg30
                    refine SL_segT 5 [(96, .bool (decide (e6 < many))), (18, .bool true), (17, .int .u64 w), (16, .int .i64 e6), (79, .bool (decide ((i2_ : Int) < (l.length : Int)))), (0, .slice (some ⟨b0, o0, none⟩) l.length c), (1, .int .u64 w), (2, .int .i64 many), (7, pt F.p 0), (8, .int .u64 (65530 * 281474976710656 + ((0 : Nat) : Int))), (10, .int .i64 many), (76, .slice (some ⟨b0, o0, none⟩) l.length c), (77, .int .i64 (l.length : Int)), (78, .int .i64 (i2_ : Int))] (by intro δ w; kernel_rfl) ?_
                    refine SL_tb (decide (e6 < many)) (fun tb_ => [(96, .bool tb_), (18, .bool true), (17, .int .u64 w), (16, .int .i64 e6), (79, .bool (decide ((i2_ : Int) < (l.length : Int)))), (0, .slice (some ⟨b0, o0, none⟩) l.length c), (1, .int .u64 w), (2, .int .i64 many), (7, pt F.p 0), (8, .int .u64 (65530 * 281474976710656 + ((0 : Nat) : Int))), (10, .int .i64 many), (76, .slice (some ⟨b0, o0, none⟩) l.length c), (77, .int .i64 (l.length : Int)), (78, .int .i64 (i2_ : Int))]) (fun hg31 => ?_) (fun hg31 => ?_)
                    · skip
                      replace hg31 := of_decide_eq_true hg31
                      refine SL_s4 4 19 (.bool (w != 18445336698825998340)) 99 (.bool (w != 18445336698825998340)) 98 (.bool (w != 18445336698825998340)) 97 (.int .u64 w) (by intro δ w; kernel_rfl) ?_
                      refine SL_nil (n_then ?_)
                      refine SW_seq ?_
                      refine SW_region ?_
                      refine SL_s4 4 103 (.bool (!(true == (w != 18445336698825998340)))) 102 (.bool (!(true == (w != 18445336698825998340)))) 101 (.bool (w != 18445336698825998340)) 100 (.bool true) (by intro δ w; kernel_rfl) ?_
                      refine SL_tb (!(true == (w != 18445336698825998340))) (fun tb_ => [(103, .bool tb_), (102, .bool tb_), (101, .bool (w != 18445336698825998340)), (100, .bool true), (19, .bool (w != 18445336698825998340)), (99, .bool (w != 18445336698825998340)), (98, .bool (w != 18445336698825998340)), (97, .int .u64 w), (96, .bool true), (18, .bool true), (17, .int .u64 w), (16, .int .i64 e6), (79, .bool (decide ((i2_ : Int) < (l.length : Int)))), (0, .slice (some ⟨b0, o0, none⟩) l.length c), (1, .int .u64 w), (2, .int .i64 many), (7, pt F.p 0), (8, .int .u64 (65530 * 281474976710656 + ((0 : Nat) : Int))), (10, .int .i64 many), (76, .slice (some ⟨b0, o0, none⟩) l.length c), (77, .int .i64 (l.length : Int)), (78, .int .i64 (i2_ : Int))]) (fun hg32 => ?_) (fun hg32 => ?_)
                      · skip
                        replace hg32 := bnot_t hg32
                        refine SL_segT 15 [(118, .bool true), (19, .bool (w != 18445336698825998340)), (18, .bool true), (17, .int .u64 w), (16, .int .i64 e6), (79, .bool (decide ((i2_ : Int) < (l.length : Int)))), (0, .slice (some ⟨b0, o0, none⟩) l.length c), (1, .int .u64 w), (2, .int .i64 many), (7, pt F.p 0), (8, .int .u64 (65530 * 281474976710656 + ((0 : Nat) : Int))), (10, .int .i64 many), (76, .slice (some ⟨b0, o0, none⟩) l.length c), (77, .int .i64 (l.length : Int)), (78, .int .i64 (i2_ : Int))] (by intro δ w; kernel_rfl) ?_
                        refine SL_nil (n_then ?_)
                        refine SW_true (fun _ => rfl) ?_
                        refine SW_seq ?_
                        refine SW_region ?_
                        refine SL_s1 1 6 (.bool false) (by intro δ w; kernel_rfl) ?_
                        refine SL_nil (n_then ?_)
                        refine SW_ret (r_in (r_then (r_then (r_in (r_then ?_)))))
                        refine body_end (.bool false) (fun _ => rfl) ?_
                        exfalso
                        first | omega | (simp at hg32; done) | (simp at hg32; omega) | (simp_all; done) | (simp_all; omega)
                      · skip
                        replace hg32 := bnot_f hg32
                        refine SL_segT 8 [(111, .bool (w != w)), (19, .bool (w != 18445336698825998340)), (18, .bool true), (17, .int .u64 w), (16, .int .i64 e6), (79, .bool (decide ((i2_ : Int) < (l.length : Int)))), (0, .slice (some ⟨b0, o0, none⟩) l.length c), (1, .int .u64 w), (2, .int .i64 many), (7, pt F.p 0), (8, .int .u64 (65530 * 281474976710656 + ((0 : Nat) : Int))), (10, .int .i64 many), (76, .slice (some ⟨b0, o0, none⟩) l.length c), (77, .int .i64 (l.length : Int)), (78, .int .i64 (i2_ : Int))] (by intro δ w; kernel_rfl) ?_
                        refine SL_tb (w != w) (fun tb_ => [(111, .bool tb_), (19, .bool (w != 18445336698825998340)), (18, .bool true), (17, .int .u64 w), (16, .int .i64 e6), (79, .bool (decide ((i2_ : Int) < (l.length : Int)))), (0, .slice (some ⟨b0, o0, none⟩) l.length c), (1, .int .u64 w), (2, .int .i64 many), (7, pt F.p 0), (8, .int .u64 (65530 * 281474976710656 + ((0 : Nat) : Int))), (10, .int .i64 many), (76, .slice (some ⟨b0, o0, none⟩) l.length c), (77, .int .i64 (l.length : Int)), (78, .int .i64 (i2_ : Int))]) (fun hg33 => ?_) (fun hg33 => ?_)
                        · skip
                          refine SL_s7 7 118 (.bool true) 117 (undef) 116 (undef) 115 (undef) 114 (undef) 113 (undef) 112 (undef) (by intro δ w; kernel_rfl) ?_
                          refine SL_nil (n_then ?_)
                          refine SW_true (fun _ => rfl) ?_
                          refine SW_seq ?_
                          refine SW_region ?_
                          refine SL_s1 1 6 (.bool false) (by intro δ w; kernel_rfl) ?_
                          refine SL_nil (n_then ?_)
                          refine SW_ret (r_in (r_then (r_then (r_in (r_then ?_)))))
                          refine body_end (.bool false) (fun _ => rfl) ?_
                          exfalso
                          first | omega | (simp at hg33; done) | (simp at hg33; omega) | (simp_all; done) | (simp_all; omega)
                        · skip
                          refine SL_s7 7 118 (.bool false) 117 (.bool false) 116 (undef) 115 (undef) 114 (.bool false) 113 (.bool false) 112 (.bool true) (by intro δ w; kernel_rfl) ?_
                          refine SL_nil (n_then ?_)
                          refine SW_false (fun _ => rfl) ?_
                          refine SW_skip (n_in (n_then ?_))
                          refine SW_region ?_
                          refine SL_s1 1 119 (.int .i64 (IntKind.wrap .i64 ((i2_ : Int) + 1))) (by intro δ w; kernel_rfl) ?_
                          rw [show IntKind.wrap .i64 ((i2_ : Int) + 1) = (i2_ : Int) + 1 from IntWalk.i64_in _ (by omega)]
                          refine SL_segT 1 [(78, .int .i64 ((i2_ : Int) + 1)), (118, .bool false), (19, .bool (w != 18445336698825998340)), (18, .bool true), (17, .int .u64 w), (16, .int .i64 e6), (79, .bool (decide ((i2_ : Int) < (l.length : Int)))), (0, .slice (some ⟨b0, o0, none⟩) l.length c), (1, .int .u64 w), (2, .int .i64 many), (7, pt F.p 0), (8, .int .u64 (65530 * 281474976710656 + ((0 : Nat) : Int))), (10, .int .i64 many), (76, .slice (some ⟨b0, o0, none⟩) l.length c), (77, .int .i64 (l.length : Int))] (by intro δ w; kernel_rfl) ?_
                          refine SL_nil (n_then ?_)
                          exact ⟨i2_ + 1, by omega, ⟨fun _ => rfl, (own_mk (J := ([])) (List.Perm.refl _) (by simp only [List.cons_append, List.append_assoc, List.nil_append, List.append_nil]))⟩, by omega⟩
                    · skip
                      replace hg31 := of_decide_eq_false hg31
                      refine SL_s4 4 19 (.bool false) 99 (.bool false) 98 (undef) 97 (undef) (by intro δ w; kernel_rfl) ?_
                      refine SL_nil (n_then ?_)
                      refine SW_seq ?_
                      refine SW_region ?_
                      refine SL_segT 19 [(118, .bool true), (19, .bool false), (18, .bool true), (17, .int .u64 w), (16, .int .i64 e6), (79, .bool (decide ((i2_ : Int) < (l.length : Int)))), (0, .slice (some ⟨b0, o0, none⟩) l.length c), (1, .int .u64 w), (2, .int .i64 many), (7, pt F.p 0), (8, .int .u64 (65530 * 281474976710656 + ((0 : Nat) : Int))), (10, .int .i64 many), (76, .slice (some ⟨b0, o0, none⟩) l.length c), (77, .int .i64 (l.length : Int)), (78, .int .i64 (i2_ : Int))] (by intro δ w; kernel_rfl) ?_
                      refine SL_nil (n_then ?_)
                      refine SW_true (fun _ => rfl) ?_
                      refine SW_seq ?_
                      refine SW_region ?_
                      refine SL_s1 1 6 (.bool false) (by intro δ w; kernel_rfl) ?_
                      refine SL_nil (n_then ?_)
                      refine SW_ret (r_in (r_then (r_then (r_in (r_then ?_)))))
                      refine body_end (.bool false) (fun _ => rfl) ?_
                      exfalso
                      first | omega | (simp at hg31; done) | (simp at hg31; omega) | (simp_all; done) | (simp_all; omega)
                  · skip
                    replace hg30 := of_decide_eq_false hg30
                    refine SL_segT 9 [(19, .bool false), (18, .bool true), (17, .int .u64 w), (16, .int .i64 e6), (79, .bool (decide ((i2_ : Int) < (l.length : Int)))), (0, .slice (some ⟨b0, o0, none⟩) l.length c), (1, .int .u64 w), (2, .int .i64 many), (7, pt F.p 0), (8, .int .u64 (65530 * 281474976710656 + ((0 : Nat) : Int))), (10, .int .i64 many), (76, .slice (some ⟨b0, o0, none⟩) l.length c), (77, .int .i64 (l.length : Int)), (78, .int .i64 (i2_ : Int))] (by intro δ w; kernel_rfl) ?_
                    refine SL_nil (n_then ?_)
                    refine SW_seq ?_
                    refine SW_region ?_
                    refine SL_segT 19 [(118, .bool true), (19, .bool false), (18, .bool true), (17, .int .u64 w), (16, .int .i64 e6), (79, .bool (decide ((i2_ : Int) < (l.length : Int)))), (0, .slice (some ⟨b0, o0, none⟩) l.length c), (1, .int .u64 w), (2, .int .i64 many), (7, pt F.p 0), (8, .int .u64 (65530 * 281474976710656 + ((0 : Nat) : Int))), (10, .int .i64 many), (76, .slice (some ⟨b0, o0, none⟩) l.length c), (77, .int .i64 (l.length : Int)), (78, .int .i64 (i2_ : Int))] (by intro δ w; kernel_rfl) ?_
                    refine SL_nil (n_then ?_)
                    refine SW_true (fun _ => rfl) ?_
                    refine SW_seq ?_
                    refine SW_region ?_
                    refine SL_s1 1 6 (.bool false) (by intro δ w; kernel_rfl) ?_
                    refine SL_nil (n_then ?_)
                    refine SW_ret (r_in (r_then (r_then (r_in (r_then ?_)))))
                    refine body_end (.bool false) (fun _ => rfl) ?_
                    exfalso
                    first | omega | (simp at hg30; done) | (simp at hg30; omega) | (simp_all; done) | (simp_all; omega)
                · skip
                  refine SL_cons ⟨rfl, fun _ => rfl⟩ (O_call 26 #[pt F.p 0, .int .u64 (65530 * 281474976710656 + ((0 : Nat) : Int)), .int .i64 e6] rfl (by intro δ w; kernel_rfl) ((hp_Elem hIK1 (n := 0) (by rw [hqK1]; exact objA 1 (by decide) (by decide)) (by rw [hqK1]; rfl) e6).use _) ?_)
                  rintro v14 σ14 ⟨_, hσ14, hv14⟩
                  obtain rfl : v14 = .tuple #[.int .u64 18445336698825998336, .bool false] := hv14.trans (by show Value.tuple #[.int .u64 (elemO (setLenQ E many) e6).1, .bool (elemO (setLenQ E many) e6).2] = _; rw [htell _ _ he6, if_neg hp7])
                  obtain rfl : σ14 = ((HeapV.ent K1 F) ++ ([])) := hσ14.trans (rfl)
                  refine SL_s5 5 18 (.bool false) 17 (.int .u64 18445336698825998336) 88 (.bool false) 87 (.int .u64 18445336698825998336) 82 (.tuple #[.int .u64 18445336698825998336, .bool false]) (by intro δ w; kernel_rfl) ?_
                  refine SL_nil (n_then ?_)
                  refine SW_seq ?_
                  refine SW_region ?_
                  refine SL_s3 3 91 (.bool (decide (e6 ≥ 0))) 90 (.bool (decide (e6 ≥ 0))) 89 (.int .i64 e6) (by intro δ w; kernel_rfl) ?_
                  refine SL_tb (decide (e6 ≥ 0)) (fun tb_ => [(91, .bool tb_), (90, .bool tb_), (89, .int .i64 e6), (18, .bool false), (17, .int .u64 18445336698825998336), (88, .bool false), (87, .int .u64 18445336698825998336), (82, .tuple #[.int .u64 18445336698825998336, .bool false]), (86, .tuple #[.int .u64 18445336698825998336, .bool false]), (85, .int .i64 e6), (84, .int .u64 (65530 * 281474976710656 + ((0 : Nat) : Int))), (83, pt F.p 0), (16, .int .i64 e6), (81, .int .i64 e6), (80, pt b0 (o0 + i2_)), (79, .bool (decide ((i2_ : Int) < (l.length : Int)))), (0, .slice (some ⟨b0, o0, none⟩) l.length c), (1, .int .u64 w), (2, .int .i64 many), (7, pt F.p 0), (8, .int .u64 (65530 * 281474976710656 + ((0 : Nat) : Int))), (10, .int .i64 many), (76, .slice (some ⟨b0, o0, none⟩) l.length c), (77, .int .i64 (l.length : Int)), (78, .int .i64 (i2_ : Int))]) (fun hg34 => ?_) (fun hg34 => ?_)
                  · skip
                    replace hg34 := of_decide_eq_true hg34
                    refine SL_segT 5 [(96, .bool (decide (e6 < many))), (18, .bool false), (17, .int .u64 18445336698825998336), (16, .int .i64 e6), (79, .bool (decide ((i2_ : Int) < (l.length : Int)))), (0, .slice (some ⟨b0, o0, none⟩) l.length c), (1, .int .u64 w), (2, .int .i64 many), (7, pt F.p 0), (8, .int .u64 (65530 * 281474976710656 + ((0 : Nat) : Int))), (10, .int .i64 many), (76, .slice (some ⟨b0, o0, none⟩) l.length c), (77, .int .i64 (l.length : Int)), (78, .int .i64 (i2_ : Int))] (by intro δ w; kernel_rfl) ?_
                    refine SL_tb (decide (e6 < many)) (fun tb_ => [(96, .bool tb_), (18, .bool false), (17, .int .u64 18445336698825998336), (16, .int .i64 e6), (79, .bool (decide ((i2_ : Int) < (l.length : Int)))), (0, .slice (some ⟨b0, o0, none⟩) l.length c), (1, .int .u64 w), (2, .int .i64 many), (7, pt F.p 0), (8, .int .u64 (65530 * 281474976710656 + ((0 : Nat) : Int))), (10, .int .i64 many), (76, .slice (some ⟨b0, o0, none⟩) l.length c), (77, .int .i64 (l.length : Int)), (78, .int .i64 (i2_ : Int))]) (fun hg35 => ?_) (fun hg35 => ?_)
                    · skip
                      replace hg35 := of_decide_eq_true hg35
                      refine SL_s4 4 19 (.bool (w != 18445336698825998340)) 99 (.bool (w != 18445336698825998340)) 98 (.bool (w != 18445336698825998340)) 97 (.int .u64 w) (by intro δ w; kernel_rfl) ?_
                      refine SL_nil (n_then ?_)
                      refine SW_seq ?_
                      refine SW_region ?_
                      refine SL_s4 4 103 (.bool (!(false == (w != 18445336698825998340)))) 102 (.bool (!(false == (w != 18445336698825998340)))) 101 (.bool (w != 18445336698825998340)) 100 (.bool false) (by intro δ w; kernel_rfl) ?_
                      refine SL_tb (!(false == (w != 18445336698825998340))) (fun tb_ => [(103, .bool tb_), (102, .bool tb_), (101, .bool (w != 18445336698825998340)), (100, .bool false), (19, .bool (w != 18445336698825998340)), (99, .bool (w != 18445336698825998340)), (98, .bool (w != 18445336698825998340)), (97, .int .u64 w), (96, .bool true), (18, .bool false), (17, .int .u64 18445336698825998336), (16, .int .i64 e6), (79, .bool (decide ((i2_ : Int) < (l.length : Int)))), (0, .slice (some ⟨b0, o0, none⟩) l.length c), (1, .int .u64 w), (2, .int .i64 many), (7, pt F.p 0), (8, .int .u64 (65530 * 281474976710656 + ((0 : Nat) : Int))), (10, .int .i64 many), (76, .slice (some ⟨b0, o0, none⟩) l.length c), (77, .int .i64 (l.length : Int)), (78, .int .i64 (i2_ : Int))]) (fun hg36 => ?_) (fun hg36 => ?_)
                      · skip
                        replace hg36 := bnot_t hg36
                        refine SL_segT 15 [(118, .bool true), (19, .bool (w != 18445336698825998340)), (18, .bool false), (17, .int .u64 18445336698825998336), (16, .int .i64 e6), (79, .bool (decide ((i2_ : Int) < (l.length : Int)))), (0, .slice (some ⟨b0, o0, none⟩) l.length c), (1, .int .u64 w), (2, .int .i64 many), (7, pt F.p 0), (8, .int .u64 (65530 * 281474976710656 + ((0 : Nat) : Int))), (10, .int .i64 many), (76, .slice (some ⟨b0, o0, none⟩) l.length c), (77, .int .i64 (l.length : Int)), (78, .int .i64 (i2_ : Int))] (by intro δ w; kernel_rfl) ?_
                        refine SL_nil (n_then ?_)
                        refine SW_true (fun _ => rfl) ?_
                        refine SW_seq ?_
                        refine SW_region ?_
                        refine SL_s1 1 6 (.bool false) (by intro δ w; kernel_rfl) ?_
                        refine SL_nil (n_then ?_)
                        refine SW_ret (r_in (r_then (r_then (r_in (r_then ?_)))))
                        refine body_end (.bool false) (fun _ => rfl) ?_
                        exfalso
                        first | omega | (simp at hg36; done) | (simp at hg36; omega) | (simp_all; done) | (simp_all; omega)
                      · skip
                        replace hg36 := bnot_f hg36
                        refine SL_segT 15 [(118, .bool false), (19, .bool (w != 18445336698825998340)), (18, .bool false), (17, .int .u64 18445336698825998336), (16, .int .i64 e6), (79, .bool (decide ((i2_ : Int) < (l.length : Int)))), (0, .slice (some ⟨b0, o0, none⟩) l.length c), (1, .int .u64 w), (2, .int .i64 many), (7, pt F.p 0), (8, .int .u64 (65530 * 281474976710656 + ((0 : Nat) : Int))), (10, .int .i64 many), (76, .slice (some ⟨b0, o0, none⟩) l.length c), (77, .int .i64 (l.length : Int)), (78, .int .i64 (i2_ : Int))] (by intro δ w; kernel_rfl) ?_
                        refine SL_nil (n_then ?_)
                        refine SW_false (fun _ => rfl) ?_
                        refine SW_skip (n_in (n_then ?_))
                        refine SW_region ?_
                        refine SL_s1 1 119 (.int .i64 (IntKind.wrap .i64 ((i2_ : Int) + 1))) (by intro δ w; kernel_rfl) ?_
                        rw [show IntKind.wrap .i64 ((i2_ : Int) + 1) = (i2_ : Int) + 1 from IntWalk.i64_in _ (by omega)]
                        refine SL_segT 1 [(78, .int .i64 ((i2_ : Int) + 1)), (118, .bool false), (19, .bool (w != 18445336698825998340)), (18, .bool false), (17, .int .u64 18445336698825998336), (16, .int .i64 e6), (79, .bool (decide ((i2_ : Int) < (l.length : Int)))), (0, .slice (some ⟨b0, o0, none⟩) l.length c), (1, .int .u64 w), (2, .int .i64 many), (7, pt F.p 0), (8, .int .u64 (65530 * 281474976710656 + ((0 : Nat) : Int))), (10, .int .i64 many), (76, .slice (some ⟨b0, o0, none⟩) l.length c), (77, .int .i64 (l.length : Int))] (by intro δ w; kernel_rfl) ?_
                        refine SL_nil (n_then ?_)
                        exact ⟨i2_ + 1, by omega, ⟨fun _ => rfl, (own_mk (J := ([])) (List.Perm.refl _) (by simp only [List.cons_append, List.append_assoc, List.nil_append, List.append_nil]))⟩, by omega⟩
                    · skip
                      replace hg35 := of_decide_eq_false hg35
                      refine SL_s4 4 19 (.bool false) 99 (.bool false) 98 (undef) 97 (undef) (by intro δ w; kernel_rfl) ?_
                      refine SL_nil (n_then ?_)
                      refine SW_seq ?_
                      refine SW_region ?_
                      refine SL_segT 19 [(118, .bool false), (19, .bool false), (18, .bool false), (17, .int .u64 18445336698825998336), (16, .int .i64 e6), (79, .bool (decide ((i2_ : Int) < (l.length : Int)))), (0, .slice (some ⟨b0, o0, none⟩) l.length c), (1, .int .u64 w), (2, .int .i64 many), (7, pt F.p 0), (8, .int .u64 (65530 * 281474976710656 + ((0 : Nat) : Int))), (10, .int .i64 many), (76, .slice (some ⟨b0, o0, none⟩) l.length c), (77, .int .i64 (l.length : Int)), (78, .int .i64 (i2_ : Int))] (by intro δ w; kernel_rfl) ?_
                      refine SL_nil (n_then ?_)
                      refine SW_false (fun _ => rfl) ?_
                      refine SW_skip (n_in (n_then ?_))
                      refine SW_region ?_
                      refine SL_s1 1 119 (.int .i64 (IntKind.wrap .i64 ((i2_ : Int) + 1))) (by intro δ w; kernel_rfl) ?_
                      rw [show IntKind.wrap .i64 ((i2_ : Int) + 1) = (i2_ : Int) + 1 from IntWalk.i64_in _ (by omega)]
                      refine SL_segT 1 [(78, .int .i64 ((i2_ : Int) + 1)), (118, .bool false), (19, .bool false), (18, .bool false), (17, .int .u64 18445336698825998336), (16, .int .i64 e6), (79, .bool (decide ((i2_ : Int) < (l.length : Int)))), (0, .slice (some ⟨b0, o0, none⟩) l.length c), (1, .int .u64 w), (2, .int .i64 many), (7, pt F.p 0), (8, .int .u64 (65530 * 281474976710656 + ((0 : Nat) : Int))), (10, .int .i64 many), (76, .slice (some ⟨b0, o0, none⟩) l.length c), (77, .int .i64 (l.length : Int))] (by intro δ w; kernel_rfl) ?_
                      refine SL_nil (n_then ?_)
                      exact ⟨i2_ + 1, by omega, ⟨fun _ => rfl, (own_mk (J := ([])) (List.Perm.refl _) (by simp only [List.cons_append, List.append_assoc, List.nil_append, List.append_nil]))⟩, by omega⟩
                  · skip
                    replace hg34 := of_decide_eq_false hg34
                    refine SL_segT 9 [(19, .bool false), (18, .bool false), (17, .int .u64 18445336698825998336), (16, .int .i64 e6), (79, .bool (decide ((i2_ : Int) < (l.length : Int)))), (0, .slice (some ⟨b0, o0, none⟩) l.length c), (1, .int .u64 w), (2, .int .i64 many), (7, pt F.p 0), (8, .int .u64 (65530 * 281474976710656 + ((0 : Nat) : Int))), (10, .int .i64 many), (76, .slice (some ⟨b0, o0, none⟩) l.length c), (77, .int .i64 (l.length : Int)), (78, .int .i64 (i2_ : Int))] (by intro δ w; kernel_rfl) ?_
                    refine SL_nil (n_then ?_)
                    refine SW_seq ?_
                    refine SW_region ?_
                    refine SL_segT 19 [(118, .bool false), (19, .bool false), (18, .bool false), (17, .int .u64 18445336698825998336), (16, .int .i64 e6), (79, .bool (decide ((i2_ : Int) < (l.length : Int)))), (0, .slice (some ⟨b0, o0, none⟩) l.length c), (1, .int .u64 w), (2, .int .i64 many), (7, pt F.p 0), (8, .int .u64 (65530 * 281474976710656 + ((0 : Nat) : Int))), (10, .int .i64 many), (76, .slice (some ⟨b0, o0, none⟩) l.length c), (77, .int .i64 (l.length : Int)), (78, .int .i64 (i2_ : Int))] (by intro δ w; kernel_rfl) ?_
                    refine SL_nil (n_then ?_)
                    refine SW_false (fun _ => rfl) ?_
                    refine SW_skip (n_in (n_then ?_))
                    refine SW_region ?_
                    refine SL_s1 1 119 (.int .i64 (IntKind.wrap .i64 ((i2_ : Int) + 1))) (by intro δ w; kernel_rfl) ?_
                    rw [show IntKind.wrap .i64 ((i2_ : Int) + 1) = (i2_ : Int) + 1 from IntWalk.i64_in _ (by omega)]
                    refine SL_segT 1 [(78, .int .i64 ((i2_ : Int) + 1)), (118, .bool false), (19, .bool false), (18, .bool false), (17, .int .u64 18445336698825998336), (16, .int .i64 e6), (79, .bool (decide ((i2_ : Int) < (l.length : Int)))), (0, .slice (some ⟨b0, o0, none⟩) l.length c), (1, .int .u64 w), (2, .int .i64 many), (7, pt F.p 0), (8, .int .u64 (65530 * 281474976710656 + ((0 : Nat) : Int))), (10, .int .i64 many), (76, .slice (some ⟨b0, o0, none⟩) l.length c), (77, .int .i64 (l.length : Int))] (by intro δ w; kernel_rfl) ?_
                    refine SL_nil (n_then ?_)
                    exact ⟨i2_ + 1, by omega, ⟨fun _ => rfl, (own_mk (J := ([])) (List.Perm.refl _) (by simp only [List.cons_append, List.append_assoc, List.nil_append, List.append_nil]))⟩, by omega⟩
              · skip
                replace hc29 := of_decide_eq_false hc29
                refine SW_exit (x_then (x_then (x_in (n_then ?_))))
                refine SW_seq ?_
                refine SW_region ?_
                refine SL_s2 2 121 (.int .u64 (65530 * 281474976710656 + ((0 : Nat) : Int))) 120 (pt F.p 0) (by intro δ w; kernel_rfl) ?_
                refine SL_cons ⟨rfl, fun _ => rfl⟩ (O_call 24 #[pt F.p 0, .int .u64 (65530 * 281474976710656 + ((0 : Nat) : Int))] rfl (by intro δ w; kernel_rfl) ((hp_Len hIK1 (n := 0) (by rw [hqK1]; exact objA 1 (by decide) (by decide)) (by rw [hqK1]; rfl)).use _) ?_)
                rintro _ σ15 ⟨_, hσ15, rfl⟩
                obtain rfl : σ15 = ((HeapV.ent K1 F) ++ ([])) := hσ15.trans (rfl)
                refine SL_s3 3 6 (.bool ((List.length (setLenQ E many) : Int) == many)) 124 (.bool ((List.length (setLenQ E many) : Int) == many)) 123 (.int .i64 many) (by intro δ w; kernel_rfl) ?_
                refine SL_nil (n_then ?_)
                refine SW_ret ?_
                refine body_end (.bool ((List.length (setLenQ E many) : Int) == many)) (fun _ => rfl) ?_
                exact ⟨(), ⟨_, List.Perm.refl _⟩, congrArg Value.bool (by rw [hqlen]; simp)⟩
            · skip
              replace hc28 := of_decide_eq_false hc28
              refine SW_skip (n_then ?_)
              refine SW_seq ?_
              refine SW_seq ?_
              refine SW_region ?_
              refine SL_s3 3 78 (.int .i64 0) 77 (.int .i64 (l.length : Int)) 76 (.slice (some ⟨b0, o0, none⟩) l.length c) (by intro δ w; kernel_rfl) ?_
              refine SL_nil (n_then ?_)
              refine SW_block ?_
              have hil : i = l.length := by omega
              rw [hil] at hi3
              have hQ : setLenQ E many = setLenL E E.length := by unfold setLenQ; rw [if_neg hc28, setLenL_self]
              have htell : ∀ (j : Nat) (m : Int), l[j]? = some m → elemO (setLenQ E many) m = if 0 ≤ m ∧ m < mo ∧ w ≠ 18445336698825998340 then (w, true) else (18445336698825998336, false) := fun j m hm => by rw [hQ, hi3.tells hm (by omega)]; rw [show ((E.length : Nat) : Int) = mo from by omega]
              have hqlen : ((setLenQ E many).length : Int) = mo := by rw [hQ, setLenL_len]; omega
              clear hil
              refine SW_loop (α := Nat) (fun z_ ρ_ σ_ => Fits ρ_ σ_ [(0, .slice (some ⟨b0, o0, none⟩) l.length c), (1, .int .u64 w), (2, .int .i64 many), (7, pt F.p 0), (8, .int .u64 (65530 * 281474976710656 + ((0 : Nat) : Int))), (10, .int .i64 mo), (76, .slice (some ⟨b0, o0, none⟩) l.length c), (77, .int .i64 (l.length : Int)), (78, .int .i64 (z_ : Int))] ((HeapV.ent K1 F) ++ ([])) ∧ z_ ≤ l.length) (fun z_ => l.length - z_) 0 ⟨⟨fun _ => rfl, (own_mk (J := ([])) (List.Perm.refl _) (by simp only [List.cons_append, List.append_assoc, List.nil_append, List.append_nil]))⟩, Nat.zero_le _⟩ ?_
              rintro i2_ ρ_ σ_ ⟨hfit, hi0⟩
              refine SW_fits hfit ?_
              clear hfit
              refine SW_seq ?_
              refine SW_region ?_
              refine SL_s1 1 79 (.bool (decide ((i2_ : Int) < (l.length : Int)))) (by intro δ w; kernel_rfl) ?_
              refine SL_nil (n_then ?_)
              refine SW_seq ?_
              refine SW_cond (decide ((i2_ : Int) < (l.length : Int))) (fun _ => rfl) (fun hc37 => ?_) (fun hc37 => ?_)
              · skip
                replace hc37 := of_decide_eq_true hc37
                refine SW_skip (n_then ?_)
                refine SW_seq ?_
                refine SW_block ?_
                refine SW_seq ?_
                refine SW_region ?_
                refine SL_cons ⟨rfl, fun _ => rfl⟩ (O_indexAddr' (i2_ : Int) (o0 + i2_) b0 o0 l.length c .i64 1 Try.underlying50 (by kernel_rfl) (fun _ => rfl) (fun _ => rfl) (by omega) (by omega) (by omega) rfl ?_)
                obtain ⟨e8, he8⟩ : ∃ y_, l[i2_]? = some y_ := ⟨_, List.getElem?_eq_getElem (by omega)⟩
                refine SL_cons ⟨rfl, fun _ => rfl⟩ (O_load b0 (o0 + i2_) (.int .i64 e8) (fun _ => rfl) (by kernel_rfl) (Cell.mono (hq0 _ _ (map_cell he8 rfl)) (fun e he => absurd he List.not_mem_nil)) rfl ?_)
                refine SL_s1 1 16 (.int .i64 e8) (by intro δ w; kernel_rfl) ?_
                refine SL_nil (n_then ?_)
                refine SW_seq ?_
                refine SW_region ?_
                refine SL_s3 3 85 (.int .i64 e8) 84 (.int .u64 (65530 * 281474976710656 + ((0 : Nat) : Int))) 83 (pt F.p 0) (by intro δ w; kernel_rfl) ?_
                by_cases hp9 : 0 ≤ e8 ∧ e8 < mo ∧ w ≠ 18445336698825998340
                · skip
                  refine SL_cons ⟨rfl, fun _ => rfl⟩ (O_call 26 #[pt F.p 0, .int .u64 (65530 * 281474976710656 + ((0 : Nat) : Int)), .int .i64 e8] rfl (by intro δ w; kernel_rfl) ((hp_Elem hIK1 (n := 0) (by rw [hqK1]; exact objA 1 (by decide) (by decide)) (by rw [hqK1]; rfl) e8).use _) ?_)
                  rintro v16 σ16 ⟨_, hσ16, hv16⟩
                  obtain rfl : v16 = .tuple #[.int .u64 w, .bool true] := hv16.trans (by show Value.tuple #[.int .u64 (elemO (setLenQ E many) e8).1, .bool (elemO (setLenQ E many) e8).2] = _; rw [htell _ _ he8, if_pos hp9])
                  obtain rfl : σ16 = ((HeapV.ent K1 F) ++ ([])) := hσ16.trans (rfl)
                  refine SL_s5 5 18 (.bool true) 17 (.int .u64 w) 88 (.bool true) 87 (.int .u64 w) 82 (.tuple #[.int .u64 w, .bool true]) (by intro δ w; kernel_rfl) ?_
                  refine SL_nil (n_then ?_)
                  refine SW_seq ?_
                  refine SW_region ?_
                  refine SL_s3 3 91 (.bool (decide (e8 ≥ 0))) 90 (.bool (decide (e8 ≥ 0))) 89 (.int .i64 e8) (by intro δ w; kernel_rfl) ?_
                  refine SL_tb (decide (e8 ≥ 0)) (fun tb_ => [(91, .bool tb_), (90, .bool tb_), (89, .int .i64 e8), (18, .bool true), (17, .int .u64 w), (88, .bool true), (87, .int .u64 w), (82, .tuple #[.int .u64 w, .bool true]), (86, .tuple #[.int .u64 w, .bool true]), (85, .int .i64 e8), (84, .int .u64 (65530 * 281474976710656 + ((0 : Nat) : Int))), (83, pt F.p 0), (16, .int .i64 e8), (81, .int .i64 e8), (80, pt b0 (o0 + i2_)), (79, .bool (decide ((i2_ : Int) < (l.length : Int)))), (0, .slice (some ⟨b0, o0, none⟩) l.length c), (1, .int .u64 w), (2, .int .i64 many), (7, pt F.p 0), (8, .int .u64 (65530 * 281474976710656 + ((0 : Nat) : Int))), (10, .int .i64 mo), (76, .slice (some ⟨b0, o0, none⟩) l.length c), (77, .int .i64 (l.length : Int)), (78, .int .i64 (i2_ : Int))]) (fun hg38 => ?_) (fun hg38 => ?_)
                  · skip
                    replace hg38 := of_decide_eq_true hg38
                    refine SL_segT 5 [(96, .bool (decide (e8 < mo))), (18, .bool true), (17, .int .u64 w), (16, .int .i64 e8), (79, .bool (decide ((i2_ : Int) < (l.length : Int)))), (0, .slice (some ⟨b0, o0, none⟩) l.length c), (1, .int .u64 w), (2, .int .i64 many), (7, pt F.p 0), (8, .int .u64 (65530 * 281474976710656 + ((0 : Nat) : Int))), (10, .int .i64 mo), (76, .slice (some ⟨b0, o0, none⟩) l.length c), (77, .int .i64 (l.length : Int)), (78, .int .i64 (i2_ : Int))] (by intro δ w; kernel_rfl) ?_
                    refine SL_tb (decide (e8 < mo)) (fun tb_ => [(96, .bool tb_), (18, .bool true), (17, .int .u64 w), (16, .int .i64 e8), (79, .bool (decide ((i2_ : Int) < (l.length : Int)))), (0, .slice (some ⟨b0, o0, none⟩) l.length c), (1, .int .u64 w), (2, .int .i64 many), (7, pt F.p 0), (8, .int .u64 (65530 * 281474976710656 + ((0 : Nat) : Int))), (10, .int .i64 mo), (76, .slice (some ⟨b0, o0, none⟩) l.length c), (77, .int .i64 (l.length : Int)), (78, .int .i64 (i2_ : Int))]) (fun hg39 => ?_) (fun hg39 => ?_)
                    · skip
                      replace hg39 := of_decide_eq_true hg39
                      refine SL_s4 4 19 (.bool (w != 18445336698825998340)) 99 (.bool (w != 18445336698825998340)) 98 (.bool (w != 18445336698825998340)) 97 (.int .u64 w) (by intro δ w; kernel_rfl) ?_
                      refine SL_nil (n_then ?_)
                      refine SW_seq ?_
                      refine SW_region ?_
                      refine SL_s4 4 103 (.bool (!(true == (w != 18445336698825998340)))) 102 (.bool (!(true == (w != 18445336698825998340)))) 101 (.bool (w != 18445336698825998340)) 100 (.bool true) (by intro δ w; kernel_rfl) ?_
                      refine SL_tb (!(true == (w != 18445336698825998340))) (fun tb_ => [(103, .bool tb_), (102, .bool tb_), (101, .bool (w != 18445336698825998340)), (100, .bool true), (19, .bool (w != 18445336698825998340)), (99, .bool (w != 18445336698825998340)), (98, .bool (w != 18445336698825998340)), (97, .int .u64 w), (96, .bool true), (18, .bool true), (17, .int .u64 w), (16, .int .i64 e8), (79, .bool (decide ((i2_ : Int) < (l.length : Int)))), (0, .slice (some ⟨b0, o0, none⟩) l.length c), (1, .int .u64 w), (2, .int .i64 many), (7, pt F.p 0), (8, .int .u64 (65530 * 281474976710656 + ((0 : Nat) : Int))), (10, .int .i64 mo), (76, .slice (some ⟨b0, o0, none⟩) l.length c), (77, .int .i64 (l.length : Int)), (78, .int .i64 (i2_ : Int))]) (fun hg40 => ?_) (fun hg40 => ?_)
                      · skip
                        replace hg40 := bnot_t hg40
                        refine SL_segT 15 [(118, .bool true), (19, .bool (w != 18445336698825998340)), (18, .bool true), (17, .int .u64 w), (16, .int .i64 e8), (79, .bool (decide ((i2_ : Int) < (l.length : Int)))), (0, .slice (some ⟨b0, o0, none⟩) l.length c), (1, .int .u64 w), (2, .int .i64 many), (7, pt F.p 0), (8, .int .u64 (65530 * 281474976710656 + ((0 : Nat) : Int))), (10, .int .i64 mo), (76, .slice (some ⟨b0, o0, none⟩) l.length c), (77, .int .i64 (l.length : Int)), (78, .int .i64 (i2_ : Int))] (by intro δ w; kernel_rfl) ?_
                        refine SL_nil (n_then ?_)
                        refine SW_true (fun _ => rfl) ?_
                        refine SW_seq ?_
                        refine SW_region ?_
                        refine SL_s1 1 6 (.bool false) (by intro δ w; kernel_rfl) ?_
                        refine SL_nil (n_then ?_)
                        refine SW_ret (r_in (r_then (r_then (r_in (r_then ?_)))))
                        refine body_end (.bool false) (fun _ => rfl) ?_
                        exfalso
                        first | omega | (simp at hg40; done) | (simp at hg40; omega) | (simp_all; done) | (simp_all; omega)
                      · skip
                        replace hg40 := bnot_f hg40
                        refine SL_segT 8 [(111, .bool (w != w)), (19, .bool (w != 18445336698825998340)), (18, .bool true), (17, .int .u64 w), (16, .int .i64 e8), (79, .bool (decide ((i2_ : Int) < (l.length : Int)))), (0, .slice (some ⟨b0, o0, none⟩) l.length c), (1, .int .u64 w), (2, .int .i64 many), (7, pt F.p 0), (8, .int .u64 (65530 * 281474976710656 + ((0 : Nat) : Int))), (10, .int .i64 mo), (76, .slice (some ⟨b0, o0, none⟩) l.length c), (77, .int .i64 (l.length : Int)), (78, .int .i64 (i2_ : Int))] (by intro δ w; kernel_rfl) ?_
                        refine SL_tb (w != w) (fun tb_ => [(111, .bool tb_), (19, .bool (w != 18445336698825998340)), (18, .bool true), (17, .int .u64 w), (16, .int .i64 e8), (79, .bool (decide ((i2_ : Int) < (l.length : Int)))), (0, .slice (some ⟨b0, o0, none⟩) l.length c), (1, .int .u64 w), (2, .int .i64 many), (7, pt F.p 0), (8, .int .u64 (65530 * 281474976710656 + ((0 : Nat) : Int))), (10, .int .i64 mo), (76, .slice (some ⟨b0, o0, none⟩) l.length c), (77, .int .i64 (l.length : Int)), (78, .int .i64 (i2_ : Int))]) (fun hg41 => ?_) (fun hg41 => ?_)
                        · skip
                          refine SL_s7 7 118 (.bool true) 117 (undef) 116 (undef) 115 (undef) 114 (undef) 113 (undef) 112 (undef) (by intro δ w; kernel_rfl) ?_
                          refine SL_nil (n_then ?_)
                          refine SW_true (fun _ => rfl) ?_
                          refine SW_seq ?_
                          refine SW_region ?_
                          refine SL_s1 1 6 (.bool false) (by intro δ w; kernel_rfl) ?_
                          refine SL_nil (n_then ?_)
                          refine SW_ret (r_in (r_then (r_then (r_in (r_then ?_)))))
                          refine body_end (.bool false) (fun _ => rfl) ?_
                          exfalso
                          first | omega | (simp at hg41; done) | (simp at hg41; omega) | (simp_all; done) | (simp_all; omega)
                        · skip
                          refine SL_s7 7 118 (.bool false) 117 (.bool false) 116 (undef) 115 (undef) 114 (.bool false) 113 (.bool false) 112 (.bool true) (by intro δ w; kernel_rfl) ?_
                          refine SL_nil (n_then ?_)
                          refine SW_false (fun _ => rfl) ?_
                          refine SW_skip (n_in (n_then ?_))
                          refine SW_region ?_
                          refine SL_s1 1 119 (.int .i64 (IntKind.wrap .i64 ((i2_ : Int) + 1))) (by intro δ w; kernel_rfl) ?_
                          rw [show IntKind.wrap .i64 ((i2_ : Int) + 1) = (i2_ : Int) + 1 from IntWalk.i64_in _ (by omega)]
                          refine SL_segT 1 [(78, .int .i64 ((i2_ : Int) + 1)), (118, .bool false), (19, .bool (w != 18445336698825998340)), (18, .bool true), (17, .int .u64 w), (16, .int .i64 e8), (79, .bool (decide ((i2_ : Int) < (l.length : Int)))), (0, .slice (some ⟨b0, o0, none⟩) l.length c), (1, .int .u64 w), (2, .int .i64 many), (7, pt F.p 0), (8, .int .u64 (65530 * 281474976710656 + ((0 : Nat) : Int))), (10, .int .i64 mo), (76, .slice (some ⟨b0, o0, none⟩) l.length c), (77, .int .i64 (l.length : Int))] (by intro δ w; kernel_rfl) ?_
                          refine SL_nil (n_then ?_)
                          exact ⟨i2_ + 1, by omega, ⟨fun _ => rfl, (own_mk (J := ([])) (List.Perm.refl _) (by simp only [List.cons_append, List.append_assoc, List.nil_append, List.append_nil]))⟩, by omega⟩
                    · skip
                      replace hg39 := of_decide_eq_false hg39
                      refine SL_s4 4 19 (.bool false) 99 (.bool false) 98 (undef) 97 (undef) (by intro δ w; kernel_rfl) ?_
                      refine SL_nil (n_then ?_)
                      refine SW_seq ?_
                      refine SW_region ?_
                      refine SL_segT 19 [(118, .bool true), (19, .bool false), (18, .bool true), (17, .int .u64 w), (16, .int .i64 e8), (79, .bool (decide ((i2_ : Int) < (l.length : Int)))), (0, .slice (some ⟨b0, o0, none⟩) l.length c), (1, .int .u64 w), (2, .int .i64 many), (7, pt F.p 0), (8, .int .u64 (65530 * 281474976710656 + ((0 : Nat) : Int))), (10, .int .i64 mo), (76, .slice (some ⟨b0, o0, none⟩) l.length c), (77, .int .i64 (l.length : Int)), (78, .int .i64 (i2_ : Int))] (by intro δ w; kernel_rfl) ?_
                      refine SL_nil (n_then ?_)
                      refine SW_true (fun _ => rfl) ?_
                      refine SW_seq ?_
                      refine SW_region ?_
                      refine SL_s1 1 6 (.bool false) (by intro δ w; kernel_rfl) ?_
                      refine SL_nil (n_then ?_)
                      refine SW_ret (r_in (r_then (r_then (r_in (r_then ?_)))))
                      refine body_end (.bool false) (fun _ => rfl) ?_
                      exfalso
                      first | omega | (simp at hg39; done) | (simp at hg39; omega) | (simp_all; done) | (simp_all; omega)
                  · skip
                    replace hg38 := of_decide_eq_false hg38
                    refine SL_segT 9 [(19, .bool false), (18, .bool true), (17, .int .u64 w), (16, .int .i64 e8), (79, .bool (decide ((i2_ : Int) < (l.length : Int)))), (0, .slice (some ⟨b0, o0, none⟩) l.length c), (1, .int .u64 w), (2, .int .i64 many), (7, pt F.p 0), (8, .int .u64 (65530 * 281474976710656 + ((0 : Nat) : Int))), (10, .int .i64 mo), (76, .slice (some ⟨b0, o0, none⟩) l.length c), (77, .int .i64 (l.length : Int)), (78, .int .i64 (i2_ : Int))] (by intro δ w; kernel_rfl) ?_
                    refine SL_nil (n_then ?_)
                    refine SW_seq ?_
                    refine SW_region ?_
                    refine SL_segT 19 [(118, .bool true), (19, .bool false), (18, .bool true), (17, .int .u64 w), (16, .int .i64 e8), (79, .bool (decide ((i2_ : Int) < (l.length : Int)))), (0, .slice (some ⟨b0, o0, none⟩) l.length c), (1, .int .u64 w), (2, .int .i64 many), (7, pt F.p 0), (8, .int .u64 (65530 * 281474976710656 + ((0 : Nat) : Int))), (10, .int .i64 mo), (76, .slice (some ⟨b0, o0, none⟩) l.length c), (77, .int .i64 (l.length : Int)), (78, .int .i64 (i2_ : Int))] (by intro δ w; kernel_rfl) ?_
                    refine SL_nil (n_then ?_)
                    refine SW_true (fun _ => rfl) ?_
                    refine SW_seq ?_
                    refine SW_region ?_
                    refine SL_s1 1 6 (.bool false) (by intro δ w; kernel_rfl) ?_
                    refine SL_nil (n_then ?_)
                    refine SW_ret (r_in (r_then (r_then (r_in (r_then ?_)))))
                    refine body_end (.bool false) (fun _ => rfl) ?_
                    exfalso
                    first | omega | (simp at hg38; done) | (simp at hg38; omega) | (simp_all; done) | (simp_all; omega)
                · skip
                  refine SL_cons ⟨rfl, fun _ => rfl⟩ (O_call 26 #[pt F.p 0, .int .u64 (65530 * 281474976710656 + ((0 : Nat) : Int)), .int .i64 e8] rfl (by intro δ w; kernel_rfl) ((hp_Elem hIK1 (n := 0) (by rw [hqK1]; exact objA 1 (by decide) (by decide)) (by rw [hqK1]; rfl) e8).use _) ?_)
                  rintro v17 σ17 ⟨_, hσ17, hv17⟩
                  obtain rfl : v17 = .tuple #[.int .u64 18445336698825998336, .bool false] := hv17.trans (by show Value.tuple #[.int .u64 (elemO (setLenQ E many) e8).1, .bool (elemO (setLenQ E many) e8).2] = _; rw [htell _ _ he8, if_neg hp9])
                  obtain rfl : σ17 = ((HeapV.ent K1 F) ++ ([])) := hσ17.trans (rfl)
                  refine SL_s5 5 18 (.bool false) 17 (.int .u64 18445336698825998336) 88 (.bool false) 87 (.int .u64 18445336698825998336) 82 (.tuple #[.int .u64 18445336698825998336, .bool false]) (by intro δ w; kernel_rfl) ?_
                  refine SL_nil (n_then ?_)
                  refine SW_seq ?_
                  refine SW_region ?_
                  refine SL_s3 3 91 (.bool (decide (e8 ≥ 0))) 90 (.bool (decide (e8 ≥ 0))) 89 (.int .i64 e8) (by intro δ w; kernel_rfl) ?_
                  refine SL_tb (decide (e8 ≥ 0)) (fun tb_ => [(91, .bool tb_), (90, .bool tb_), (89, .int .i64 e8), (18, .bool false), (17, .int .u64 18445336698825998336), (88, .bool false), (87, .int .u64 18445336698825998336), (82, .tuple #[.int .u64 18445336698825998336, .bool false]), (86, .tuple #[.int .u64 18445336698825998336, .bool false]), (85, .int .i64 e8), (84, .int .u64 (65530 * 281474976710656 + ((0 : Nat) : Int))), (83, pt F.p 0), (16, .int .i64 e8), (81, .int .i64 e8), (80, pt b0 (o0 + i2_)), (79, .bool (decide ((i2_ : Int) < (l.length : Int)))), (0, .slice (some ⟨b0, o0, none⟩) l.length c), (1, .int .u64 w), (2, .int .i64 many), (7, pt F.p 0), (8, .int .u64 (65530 * 281474976710656 + ((0 : Nat) : Int))), (10, .int .i64 mo), (76, .slice (some ⟨b0, o0, none⟩) l.length c), (77, .int .i64 (l.length : Int)), (78, .int .i64 (i2_ : Int))]) (fun hg42 => ?_) (fun hg42 => ?_)
                  · skip
                    replace hg42 := of_decide_eq_true hg42
                    refine SL_segT 5 [(96, .bool (decide (e8 < mo))), (18, .bool false), (17, .int .u64 18445336698825998336), (16, .int .i64 e8), (79, .bool (decide ((i2_ : Int) < (l.length : Int)))), (0, .slice (some ⟨b0, o0, none⟩) l.length c), (1, .int .u64 w), (2, .int .i64 many), (7, pt F.p 0), (8, .int .u64 (65530 * 281474976710656 + ((0 : Nat) : Int))), (10, .int .i64 mo), (76, .slice (some ⟨b0, o0, none⟩) l.length c), (77, .int .i64 (l.length : Int)), (78, .int .i64 (i2_ : Int))] (by intro δ w; kernel_rfl) ?_
                    refine SL_tb (decide (e8 < mo)) (fun tb_ => [(96, .bool tb_), (18, .bool false), (17, .int .u64 18445336698825998336), (16, .int .i64 e8), (79, .bool (decide ((i2_ : Int) < (l.length : Int)))), (0, .slice (some ⟨b0, o0, none⟩) l.length c), (1, .int .u64 w), (2, .int .i64 many), (7, pt F.p 0), (8, .int .u64 (65530 * 281474976710656 + ((0 : Nat) : Int))), (10, .int .i64 mo), (76, .slice (some ⟨b0, o0, none⟩) l.length c), (77, .int .i64 (l.length : Int)), (78, .int .i64 (i2_ : Int))]) (fun hg43 => ?_) (fun hg43 => ?_)
                    · skip
                      replace hg43 := of_decide_eq_true hg43
                      refine SL_s4 4 19 (.bool (w != 18445336698825998340)) 99 (.bool (w != 18445336698825998340)) 98 (.bool (w != 18445336698825998340)) 97 (.int .u64 w) (by intro δ w; kernel_rfl) ?_
                      refine SL_nil (n_then ?_)
                      refine SW_seq ?_
                      refine SW_region ?_
                      refine SL_s4 4 103 (.bool (!(false == (w != 18445336698825998340)))) 102 (.bool (!(false == (w != 18445336698825998340)))) 101 (.bool (w != 18445336698825998340)) 100 (.bool false) (by intro δ w; kernel_rfl) ?_
                      refine SL_tb (!(false == (w != 18445336698825998340))) (fun tb_ => [(103, .bool tb_), (102, .bool tb_), (101, .bool (w != 18445336698825998340)), (100, .bool false), (19, .bool (w != 18445336698825998340)), (99, .bool (w != 18445336698825998340)), (98, .bool (w != 18445336698825998340)), (97, .int .u64 w), (96, .bool true), (18, .bool false), (17, .int .u64 18445336698825998336), (16, .int .i64 e8), (79, .bool (decide ((i2_ : Int) < (l.length : Int)))), (0, .slice (some ⟨b0, o0, none⟩) l.length c), (1, .int .u64 w), (2, .int .i64 many), (7, pt F.p 0), (8, .int .u64 (65530 * 281474976710656 + ((0 : Nat) : Int))), (10, .int .i64 mo), (76, .slice (some ⟨b0, o0, none⟩) l.length c), (77, .int .i64 (l.length : Int)), (78, .int .i64 (i2_ : Int))]) (fun hg44 => ?_) (fun hg44 => ?_)
                      · skip
                        replace hg44 := bnot_t hg44
                        refine SL_segT 15 [(118, .bool true), (19, .bool (w != 18445336698825998340)), (18, .bool false), (17, .int .u64 18445336698825998336), (16, .int .i64 e8), (79, .bool (decide ((i2_ : Int) < (l.length : Int)))), (0, .slice (some ⟨b0, o0, none⟩) l.length c), (1, .int .u64 w), (2, .int .i64 many), (7, pt F.p 0), (8, .int .u64 (65530 * 281474976710656 + ((0 : Nat) : Int))), (10, .int .i64 mo), (76, .slice (some ⟨b0, o0, none⟩) l.length c), (77, .int .i64 (l.length : Int)), (78, .int .i64 (i2_ : Int))] (by intro δ w; kernel_rfl) ?_
                        refine SL_nil (n_then ?_)
                        refine SW_true (fun _ => rfl) ?_
                        refine SW_seq ?_
                        refine SW_region ?_
                        refine SL_s1 1 6 (.bool false) (by intro δ w; kernel_rfl) ?_
                        refine SL_nil (n_then ?_)
                        refine SW_ret (r_in (r_then (r_then (r_in (r_then ?_)))))
                        refine body_end (.bool false) (fun _ => rfl) ?_
                        exfalso
                        first | omega | (simp at hg44; done) | (simp at hg44; omega) | (simp_all; done) | (simp_all; omega)
                      · skip
                        replace hg44 := bnot_f hg44
                        refine SL_segT 15 [(118, .bool false), (19, .bool (w != 18445336698825998340)), (18, .bool false), (17, .int .u64 18445336698825998336), (16, .int .i64 e8), (79, .bool (decide ((i2_ : Int) < (l.length : Int)))), (0, .slice (some ⟨b0, o0, none⟩) l.length c), (1, .int .u64 w), (2, .int .i64 many), (7, pt F.p 0), (8, .int .u64 (65530 * 281474976710656 + ((0 : Nat) : Int))), (10, .int .i64 mo), (76, .slice (some ⟨b0, o0, none⟩) l.length c), (77, .int .i64 (l.length : Int)), (78, .int .i64 (i2_ : Int))] (by intro δ w; kernel_rfl) ?_
                        refine SL_nil (n_then ?_)
                        refine SW_false (fun _ => rfl) ?_
                        refine SW_skip (n_in (n_then ?_))
                        refine SW_region ?_
                        refine SL_s1 1 119 (.int .i64 (IntKind.wrap .i64 ((i2_ : Int) + 1))) (by intro δ w; kernel_rfl) ?_
                        rw [show IntKind.wrap .i64 ((i2_ : Int) + 1) = (i2_ : Int) + 1 from IntWalk.i64_in _ (by omega)]
                        refine SL_segT 1 [(78, .int .i64 ((i2_ : Int) + 1)), (118, .bool false), (19, .bool (w != 18445336698825998340)), (18, .bool false), (17, .int .u64 18445336698825998336), (16, .int .i64 e8), (79, .bool (decide ((i2_ : Int) < (l.length : Int)))), (0, .slice (some ⟨b0, o0, none⟩) l.length c), (1, .int .u64 w), (2, .int .i64 many), (7, pt F.p 0), (8, .int .u64 (65530 * 281474976710656 + ((0 : Nat) : Int))), (10, .int .i64 mo), (76, .slice (some ⟨b0, o0, none⟩) l.length c), (77, .int .i64 (l.length : Int))] (by intro δ w; kernel_rfl) ?_
                        refine SL_nil (n_then ?_)
                        exact ⟨i2_ + 1, by omega, ⟨fun _ => rfl, (own_mk (J := ([])) (List.Perm.refl _) (by simp only [List.cons_append, List.append_assoc, List.nil_append, List.append_nil]))⟩, by omega⟩
                    · skip
                      replace hg43 := of_decide_eq_false hg43
                      refine SL_s4 4 19 (.bool false) 99 (.bool false) 98 (undef) 97 (undef) (by intro δ w; kernel_rfl) ?_
                      refine SL_nil (n_then ?_)
                      refine SW_seq ?_
                      refine SW_region ?_
                      refine SL_segT 19 [(118, .bool false), (19, .bool false), (18, .bool false), (17, .int .u64 18445336698825998336), (16, .int .i64 e8), (79, .bool (decide ((i2_ : Int) < (l.length : Int)))), (0, .slice (some ⟨b0, o0, none⟩) l.length c), (1, .int .u64 w), (2, .int .i64 many), (7, pt F.p 0), (8, .int .u64 (65530 * 281474976710656 + ((0 : Nat) : Int))), (10, .int .i64 mo), (76, .slice (some ⟨b0, o0, none⟩) l.length c), (77, .int .i64 (l.length : Int)), (78, .int .i64 (i2_ : Int))] (by intro δ w; kernel_rfl) ?_
                      refine SL_nil (n_then ?_)
                      refine SW_false (fun _ => rfl) ?_
                      refine SW_skip (n_in (n_then ?_))
                      refine SW_region ?_
                      refine SL_s1 1 119 (.int .i64 (IntKind.wrap .i64 ((i2_ : Int) + 1))) (by intro δ w; kernel_rfl) ?_
                      rw [show IntKind.wrap .i64 ((i2_ : Int) + 1) = (i2_ : Int) + 1 from IntWalk.i64_in _ (by omega)]
                      refine SL_segT 1 [(78, .int .i64 ((i2_ : Int) + 1)), (118, .bool false), (19, .bool false), (18, .bool false), (17, .int .u64 18445336698825998336), (16, .int .i64 e8), (79, .bool (decide ((i2_ : Int) < (l.length : Int)))), (0, .slice (some ⟨b0, o0, none⟩) l.length c), (1, .int .u64 w), (2, .int .i64 many), (7, pt F.p 0), (8, .int .u64 (65530 * 281474976710656 + ((0 : Nat) : Int))), (10, .int .i64 mo), (76, .slice (some ⟨b0, o0, none⟩) l.length c), (77, .int .i64 (l.length : Int))] (by intro δ w; kernel_rfl) ?_
                      refine SL_nil (n_then ?_)
                      exact ⟨i2_ + 1, by omega, ⟨fun _ => rfl, (own_mk (J := ([])) (List.Perm.refl _) (by simp only [List.cons_append, List.append_assoc, List.nil_append, List.append_nil]))⟩, by omega⟩
                  · skip
                    replace hg42 := of_decide_eq_false hg42
                    refine SL_segT 9 [(19, .bool false), (18, .bool false), (17, .int .u64 18445336698825998336), (16, .int .i64 e8), (79, .bool (decide ((i2_ : Int) < (l.length : Int)))), (0, .slice (some ⟨b0, o0, none⟩) l.length c), (1, .int .u64 w), (2, .int .i64 many), (7, pt F.p 0), (8, .int .u64 (65530 * 281474976710656 + ((0 : Nat) : Int))), (10, .int .i64 mo), (76, .slice (some ⟨b0, o0, none⟩) l.length c), (77, .int .i64 (l.length : Int)), (78, .int .i64 (i2_ : Int))] (by intro δ w; kernel_rfl) ?_
                    refine SL_nil (n_then ?_)
                    refine SW_seq ?_
                    refine SW_region ?_
                    refine SL_segT 19 [(118, .bool false), (19, .bool false), (18, .bool false), (17, .int .u64 18445336698825998336), (16, .int .i64 e8), (79, .bool (decide ((i2_ : Int) < (l.length : Int)))), (0, .slice (some ⟨b0, o0, none⟩) l.length c), (1, .int .u64 w), (2, .int .i64 many), (7, pt F.p 0), (8, .int .u64 (65530 * 281474976710656 + ((0 : Nat) : Int))), (10, .int .i64 mo), (76, .slice (some ⟨b0, o0, none⟩) l.length c), (77, .int .i64 (l.length : Int)), (78, .int .i64 (i2_ : Int))] (by intro δ w; kernel_rfl) ?_
                    refine SL_nil (n_then ?_)
                    refine SW_false (fun _ => rfl) ?_
                    refine SW_skip (n_in (n_then ?_))
                    refine SW_region ?_
                    refine SL_s1 1 119 (.int .i64 (IntKind.wrap .i64 ((i2_ : Int) + 1))) (by intro δ w; kernel_rfl) ?_
                    rw [show IntKind.wrap .i64 ((i2_ : Int) + 1) = (i2_ : Int) + 1 from IntWalk.i64_in _ (by omega)]
                    refine SL_segT 1 [(78, .int .i64 ((i2_ : Int) + 1)), (118, .bool false), (19, .bool false), (18, .bool false), (17, .int .u64 18445336698825998336), (16, .int .i64 e8), (79, .bool (decide ((i2_ : Int) < (l.length : Int)))), (0, .slice (some ⟨b0, o0, none⟩) l.length c), (1, .int .u64 w), (2, .int .i64 many), (7, pt F.p 0), (8, .int .u64 (65530 * 281474976710656 + ((0 : Nat) : Int))), (10, .int .i64 mo), (76, .slice (some ⟨b0, o0, none⟩) l.length c), (77, .int .i64 (l.length : Int))] (by intro δ w; kernel_rfl) ?_
                    refine SL_nil (n_then ?_)
                    exact ⟨i2_ + 1, by omega, ⟨fun _ => rfl, (own_mk (J := ([])) (List.Perm.refl _) (by simp only [List.cons_append, List.append_assoc, List.nil_append, List.append_nil]))⟩, by omega⟩
              · skip
                replace hc37 := of_decide_eq_false hc37
                refine SW_exit (x_then (x_then (x_in (n_then ?_))))
                refine SW_seq ?_
                refine SW_region ?_
                refine SL_s2 2 121 (.int .u64 (65530 * 281474976710656 + ((0 : Nat) : Int))) 120 (pt F.p 0) (by intro δ w; kernel_rfl) ?_
                refine SL_cons ⟨rfl, fun _ => rfl⟩ (O_call 24 #[pt F.p 0, .int .u64 (65530 * 281474976710656 + ((0 : Nat) : Int))] rfl (by intro δ w; kernel_rfl) ((hp_Len hIK1 (n := 0) (by rw [hqK1]; exact objA 1 (by decide) (by decide)) (by rw [hqK1]; rfl)).use _) ?_)
                rintro _ σ18 ⟨_, hσ18, rfl⟩
                obtain rfl : σ18 = ((HeapV.ent K1 F) ++ ([])) := hσ18.trans (rfl)
                refine SL_s3 3 6 (.bool ((List.length (setLenQ E many) : Int) == mo)) 124 (.bool ((List.length (setLenQ E many) : Int) == mo)) 123 (.int .i64 mo) (by intro δ w; kernel_rfl) ?_
                refine SL_nil (n_then ?_)
                refine SW_ret ?_
                refine body_end (.bool ((List.length (setLenQ E many) : Int) == mo)) (fun _ => rfl) ?_
                exact ⟨(), ⟨_, List.Perm.refl _⟩, congrArg Value.bool (by rw [hqlen]; simp)⟩

end Go.Proofs.Ytdfhbheipagnmaa
