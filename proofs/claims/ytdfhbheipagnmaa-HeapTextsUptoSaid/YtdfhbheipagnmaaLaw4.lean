/-
  What functions of the laws of layer 13 do to the memory they own, step by step: each theorem is one function's contract. Conditions: those that each theorem names.
-/
import Derived.Test.YtdfhbheipagnmaaLaw2
import Derived.Test.YtdfhbheipagnmaaTextsD
set_option linter.unusedVariables false
set_option linter.unusedSimpArgs false
set_option maxRecDepth 100000
set_option maxHeartbeats 4000000
namespace Go.Proofs.Ytdfhbheipagnmaa
open Go.Sl

theorem law_HeapTexts {W0 : World} {A : Option Addr} {c : Nat} {l : List ByteArray} (hls : ∀ σ, Src W0 σ A (l.map encS)) (hl : l.length ≤ 1048576) : SC Try.prog W0 4 #[.slice A l.length c] [] (Ret (fun _ : Unit => []) (fun v _ => v = .bool true)) := by
  by_cases hz : l.length = 0
  · skip
    refine SC_body (fn := Try.f4) (n := 91) Try.func4 rfl (by kernel_rfl) (ρ := [(0, .slice A l.length c)]) rfl ?_
    refine SW_seq ?_
    refine SW_region ?_
    refine SL_segT 1 [(2, .bool false), (0, .slice A l.length c)] (by intro δ w; kernel_rfl) ?_
    refine SL_nil (n_then ?_)
    refine SW_seq ?_
    refine SW_region ?_
    refine SL_sig ([] ++ ([])) rfl ?_
    refine SL_cons ⟨rfl, fun _ => rfl⟩ (O_call 9 #[.int .i64 0] rfl (by intro δ w; kernel_rfl) ((hp_New 0).use _) ?_)
    rintro _ σ1 ⟨⟨H0, F⟩, hσ1, rfl, hI0, hp0, ht0, htr0, ho0, hcl0⟩
    obtain rfl : σ1 = ((HeapV.ent H0 F) ++ ([])) := hσ1.trans (rfl)
    simp only [] at hp0 ht0 htr0 ho0 hcl0 hI0
    refine SL_segT 1 [(3, .pointer (some ⟨F.p, 0, none⟩)), (2, .bool false), (0, .slice A l.length c)] (by intro δ w; kernel_rfl) ?_
    refine SL_nil (n_then ?_)
    refine SW_seq ?_
    refine SW_seq ?_
    refine SW_region ?_
    refine SL_segT 3 [(14, .bool false), (3, .pointer (some ⟨F.p, 0, none⟩)), (2, .bool false), (0, .slice A l.length c)] (by intro δ w; kernel_rfl) ?_
    refine SL_sig ([] ++ ((HeapV.ent H0 F) ++ ([]))) rfl ?_
    refine SL_cons ⟨rfl, fun _ => rfl⟩ (O_call 10 #[] rfl (by intro δ w; kernel_rfl) ((law_alive).use _) ?_)
    rintro _ σ2 ⟨_, hσ2, rfl⟩
    obtain rfl : σ2 = ((HeapV.ent H0 F) ++ ([])) := hσ2.trans (rfl)
    refine SL_segT 2 [(17, .bool false), (3, .pointer (some ⟨F.p, 0, none⟩)), (2, .bool false), (0, .slice A l.length c)] (by intro δ w; kernel_rfl) ?_
    refine SL_nil (n_then ?_)
    refine SW_false (fun _ => rfl) ?_
    refine SW_skip (n_then ?_)
    refine SW_seq ?_
    refine SW_seq ?_
    refine SW_region ?_
    refine SL_segT 3 [(20, .int .i64 0), (19, .int .i64 (l.length : Int)), (17, .bool false), (3, .pointer (some ⟨F.p, 0, none⟩)), (2, .bool false), (0, .slice A l.length c)] (by intro δ w; kernel_rfl) ?_
    refine SL_nil (n_then ?_)
    refine SW_block ?_
    refine SW_loop (α := Nat × HeapV) (fun z_ ρ_ σ_ => Fits ρ_ σ_ [(0, .slice A l.length c), (3, .pointer (some ⟨F.p, 0, none⟩)), (20, .int .i64 (z_.1 : Int)), (19, .int .i64 (l.length : Int))] ((HeapV.ent z_.2 F) ++ ([])) ∧ z_.1 ≤ l.length ∧ HInv 0 z_.2 F ∧ TxI l z_.1 (HeapV.texts z_.2)) (fun z_ => l.length - z_.1) (0, H0) ⟨⟨fun _ => rfl, (own_mk (X := ((HeapV.ent H0 F) ++ ([]))) (J := ([])) (List.Perm.refl _) (by simp only [List.cons_append, List.append_assoc, List.nil_append, List.append_nil]))⟩, Nat.zero_le _, hI0, (by simp only [ht0]; exact TxI.start l)⟩ ?_
    rintro ⟨i, H⟩ ρ_ σ_ ⟨hfit, hi0, hi1, hi2⟩
    refine SW_fits hfit ?_
    clear hfit
    simp only [] at hi0 hi1 hi2 ⊢
    refine SW_seq ?_
    refine SW_region ?_
    refine SL_segT 1 [(21, .bool (decide ((i : Int) < (l.length : Int)))), (0, .slice A l.length c), (3, .pointer (some ⟨F.p, 0, none⟩)), (20, .int .i64 (i : Int)), (19, .int .i64 (l.length : Int))] (by intro δ w; kernel_rfl) ?_
    refine SL_nil (n_then ?_)
    refine SW_seq ?_
    refine SW_false (fun _ => (congrArg Value.bool (show (decide ((i : Int) < (l.length : Int))) = false from (by simp; omega)))) ?_
    refine SW_exit (x_then (x_then (x_in (n_then ?_))))
    refine SW_seq ?_
    refine SW_region ?_
    refine SL_segT 1 [(2, .bool true), (21, .bool (decide ((i : Int) < (l.length : Int)))), (0, .slice A l.length c), (3, .pointer (some ⟨F.p, 0, none⟩)), (20, .int .i64 (i : Int)), (19, .int .i64 (l.length : Int))] (by intro δ w; kernel_rfl) ?_
    refine SL_nil (n_then ?_)
    refine SW_ret ?_
    refine body_end (.bool true) (fun _ => rfl) ?_
    exact ⟨(), ⟨_, List.Perm.refl _⟩, rfl⟩
  · obtain ⟨b0, o0, rfl, hq0⟩ := (hls []).resolve_left (by simpa using hz)
    refine SC_body (fn := Try.f4) (n := 91) Try.func4 rfl (by kernel_rfl) (ρ := [(0, .slice (some ⟨b0, o0, none⟩) l.length c)]) rfl ?_
    refine SW_seq ?_
    refine SW_region ?_
    refine SL_segT 1 [(2, .bool false), (0, .slice (some ⟨b0, o0, none⟩) l.length c)] (by intro δ w; kernel_rfl) ?_
    refine SL_nil (n_then ?_)
    refine SW_seq ?_
    refine SW_region ?_
    refine SL_sig ([] ++ ([])) rfl ?_
    refine SL_cons ⟨rfl, fun _ => rfl⟩ (O_call 9 #[.int .i64 0] rfl (by intro δ w; kernel_rfl) ((hp_New 0).use _) ?_)
    rintro _ σ1 ⟨⟨H0, F⟩, hσ1, rfl, hI0, hp0, ht0, htr0, ho0, hcl0⟩
    obtain rfl : σ1 = ((HeapV.ent H0 F) ++ ([])) := hσ1.trans (rfl)
    simp only [] at hp0 ht0 htr0 ho0 hcl0 hI0
    refine SL_segT 1 [(3, .pointer (some ⟨F.p, 0, none⟩)), (2, .bool false), (0, .slice (some ⟨b0, o0, none⟩) l.length c)] (by intro δ w; kernel_rfl) ?_
    refine SL_nil (n_then ?_)
    refine SW_seq ?_
    refine SW_seq ?_
    refine SW_region ?_
    refine SL_segT 3 [(14, .bool false), (3, .pointer (some ⟨F.p, 0, none⟩)), (2, .bool false), (0, .slice (some ⟨b0, o0, none⟩) l.length c)] (by intro δ w; kernel_rfl) ?_
    refine SL_sig ([] ++ ((HeapV.ent H0 F) ++ ([]))) rfl ?_
    refine SL_cons ⟨rfl, fun _ => rfl⟩ (O_call 10 #[] rfl (by intro δ w; kernel_rfl) ((law_alive).use _) ?_)
    rintro _ σ2 ⟨_, hσ2, rfl⟩
    obtain rfl : σ2 = ((HeapV.ent H0 F) ++ ([])) := hσ2.trans (rfl)
    refine SL_segT 2 [(17, .bool false), (3, .pointer (some ⟨F.p, 0, none⟩)), (2, .bool false), (0, .slice (some ⟨b0, o0, none⟩) l.length c)] (by intro δ w; kernel_rfl) ?_
    refine SL_nil (n_then ?_)
    refine SW_false (fun _ => rfl) ?_
    refine SW_skip (n_then ?_)
    refine SW_seq ?_
    refine SW_seq ?_
    refine SW_region ?_
    refine SL_segT 3 [(20, .int .i64 0), (19, .int .i64 (l.length : Int)), (17, .bool false), (3, .pointer (some ⟨F.p, 0, none⟩)), (2, .bool false), (0, .slice (some ⟨b0, o0, none⟩) l.length c)] (by intro δ w; kernel_rfl) ?_
    refine SL_nil (n_then ?_)
    refine SW_block ?_
    refine SW_loop (α := Nat × HeapV) (fun z_ ρ_ σ_ => Fits ρ_ σ_ [(0, .slice (some ⟨b0, o0, none⟩) l.length c), (3, .pointer (some ⟨F.p, 0, none⟩)), (20, .int .i64 (z_.1 : Int)), (19, .int .i64 (l.length : Int))] ((HeapV.ent z_.2 F) ++ ([])) ∧ z_.1 ≤ l.length ∧ HInv 0 z_.2 F ∧ TxI l z_.1 (HeapV.texts z_.2)) (fun z_ => l.length - z_.1) (0, H0) ⟨⟨fun _ => rfl, (own_mk (X := ((HeapV.ent H0 F) ++ ([]))) (J := ([])) (List.Perm.refl _) (by simp only [List.cons_append, List.append_assoc, List.nil_append, List.append_nil]))⟩, Nat.zero_le _, hI0, (by simp only [ht0]; exact TxI.start l)⟩ ?_
    rintro ⟨i, H⟩ ρ_ σ_ ⟨hfit, hi0, hi1, hi2⟩
    refine SW_fits hfit ?_
    clear hfit
    simp only [] at hi0 hi1 hi2 ⊢
    refine SW_seq ?_
    refine SW_region ?_
    refine SL_segT 1 [(21, .bool (decide ((i : Int) < (l.length : Int)))), (0, .slice (some ⟨b0, o0, none⟩) l.length c), (3, .pointer (some ⟨F.p, 0, none⟩)), (20, .int .i64 (i : Int)), (19, .int .i64 (l.length : Int))] (by intro δ w; kernel_rfl) ?_
    refine SL_nil (n_then ?_)
    refine SW_seq ?_
    refine SW_cond (decide ((i : Int) < (l.length : Int))) (fun _ => rfl) (fun hc1 => ?_) (fun hc1 => ?_)
    · skip
      replace hc1 := of_decide_eq_true hc1
      refine SW_skip (n_then ?_)
      refine SW_seq ?_
      refine SW_block ?_
      refine SW_seq ?_
      refine SW_region ?_
      refine SL_segT 2 [(4, .int .i64 (i : Int)), (21, .bool (decide ((i : Int) < (l.length : Int)))), (0, .slice (some ⟨b0, o0, none⟩) l.length c), (3, .pointer (some ⟨F.p, 0, none⟩)), (20, .int .i64 (i : Int)), (19, .int .i64 (l.length : Int))] (by intro δ w; kernel_rfl) ?_
      refine SL_nil (n_then ?_)
      refine SW_seq ?_
      refine SW_region ?_
      refine SL_segT 3 [(26, .int .i64 (i : Int)), (25, .slice (some ⟨b0, o0, none⟩) l.length c), (24, .pointer (some ⟨F.p, 0, none⟩)), (4, .int .i64 (i : Int)), (21, .bool (decide ((i : Int) < (l.length : Int)))), (0, .slice (some ⟨b0, o0, none⟩) l.length c), (3, .pointer (some ⟨F.p, 0, none⟩)), (20, .int .i64 (i : Int)), (19, .int .i64 (l.length : Int))] (by intro δ w; kernel_rfl) ?_
      refine SL_cons ⟨rfl, fun _ => rfl⟩ (O_indexAddr' (i : Int) (o0 + i) b0 o0 l.length c .i64 1 Try.underlying34 (by kernel_rfl) (fun _ => rfl) (fun _ => rfl) (by omega) (by omega) (by omega) rfl ?_)
      obtain ⟨e1, he1⟩ : ∃ y_, l[i]? = some y_ := ⟨_, List.getElem?_eq_getElem (by omega)⟩
      refine SL_cons ⟨rfl, fun _ => rfl⟩ (O_load b0 (o0 + i) (.string e1) (fun _ => rfl) (by kernel_rfl) (Cell.mono (hq0 _ _ (map_cell he1 rfl)) (fun e he => absurd he List.not_mem_nil)) rfl ?_)
      refine SL_cons ⟨rfl, fun _ => rfl⟩ (O_call 15 #[.pointer (some ⟨F.p, 0, none⟩), .string e1] rfl (by intro δ w; kernel_rfl) ((hp_Text hi1 e1).use _) ?_)
      rintro _ σ3 ⟨K1, hσ3, rfl, hIK1, hpK1, htK1⟩
      obtain rfl : σ3 = ((HeapV.ent K1 F) ++ ([])) := hσ3.trans (rfl)
      refine SL_segT 5 [(6, .bool ((textP H.texts e1).2.2)), (5, .int .u64 ((textP H.texts e1).2.1)), (4, .int .i64 (i : Int)), (21, .bool (decide ((i : Int) < (l.length : Int)))), (0, .slice (some ⟨b0, o0, none⟩) l.length c), (3, .pointer (some ⟨F.p, 0, none⟩)), (20, .int .i64 (i : Int)), (19, .int .i64 (l.length : Int))] (by intro δ w; kernel_rfl) ?_
      refine SL_nil (n_then ?_)
      refine SW_seq ?_
      refine SW_seq ?_
      refine SW_region ?_
      refine SL_segT 3 [(34, .int .i64 (i : Int)), (33, .slice (some ⟨b0, o0, none⟩) l.length c), (32, .bool ((textP H.texts e1).2.2)), (6, .bool ((textP H.texts e1).2.2)), (5, .int .u64 ((textP H.texts e1).2.1)), (4, .int .i64 (i : Int)), (21, .bool (decide ((i : Int) < (l.length : Int)))), (0, .slice (some ⟨b0, o0, none⟩) l.length c), (3, .pointer (some ⟨F.p, 0, none⟩)), (20, .int .i64 (i : Int)), (19, .int .i64 (l.length : Int))] (by intro δ w; kernel_rfl) ?_
      refine SL_cons ⟨rfl, fun _ => rfl⟩ (O_indexAddr' (i : Int) (o0 + i) b0 o0 l.length c .i64 1 Try.underlying34 (by kernel_rfl) (fun _ => rfl) (fun _ => rfl) (by omega) (by omega) (by omega) rfl ?_)
      refine SL_cons ⟨rfl, fun _ => rfl⟩ (O_load b0 (o0 + i) (.string e1) (fun _ => rfl) (by kernel_rfl) (Cell.mono (hq0 _ _ (map_cell he1 rfl)) (fun e he => absurd he List.not_mem_nil)) rfl ?_)
      refine SL_segT 3 [(39, .bool (!(((textP H.texts e1).2.2) == (decide ((e1.size : Int) ≤ 4096))))), (6, .bool ((textP H.texts e1).2.2)), (5, .int .u64 ((textP H.texts e1).2.1)), (4, .int .i64 (i : Int)), (21, .bool (decide ((i : Int) < (l.length : Int)))), (0, .slice (some ⟨b0, o0, none⟩) l.length c), (3, .pointer (some ⟨F.p, 0, none⟩)), (20, .int .i64 (i : Int)), (19, .int .i64 (l.length : Int))] (by intro δ w; kernel_rfl) ?_
      refine SL_nil (n_then ?_)
      refine SW_cond (!(((textP H.texts e1).2.2) == (decide ((e1.size : Int) ≤ 4096)))) (fun _ => rfl) (fun hc2 => ?_) (fun hc2 => ?_)
      · skip
        replace hc2 := bnot_t hc2
        refine SW_seq ?_
        refine SW_region ?_
        refine SL_segT 4 [(2, .bool (decide ((l.length : Int) > 16384))), (39, .bool (!(((textP H.texts e1).2.2) == (decide ((e1.size : Int) ≤ 4096))))), (6, .bool ((textP H.texts e1).2.2)), (5, .int .u64 ((textP H.texts e1).2.1)), (4, .int .i64 (i : Int)), (21, .bool (decide ((i : Int) < (l.length : Int)))), (0, .slice (some ⟨b0, o0, none⟩) l.length c), (3, .pointer (some ⟨F.p, 0, none⟩)), (20, .int .i64 (i : Int)), (19, .int .i64 (l.length : Int))] (by intro δ w; kernel_rfl) ?_
        refine SL_nil (n_then ?_)
        refine SW_ret (r_then (r_in (r_then (r_then (r_in (r_then ?_))))))
        refine body_end (.bool (decide ((l.length : Int) > 16384))) (fun _ => rfl) ?_
        exact ⟨(), ⟨_, List.Perm.refl _⟩, congrArg Value.bool (decide_eq_true (by have q_ := tx_full hi2 (by omega) hc2; omega))⟩
      · skip
        replace hc2 := bnot_f hc2
        refine SW_skip (n_then ?_)
        refine SW_seq ?_
        refine SW_seq ?_
        refine SW_region ?_
        refine SL_segT 2 [(44, .bool (!((textP H.texts e1).2.2))), (39, .bool (!(((textP H.texts e1).2.2) == (decide ((e1.size : Int) ≤ 4096))))), (6, .bool ((textP H.texts e1).2.2)), (5, .int .u64 ((textP H.texts e1).2.1)), (4, .int .i64 (i : Int)), (21, .bool (decide ((i : Int) < (l.length : Int)))), (0, .slice (some ⟨b0, o0, none⟩) l.length c), (3, .pointer (some ⟨F.p, 0, none⟩)), (20, .int .i64 (i : Int)), (19, .int .i64 (l.length : Int))] (by intro δ w; kernel_rfl) ?_
        refine SL_nil (n_then ?_)
        refine SW_cond (!((textP H.texts e1).2.2)) (fun _ => rfl) (fun hc3 => ?_) (fun hc3 => ?_)
        · skip
          replace hc3 := bnot_t hc3
          refine SW_exit (x_then (x_in (n_then ?_)))
          refine SW_region ?_
          refine SL_segT 1 [(90, .int .i64 (IntKind.wrap .i64 ((i : Int) + 1))), (44, .bool (!((textP H.texts e1).2.2))), (39, .bool (!(((textP H.texts e1).2.2) == (decide ((e1.size : Int) ≤ 4096))))), (6, .bool ((textP H.texts e1).2.2)), (5, .int .u64 ((textP H.texts e1).2.1)), (4, .int .i64 (i : Int)), (21, .bool (decide ((i : Int) < (l.length : Int)))), (0, .slice (some ⟨b0, o0, none⟩) l.length c), (3, .pointer (some ⟨F.p, 0, none⟩)), (20, .int .i64 (i : Int)), (19, .int .i64 (l.length : Int))] (by intro δ w; kernel_rfl) ?_
          rw [show IntKind.wrap .i64 ((i : Int) + 1) = (i : Int) + 1 from IntWalk.i64_in _ (by omega)]
          refine SL_segT 1 [(20, .int .i64 ((i : Int) + 1)), (44, .bool (!((textP H.texts e1).2.2))), (39, .bool (!(((textP H.texts e1).2.2) == (decide ((e1.size : Int) ≤ 4096))))), (6, .bool ((textP H.texts e1).2.2)), (5, .int .u64 ((textP H.texts e1).2.1)), (4, .int .i64 (i : Int)), (21, .bool (decide ((i : Int) < (l.length : Int)))), (0, .slice (some ⟨b0, o0, none⟩) l.length c), (3, .pointer (some ⟨F.p, 0, none⟩)), (19, .int .i64 (l.length : Int))] (by intro δ w; kernel_rfl) ?_
          refine SL_nil (n_then ?_)
          exact ⟨(i + 1, K1), by simp only []; omega, ⟨fun _ => rfl, (own_mk (X := ((HeapV.ent K1 F) ++ ([]))) (J := ([])) (List.Perm.refl _) (by simp only [List.cons_append, List.append_assoc, List.nil_append, List.append_nil]))⟩, by simp only []; omega, hIK1, by simp only []; rw [htK1]; exact tx_skip hi2 he1 hc2 hc3⟩
        · skip
          replace hc3 := bnot_f hc3
          refine SW_skip (n_then ?_)
          refine SW_seq ?_
          refine SW_region ?_
          refine SL_segT 2 [(47, .int .u64 ((textP H.texts e1).2.1)), (46, .pointer (some ⟨F.p, 0, none⟩)), (44, .bool (!((textP H.texts e1).2.2))), (39, .bool (!(((textP H.texts e1).2.2) == (decide ((e1.size : Int) ≤ 4096))))), (6, .bool ((textP H.texts e1).2.2)), (5, .int .u64 ((textP H.texts e1).2.1)), (4, .int .i64 (i : Int)), (21, .bool (decide ((i : Int) < (l.length : Int)))), (0, .slice (some ⟨b0, o0, none⟩) l.length c), (3, .pointer (some ⟨F.p, 0, none⟩)), (20, .int .i64 (i : Int)), (19, .int .i64 (l.length : Int))] (by intro δ w; kernel_rfl) ?_
          refine SL_cons ⟨rfl, fun _ => rfl⟩ (O_call 16 #[.pointer (some ⟨F.p, 0, none⟩), .int .u64 ((textP H.texts e1).2.1)] rfl (by intro δ w; kernel_rfl) ((hp_TextOf hIK1 ((textP H.texts e1).2.1)).use _) ?_)
          rintro v4 σ4 ⟨_, hσ4, hv4⟩
          obtain rfl : v4 = .tuple #[.string e1, .bool true] := hv4.trans (by rw [htK1, tx_of hi2 (by rw [← htK1]; exact hIK1.ok.texts) hc3]; rfl)
          obtain rfl : σ4 = ((HeapV.ent K1 F) ++ ([])) := hσ4.trans (rfl)
          refine SL_segT 5 [(8, .bool true), (7, .string e1), (44, .bool (!((textP H.texts e1).2.2))), (39, .bool (!(((textP H.texts e1).2.2) == (decide ((e1.size : Int) ≤ 4096))))), (6, .bool ((textP H.texts e1).2.2)), (5, .int .u64 ((textP H.texts e1).2.1)), (4, .int .i64 (i : Int)), (21, .bool (decide ((i : Int) < (l.length : Int)))), (0, .slice (some ⟨b0, o0, none⟩) l.length c), (3, .pointer (some ⟨F.p, 0, none⟩)), (20, .int .i64 (i : Int)), (19, .int .i64 (l.length : Int))] (by intro δ w; kernel_rfl) ?_
          refine SL_nil (n_then ?_)
          refine SW_seq ?_
          refine SW_region ?_
          refine SL_segT 2 [(53, .slice (some ⟨b0, o0, none⟩) l.length c), (52, .pointer (some ⟨F.p, 0, none⟩)), (8, .bool true), (7, .string e1), (44, .bool (!((textP H.texts e1).2.2))), (39, .bool (!(((textP H.texts e1).2.2) == (decide ((e1.size : Int) ≤ 4096))))), (6, .bool ((textP H.texts e1).2.2)), (5, .int .u64 ((textP H.texts e1).2.1)), (4, .int .i64 (i : Int)), (21, .bool (decide ((i : Int) < (l.length : Int)))), (0, .slice (some ⟨b0, o0, none⟩) l.length c), (3, .pointer (some ⟨F.p, 0, none⟩)), (20, .int .i64 (i : Int)), (19, .int .i64 (l.length : Int))] (by intro δ w; kernel_rfl) ?_
          refine SL_cons ⟨rfl, fun _ => rfl⟩ (O_indexAddr' 0 (o0 + 0) b0 o0 l.length c .i64 1 Try.underlying34 (by kernel_rfl) (fun _ => rfl) (fun _ => rfl) (by omega) (by omega) (by omega) rfl ?_)
          obtain ⟨e2, he2⟩ : ∃ y_, l[0]? = some y_ := ⟨_, List.getElem?_eq_getElem (by omega)⟩
          refine SL_cons ⟨rfl, fun _ => rfl⟩ (O_load b0 (o0 + 0) (.string e2) (fun _ => rfl) (by kernel_rfl) (Cell.mono (hq0 _ _ (map_cell he2 rfl)) (fun e he => absurd he List.not_mem_nil)) rfl ?_)
          refine SL_cons ⟨rfl, fun _ => rfl⟩ (O_call 15 #[.pointer (some ⟨F.p, 0, none⟩), .string e2] rfl (by intro δ w; kernel_rfl) ((hp_Text hIK1 e2).use _) ?_)
          rintro v5 σ5 ⟨K2, hσ5, hv5, hIK2, hpK2, htK2⟩
          obtain rfl : v5 = .tuple #[.int .u64 ((textP (textP H.texts e1).1 e2).2.1), .bool ((textP (textP H.texts e1).1 e2).2.2)] := hv5.trans (by rw [htK1])
          obtain rfl : σ5 = ((HeapV.ent K2 F) ++ ([])) := hσ5.trans (rfl)
          rw [htK1] at htK2
          refine SL_segT 5 [(9, .int .u64 ((textP (textP H.texts e1).1 e2).2.1)), (8, .bool true), (7, .string e1), (44, .bool (!((textP H.texts e1).2.2))), (39, .bool (!(((textP H.texts e1).2.2) == (decide ((e1.size : Int) ≤ 4096))))), (6, .bool ((textP H.texts e1).2.2)), (5, .int .u64 ((textP H.texts e1).2.1)), (4, .int .i64 (i : Int)), (21, .bool (decide ((i : Int) < (l.length : Int)))), (0, .slice (some ⟨b0, o0, none⟩) l.length c), (3, .pointer (some ⟨F.p, 0, none⟩)), (20, .int .i64 (i : Int)), (19, .int .i64 (l.length : Int))] (by intro δ w; kernel_rfl) ?_
          refine SL_nil (n_then ?_)
          refine SW_seq ?_
          refine SW_draw [(b0, o0 + i, .string e1), (b0, o0 + 0, .string e2), (b0, o0 + i, .string e1), (b0, o0 + 0, .string e2)] [0, 1, 2, 3, 4, 5, 6, 7, 8, 9, 10, 11, 12, 13, 14, 15, 16, 17, 18, 19, 20, 21, 22, 23, 24, 25, 26] (by kernel_rfl) (rd_cons (Cell.mono (hq0 _ _ (map_cell he1 rfl)) (fun e he => absurd he List.not_mem_nil)) (rd_cons (Cell.mono (hq0 _ _ (map_cell he2 rfl)) (fun e he => absurd he List.not_mem_nil)) (rd_cons (Cell.mono (hq0 _ _ (map_cell he1 rfl)) (fun e he => absurd he List.not_mem_nil)) (rd_cons (Cell.mono (hq0 _ _ (map_cell he2 rfl)) (fun e he => absurd he List.not_mem_nil)) rd_nil)))) ?_
          refine SA_take (li' := #[true, false, false, false, false, false, false, false, false, false, false, false, false, false, false, false, false, false, false, false, false, false, false, false, false, false, false, false, false, false, false]) 0 _ (.bool true) (fun _ _ _ h => h) rfl (by kernel_rfl) rfl (Or.inl ⟨fun _ => rfl, by intro δ w; kernel_rfl⟩) ?_
          refine SA_take (li' := #[true, true, false, false, false, false, false, false, false, false, false, false, false, false, false, false, false, false, false, false, false, false, false, false, false, false, false, false, false, false, false]) 1 _ (.bool false) (fun _ _ _ h => h) rfl (by kernel_rfl) rfl (Or.inl ⟨fun _ => rfl, by intro δ w; kernel_rfl⟩) ?_
          refine SA_take (li' := #[true, true, true, false, false, false, false, false, false, false, false, false, false, false, false, false, false, false, false, false, false, false, false, false, false, false, false, false, false, false, false]) 2 _ (.bool false) (fun _ _ _ h => h) rfl (by kernel_rfl) rfl (Or.inl ⟨fun _ => rfl, by intro δ w; kernel_rfl⟩) ?_
          refine SA_take (li' := #[true, true, true, true, false, false, false, false, false, false, false, false, false, false, false, false, false, false, false, false, false, false, false, false, false, false, false, false, false, false, false]) 3 _ (.string e1) (fun _ _ _ h => h) rfl (by kernel_rfl) rfl (Or.inl ⟨fun _ => rfl, by intro δ w; kernel_rfl⟩) ?_
          refine SA_take (li' := #[true, true, true, true, true, false, false, false, false, false, false, false, false, false, false, false, false, false, false, false, false, false, false, false, false, false, false, false, false, false, false]) 4 _ (.slice (some ⟨b0, o0, none⟩) l.length c) (fun _ _ _ h => h) rfl (by kernel_rfl) rfl (Or.inl ⟨fun _ => rfl, by intro δ w; kernel_rfl⟩) ?_
          refine SA_take (li' := #[true, true, true, true, true, true, false, false, false, false, false, false, false, false, false, false, false, false, false, false, false, false, false, false, false, false, false, false, false, false, false]) 5 _ (.int .i64 (i : Int)) (fun _ _ _ h => h) rfl (by kernel_rfl) rfl (Or.inl ⟨fun _ => rfl, by intro δ w; kernel_rfl⟩) ?_
          refine SA_take (li' := #[true, true, true, true, true, true, true, false, false, false, false, false, false, false, false, false, false, false, false, false, false, false, false, false, false, false, false, false, false, false, false]) 6 _ (.pointer (some ⟨b0, o0 + i, none⟩)) (fun _ _ _ h => h) rfl (by kernel_rfl) rfl (Or.inl ⟨fun _ => rfl, (fun δ w => run_indexAddr (i : Int) (o0 + i) b0 o0 l.length c .i64 1 Try.underlying34 (by kernel_rfl) (fun _ => rfl) (fun _ => rfl) (by omega) (by omega) (by omega))⟩) ?_
          refine SA_trim [(65, .pointer (some ⟨b0, o0 + i, none⟩)), (62, .string e1), (61, .bool false), (9, .int .u64 ((textP (textP H.texts e1).1 e2).2.1)), (8, .bool true), (7, .string e1), (44, .bool (!((textP H.texts e1).2.2))), (39, .bool (!(((textP H.texts e1).2.2) == (decide ((e1.size : Int) ≤ 4096))))), (6, .bool ((textP H.texts e1).2.2)), (5, .int .u64 ((textP H.texts e1).2.1)), (4, .int .i64 (i : Int)), (21, .bool (decide ((i : Int) < (l.length : Int)))), (0, .slice (some ⟨b0, o0, none⟩) l.length c), (3, .pointer (some ⟨F.p, 0, none⟩)), (20, .int .i64 (i : Int)), (19, .int .i64 (l.length : Int))] (fun _ => rfl) ?_
          refine SA_read (li' := #[true, true, true, true, true, true, true, true, false, false, false, false, false, false, false, false, false, false, false, false, false, false, false, false, false, false, false, false, false, false, false]) 7 _ (.string e1) (fun _ _ _ h => h) rfl (by kernel_rfl) rfl (fun _ => rfl) (fun δ w hr => Rd_load b0 (o0 + i) (.string e1) rfl (by kernel_rfl) List.mem_cons_self hr) ?_
          refine SA_take (li' := #[true, true, true, true, true, true, true, true, true, false, false, false, false, false, false, false, false, false, false, false, false, false, false, false, false, false, false, false, false, false, false]) 8 _ (.bool (!(e1.toList == e1.toList))) (fun _ _ _ h => h) rfl (by kernel_rfl) rfl (Or.inl ⟨fun _ => rfl, by intro δ w; kernel_rfl⟩) ?_
          rw [show (!(e1.toList == e1.toList)) = (!(decide (e1 = e1))) from by rw [str_eq]]
          refine SA_take (li' := #[true, true, true, true, true, true, true, true, true, true, false, false, false, false, false, false, false, false, false, false, false, false, false, false, false, false, false, false, false, false, false]) 9 _ (.bool (!(decide (e1 = e1)))) (fun _ _ _ h => h) rfl (by kernel_rfl) rfl (Or.inl ⟨fun _ => rfl, by intro δ w; kernel_rfl⟩) ?_
          refine SA_trim [(68, .bool (!(decide (e1 = e1)))), (9, .int .u64 ((textP (textP H.texts e1).1 e2).2.1)), (8, .bool true), (7, .string e1), (44, .bool (!((textP H.texts e1).2.2))), (39, .bool (!(((textP H.texts e1).2.2) == (decide ((e1.size : Int) ≤ 4096))))), (6, .bool ((textP H.texts e1).2.2)), (5, .int .u64 ((textP H.texts e1).2.1)), (4, .int .i64 (i : Int)), (21, .bool (decide ((i : Int) < (l.length : Int)))), (0, .slice (some ⟨b0, o0, none⟩) l.length c), (3, .pointer (some ⟨F.p, 0, none⟩)), (20, .int .i64 (i : Int)), (19, .int .i64 (l.length : Int))] (fun _ => rfl) ?_
          refine SA_take (li' := #[true, true, true, true, true, true, true, true, true, true, true, false, false, false, false, false, false, false, false, false, false, false, false, false, false, false, false, false, false, false, false]) 10 _ (.bool (!(decide (e1 = e1)))) (fun _ _ _ h => h) rfl (by kernel_rfl) rfl (Or.inl ⟨fun _ => rfl, by intro δ w; kernel_rfl⟩) ?_
          refine SA_tb (!(decide (e1 = e1))) (fun tb_ => [(69, .bool tb_), (68, .bool tb_), (9, .int .u64 ((textP (textP H.texts e1).1 e2).2.1)), (8, .bool true), (7, .string e1), (44, .bool (!((textP H.texts e1).2.2))), (39, .bool (!(((textP H.texts e1).2.2) == (decide ((e1.size : Int) ≤ 4096))))), (6, .bool ((textP H.texts e1).2.2)), (5, .int .u64 ((textP H.texts e1).2.1)), (4, .int .i64 (i : Int)), (21, .bool (decide ((i : Int) < (l.length : Int)))), (0, .slice (some ⟨b0, o0, none⟩) l.length c), (3, .pointer (some ⟨F.p, 0, none⟩)), (20, .int .i64 (i : Int)), (19, .int .i64 (l.length : Int))]) (fun hg4 => ?_) (fun hg4 => ?_)
          · skip
            replace hg4 := bnot_t hg4
            replace hg4 := of_decide_eq_false hg4
            simp at hg4
          · skip
            replace hg4 := bnot_f hg4
            replace hg4 := of_decide_eq_true hg4
            refine SA_take (li' := #[true, true, true, true, true, true, true, true, true, true, true, true, false, false, false, false, false, false, false, false, false, false, false, false, false, false, false, false, false, false, false]) 11 _ (.slice (some ⟨b0, o0, none⟩) l.length c) (fun _ _ _ h => h) rfl (by kernel_rfl) rfl (Or.inl ⟨fun _ => rfl, by intro δ w; kernel_rfl⟩) ?_
            refine SA_take (li' := #[true, true, true, true, true, true, true, true, true, true, true, true, true, false, false, false, false, false, false, false, false, false, false, false, false, false, false, false, false, false, false]) 12 _ (.pointer (some ⟨b0, o0 + 0, none⟩)) (fun _ _ _ h => h) rfl (by kernel_rfl) rfl (Or.inl ⟨fun _ => rfl, (fun δ w => run_indexAddr 0 (o0 + 0) b0 o0 l.length c .i64 1 Try.underlying34 (by kernel_rfl) (fun _ => rfl) (fun _ => rfl) (by omega) (by omega) (by omega))⟩) ?_
            refine SA_read (li' := #[true, true, true, true, true, true, true, true, true, true, true, true, true, true, false, false, false, false, false, false, false, false, false, false, false, false, false, false, false, false, false]) 13 _ (.string e2) (fun _ _ _ h => h) rfl (by kernel_rfl) rfl (fun _ => rfl) (fun δ w hr => Rd_load b0 (o0 + 0) (.string e2) rfl (by kernel_rfl) (List.mem_cons_of_mem _ List.mem_cons_self) hr) ?_
            refine SA_take (li' := #[true, true, true, true, true, true, true, true, true, true, true, true, true, true, true, false, false, false, false, false, false, false, false, false, false, false, false, false, false, false, false]) 14 _ (.int .i64 (e2.size : Int)) (fun _ _ _ h => h) rfl (by kernel_rfl) rfl (Or.inl ⟨fun _ => rfl, by intro δ w; kernel_rfl⟩) ?_
            refine SA_trim [(73, .int .i64 (e2.size : Int)), (69, .bool false), (9, .int .u64 ((textP (textP H.texts e1).1 e2).2.1)), (8, .bool true), (7, .string e1), (44, .bool (!((textP H.texts e1).2.2))), (39, .bool (!(((textP H.texts e1).2.2) == (decide ((e1.size : Int) ≤ 4096))))), (6, .bool ((textP H.texts e1).2.2)), (5, .int .u64 ((textP H.texts e1).2.1)), (4, .int .i64 (i : Int)), (21, .bool (decide ((i : Int) < (l.length : Int)))), (0, .slice (some ⟨b0, o0, none⟩) l.length c), (3, .pointer (some ⟨F.p, 0, none⟩)), (20, .int .i64 (i : Int)), (19, .int .i64 (l.length : Int))] (fun _ => rfl) ?_
            refine SA_take (li' := #[true, true, true, true, true, true, true, true, true, true, true, true, true, true, true, true, false, false, false, false, false, false, false, false, false, false, false, false, false, false, false]) 15 _ (.bool (decide ((e2.size : Int) ≤ 4096))) (fun _ _ _ h => h) rfl (by kernel_rfl) rfl (Or.inl ⟨fun _ => rfl, by intro δ w; kernel_rfl⟩) ?_
            refine SA_take (li' := #[true, true, true, true, true, true, true, true, true, true, true, true, true, true, true, true, true, false, false, false, false, false, false, false, false, false, false, false, false, false, false]) 16 _ (.bool (decide ((e2.size : Int) ≤ 4096))) (fun _ _ _ h => h) rfl (by kernel_rfl) rfl (Or.inl ⟨fun _ => rfl, by intro δ w; kernel_rfl⟩) ?_
            refine SA_tb (decide ((e2.size : Int) ≤ 4096)) (fun tb_ => [(75, .bool tb_), (74, .bool tb_), (73, .int .i64 (e2.size : Int)), (69, .bool false), (9, .int .u64 ((textP (textP H.texts e1).1 e2).2.1)), (8, .bool true), (7, .string e1), (44, .bool (!((textP H.texts e1).2.2))), (39, .bool (!(((textP H.texts e1).2.2) == (decide ((e1.size : Int) ≤ 4096))))), (6, .bool ((textP H.texts e1).2.2)), (5, .int .u64 ((textP H.texts e1).2.1)), (4, .int .i64 (i : Int)), (21, .bool (decide ((i : Int) < (l.length : Int)))), (0, .slice (some ⟨b0, o0, none⟩) l.length c), (3, .pointer (some ⟨F.p, 0, none⟩)), (20, .int .i64 (i : Int)), (19, .int .i64 (l.length : Int))]) (fun hg5 => ?_) (fun hg5 => ?_)
            · skip
              replace hg5 := of_decide_eq_true hg5
              refine SA_take (li' := #[true, true, true, true, true, true, true, true, true, true, true, true, true, true, true, true, true, true, false, false, false, false, false, false, false, false, false, false, false, false, false]) 17 _ (.int .u64 ((textP H.texts e1).2.1)) (fun _ _ _ h => h) rfl (by kernel_rfl) rfl (Or.inl ⟨fun _ => rfl, by intro δ w; kernel_rfl⟩) ?_
              refine SA_take (li' := #[true, true, true, true, true, true, true, true, true, true, true, true, true, true, true, true, true, true, true, false, false, false, false, false, false, false, false, false, false, false, false]) 18 _ (.int .u64 ((textP (textP H.texts e1).1 e2).2.1)) (fun _ _ _ h => h) rfl (by kernel_rfl) rfl (Or.inl ⟨fun _ => rfl, by intro δ w; kernel_rfl⟩) ?_
              refine SA_take (li' := #[true, true, true, true, true, true, true, true, true, true, true, true, true, true, true, true, true, true, true, true, false, false, false, false, false, false, false, false, false, false, false]) 19 _ (.bool (((textP H.texts e1).2.1) == ((textP (textP H.texts e1).1 e2).2.1))) (fun _ _ _ h => h) rfl (by kernel_rfl) rfl (Or.inl ⟨fun _ => rfl, by intro δ w; kernel_rfl⟩) ?_
              refine SA_trim [(78, .bool (((textP H.texts e1).2.1) == ((textP (textP H.texts e1).1 e2).2.1))), (75, .bool true), (69, .bool false), (9, .int .u64 ((textP (textP H.texts e1).1 e2).2.1)), (8, .bool true), (7, .string e1), (44, .bool (!((textP H.texts e1).2.2))), (39, .bool (!(((textP H.texts e1).2.2) == (decide ((e1.size : Int) ≤ 4096))))), (6, .bool ((textP H.texts e1).2.2)), (5, .int .u64 ((textP H.texts e1).2.1)), (4, .int .i64 (i : Int)), (21, .bool (decide ((i : Int) < (l.length : Int)))), (0, .slice (some ⟨b0, o0, none⟩) l.length c), (3, .pointer (some ⟨F.p, 0, none⟩)), (20, .int .i64 (i : Int)), (19, .int .i64 (l.length : Int))] (fun _ => rfl) ?_
              refine SA_take (li' := #[true, true, true, true, true, true, true, true, true, true, true, true, true, true, true, true, true, true, true, true, true, false, false, false, false, false, false, false, false, false, false]) 20 _ (.slice (some ⟨b0, o0, none⟩) l.length c) (fun _ _ _ h => h) rfl (by kernel_rfl) rfl (Or.inl ⟨fun _ => rfl, by intro δ w; kernel_rfl⟩) ?_
              refine SA_take (li' := #[true, true, true, true, true, true, true, true, true, true, true, true, true, true, true, true, true, true, true, true, true, true, false, false, false, false, false, false, false, false, false]) 21 _ (.int .i64 (i : Int)) (fun _ _ _ h => h) rfl (by kernel_rfl) rfl (Or.inl ⟨fun _ => rfl, by intro δ w; kernel_rfl⟩) ?_
              refine SA_take (li' := #[true, true, true, true, true, true, true, true, true, true, true, true, true, true, true, true, true, true, true, true, true, true, true, false, false, false, false, false, false, false, false]) 22 _ (.pointer (some ⟨b0, o0 + i, none⟩)) (fun _ _ _ h => h) rfl (by kernel_rfl) rfl (Or.inl ⟨fun _ => rfl, (fun δ w => run_indexAddr (i : Int) (o0 + i) b0 o0 l.length c .i64 1 Try.underlying34 (by kernel_rfl) (fun _ => rfl) (fun _ => rfl) (by omega) (by omega) (by omega))⟩) ?_
              refine SA_read (li' := #[true, true, true, true, true, true, true, true, true, true, true, true, true, true, true, true, true, true, true, true, true, true, true, true, false, false, false, false, false, false, false]) 23 _ (.string e1) (fun _ _ _ h => h) rfl (by kernel_rfl) rfl (fun _ => rfl) (fun δ w hr => Rd_load b0 (o0 + i) (.string e1) rfl (by kernel_rfl) List.mem_cons_self hr) ?_
              refine SA_take (li' := #[true, true, true, true, true, true, true, true, true, true, true, true, true, true, true, true, true, true, true, true, true, true, true, true, true, false, false, false, false, false, false]) 24 _ (.slice (some ⟨b0, o0, none⟩) l.length c) (fun _ _ _ h => h) rfl (by kernel_rfl) rfl (Or.inl ⟨fun _ => rfl, by intro δ w; kernel_rfl⟩) ?_
              refine SA_take (li' := #[true, true, true, true, true, true, true, true, true, true, true, true, true, true, true, true, true, true, true, true, true, true, true, true, true, true, false, false, false, false, false]) 25 _ (.pointer (some ⟨b0, o0 + 0, none⟩)) (fun _ _ _ h => h) rfl (by kernel_rfl) rfl (Or.inl ⟨fun _ => rfl, (fun δ w => run_indexAddr 0 (o0 + 0) b0 o0 l.length c .i64 1 Try.underlying34 (by kernel_rfl) (fun _ => rfl) (fun _ => rfl) (by omega) (by omega) (by omega))⟩) ?_
              refine SA_trim [(84, .pointer (some ⟨b0, o0 + 0, none⟩)), (82, .string e1), (78, .bool (((textP H.texts e1).2.1) == ((textP (textP H.texts e1).1 e2).2.1))), (75, .bool true), (69, .bool false), (9, .int .u64 ((textP (textP H.texts e1).1 e2).2.1)), (8, .bool true), (7, .string e1), (44, .bool (!((textP H.texts e1).2.2))), (39, .bool (!(((textP H.texts e1).2.2) == (decide ((e1.size : Int) ≤ 4096))))), (6, .bool ((textP H.texts e1).2.2)), (5, .int .u64 ((textP H.texts e1).2.1)), (4, .int .i64 (i : Int)), (21, .bool (decide ((i : Int) < (l.length : Int)))), (0, .slice (some ⟨b0, o0, none⟩) l.length c), (3, .pointer (some ⟨F.p, 0, none⟩)), (20, .int .i64 (i : Int)), (19, .int .i64 (l.length : Int))] (fun _ => rfl) ?_
              refine SA_read (li' := #[true, true, true, true, true, true, true, true, true, true, true, true, true, true, true, true, true, true, true, true, true, true, true, true, true, true, true, false, false, false, false]) 26 _ (.string e2) (fun _ _ _ h => h) rfl (by kernel_rfl) rfl (fun _ => rfl) (fun δ w hr => Rd_load b0 (o0 + 0) (.string e2) rfl (by kernel_rfl) (List.mem_cons_of_mem _ List.mem_cons_self) hr) ?_
              refine SA_take (li' := #[true, true, true, true, true, true, true, true, true, true, true, true, true, true, true, true, true, true, true, true, true, true, true, true, true, true, true, true, false, false, false]) 27 _ (.bool (e1.toList == e2.toList)) (fun _ _ _ h => h) rfl (by kernel_rfl) rfl (Or.inl ⟨fun _ => rfl, by intro δ w; kernel_rfl⟩) ?_
              rw [show (e1.toList == e2.toList) = (decide (e1 = e2)) from by rw [str_eq]]
              refine SA_take (li' := #[true, true, true, true, true, true, true, true, true, true, true, true, true, true, true, true, true, true, true, true, true, true, true, true, true, true, true, true, true, false, false]) 28 _ (.bool (!((((textP H.texts e1).2.1) == ((textP (textP H.texts e1).1 e2).2.1)) == (decide (e1 = e2))))) (fun _ _ _ h => h) rfl (by kernel_rfl) rfl (Or.inl ⟨fun _ => rfl, by intro δ w; kernel_rfl⟩) ?_
              refine SA_trim [(87, .bool (!((((textP H.texts e1).2.1) == ((textP (textP H.texts e1).1 e2).2.1)) == (decide (e1 = e2))))), (75, .bool true), (69, .bool false), (9, .int .u64 ((textP (textP H.texts e1).1 e2).2.1)), (8, .bool true), (7, .string e1), (44, .bool (!((textP H.texts e1).2.2))), (39, .bool (!(((textP H.texts e1).2.2) == (decide ((e1.size : Int) ≤ 4096))))), (6, .bool ((textP H.texts e1).2.2)), (5, .int .u64 ((textP H.texts e1).2.1)), (4, .int .i64 (i : Int)), (21, .bool (decide ((i : Int) < (l.length : Int)))), (0, .slice (some ⟨b0, o0, none⟩) l.length c), (3, .pointer (some ⟨F.p, 0, none⟩)), (20, .int .i64 (i : Int)), (19, .int .i64 (l.length : Int))] (fun _ => rfl) ?_
              refine SA_take (li' := #[true, true, true, true, true, true, true, true, true, true, true, true, true, true, true, true, true, true, true, true, true, true, true, true, true, true, true, true, true, true, false]) 29 _ (.bool (!((((textP H.texts e1).2.1) == ((textP (textP H.texts e1).1 e2).2.1)) == (decide (e1 = e2))))) (fun _ _ _ h => h) rfl (by kernel_rfl) rfl (Or.inl ⟨fun _ => rfl, by intro δ w; kernel_rfl⟩) ?_
              refine SA_take (li' := #[true, true, true, true, true, true, true, true, true, true, true, true, true, true, true, true, true, true, true, true, true, true, true, true, true, true, true, true, true, true, true]) 30 _ (.bool (!((((textP H.texts e1).2.1) == ((textP (textP H.texts e1).1 e2).2.1)) == (decide (e1 = e2))))) (fun _ _ _ h => h) rfl (by kernel_rfl) rfl (Or.inl ⟨fun _ => rfl, by intro δ w; kernel_rfl⟩) ?_
              refine SA_trim [(89, .bool (!((((textP H.texts e1).2.1) == ((textP (textP H.texts e1).1 e2).2.1)) == (decide (e1 = e2))))), (9, .int .u64 ((textP (textP H.texts e1).1 e2).2.1)), (8, .bool true), (7, .string e1), (44, .bool (!((textP H.texts e1).2.2))), (39, .bool (!(((textP H.texts e1).2.2) == (decide ((e1.size : Int) ≤ 4096))))), (6, .bool ((textP H.texts e1).2.2)), (5, .int .u64 ((textP H.texts e1).2.1)), (4, .int .i64 (i : Int)), (21, .bool (decide ((i : Int) < (l.length : Int)))), (0, .slice (some ⟨b0, o0, none⟩) l.length c), (3, .pointer (some ⟨F.p, 0, none⟩)), (20, .int .i64 (i : Int)), (19, .int .i64 (l.length : Int))] (fun _ => rfl) ?_
              refine SA_done (by kernel_rfl) (n_then ?_)
              refine SW_cond (!((((textP H.texts e1).2.1) == ((textP (textP H.texts e1).1 e2).2.1)) == (decide (e1 = e2)))) (fun _ => rfl) (fun hc6 => ?_) (fun hc6 => ?_)
              · skip
                replace hc6 := bnot_t hc6
                refine SW_seq ?_
                refine SW_region ?_
                refine SL_segT 1 [(2, .bool false), (89, .bool (!((((textP H.texts e1).2.1) == ((textP (textP H.texts e1).1 e2).2.1)) == (decide (e1 = e2))))), (9, .int .u64 ((textP (textP H.texts e1).1 e2).2.1)), (8, .bool true), (7, .string e1), (44, .bool (!((textP H.texts e1).2.2))), (39, .bool (!(((textP H.texts e1).2.2) == (decide ((e1.size : Int) ≤ 4096))))), (6, .bool ((textP H.texts e1).2.2)), (5, .int .u64 ((textP H.texts e1).2.1)), (4, .int .i64 (i : Int)), (21, .bool (decide ((i : Int) < (l.length : Int)))), (0, .slice (some ⟨b0, o0, none⟩) l.length c), (3, .pointer (some ⟨F.p, 0, none⟩)), (20, .int .i64 (i : Int)), (19, .int .i64 (l.length : Int))] (by intro δ w; kernel_rfl) ?_
                refine SL_nil (n_then ?_)
                refine SW_ret (r_in (r_then (r_then (r_in (r_then ?_)))))
                refine body_end (.bool false) (fun _ => rfl) ?_
                exfalso
                have q_ := tx_same hi2 he1 he2 hc3 (by omega)
                rw [q_] at hc6
                simp at hc6
              · skip
                replace hc6 := bnot_f hc6
                refine SW_skip (n_in (n_then ?_))
                refine SW_region ?_
                refine SL_segT 1 [(90, .int .i64 (IntKind.wrap .i64 ((i : Int) + 1))), (89, .bool (!((((textP H.texts e1).2.1) == ((textP (textP H.texts e1).1 e2).2.1)) == (decide (e1 = e2))))), (9, .int .u64 ((textP (textP H.texts e1).1 e2).2.1)), (8, .bool true), (7, .string e1), (44, .bool (!((textP H.texts e1).2.2))), (39, .bool (!(((textP H.texts e1).2.2) == (decide ((e1.size : Int) ≤ 4096))))), (6, .bool ((textP H.texts e1).2.2)), (5, .int .u64 ((textP H.texts e1).2.1)), (4, .int .i64 (i : Int)), (21, .bool (decide ((i : Int) < (l.length : Int)))), (0, .slice (some ⟨b0, o0, none⟩) l.length c), (3, .pointer (some ⟨F.p, 0, none⟩)), (20, .int .i64 (i : Int)), (19, .int .i64 (l.length : Int))] (by intro δ w; kernel_rfl) ?_
                rw [show IntKind.wrap .i64 ((i : Int) + 1) = (i : Int) + 1 from IntWalk.i64_in _ (by omega)]
                refine SL_segT 1 [(20, .int .i64 ((i : Int) + 1)), (89, .bool (!((((textP H.texts e1).2.1) == ((textP (textP H.texts e1).1 e2).2.1)) == (decide (e1 = e2))))), (9, .int .u64 ((textP (textP H.texts e1).1 e2).2.1)), (8, .bool true), (7, .string e1), (44, .bool (!((textP H.texts e1).2.2))), (39, .bool (!(((textP H.texts e1).2.2) == (decide ((e1.size : Int) ≤ 4096))))), (6, .bool ((textP H.texts e1).2.2)), (5, .int .u64 ((textP H.texts e1).2.1)), (4, .int .i64 (i : Int)), (21, .bool (decide ((i : Int) < (l.length : Int)))), (0, .slice (some ⟨b0, o0, none⟩) l.length c), (3, .pointer (some ⟨F.p, 0, none⟩)), (19, .int .i64 (l.length : Int))] (by intro δ w; kernel_rfl) ?_
                refine SL_nil (n_then ?_)
                exact ⟨(i + 1, K2), by simp only []; omega, ⟨fun _ => rfl, (own_mk (X := ((HeapV.ent K2 F) ++ ([]))) (J := ([])) (List.Perm.refl _) (by simp only [List.cons_append, List.append_assoc, List.nil_append, List.append_nil]))⟩, by simp only []; omega, hIK2, by simp only []; rw [htK2]; exact tx_step hi2 he1 he2 hc3⟩
            · skip
              replace hg5 := of_decide_eq_false hg5
              refine SA_take (li' := #[true, true, true, true, true, true, true, true, true, true, true, true, true, true, true, true, true, true, false, false, false, false, false, false, false, false, false, false, false, false, false]) 17 _ undef (fun _ _ _ h => h) rfl (by kernel_rfl) rfl (Or.inr ⟨fun _ => rfl, rfl⟩) ?_
              refine SA_take (li' := #[true, true, true, true, true, true, true, true, true, true, true, true, true, true, true, true, true, true, true, false, false, false, false, false, false, false, false, false, false, false, false]) 18 _ undef (fun _ _ _ h => h) rfl (by kernel_rfl) rfl (Or.inr ⟨fun _ => rfl, rfl⟩) ?_
              refine SA_take (li' := #[true, true, true, true, true, true, true, true, true, true, true, true, true, true, true, true, true, true, true, true, false, false, false, false, false, false, false, false, false, false, false]) 19 _ undef (fun _ _ _ h => h) rfl (by kernel_rfl) rfl (Or.inr ⟨fun _ => rfl, rfl⟩) ?_
              refine SA_take (li' := #[true, true, true, true, true, true, true, true, true, true, true, true, true, true, true, true, true, true, true, true, true, false, false, false, false, false, false, false, false, false, false]) 20 _ undef (fun _ _ _ h => h) rfl (by kernel_rfl) rfl (Or.inr ⟨fun _ => rfl, rfl⟩) ?_
              refine SA_take (li' := #[true, true, true, true, true, true, true, true, true, true, true, true, true, true, true, true, true, true, true, true, true, true, false, false, false, false, false, false, false, false, false]) 21 _ undef (fun _ _ _ h => h) rfl (by kernel_rfl) rfl (Or.inr ⟨fun _ => rfl, rfl⟩) ?_
              refine SA_take (li' := #[true, true, true, true, true, true, true, true, true, true, true, true, true, true, true, true, true, true, true, true, true, true, true, false, false, false, false, false, false, false, false]) 22 _ undef (fun _ _ _ h => h) rfl (by kernel_rfl) rfl (Or.inr ⟨fun _ => rfl, rfl⟩) ?_
              refine SA_take (li' := #[true, true, true, true, true, true, true, true, true, true, true, true, true, true, true, true, true, true, true, true, true, true, true, true, false, false, false, false, false, false, false]) 23 _ undef (fun _ _ _ h => h) rfl (by kernel_rfl) rfl (Or.inr ⟨fun _ => rfl, rfl⟩) ?_
              refine SA_take (li' := #[true, true, true, true, true, true, true, true, true, true, true, true, true, true, true, true, true, true, true, true, true, true, true, true, true, false, false, false, false, false, false]) 24 _ undef (fun _ _ _ h => h) rfl (by kernel_rfl) rfl (Or.inr ⟨fun _ => rfl, rfl⟩) ?_
              refine SA_take (li' := #[true, true, true, true, true, true, true, true, true, true, true, true, true, true, true, true, true, true, true, true, true, true, true, true, true, true, false, false, false, false, false]) 25 _ undef (fun _ _ _ h => h) rfl (by kernel_rfl) rfl (Or.inr ⟨fun _ => rfl, rfl⟩) ?_
              refine SA_take (li' := #[true, true, true, true, true, true, true, true, true, true, true, true, true, true, true, true, true, true, true, true, true, true, true, true, true, true, true, false, false, false, false]) 26 _ undef (fun _ _ _ h => h) rfl (by kernel_rfl) rfl (Or.inr ⟨fun _ => rfl, rfl⟩) ?_
              refine SA_take (li' := #[true, true, true, true, true, true, true, true, true, true, true, true, true, true, true, true, true, true, true, true, true, true, true, true, true, true, true, true, false, false, false]) 27 _ undef (fun _ _ _ h => h) rfl (by kernel_rfl) rfl (Or.inr ⟨fun _ => rfl, rfl⟩) ?_
              refine SA_take (li' := #[true, true, true, true, true, true, true, true, true, true, true, true, true, true, true, true, true, true, true, true, true, true, true, true, true, true, true, true, true, false, false]) 28 _ undef (fun _ _ _ h => h) rfl (by kernel_rfl) rfl (Or.inr ⟨fun _ => rfl, rfl⟩) ?_
              refine SA_take (li' := #[true, true, true, true, true, true, true, true, true, true, true, true, true, true, true, true, true, true, true, true, true, true, true, true, true, true, true, true, true, true, false]) 29 _ (.bool false) (fun _ _ _ h => h) rfl (by kernel_rfl) rfl (Or.inl ⟨fun _ => rfl, by intro δ w; kernel_rfl⟩) ?_
              refine SA_trim [(88, .bool false), (69, .bool false), (9, .int .u64 ((textP (textP H.texts e1).1 e2).2.1)), (8, .bool true), (7, .string e1), (44, .bool (!((textP H.texts e1).2.2))), (39, .bool (!(((textP H.texts e1).2.2) == (decide ((e1.size : Int) ≤ 4096))))), (6, .bool ((textP H.texts e1).2.2)), (5, .int .u64 ((textP H.texts e1).2.1)), (4, .int .i64 (i : Int)), (21, .bool (decide ((i : Int) < (l.length : Int)))), (0, .slice (some ⟨b0, o0, none⟩) l.length c), (3, .pointer (some ⟨F.p, 0, none⟩)), (20, .int .i64 (i : Int)), (19, .int .i64 (l.length : Int))] (fun _ => rfl) ?_
              refine SA_take (li' := #[true, true, true, true, true, true, true, true, true, true, true, true, true, true, true, true, true, true, true, true, true, true, true, true, true, true, true, true, true, true, true]) 30 _ (.bool false) (fun _ _ _ h => h) rfl (by kernel_rfl) rfl (Or.inl ⟨fun _ => rfl, by intro δ w; kernel_rfl⟩) ?_
              refine SA_done (by kernel_rfl) (n_then ?_)
              refine SW_false (fun _ => rfl) ?_
              refine SW_skip (n_in (n_then ?_))
              refine SW_region ?_
              refine SL_segT 1 [(90, .int .i64 (IntKind.wrap .i64 ((i : Int) + 1))), (89, .bool false), (9, .int .u64 ((textP (textP H.texts e1).1 e2).2.1)), (8, .bool true), (7, .string e1), (44, .bool (!((textP H.texts e1).2.2))), (39, .bool (!(((textP H.texts e1).2.2) == (decide ((e1.size : Int) ≤ 4096))))), (6, .bool ((textP H.texts e1).2.2)), (5, .int .u64 ((textP H.texts e1).2.1)), (4, .int .i64 (i : Int)), (21, .bool (decide ((i : Int) < (l.length : Int)))), (0, .slice (some ⟨b0, o0, none⟩) l.length c), (3, .pointer (some ⟨F.p, 0, none⟩)), (20, .int .i64 (i : Int)), (19, .int .i64 (l.length : Int))] (by intro δ w; kernel_rfl) ?_
              rw [show IntKind.wrap .i64 ((i : Int) + 1) = (i : Int) + 1 from IntWalk.i64_in _ (by omega)]
              refine SL_segT 1 [(20, .int .i64 ((i : Int) + 1)), (89, .bool false), (9, .int .u64 ((textP (textP H.texts e1).1 e2).2.1)), (8, .bool true), (7, .string e1), (44, .bool (!((textP H.texts e1).2.2))), (39, .bool (!(((textP H.texts e1).2.2) == (decide ((e1.size : Int) ≤ 4096))))), (6, .bool ((textP H.texts e1).2.2)), (5, .int .u64 ((textP H.texts e1).2.1)), (4, .int .i64 (i : Int)), (21, .bool (decide ((i : Int) < (l.length : Int)))), (0, .slice (some ⟨b0, o0, none⟩) l.length c), (3, .pointer (some ⟨F.p, 0, none⟩)), (19, .int .i64 (l.length : Int))] (by intro δ w; kernel_rfl) ?_
              refine SL_nil (n_then ?_)
              exact ⟨(i + 1, K2), by simp only []; omega, ⟨fun _ => rfl, (own_mk (X := ((HeapV.ent K2 F) ++ ([]))) (J := ([])) (List.Perm.refl _) (by simp only [List.cons_append, List.append_assoc, List.nil_append, List.append_nil]))⟩, by simp only []; omega, hIK2, by simp only []; rw [htK2]; exact tx_step hi2 he1 he2 hc3⟩
    · skip
      replace hc1 := of_decide_eq_false hc1
      refine SW_exit (x_then (x_then (x_in (n_then ?_))))
      refine SW_seq ?_
      refine SW_region ?_
      refine SL_segT 1 [(2, .bool true), (21, .bool (decide ((i : Int) < (l.length : Int)))), (0, .slice (some ⟨b0, o0, none⟩) l.length c), (3, .pointer (some ⟨F.p, 0, none⟩)), (20, .int .i64 (i : Int)), (19, .int .i64 (l.length : Int))] (by intro δ w; kernel_rfl) ?_
      refine SL_nil (n_then ?_)
      refine SW_ret ?_
      refine body_end (.bool true) (fun _ => rfl) ?_
      exact ⟨(), ⟨_, List.Perm.refl _⟩, rfl⟩

end Go.Proofs.Ytdfhbheipagnmaa
