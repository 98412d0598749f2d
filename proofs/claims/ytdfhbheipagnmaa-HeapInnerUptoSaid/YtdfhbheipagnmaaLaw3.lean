/-
  What functions of the laws of layer 13 do to the memory they own, step by step: each theorem is one function's contract. Conditions: those that each theorem names.
-/
import Derived.Test.YtdfhbheipagnmaaLaw1
import Derived.Test.YtdfhbheipagnmaaLaw2
set_option linter.unusedVariables false
set_option linter.unusedSimpArgs false
set_option maxRecDepth 100000
set_option maxHeartbeats 4000000
namespace Go.Proofs.Ytdfhbheipagnmaa
open Go.Sl

theorem law_HeapInner {W0 : World} {A : Option Addr} {c : Nat} {l : List Int} (hls : ∀ σ, Src W0 σ A (l.map encU)) (hl : l.length ≤ 1048576) (w : Int) : SC Try.prog W0 3 #[.slice A l.length c, .int .u64 w] [] (Ret (fun _ : Unit => []) (fun v _ => v = .bool true)) := by
  refine SC_body (fn := Try.f3) (n := 65) Try.func3 rfl (by kernel_rfl) (ρ := [(0, .slice A l.length c), (1, .int .u64 w)]) rfl ?_
  refine SW_seq ?_
  refine SW_region ?_
  refine SL_segT 1 [(4, .bool false), (0, .slice A l.length c), (1, .int .u64 w)] (by intro δ w; kernel_rfl) ?_
  refine SL_nil (n_then ?_)
  refine SW_seq ?_
  refine SW_region ?_
  refine SL_sig ([] ++ ([])) rfl ?_
  refine SL_cons ⟨rfl, fun _ => rfl⟩ (O_call 9 #[.int .i64 1] rfl (by intro δ w; kernel_rfl) ((hp_New 1).use _) ?_)
  rintro _ σ1 ⟨⟨H0, F⟩, hσ1, rfl, hI0, hp0, ht0, htr0, ho0, hcl0⟩
  obtain rfl : σ1 = ((HeapV.ent H0 F) ++ ([])) := hσ1.trans (rfl)
  simp only [] at hp0 ht0 htr0 ho0 hcl0
  refine SL_segT 1 [(5, .pointer (some ⟨F.p, 0, none⟩)), (4, .bool false), (0, .slice A l.length c), (1, .int .u64 w)] (by intro δ w; kernel_rfl) ?_
  refine SL_nil (n_then ?_)
  refine SW_seq ?_
  refine SW_seq ?_
  refine SW_region ?_
  refine SL_segT 3 [(15, .bool false), (5, .pointer (some ⟨F.p, 0, none⟩)), (4, .bool false), (0, .slice A l.length c), (1, .int .u64 w)] (by intro δ w; kernel_rfl) ?_
  refine SL_sig ([] ++ ((HeapV.ent H0 F) ++ ([]))) rfl ?_
  refine SL_cons ⟨rfl, fun _ => rfl⟩ (O_call 10 #[] rfl (by intro δ w; kernel_rfl) ((law_alive).use _) ?_)
  rintro _ σ2 ⟨_, hσ2, rfl⟩
  obtain rfl : σ2 = ((HeapV.ent H0 F) ++ ([])) := hσ2.trans (rfl)
  refine SL_segT 2 [(18, .bool false), (5, .pointer (some ⟨F.p, 0, none⟩)), (4, .bool false), (0, .slice A l.length c), (1, .int .u64 w)] (by intro δ w; kernel_rfl) ?_
  refine SL_nil (n_then ?_)
  refine SW_false (fun _ => rfl) ?_
  refine SW_skip (n_then ?_)
  refine SW_seq ?_
  refine SW_region ?_
  refine SL_segT 1 [(20, .pointer (some ⟨F.p, 0, none⟩)), (18, .bool false), (5, .pointer (some ⟨F.p, 0, none⟩)), (4, .bool false), (0, .slice A l.length c), (1, .int .u64 w)] (by intro δ w; kernel_rfl) ?_
  refine SL_cons ⟨rfl, fun _ => rfl⟩ (O_call 11 #[.pointer (some ⟨F.p, 0, none⟩), .int .i64 4, .int .u64 18445336698825998337] rfl (by intro δ w; kernel_rfl) ((hp_Make hI0 (kind := 4) (proto := 18445336698825998337) ⟨by omega, .inl rfl, by rw [hp0]; decide⟩).use _) ?_)
  rintro v3 σ3 ⟨H1, hσ3, hv3, hI1, hp1, ht1, m1, ok1, hr1, ho1⟩
  obtain rfl : v3 = .tuple #[.int .u64 (65530 * 281474976710656 + ((0 : Nat) : Int)), .bool true] := hv3.trans (by rw [hp0]; rfl)
  obtain rfl : σ3 = ((HeapV.ent H1 F) ++ ([])) := hσ3.trans (rfl)
  rw [hp0, List.nil_append] at hp1
  refine SL_segT 5 [(6, .int .u64 (65530 * 281474976710656 + ((0 : Nat) : Int))), (18, .bool false), (5, .pointer (some ⟨F.p, 0, none⟩)), (4, .bool false), (0, .slice A l.length c), (1, .int .u64 w)] (by intro δ w; kernel_rfl) ?_
  refine SL_nil (n_then ?_)
  refine SW_seq ?_
  refine SW_region ?_
  refine SL_cons ⟨rfl, fun _ => rfl⟩ (O_new (fun b => .slice (some ⟨b, 0, none⟩) 0 0) (.cells #[] 24 (0, 0)) (.cells 24 0 []) rfl (by intro δ w; kernel_rfl) ⟨rfl, rfl, rfl, rfl⟩ ?_)
  intro b1 hlb1 hnb1
  refine SL_segT 1 [(25, .slice A l.length c), (24, .slice (some ⟨b1, 0, none⟩) 0 0), (6, .int .u64 (65530 * 281474976710656 + ((0 : Nat) : Int))), (18, .bool false), (5, .pointer (some ⟨F.p, 0, none⟩)), (4, .bool false), (0, .slice A l.length c), (1, .int .u64 w)] (by intro δ w; kernel_rfl) ?_
  refine SL_sig ((Gs.ent 24 1 (Gs.at b1 0) (([] : List Int).map encU)) ++ ((HeapV.ent H1 F) ++ ([]))) rfl ?_
  refine SL_cons ⟨rfl, fun _ => rfl⟩ (O_append (size := 1) (bytes := 8) (z := .int .u64 0) (Gs.at b1 0) 0 l.length A c (([] : List Int).map encU) (l.map encU) ((([] : List Int) ++ l).map encU) (map_app _ _) (fun _ => rfl) (fun _ => rfl) Try.underlying22 (by kernel_rfl) rfl (by decide) ⟨Nat.le_refl _, by unfold maxLen; omega, rfl⟩ (by simp) (Src.elems (hls _) (by simp)) (map_one (fun _ => rfl) _) (by omega) (by decide) rfl ?_)
  intro s2 hks2 hfs2
  rw [show 0 + l.length = (([] : List Int) ++ l).length from by simp]
  rw [show 0 + l.length = (([] : List Int) ++ l).length from by simp] at hks2
  have hls2 : (([] : List Int) ++ l).length = ([] : List Int).length + l.length := by simp
  refine SL_segT 1 [(8, Gs.val s2 ((([] : List Int) ++ l).length)), (6, .int .u64 (65530 * 281474976710656 + ((0 : Nat) : Int))), (18, .bool false), (5, .pointer (some ⟨F.p, 0, none⟩)), (4, .bool false), (0, .slice A l.length c), (1, .int .u64 w)] (by intro δ w; kernel_rfl) ?_
  refine SL_nil (n_then ?_)
  refine SW_seq ?_
  refine SW_region ?_
  refine SL_segT 3 [(29, Gs.val s2 ((([] : List Int) ++ l).length)), (28, .int .u64 (65530 * 281474976710656 + ((0 : Nat) : Int))), (27, .pointer (some ⟨F.p, 0, none⟩)), (8, Gs.val s2 ((([] : List Int) ++ l).length)), (6, .int .u64 (65530 * 281474976710656 + ((0 : Nat) : Int))), (18, .bool false), (5, .pointer (some ⟨F.p, 0, none⟩)), (4, .bool false), (0, .slice A l.length c), (1, .int .u64 w)] (by intro δ w; kernel_rfl) ?_
  refine SL_perm _ (perm_ca perm_cz) ?_
  refine SL_sig (((HeapV.ent H1 F) ++ ((Gs.ent 24 1 s2 ((([] : List Int) ++ l).map encU)) ++ ([]))) ++ ([])) (by simp only [List.cons_append, List.append_assoc, List.nil_append, List.append_nil]) ?_
  refine SL_cons ⟨rfl, fun _ => rfl⟩ (O_call 12 #[.pointer (some ⟨F.p, 0, none⟩), .int .u64 (65530 * 281474976710656 + ((0 : Nat) : Int)), Gs.val s2 ((([] : List Int) ++ l).length)] rfl (by intro δ w; kernel_rfl) ((hp_SetInner hI1 (n := 0) (l := (([] : List Int) ++ l)) (objA _ (by rw [hp1]; decide) (by rw [hp1]; decide)) (by rw [hp1]; rfl) (τ := (Gs.ent 24 1 s2 ((([] : List Int) ++ l).map encU))) (Gs.src0 hks2 (fun e he => he)) (by simpa using hl)).use _) ?_)
  rintro _ σ4 ⟨H2, hσ4, rfl, hI2, hp2, ht2⟩
  obtain rfl : σ4 = ((HeapV.ent H2 F) ++ ((Gs.ent 24 1 s2 ((([] : List Int) ++ l).map encU)) ++ ([]))) := hσ4.trans (by simp only [List.cons_append, List.append_assoc, List.nil_append, List.append_nil])
  rw [hp1] at hp2
  have hq2 : (H2.pub F)[0]? = some ⟨4, 18445336698825998337, false, [], [], [], l⟩ := by rw [hp2]; rfl
  have hn2 : (H2.pub F).length = 1 := by rw [hp2]; rfl
  clear hp2
  refine SL_nil (n_then ?_)
  refine SW_seq ?_
  refine SW_seq ?_
  refine SW_region ?_
  refine SL_segT 3 [(33, .int .i64 0), (32, .int .i64 ((((([] : List Int) ++ l).length : Nat)) : Int)), (8, Gs.val s2 ((([] : List Int) ++ l).length)), (6, .int .u64 (65530 * 281474976710656 + ((0 : Nat) : Int))), (18, .bool false), (5, .pointer (some ⟨F.p, 0, none⟩)), (4, .bool false), (0, .slice A l.length c), (1, .int .u64 w)] (by intro δ w; kernel_rfl) ?_
  refine SL_nil (n_then ?_)
  refine SW_block ?_
  refine SW_loop (α := Nat × List Int) (fun z_ ρ_ σ_ => Fits ρ_ σ_ [(0, .slice A l.length c), (1, .int .u64 w), (5, .pointer (some ⟨F.p, 0, none⟩)), (6, .int .u64 (65530 * 281474976710656 + ((0 : Nat) : Int))), (33, .int .i64 (z_.1 : Int)), (32, .int .i64 (l.length : Int)), (8, Gs.val s2 l.length)] ((Gs.ent 24 1 s2 (z_.2.map encU)) ++ ((HeapV.ent H2 F) ++ ([]))) ∧ z_.1 ≤ l.length ∧ Gs.ok 1 (List.length z_.2) s2 (z_.2.map encU) ∧ (List.length z_.2) = l.length) (fun z_ => l.length - z_.1) (0, (([] : List Int) ++ l)) ⟨⟨fun _ => rfl, (own_mk (X := ((Gs.ent 24 1 s2 ((([] : List Int) ++ l).map encU)) ++ ((HeapV.ent H2 F) ++ ([])))) (J := ([])) (List.Perm.trans (perm_ca perm_cz) (List.Perm.append_left _ (List.Perm.refl _))) (by simp only [List.cons_append, List.append_assoc, List.nil_append, List.append_nil]))⟩, Nat.zero_le _, hks2, (by simp)⟩ ?_
  rintro ⟨i, ys⟩ ρ_ σ_ ⟨hfit, hi0, hi1, hi2⟩
  refine SW_fits hfit ?_
  clear hfit
  simp only [] at hi0 hi1 hi2 ⊢
  refine SW_seq ?_
  refine SW_region ?_
  refine SL_segT 1 [(34, .bool (decide ((i : Int) < (l.length : Int)))), (0, .slice A l.length c), (1, .int .u64 w), (5, .pointer (some ⟨F.p, 0, none⟩)), (6, .int .u64 (65530 * 281474976710656 + ((0 : Nat) : Int))), (33, .int .i64 (i : Int)), (32, .int .i64 (l.length : Int)), (8, Gs.val s2 l.length)] (by intro δ w; kernel_rfl) ?_
  refine SL_nil (n_then ?_)
  refine SW_seq ?_
  refine SW_cond (decide ((i : Int) < (l.length : Int))) (fun _ => rfl) (fun hc3 => ?_) (fun hc3 => ?_)
  · skip
    replace hc3 := of_decide_eq_true hc3
    refine SW_skip (n_then ?_)
    refine SW_seq ?_
    refine SW_block ?_
    refine SW_seq ?_
    refine SW_region ?_
    refine SL_segT 2 [(9, .int .i64 (i : Int)), (34, .bool (decide ((i : Int) < (l.length : Int)))), (0, .slice A l.length c), (1, .int .u64 w), (5, .pointer (some ⟨F.p, 0, none⟩)), (6, .int .u64 (65530 * 281474976710656 + ((0 : Nat) : Int))), (33, .int .i64 (i : Int)), (32, .int .i64 (l.length : Int)), (8, Gs.val s2 l.length)] (by intro δ w; kernel_rfl) ?_
    refine SL_nil (n_then ?_)
    refine SW_region ?_
    refine SL_segT 4 [(39, .int .u64 (IntKind.wrap .u64 (w + 1))), (37, .int .i64 (i : Int)), (36, Gs.val s2 l.length), (9, .int .i64 (i : Int)), (34, .bool (decide ((i : Int) < (l.length : Int)))), (0, .slice A l.length c), (1, .int .u64 w), (5, .pointer (some ⟨F.p, 0, none⟩)), (6, .int .u64 (65530 * 281474976710656 + ((0 : Nat) : Int))), (33, .int .i64 (i : Int)), (32, .int .i64 (l.length : Int)), (8, Gs.val s2 l.length)] (by intro δ w; kernel_rfl) ?_
    refine SL_cons ⟨rfl, fun _ => rfl⟩ (O_indexAddr' (i : Int) (i) (Gs.blk s2) 0 l.length (Gs.cap s2) .i64 1 Try.underlying22 (by kernel_rfl) (fun _ => gs_slice (Gs.ok.ne hi1 (by first | omega | (simp; omega)))) (fun _ => rfl) (by omega) (by omega) (by omega) rfl ?_)
    obtain ⟨e1, he1⟩ : ∃ y_, ys[i]? = some y_ := ⟨_, List.getElem?_eq_getElem (by omega)⟩
    have hok1 := Gs.ok.relen (ys := ((ys.set i (IntKind.wrap .u64 (w + 1))).map encU)) hi1 (by simp)
    refine SL_cons ⟨rfl, fun _ => rfl⟩ (O_storeG (ys := ((ys.set i (IntKind.wrap .u64 (w + 1))).map encU)) s2 (i) (.int .u64 (IntKind.wrap .u64 (w + 1))) [.int .u64 (IntKind.wrap .u64 (w + 1))] (Gs.ok.ne hi1 (by first | omega | (simp; omega))) (fun _ => rfl) (fun _ => rfl) rfl (by kernel_rfl) rfl (by simp; omega) (row_lay_map (IntKind.wrap .u64 (w + 1)) (by omega)) rfl ?_)
    refine SL_nil (n_in (n_then ?_))
    refine SW_region ?_
    refine SL_segT 1 [(41, .int .i64 (IntKind.wrap .i64 ((i : Int) + 1))), (9, .int .i64 (i : Int)), (34, .bool (decide ((i : Int) < (l.length : Int)))), (0, .slice A l.length c), (1, .int .u64 w), (5, .pointer (some ⟨F.p, 0, none⟩)), (6, .int .u64 (65530 * 281474976710656 + ((0 : Nat) : Int))), (33, .int .i64 (i : Int)), (32, .int .i64 (l.length : Int)), (8, Gs.val s2 l.length)] (by intro δ w; kernel_rfl) ?_
    rw [show IntKind.wrap .i64 ((i : Int) + 1) = (i : Int) + 1 from IntWalk.i64_in _ (by omega)]
    refine SL_segT 1 [(33, .int .i64 ((i : Int) + 1)), (9, .int .i64 (i : Int)), (34, .bool (decide ((i : Int) < (l.length : Int)))), (0, .slice A l.length c), (1, .int .u64 w), (5, .pointer (some ⟨F.p, 0, none⟩)), (6, .int .u64 (65530 * 281474976710656 + ((0 : Nat) : Int))), (32, .int .i64 (l.length : Int)), (8, Gs.val s2 l.length)] (by intro δ w; kernel_rfl) ?_
    refine SL_nil (n_then ?_)
    exact ⟨(i + 1, (ys.set i (IntKind.wrap .u64 (w + 1)))), by simp only []; omega, ⟨fun _ => rfl, (own_mk (X := ((Gs.ent 24 1 s2 ((ys.set i (IntKind.wrap .u64 (w + 1))).map encU)) ++ ((HeapV.ent H2 F) ++ ([])))) (J := ([])) (List.Perm.refl _) (by simp only [List.cons_append, List.append_assoc, List.nil_append, List.append_nil]))⟩, by simp only []; omega, by simpa using hok1, by simpa using hi2⟩
  · skip
    replace hc3 := of_decide_eq_false hc3
    refine SW_exit (x_then (x_then (x_in (n_then ?_))))
    refine SW_seq ?_
    refine SW_region ?_
    refine SL_segT 2 [(43, .int .u64 (65530 * 281474976710656 + ((0 : Nat) : Int))), (42, .pointer (some ⟨F.p, 0, none⟩)), (34, .bool (decide ((i : Int) < (l.length : Int)))), (0, .slice A l.length c), (1, .int .u64 w), (5, .pointer (some ⟨F.p, 0, none⟩)), (6, .int .u64 (65530 * 281474976710656 + ((0 : Nat) : Int))), (33, .int .i64 (i : Int)), (32, .int .i64 (l.length : Int)), (8, Gs.val s2 l.length)] (by intro δ w; kernel_rfl) ?_
    refine SL_perm _ (perm_ca perm_cz) ?_
    refine SL_cons ⟨rfl, fun _ => rfl⟩ (O_call 13 #[.pointer (some ⟨F.p, 0, none⟩), .int .u64 (65530 * 281474976710656 + ((0 : Nat) : Int))] rfl (by intro δ w; kernel_rfl) ((hp_Inner hI2 (objA _ (by rw [hn2]; decide) (by rw [hn2]; decide)) hq2).use _) ?_)
    rintro _ σ5 ⟨ig1, hσ5, rfl, hig1⟩
    obtain rfl : σ5 = ((Gs.ent 24 1 ig1 (l.map encU)) ++ ((HeapV.ent H2 F) ++ ((Gs.ent 24 1 s2 (ys.map encU)) ++ ([])))) := hσ5.trans (by simp only [List.cons_append, List.append_assoc, List.nil_append, List.append_nil])
    refine SL_segT 1 [(10, Gs.val ig1 l.length), (34, .bool (decide ((i : Int) < (l.length : Int)))), (0, .slice A l.length c), (1, .int .u64 w), (5, .pointer (some ⟨F.p, 0, none⟩)), (6, .int .u64 (65530 * 281474976710656 + ((0 : Nat) : Int))), (33, .int .i64 (i : Int)), (32, .int .i64 (l.length : Int)), (8, Gs.val s2 l.length)] (by intro δ w; kernel_rfl) ?_
    refine SL_nil (n_then ?_)
    refine SW_seq ?_
    refine SW_seq ?_
    refine SW_region ?_
    refine SL_segT 2 [(46, .slice A l.length c), (45, Gs.val ig1 l.length), (10, Gs.val ig1 l.length), (34, .bool (decide ((i : Int) < (l.length : Int)))), (0, .slice A l.length c), (1, .int .u64 w), (5, .pointer (some ⟨F.p, 0, none⟩)), (6, .int .u64 (65530 * 281474976710656 + ((0 : Nat) : Int))), (33, .int .i64 (i : Int)), (32, .int .i64 (l.length : Int)), (8, Gs.val s2 l.length)] (by intro δ w; kernel_rfl) ?_
    refine SL_sig (((Gs.ent 24 1 ig1 (l.map encU)) ++ ((HeapV.ent H2 F) ++ ((Gs.ent 24 1 s2 (ys.map encU)) ++ ([])))) ++ []) (by simp only [List.append_nil]) ?_
    refine SL_cons ⟨rfl, fun _ => rfl⟩ (O_call 14 #[Gs.val ig1 l.length, .slice A l.length c] rfl (by intro δ w; kernel_rfl) ((law_words (σ := ((Gs.ent 24 1 ig1 (l.map encU)) ++ ((HeapV.ent H2 F) ++ ((Gs.ent 24 1 s2 (ys.map encU)) ++ ([]))))) (a := l) (b := l) (Gs.src0 hig1 (fun e he => (mem_h he))) (hls _) (by omega)).use _) ?_)
    rintro v6 σ6 ⟨_, hσ6, hv6⟩
    obtain rfl : v6 = .bool true := hv6.trans (congrArg Value.bool (decide_eq_true rfl))
    obtain rfl : σ6 = ((Gs.ent 24 1 ig1 (l.map encU)) ++ ((HeapV.ent H2 F) ++ ((Gs.ent 24 1 s2 (ys.map encU)) ++ ([])))) := hσ6.trans (by simp only [List.cons_append, List.append_assoc, List.nil_append, List.append_nil])
    refine SL_segT 1 [(48, .bool false), (10, Gs.val ig1 l.length), (34, .bool (decide ((i : Int) < (l.length : Int)))), (0, .slice A l.length c), (1, .int .u64 w), (5, .pointer (some ⟨F.p, 0, none⟩)), (6, .int .u64 (65530 * 281474976710656 + ((0 : Nat) : Int))), (33, .int .i64 (i : Int)), (32, .int .i64 (l.length : Int)), (8, Gs.val s2 l.length)] (by intro δ w; kernel_rfl) ?_
    refine SL_nil (n_then ?_)
    refine SW_false (fun _ => rfl) ?_
    refine SW_skip (n_then ?_)
    refine SW_seq ?_
    refine SW_seq ?_
    refine SW_region ?_
    refine SL_segT 3 [(51, .int .i64 0), (50, .int .i64 (l.length : Int)), (48, .bool false), (10, Gs.val ig1 l.length), (34, .bool (decide ((i : Int) < (l.length : Int)))), (0, .slice A l.length c), (1, .int .u64 w), (5, .pointer (some ⟨F.p, 0, none⟩)), (6, .int .u64 (65530 * 281474976710656 + ((0 : Nat) : Int))), (33, .int .i64 (i : Int)), (32, .int .i64 (l.length : Int)), (8, Gs.val s2 l.length)] (by intro δ w; kernel_rfl) ?_
    refine SL_nil (n_then ?_)
    refine SW_block ?_
    refine SW_loop (α := Nat × List Int) (fun z_ ρ_ σ_ => Fits ρ_ σ_ [(0, .slice A l.length c), (1, .int .u64 w), (5, .pointer (some ⟨F.p, 0, none⟩)), (6, .int .u64 (65530 * 281474976710656 + ((0 : Nat) : Int))), (51, .int .i64 (z_.1 : Int)), (50, .int .i64 (l.length : Int)), (10, Gs.val ig1 l.length)] ((Gs.ent 24 1 ig1 (z_.2.map encU)) ++ ((HeapV.ent H2 F) ++ ([]))) ∧ z_.1 ≤ l.length ∧ Gs.ok 1 (List.length z_.2) ig1 (z_.2.map encU) ∧ (List.length z_.2) = l.length) (fun z_ => l.length - z_.1) (0, l) ⟨⟨fun _ => rfl, (own_mk (X := ((Gs.ent 24 1 ig1 (l.map encU)) ++ ((HeapV.ent H2 F) ++ ((Gs.ent 24 1 s2 (ys.map encU)) ++ ([]))))) (J := ((Gs.ent 24 1 s2 (ys.map encU)) ++ ([]))) (List.Perm.refl _) (by simp only [List.cons_append, List.append_assoc, List.nil_append, List.append_nil]))⟩, Nat.zero_le _, hig1, (by simp)⟩ ?_
    rintro ⟨i, ys⟩ ρ_ σ_ ⟨hfit, hi0, hi1, hi2⟩
    refine SW_fits hfit ?_
    clear hfit
    simp only [] at hi0 hi1 hi2 ⊢
    refine SW_seq ?_
    refine SW_region ?_
    refine SL_segT 1 [(52, .bool (decide ((i : Int) < (l.length : Int)))), (0, .slice A l.length c), (1, .int .u64 w), (5, .pointer (some ⟨F.p, 0, none⟩)), (6, .int .u64 (65530 * 281474976710656 + ((0 : Nat) : Int))), (51, .int .i64 (i : Int)), (50, .int .i64 (l.length : Int)), (10, Gs.val ig1 l.length)] (by intro δ w; kernel_rfl) ?_
    refine SL_nil (n_then ?_)
    refine SW_seq ?_
    refine SW_cond (decide ((i : Int) < (l.length : Int))) (fun _ => rfl) (fun hc4 => ?_) (fun hc4 => ?_)
    · skip
      replace hc4 := of_decide_eq_true hc4
      refine SW_skip (n_then ?_)
      refine SW_seq ?_
      refine SW_block ?_
      refine SW_seq ?_
      refine SW_region ?_
      refine SL_segT 2 [(11, .int .i64 (i : Int)), (52, .bool (decide ((i : Int) < (l.length : Int)))), (0, .slice A l.length c), (1, .int .u64 w), (5, .pointer (some ⟨F.p, 0, none⟩)), (6, .int .u64 (65530 * 281474976710656 + ((0 : Nat) : Int))), (51, .int .i64 (i : Int)), (50, .int .i64 (l.length : Int)), (10, Gs.val ig1 l.length)] (by intro δ w; kernel_rfl) ?_
      refine SL_nil (n_then ?_)
      refine SW_region ?_
      refine SL_segT 4 [(57, .int .u64 (IntKind.wrap .u64 (w + 1))), (55, .int .i64 (i : Int)), (54, Gs.val ig1 l.length), (11, .int .i64 (i : Int)), (52, .bool (decide ((i : Int) < (l.length : Int)))), (0, .slice A l.length c), (1, .int .u64 w), (5, .pointer (some ⟨F.p, 0, none⟩)), (6, .int .u64 (65530 * 281474976710656 + ((0 : Nat) : Int))), (51, .int .i64 (i : Int)), (50, .int .i64 (l.length : Int)), (10, Gs.val ig1 l.length)] (by intro δ w; kernel_rfl) ?_
      refine SL_cons ⟨rfl, fun _ => rfl⟩ (O_indexAddr' (i : Int) (i) (Gs.blk ig1) 0 l.length (Gs.cap ig1) .i64 1 Try.underlying22 (by kernel_rfl) (fun _ => gs_slice (Gs.ok.ne hi1 (by first | omega | (simp; omega)))) (fun _ => rfl) (by omega) (by omega) (by omega) rfl ?_)
      obtain ⟨e2, he2⟩ : ∃ y_, ys[i]? = some y_ := ⟨_, List.getElem?_eq_getElem (by omega)⟩
      have hok2 := Gs.ok.relen (ys := ((ys.set i (IntKind.wrap .u64 (w + 1))).map encU)) hi1 (by simp)
      refine SL_cons ⟨rfl, fun _ => rfl⟩ (O_storeG (ys := ((ys.set i (IntKind.wrap .u64 (w + 1))).map encU)) ig1 (i) (.int .u64 (IntKind.wrap .u64 (w + 1))) [.int .u64 (IntKind.wrap .u64 (w + 1))] (Gs.ok.ne hi1 (by first | omega | (simp; omega))) (fun _ => rfl) (fun _ => rfl) rfl (by kernel_rfl) rfl (by simp; omega) (row_lay_map (IntKind.wrap .u64 (w + 1)) (by omega)) rfl ?_)
      refine SL_nil (n_in (n_then ?_))
      refine SW_region ?_
      refine SL_segT 1 [(59, .int .i64 (IntKind.wrap .i64 ((i : Int) + 1))), (11, .int .i64 (i : Int)), (52, .bool (decide ((i : Int) < (l.length : Int)))), (0, .slice A l.length c), (1, .int .u64 w), (5, .pointer (some ⟨F.p, 0, none⟩)), (6, .int .u64 (65530 * 281474976710656 + ((0 : Nat) : Int))), (51, .int .i64 (i : Int)), (50, .int .i64 (l.length : Int)), (10, Gs.val ig1 l.length)] (by intro δ w; kernel_rfl) ?_
      rw [show IntKind.wrap .i64 ((i : Int) + 1) = (i : Int) + 1 from IntWalk.i64_in _ (by omega)]
      refine SL_segT 1 [(51, .int .i64 ((i : Int) + 1)), (11, .int .i64 (i : Int)), (52, .bool (decide ((i : Int) < (l.length : Int)))), (0, .slice A l.length c), (1, .int .u64 w), (5, .pointer (some ⟨F.p, 0, none⟩)), (6, .int .u64 (65530 * 281474976710656 + ((0 : Nat) : Int))), (50, .int .i64 (l.length : Int)), (10, Gs.val ig1 l.length)] (by intro δ w; kernel_rfl) ?_
      refine SL_nil (n_then ?_)
      exact ⟨(i + 1, (ys.set i (IntKind.wrap .u64 (w + 1)))), by simp only []; omega, ⟨fun _ => rfl, (own_mk (X := ((Gs.ent 24 1 ig1 ((ys.set i (IntKind.wrap .u64 (w + 1))).map encU)) ++ ((HeapV.ent H2 F) ++ ([])))) (J := ([])) (List.Perm.refl _) (by simp only [List.cons_append, List.append_assoc, List.nil_append, List.append_nil]))⟩, by simp only []; omega, by simpa using hok2, by simpa using hi2⟩
    · skip
      replace hc4 := of_decide_eq_false hc4
      refine SW_exit (x_then (x_then (x_in (n_then ?_))))
      refine SW_seq ?_
      refine SW_region ?_
      refine SL_segT 2 [(61, .int .u64 (65530 * 281474976710656 + ((0 : Nat) : Int))), (60, .pointer (some ⟨F.p, 0, none⟩)), (52, .bool (decide ((i : Int) < (l.length : Int)))), (0, .slice A l.length c), (1, .int .u64 w), (5, .pointer (some ⟨F.p, 0, none⟩)), (6, .int .u64 (65530 * 281474976710656 + ((0 : Nat) : Int))), (51, .int .i64 (i : Int)), (50, .int .i64 (l.length : Int)), (10, Gs.val ig1 l.length)] (by intro δ w; kernel_rfl) ?_
      refine SL_perm _ (perm_ca perm_cz) ?_
      refine SL_cons ⟨rfl, fun _ => rfl⟩ (O_call 13 #[.pointer (some ⟨F.p, 0, none⟩), .int .u64 (65530 * 281474976710656 + ((0 : Nat) : Int))] rfl (by intro δ w; kernel_rfl) ((hp_Inner hI2 (objA _ (by rw [hn2]; decide) (by rw [hn2]; decide)) hq2).use _) ?_)
      rintro _ σ7 ⟨ig2, hσ7, rfl, hig2⟩
      obtain rfl : σ7 = ((Gs.ent 24 1 ig2 (l.map encU)) ++ ((HeapV.ent H2 F) ++ ((Gs.ent 24 1 ig1 (ys.map encU)) ++ ([])))) := hσ7.trans (by simp only [List.cons_append, List.append_assoc, List.nil_append, List.append_nil])
      refine SL_segT 1 [(63, .slice A l.length c), (62, Gs.val ig2 l.length), (52, .bool (decide ((i : Int) < (l.length : Int)))), (0, .slice A l.length c), (1, .int .u64 w), (5, .pointer (some ⟨F.p, 0, none⟩)), (6, .int .u64 (65530 * 281474976710656 + ((0 : Nat) : Int))), (51, .int .i64 (i : Int)), (50, .int .i64 (l.length : Int)), (10, Gs.val ig1 l.length)] (by intro δ w; kernel_rfl) ?_
      refine SL_sig (((Gs.ent 24 1 ig2 (l.map encU)) ++ ((HeapV.ent H2 F) ++ ((Gs.ent 24 1 ig1 (ys.map encU)) ++ ([])))) ++ []) (by simp only [List.append_nil]) ?_
      refine SL_cons ⟨rfl, fun _ => rfl⟩ (O_call 14 #[Gs.val ig2 l.length, .slice A l.length c] rfl (by intro δ w; kernel_rfl) ((law_words (σ := ((Gs.ent 24 1 ig2 (l.map encU)) ++ ((HeapV.ent H2 F) ++ ((Gs.ent 24 1 ig1 (ys.map encU)) ++ ([]))))) (a := l) (b := l) (Gs.src0 hig2 (fun e he => (mem_h he))) (hls _) (by omega)).use _) ?_)
      rintro v8 σ8 ⟨_, hσ8, hv8⟩
      obtain rfl : v8 = .bool true := hv8.trans (congrArg Value.bool (decide_eq_true rfl))
      obtain rfl : σ8 = ((Gs.ent 24 1 ig2 (l.map encU)) ++ ((HeapV.ent H2 F) ++ ((Gs.ent 24 1 ig1 (ys.map encU)) ++ ([])))) := hσ8.trans (by simp only [List.cons_append, List.append_assoc, List.nil_append, List.append_nil])
      refine SL_segT 1 [(4, .bool true), (52, .bool (decide ((i : Int) < (l.length : Int)))), (0, .slice A l.length c), (1, .int .u64 w), (5, .pointer (some ⟨F.p, 0, none⟩)), (6, .int .u64 (65530 * 281474976710656 + ((0 : Nat) : Int))), (51, .int .i64 (i : Int)), (50, .int .i64 (l.length : Int)), (10, Gs.val ig1 l.length)] (by intro δ w; kernel_rfl) ?_
      refine SL_nil (n_then ?_)
      refine SW_ret ?_
      refine body_end (.bool true) (fun _ => rfl) ?_
      exact ⟨(), ⟨_, List.Perm.refl _⟩, rfl⟩

end Go.Proofs.Ytdfhbheipagnmaa
