/-
  What the functions of numbers as texts do, step by step: each theorem is one function's contract. Conditions: those that each theorem names.
-/
import Derived.Test.YtnhmmjogfkjceaaGreatDoorProg
import Derived.Test.YtnhmmjogfkjceaaGreatDoorM1
import Derived.Lib.ItoaNum
import Derived.Lib.ItoaLen
import Derived.Lib.Repeat
import Derived.Lib.IndexLaws
import Derived.KernelRfl
set_option linter.unusedVariables false
set_option linter.unusedSimpArgs false
set_option maxRecDepth 100000
set_option maxHeartbeats 4000000
set_option linter.unusedSectionVars false
namespace Go.Proofs.YtnhmmjogfkjceaaGreatDoor
open Go.Sl

theorem num_up {W0 : World} {a : Gs} {a0 k s : Nat} (hk : Gs.ok 1 (lim a0).length a ((lim a0).map encP)) (hs0 : (lim a0).length ≤ 1048576) (hs : s < 32) (hkk : k ≤ 1048576) : SC Tryz.prog W0 120 #[a.val (lim a0).length, .int .i64 ((32 * k + s : Nat) : Int)] (Gs.ent 87 1 a ((lim a0).map encP)) (Ret (fun g : Gs => Gs.ent 87 1 g ((lim (a0 * 2 ^ (32 * k + s))).map encP) ++ Gs.ent 87 1 a ((lim a0).map encP)) (fun v g => v = g.val (lim (a0 * 2 ^ (32 * k + s))).length ∧ Gs.ok 1 (lim (a0 * 2 ^ (32 * k + s))).length g ((lim (a0 * 2 ^ (32 * k + s))).map encP))) := by
 refine SC_body (fn := Tryz.f120) (n := 48) Tryz.func120 rfl (by kernel_rfl) (ρ := [(0, Gs.val a ((lim a0).length)), (1, .int .i64 ((32 * k + s : Nat) : Int))]) rfl ?_
 refine SW_sig ((Gs.ent 87 1 a ((lim a0).map encP)) ++ ([])) (by simp only [List.append_nil, List.append_assoc]) ?_
 have hp0_ : (0 : Int) < ((2 ^ s : Nat) : Int) := by have := Nat.two_pow_pos s; omega
 have hp31_ : ((2 ^ s : Nat) : Int) ≤ 2147483648 := by have := Nat.pow_le_pow_right (show 0 < 2 by decide) (show s ≤ 31 by omega); omega
 refine sr ?_
 refine os 1 ?_
 refine nq ?_
 refine sr ?_
 refine os 3 ?_
 refine nt ?_
 refine cd (fun hc1 : (((((lim a0).length : Nat)) : Int) == 0) = true => ?_) (fun hc1 => ?_)
 ·simp only [beq_iff_eq, bne_iff_ne, ne_eq, beq_eq_false_iff_ne, bne_eq_false_iff_eq, Classical.not_not] at hc1
  refine sr ?_
  refine os 1 ?_
  refine nt ?_
  refine SW_ret (r_then ?_)
  refine body_end (.slice none 0 0) (fun _ => rfl) ?_
  have hl0_ : lim (a0 * 2 ^ (32 * k + s)) = [] := by rw [(lim_len_eq (n := a0)).1 (by omega), Nat.zero_mul, lim_zero]
  rw [hl0_]
  exact ⟨.nil, Own.of_perm (List.Perm.of_eq (by simp [Gs.ent])), rfl, rfl, rfl⟩
 simp only [beq_iff_eq, bne_iff_ne, ne_eq, beq_eq_false_iff_ne, bne_eq_false_iff_eq, Classical.not_not] at hc1
 refine SW_skip (n_then ?_)
 refine sr ?_
 refine os 1 ?_
 refine oX (.int .i64 (IntKind.wrap .i64 (Int.tdiv ((32 * k + s : Nat) : Int) 32))) (.int .i64 (((32 * k + s : Nat) : Int) / 32)) (congrArg (Value.int .i64) (IntWalk.i64_quo _ _ (by omega))) ?_
 refine os 1 ?_
 refine oX (.int .i64 (IntKind.wrap .i64 (Int.tdiv ((32 * k + s : Nat) : Int) 32))) (.int .i64 (((32 * k + s : Nat) : Int) / 32)) (congrArg (Value.int .i64) (IntWalk.i64_quo _ _ (by omega))) ?_
 refine os 4 ?_
 refine kp [19, 13, 11, 4, 0, 1] ?_
 rw [show ((32 * k + s : Nat) : Int) / 32 = (k : Int) from by omega]
 refine L (O_make2 (bytes := 4) k (k + (lim a0).length + 1) (.int .u32 0) (fun _ => rfl) (fun _ => rfl) Tryz.underlying82 (by kernel_rfl) rfl (by omega) (by omega) (by omega) rfl ?_)
 intro b2 hlb2 hnb2
 refine SL_weakG ?_
 have hmkb2 : Gs.ok 1 k (Gs.at b2 (k + (lim a0).length + 1)) ((List.replicate k 0).map encP) := Gs.ok_cap (by simp) (by omega) (by unfold maxLen; omega)
 refine SL_sig ((Gs.ent 87 1 (Gs.at b2 (k + (lim a0).length + 1)) ((List.replicate k 0).map encP)) ++ ((Gs.ent 87 1 a ((lim a0).map encP)) ++ ([]))) (by rw [show ((List.replicate k 0).map encP) = List.replicate k (.int .u32 0) from by simp]) ?_
 refine os 1 ?_
 refine kp [5, 11, 4, 0, 1] ?_
 refine nsr ?_
 refine os 1 ?_
 refine nq ?_
 refine sr ?_
 refine os 3 ?_
 refine nt ?_
 refine SW_block ?_
 rw [show (List.replicate k 0 : List Int) = List.replicate k 0 ++ [] from (List.append_nil _).symm] at hmkb2 ⊢
 refine SW_loop (α := Nat × Gs × List Int × Int) (fun z_ ρ_ σ_ => Fits ρ_ σ_ [(1, .int .i64 ((32 * k + s : Nat) : Int)), (21, Gs.val a ((lim a0).length)), (22, .int .i64 ((((lim a0).length : Nat)) : Int)), (5, Gs.val z_.2.1 (k + z_.2.2.1.length)), (6, .int .u64 z_.2.2.2), (23, .int .i64 (z_.1 : Int))] ((Gs.ent 87 1 z_.2.1 ((List.replicate k 0 ++ z_.2.2.1).map encP)) ++ ((Gs.ent 87 1 a ((lim a0).map encP)) ++ ([]))) ∧ z_.1 ≤ (lim a0).length ∧ Gs.ok 1 (k + z_.2.2.1.length) z_.2.1 ((List.replicate k 0 ++ z_.2.2.1).map encP) ∧ (z_.2.2.1.length = z_.1 ∧ LimOk z_.2.2.1 ∧ (0 ≤ z_.2.2.2 ∧ z_.2.2.2 < ((2 ^ s : Nat) : Int))) ∧ limV z_.2.2.1 + 4294967296 ^ z_.1 * z_.2.2.2.toNat = limV ((lim a0).take z_.1) * 2 ^ s) (fun z_ => (lim a0).length - z_.1) (0, (Gs.at b2 (k + (lim a0).length + 1)), [], 0) ⟨⟨fun _ => rfl, ow⟩, Nat.zero_le _, hmkb2, ⟨rfl, (fun x hx => by cases hx), (show 0 ≤ (0 : Int) ∧ (0 : Int) < ((2 ^ s : Nat) : Int) from ⟨Int.le_refl _, hp0_⟩)⟩, by simp [limV]⟩ ?_
 rintro ⟨i, b, ys, c⟩ ρ_ σ_ ⟨hfit, hi0, hi1, hi2, hi3⟩
 refine SW_fits hfit ?_
 clear hfit
 simp only [] at hi0 hi1 hi2 hi3 ⊢
 obtain ⟨hyl, hyo, hc⟩ := hi2
 refine sr ?_
 refine os 1 ?_
 refine nq ?_
 refine cdp (fun hc3 : (i : Int) < ((((lim a0).length : Nat)) : Int) => ?_) (fun hc3 => ?_)
 ·refine SW_skip (n_then ?_)
  refine SW_seq ?_
  refine SW_block ?_
  refine sr ?_
  refine L (ixg (i : Int) (i) hk Tryz.underlying82 ?_)
  obtain ⟨e1, he1⟩ : ∃ y_, (lim a0)[i]? = some y_ := ⟨_, List.getElem?_eq_getElem (by omega)⟩
  refine L (ld ?_ (hc := Gs.cell hk (fun e he => (mem_a (mem_h he))) (map_cell he1 rfl)))
  refine os 1 ?_
  refine nq ?_
  have heo_ := lim_ok a0 _ (List.mem_of_getElem? he1)
  have hup_ := up_body hyl hyo he1 heo_ hs hc hi3
  refine SW_region ?_
  refine os 4 ?_
  refine oX (.int .i64 (Int.tmod ((32 * k + s : Nat) : Int) 32)) (.int .i64 (((32 * k + s : Nat) : Int) % 32)) (congrArg (Value.int .i64) (rem_nn (by first | omega | exact Int.natCast_nonneg _))) ?_
  refine oV (.int .u64 (e1 * ((2 ^ s : Nat) : Int))) ?_ (hs := shlR (e1 * ((2 ^ s : Nat) : Int)) (by omega) (up_shl (k := k) hs heo_))
  refine oV (.int .u64 ((e1 * ((2 ^ s : Nat) : Int)) + c)) ?_ (hs := orR _ (up_or heo_ hc hup_.2.1))
  refine os 1 ?_
  refine kp [6, 8, 24, 1, 21, 22, 5, 23] ?_
  refine nsr ?_
  refine os 2 ?_
  refine oV (.int .u32 (IntKind.wrap .u32 (((e1 * ((2 ^ s : Nat) : Int)) + c)))) ?_
  refine L (nws 87 1 1 [.int .u32 (IntKind.wrap .u32 (((e1 * ((2 ^ s : Nat) : Int)) + c)))] ?_)
  intro b4
  refine SL_perm _ (perm_cc perm_cz) ?_
  refine L (O_append (size := 1) (bytes := 4) (z := .int .u32 0) b (k + ys.length) 1 (some ⟨b4, 0, none⟩) 1 ((List.replicate k 0 ++ ys).map encP) ([.int .u32 (IntKind.wrap .u32 (((e1 * ((2 ^ s : Nat) : Int)) + c)))]) (((List.replicate k 0 ++ ys) ++ [IntKind.wrap .u32 (((e1 * ((2 ^ s : Nat) : Int)) + c))]).map encP) (map_snoc _ (IntKind.wrap .u32 (((e1 * ((2 ^ s : Nat) : Int)) + c))) rfl) (fun _ => rfl) (fun _ => rfl) Tryz.underlying82 (by kernel_rfl) rfl (by decide) hi1 rfl (.inr ⟨b4, 0, rfl, Cells.own (mem_a mem_z) rfl⟩) rfl (by omega) (by decide) rfl ?_)
  intro s5 hks5 hfs5
  rw [show k + ys.length + 1 = ((List.replicate k 0 ++ ys) ++ [IntKind.wrap .u32 (((e1 * ((2 ^ s : Nat) : Int)) + c))]).length from by first | (simp; done) | (simp; omega)]
  rw [show k + ys.length + 1 = ((List.replicate k 0 ++ ys) ++ [IntKind.wrap .u32 (((e1 * ((2 ^ s : Nat) : Int)) + c))]).length from by first | (simp; done) | (simp; omega)] at hks5
  have hls5 : ((List.replicate k 0 ++ ys) ++ [IntKind.wrap .u32 (((e1 * ((2 ^ s : Nat) : Int)) + c))]).length = (List.replicate k 0 ++ ys).length + 1 := by first | (simp; done) | (simp; omega)
  refine os 1 ?_
  refine kp [5, 6, 8, 24, 1, 21, 22, 23] ?_
  refine nr ?_
  refine os 1 ?_
  refine oX (.int .u64 (Int.fdiv ((e1 * ((2 ^ s : Nat) : Int)) + c) 4294967296)) (.int .u64 (((e1 * ((2 ^ s : Nat) : Int)) + c) / 4294967296)) (congrArg (Value.int .u64) (Int.fdiv_eq_ediv_of_nonneg _ (by omega))) ?_
  refine os 1 ?_
  refine SL_nil (n_in (n_then ?_))
  refine SW_region ?_
  refine os 2 ?_
  refine kp [23, 6, 5, 8, 24, 1, 21, 22] ?_
  refine nt ?_
  have hap_ : (List.replicate k 0 ++ ys : List Int) ++ [IntKind.wrap .u32 (e1 * ((2 ^ s : Nat) : Int) + c)] = List.replicate k 0 ++ (ys ++ [IntKind.wrap .u32 (e1 * ((2 ^ s : Nat) : Int) + c)]) := List.append_assoc _ _ _
  have hkq_ := hks5
  rw [hap_] at hkq_ ⊢
  rw [show (List.replicate k 0 ++ (ys ++ [IntKind.wrap .u32 (e1 * ((2 ^ s : Nat) : Int) + c)]) : List Int).length = k + (ys ++ [IntKind.wrap .u32 (e1 * ((2 ^ s : Nat) : Int) + c)]).length from by simp] at hkq_ ⊢
  refine ⟨(i + 1, s5, (ys ++ [IntKind.wrap .u32 (e1 * ((2 ^ s : Nat) : Int) + c)]), ((e1 * ((2 ^ s : Nat) : Int)) + c) / 4294967296), by simp only []; omega, ?_⟩
  simp only []
  exact ⟨⟨fun _ => rfl, ow⟩, by omega, hkq_, ⟨hup_.2.2.1, hup_.2.2.2.1, hup_.2.2.2.2.1⟩, hup_.2.2.2.2.2⟩
 refine SW_exit (x_then (x_then (x_in (n_then ?_))))
 refine sr ?_
 refine os 3 ?_
 refine L (nws 87 1 1 [.int .u32 c] ?_)
 intro b6
 refine SL_perm _ (perm_cc perm_cz) ?_
 refine L (O_append (size := 1) (bytes := 4) (z := .int .u32 0) b (k + ys.length) 1 (some ⟨b6, 0, none⟩) 1 ((List.replicate k 0 ++ ys).map encP) ([.int .u32 c]) (((List.replicate k 0 ++ ys) ++ [c]).map encP) (map_snoc _ c rfl) (fun _ => rfl) (fun _ => rfl) Tryz.underlying82 (by kernel_rfl) rfl (by decide) hi1 rfl (.inr ⟨b6, 0, rfl, Cells.own (mem_a mem_z) rfl⟩) rfl (by omega) (by decide) rfl ?_)
 intro s7 hks7 hfs7
 rw [show k + ys.length + 1 = ((List.replicate k 0 ++ ys) ++ [c]).length from by first | (simp; done) | (simp; omega)]
 rw [show k + ys.length + 1 = ((List.replicate k 0 ++ ys) ++ [c]).length from by first | (simp; done) | (simp; omega)] at hks7
 have hls7 : ((List.replicate k 0 ++ ys) ++ [c]).length = (List.replicate k 0 ++ ys).length + 1 := by first | (simp; done) | (simp; omega)
 have hie_ : i = (lim a0).length := by omega
 rw [hie_] at hyl hi3
 obtain ⟨hto_, htv_⟩ := up_end (l := lim a0) (k := k) hyl hyo ⟨hc.1, by omega⟩ hi3
 rw [lim_val] at htv_
 have hq_ := num_trim (W0 := W0) (l := ((List.replicate k 0 ++ ys) ++ [c])) hto_ hks7
 rw [htv_] at hq_
 refine L (cl (hq_) ?_)
 rintro _ _ ⟨rfl, hkt_⟩
 refine os 1 ?_
 refine kp [4, 24, 1, 21, 22, 5, 6, 23] ?_
 refine nt ?_
 refine SW_ret ?_
 refine body_end (Gs.val s7 ((lim (a0 * 2 ^ (32 * k + s))).length)) (fun _ => rfl) ?_
 exact ⟨s7, ow, rfl, hkt_⟩

end Go.Proofs.YtnhmmjogfkjceaaGreatDoor
namespace Go.Proofs.YtnhmmjogfkjceaaGreatDoor
open Go.Sl

theorem num_Clone_nil {W0 : World}  : SC Tryz.prog W0 122 #[.slice none 0 0] [] (Ret (fun q : Gs => Gs.ent 87 1 q (([] : List Int).map encP)) (fun v q => v = q.val ([] : List Int).length ∧ Gs.ok 1 ([] : List Int).length q (([] : List Int).map encP))) := by
 refine SC_body (fn := Tryz.f122) (n := 8) Tryz.func122 rfl (by kernel_rfl) (ρ := [(0, .slice none 0 0)]) rfl ?_
 refine sr ?_
 refine os 1 ?_
 refine nq ?_
 refine sr ?_
 refine os 1 ?_
 refine oV (.bool true) ?_
 refine nt ?_
 refine ct ?_
 refine sr ?_
 refine os 1 ?_
 refine nt ?_
 refine SW_ret (r_then ?_)
 refine body_end (.slice none 0 0) (fun _ => rfl) ?_
 exact ⟨.nil, (Own.of_perm (List.Perm.of_eq (by simp [Gs.ent]))), rfl, rfl, rfl⟩

theorem num_Clone_at {W0 : World} {g c : Nat} {l : List Int} (hk : Gs.ok 1 l.length (Gs.at g c) (l.map encP)) (hs : l.length ≤ 1048576) : SC Tryz.prog W0 122 #[Gs.val (Gs.at g c) l.length] (Gs.ent 87 1 (Gs.at g c) (l.map encP)) (Ret (fun q : Gs => Gs.ent 87 1 q (l.map encP) ++ Gs.ent 87 1 (Gs.at g c) (l.map encP)) (fun v q => v = q.val l.length ∧ Gs.ok 1 l.length q (l.map encP))) := by
 refine SC_body (fn := Tryz.f122) (n := 8) Tryz.func122 rfl (by kernel_rfl) (ρ := [(0, Gs.val (Gs.at g c) l.length)]) rfl ?_
 refine SW_sig ((Gs.ent 87 1 (Gs.at g c) (l.map encP)) ++ ([])) (by simp only [List.append_nil, List.append_assoc]) ?_
 refine sr ?_
 refine os 1 ?_
 refine nq ?_
 refine sr ?_
 refine os 1 ?_
 refine oV (.bool false) ?_
 refine nt ?_
 refine cf ?_
 refine SW_skip (n_then ?_)
 refine sr ?_
 refine L (nws 87 0 0 [] ?_)
 intro b1
 refine os 1 ?_
 refine SL_sig ((Gs.ent 87 1 (Gs.at b1 0) (([] : List Int).map encP)) ++ ((Gs.ent 87 1 (Gs.at g c) (l.map encP)) ++ ([]))) rfl ?_
 refine L (O_append (size := 1) (bytes := 4) (z := .int .u32 0) (Gs.at b1 0) 0 l.length (Gs.addr (Gs.at g c)) (Gs.cap (Gs.at g c)) (([] : List Int).map encP) (l.map encP) ((([] : List Int) ++ l).map encP) (map_app _ _) (fun _ => rfl) (fun _ => rfl) Tryz.underlying82 (by kernel_rfl) rfl (by decide) ⟨Nat.le_refl _, by unfold maxLen; omega, rfl⟩ (Gs.ok.len hk) (Gs.src hk (fun e he => (mem_a (mem_h he)))) (map_one (fun _ => rfl) _) (by omega) (by decide) rfl ?_)
 intro s2 hks2 hfs2
 rw [show 0 + l.length = (([] : List Int) ++ l).length from by first | (simp; done) | (simp; omega)]
 rw [show 0 + l.length = (([] : List Int) ++ l).length from by first | (simp; done) | (simp; omega)] at hks2
 have hls2 : (([] : List Int) ++ l).length = ([] : List Int).length + l.length := by simp
 refine os 1 ?_
 refine kp [2, 4, 0] ?_
 refine nt ?_
 refine SW_ret ?_
 refine body_end (Gs.val s2 ((([] : List Int) ++ l).length)) (fun _ => rfl) ?_
 have hlq_ : (([] : List Int) ++ l) = l := by simp
 have hkq_ := hks2
 rw [hlq_] at hkq_ ⊢
 exact ⟨s2, ow, rfl, hkq_⟩

theorem num_Clone {W0 : World} {a : Gs} {l : List Int} (hk : Gs.ok 1 l.length a (l.map encP)) (hs : l.length ≤ 1048576) : SC Tryz.prog W0 122 #[a.val l.length] (Gs.ent 87 1 a (l.map encP)) (Ret (fun q : Gs => Gs.ent 87 1 q (l.map encP) ++ Gs.ent 87 1 a (l.map encP)) (fun v q => v = q.val l.length ∧ Gs.ok 1 l.length q (l.map encP))) := by
 cases a with
 | nil =>
   obtain ⟨_, h2⟩ := hk
   obtain rfl : l = [] := by simpa using h2
   exact num_Clone_nil.mono fun v σ ⟨q, ho, h⟩ => ⟨q, by simpa [Gs.ent] using ho, h⟩
 | _ g c => exact num_Clone_at hk hs

theorem num_half {W0 : World} {a : Gs} {a0 : Nat} (hk : Gs.ok 1 (lim a0).length a ((lim a0).map encP)) (hs0 : (lim a0).length ≤ 1048576) : SC Tryz.prog W0 131 #[a.val (lim a0).length] (Gs.ent 87 1 a ((lim a0).map encP)) (Ret (fun g : Gs => Gs.ent 87 1 g ((lim (a0 / 2)).map encP) ++ Gs.ent 87 1 a ((lim a0).map encP)) (fun v g => v = g.val (lim (a0 / 2)).length ∧ Gs.ok 1 (lim (a0 / 2)).length g ((lim (a0 / 2)).map encP))) := by
 refine SC_body (fn := Tryz.f131) (n := 38) Tryz.func131 rfl (by kernel_rfl) (ρ := [(0, Gs.val a ((lim a0).length))]) rfl ?_
 refine SW_sig ((Gs.ent 87 1 a ((lim a0).map encP)) ++ ([])) (by simp only [List.append_nil, List.append_assoc]) ?_
 refine sr ?_
 refine os 1 ?_
 refine nsr ?_
 refine os 1 ?_
 refine L (cl (num_Clone hk hs0) ?_)
 rintro _ q ⟨rfl, hkq⟩
 refine un ?_
 refine os 1 ?_
 refine nq ?_
 refine sr ?_
 refine os 3 ?_
 refine kp [9, 8, 3, 2, 0] ?_
 refine nt ?_
 refine SW_block ?_
 rw [show Gs.ent 87 1 q ((lim a0).map encP) = Gs.ent 87 1 q ((halfM (lim a0) 0).map encP) from by rw [halfM_zero]]
 refine SW_loop (α := Nat) (fun z_ ρ_ σ_ => Fits ρ_ σ_ [(0, Gs.val a ((lim a0).length)), (3, Gs.val q ((lim a0).length)), (8, .int .i64 ((((lim a0).length : Nat)) : Int)), (9, .int .i64 (z_ : Int))] ((Gs.ent 87 1 q ((halfM (lim a0) z_).map encP)) ++ ((Gs.ent 87 1 a ((lim a0).map encP)) ++ ([]))) ∧ z_ ≤ (lim a0).length) (fun z_ => (lim a0).length - z_) 0 ⟨⟨fun _ => rfl, ow⟩, Nat.zero_le _⟩ ?_
 rintro i ρ_ σ_ ⟨hfit, hi0⟩
 refine SW_fits hfit ?_
 clear hfit
 have hml_ := halfM_len (l := lim a0) (i := i) (by omega)
 have hkm_ : Gs.ok 1 (halfM (lim a0) i).length q ((halfM (lim a0) i).map encP) := by rw [hml_]; exact Gs.ok.relen hkq (by simp [hml_])
 refine sr ?_
 refine os 1 ?_
 refine nq ?_
 refine cdp (fun hc1 : (i : Int) < ((((lim a0).length : Nat)) : Int) => ?_) (fun hc1 => ?_)
 ·refine SW_skip (n_then ?_)
  refine SW_seq ?_
  refine SW_block ?_
  refine sr ?_
  refine os 2 ?_
  refine nsr ?_
  refine os 2 ?_
  refine L (ixg (i : Int) (i) hkm_ Tryz.underlying82 ?_)
  obtain ⟨e1, he1⟩ : ∃ y_, (halfM (lim a0) i)[i]? = some y_ := ⟨_, List.getElem?_eq_getElem (by omega)⟩
  refine L (ld ?_ (hc := Gs.cell hkm_ (fun e he => (mem_h he)) (map_cell he1 rfl)))
  refine oX (.int .u32 (Int.fdiv e1 2)) (.int .u32 (e1 / 2)) (congrArg (Value.int .u32) (Int.fdiv_eq_ediv_of_nonneg _ (by omega))) ?_
  refine L (ixg (i : Int) (i) hkm_ Tryz.underlying82 ?_)
  have hok1 := Gs.ok.relen (ys := (((halfM (lim a0) i).set i (e1 / 2)).map encP)) hkm_ (by simp)
  refine L (O_storeG (ys := (((halfM (lim a0) i).set i (e1 / 2)).map encP)) q (i) (.int .u32 (e1 / 2)) [.int .u32 (e1 / 2)] (Gs.ok.ne hkm_ (by first | omega | (simp; omega))) (fun _ => rfl) (fun _ => rfl) rfl (by kernel_rfl) rfl (by simp; omega) (row_lay_map (e1 / 2) (by omega)) rfl ?_)
  refine nq ?_
  have hea_ := (halfM_at (l := lim a0) (i := i) (by omega)).symm.trans he1
  have heo_ := lim_ok a0 _ (List.mem_of_getElem? hea_)
  refine SW_region ?_
  refine os 5 ?_
  refine kp [22, 4, 10, 0, 3, 8, 9] ?_
  refine nt ?_
  refine cdp (fun hc2 : ((i : Int) + 1) < ((((lim a0).length : Nat)) : Int) => ?_) (fun hc2 => ?_)
  ·have hsl_ : ((halfM (lim a0) i).set i (e1 / 2)).length = (lim a0).length := by rw [List.length_set]; exact hml_
   obtain ⟨e2, he2⟩ : ∃ y_, (lim a0)[(i + 1)]? = some y_ := ⟨_, List.getElem?_eq_getElem (by omega)⟩
   refine SW_draw [((Gs.blk q), i, .int .u32 (e1 / 2)), ((Gs.blk a), (i + 1), .int .u32 e2)] [0, 1, 2, 3, 4, 5, 6, 7, 8, 9] (by kernel_rfl) (rd_cons (Gs.cell hok1 (fun e he => (mem_h he)) (map_cell (get_set he1) rfl)) (rd_cons (Gs.cell hk (fun e he => (mem_a (mem_h he))) (map_cell he2 rfl)) rd_nil)) ?_
   refine aS 0 ?_
   refine aS 1 ?_
   refine aI 2 (i : Int) (i) hok1 Tryz.underlying82 ?_
   refine aL 3 ?_
   refine aS 4 ?_
   refine aS 5 ?_
   refine tk 6 (.int .i64 (IntKind.wrap .i64 ((i : Int) + 1))) ?_
   rw [show IntKind.wrap .i64 ((i : Int) + 1) = (i : Int) + 1 from IntWalk.i64_in _ (by omega)]
   refine aI 7 ((i : Int) + 1) ((i + 1)) hk Tryz.underlying82 ?_
   refine aL 8 ?_
   refine tk 9 (.int .u32 (IntKind.wrap .u32 (e2 * 2147483648))) ?_
   refine tk 10 (.int .u32 (e1 / 2 + e2 % 2 * 2147483648)) ?_ (hy := orR32 (m := e1 / 2) (c := IntKind.wrap .u32 (e2 * 2147483648)) _ (by rw [half_shl]; exact half_or heo_))
   refine kpA [33, 24, 23, 22, 4, 10, 0, 3, 8, 9] ?_
   refine aI 11 (i : Int) (i) hok1 Tryz.underlying82 ?_
   have hok3 := Gs.ok.relen (ys := (((halfM (lim a0) i).set i (e1 / 2 + e2 % 2 * 2147483648)).map encP)) hok1 (by simp)
   refine sa1 false 12 (h := O_storeG (ys := (((halfM (lim a0) i).set i (e1 / 2 + e2 % 2 * 2147483648)).map encP)) q (i) (.int .u32 (e1 / 2 + e2 % 2 * 2147483648)) [.int .u32 (e1 / 2 + e2 % 2 * 2147483648)] (Gs.ok.ne hok1 (by first | omega | (simp; omega))) (fun _ => rfl) (fun _ => rfl) rfl (by kernel_rfl) rfl (by simp; omega) ((row_lay_map (e1 / 2 + e2 % 2 * 2147483648) (by omega)).trans (by rw [List.set_set])) rfl ?_)
   refine ⟨fun hnd => (by cases hnd), ?_⟩
   refine SA_done (by kernel_rfl) (n_in (n_then ?_))
   refine SW_region ?_
   refine os 2 ?_
   refine kp [9, 22, 4, 10, 0, 3, 8] ?_
   refine nt ?_
   have hst_ : (halfM (lim a0) i).set i (e1 / 2 + e2 % 2 * 2147483648) = halfM (lim a0) (i + 1) := halfM_step (by rw [halfL_at hea_]; rw [he2])
   refine ⟨i + 1, by omega, ⟨fun _ => rfl, ?_⟩, by omega⟩
   rw [← hst_]
   exact ow
  refine SW_skip (n_in (n_then ?_))
  refine SW_region ?_
  refine os 2 ?_
  refine nt ?_
  have hst_ : (halfM (lim a0) i).set i (e1 / 2) = halfM (lim a0) (i + 1) := halfM_step (by rw [halfL_at hea_]; rw [List.getElem?_eq_none (by omega)]; simp)
  refine ⟨i + 1, by omega, ⟨fun _ => rfl, ?_⟩, by omega⟩
  rw [← hst_]
  exact ow
 refine SW_exit (x_then (x_then (x_in (n_then ?_))))
 refine sr ?_
 refine os 1 ?_
 have hie_ : i = (lim a0).length := by omega
 have hme_ : halfM (lim a0) i = halfL (lim a0) := by rw [hie_]; exact halfM_end
 have hq_ := num_trim (W0 := W0) (l := halfM (lim a0) i) (by rw [hme_]; exact halfL_ok (lim_ok a0)) hkm_
 rw [show limV (halfM (lim a0) i) = a0 / 2 from by rw [hme_, halfL_val (lim_ok a0), lim_val], hml_] at hq_
 refine L (cl (hq_) ?_)
 rintro _ _ ⟨rfl, hkt_⟩
 refine os 1 ?_
 refine nt ?_
 refine SW_ret ?_
 refine body_end (Gs.val q ((lim (a0 / 2)).length)) (fun _ => rfl) ?_
 exact ⟨q, ow, rfl, hkt_⟩

end Go.Proofs.YtnhmmjogfkjceaaGreatDoor
namespace Go.Proofs.YtnhmmjogfkjceaaGreatDoor
open Go.Sl

theorem num_less {W0 : World} {a b : Gs} {a0 b0 : Nat} (hk : Gs.ok 1 (lim a0).length a ((lim a0).map encP)) (hkb : Gs.ok 1 (lim b0).length b ((lim b0).map encP)) (hs0 : (lim a0).length ≤ 1048576) (hle : b0 ≤ a0) : SC Tryz.prog W0 76 #[a.val (lim a0).length, b.val (lim b0).length] (Gs.ent 87 1 a ((lim a0).map encP) ++ Gs.ent 87 1 b ((lim b0).map encP)) (Ret (fun g : Gs => Gs.ent 87 1 g ((lim (a0 - b0)).map encP) ++ (Gs.ent 87 1 a ((lim a0).map encP) ++ (Gs.ent 87 1 b ((lim b0).map encP)))) (fun v g => v = g.val (lim (a0 - b0)).length ∧ Gs.ok 1 (lim (a0 - b0)).length g ((lim (a0 - b0)).map encP))) := by
 refine SC_body (fn := Tryz.f76) (n := 46) Tryz.func76 rfl (by kernel_rfl) (ρ := [(0, Gs.val a ((lim a0).length)), (1, Gs.val b ((lim b0).length))]) rfl ?_
 refine SW_sig ((Gs.ent 87 1 a ((lim a0).map encP)) ++ ((Gs.ent 87 1 b ((lim b0).map encP)) ++ ([]))) (by simp only [List.append_nil, List.append_assoc]) ?_
 refine sr ?_
 refine os 1 ?_
 refine nsr ?_
 refine os 1 ?_
 refine L (cl (num_Clone hk hs0) ?_)
 rintro _ q ⟨rfl, hkq⟩
 refine un ?_
 refine os 1 ?_
 refine nsr ?_
 refine os 1 ?_
 refine nq ?_
 refine sr ?_
 refine os 3 ?_
 refine kp [13, 12, 6, 5, 4, 0, 1] ?_
 refine nt ?_
 refine SW_block ?_
 rw [show Gs.ent 87 1 q ((lim a0).map encP) = Gs.ent 87 1 q ((mixM (lessL (lim a0) (lim b0) 0) (lim a0) 0).map encP) from by rw [mixM_zero]]
 refine SW_loop (α := Nat × Int) (fun z_ ρ_ σ_ => Fits ρ_ σ_ [(0, Gs.val a ((lim a0).length)), (1, Gs.val b ((lim b0).length)), (5, Gs.val q ((lim a0).length)), (12, .int .i64 ((((lim a0).length : Nat)) : Int)), (6, .int .u64 z_.2), (13, .int .i64 (z_.1 : Int))] ((Gs.ent 87 1 q ((mixM (lessL (lim a0) (lim b0) 0) (lim a0) z_.1).map encP)) ++ ((Gs.ent 87 1 a ((lim a0).map encP)) ++ ((Gs.ent 87 1 b ((lim b0).map encP)) ++ ([])))) ∧ z_.1 ≤ (lim a0).length ∧ (0 ≤ z_.2 ∧ z_.2 ≤ 1) ∧ z_.2 = lessB ((lim a0).take z_.1) (lim b0) 0) (fun z_ => (lim a0).length - z_.1) (0, 0) ⟨⟨fun _ => rfl, ow⟩, Nat.zero_le _, ⟨Int.le_refl _, by decide⟩, rfl⟩ ?_
 rintro ⟨i, c⟩ ρ_ σ_ ⟨hfit, hi0, hi1, hi2⟩
 refine SW_fits hfit ?_
 clear hfit
 simp only [] at hi0 hi1 hi2 ⊢
 have hml_ := mixM_len (lessL_len (lim a0) (lim b0) 0) (i := i) (by omega)
 have hkm_ : Gs.ok 1 (mixM (lessL (lim a0) (lim b0) 0) (lim a0) i).length q ((mixM (lessL (lim a0) (lim b0) 0) (lim a0) i).map encP) := by rw [hml_]; exact Gs.ok.relen hkq (by simp [hml_])
 refine sr ?_
 refine os 1 ?_
 refine nq ?_
 refine cdp (fun hc1 : (i : Int) < ((((lim a0).length : Nat)) : Int) => ?_) (fun hc1 => ?_)
 ·refine SW_skip (n_then ?_)
  refine SW_seq ?_
  refine SW_block ?_
  refine sr ?_
  refine os 2 ?_
  refine nsr ?_
  refine os 2 ?_
  refine nq ?_
  refine sr ?_
  refine os 4 ?_
  refine kp [20, 8, 7, 14, 0, 1, 5, 12, 6, 13] ?_
  refine nt ?_
  refine cdp (fun hc2 : (i : Int) < ((((lim b0).length : Nat)) : Int) => ?_) (fun hc2 => ?_)
  ·obtain ⟨e1, he1⟩ : ∃ y_, (lim b0)[i]? = some y_ := ⟨_, List.getElem?_eq_getElem (by omega)⟩
   have hey_ := lim_ok b0 _ (List.mem_of_getElem? he1)
   refine SW_region ?_
   refine os 3 ?_
   refine L (ixg (i : Int) (i) hkb Tryz.underlying82 ?_)
   refine L (ld ?_ (hc := Gs.cell hkb (fun e he => (mem_a (mem_a (mem_h he)))) (map_cell he1 rfl)))
   refine os 3 ?_
   refine kp [8, 20, 7, 14, 0, 1, 5, 12, 6, 13] ?_
   refine nsr ?_
   refine os 1 ?_
   refine nq ?_
   refine SW_seq ?_
   obtain ⟨e2, he2⟩ : ∃ y_, (mixM (lessL (lim a0) (lim b0) 0) (lim a0) i)[i]? = some y_ := ⟨_, List.getElem?_eq_getElem (by omega)⟩
   have hea_ := (mixM_at (lessL_len (lim a0) (lim b0) 0) (i := i) (by omega)).symm.trans he2
   have heo_ := lim_ok a0 _ (List.mem_of_getElem? hea_)
   refine SW_region ?_
   refine os 2 ?_
   refine L (ixg (i : Int) (i) hkm_ Tryz.underlying82 ?_)
   refine L (ld ?_ (hc := Gs.cell hkm_ (fun e he => (mem_h he)) (map_cell he2 rfl)))
   refine os 3 ?_
   refine kp [34, 6, 8, 20, 7, 14, 0, 1, 5, 12, 13] ?_
   refine nt ?_
   refine cdp (fun hc3 : e2 < (c + e1) => ?_) (fun hc3 => ?_)
   ·refine SW_region ?_
    refine os 1 ?_
    refine nr ?_
    refine os 2 ?_
    refine L (ixg (i : Int) (i) hkm_ Tryz.underlying82 ?_)
    refine L (ld ?_ (hc := Gs.cell hkm_ (fun e he => (mem_h he)) (map_cell he2 rfl)))
    refine os 1 ?_
    refine oV (.int .u32 (IntKind.wrap .u32 (c + e1))) ?_
    refine oV (.int .u32 (IntKind.wrap .u32 (e2 - (IntKind.wrap .u32 (c + e1))))) ?_
    refine L (ixg (i : Int) (i) hkm_ Tryz.underlying82 ?_)
    have hok1 := Gs.ok.relen (ys := (((mixM (lessL (lim a0) (lim b0) 0) (lim a0) i).set i (IntKind.wrap .u32 (e2 - (IntKind.wrap .u32 (c + e1))))).map encP)) hkm_ (by simp)
    refine L (O_storeG (ys := (((mixM (lessL (lim a0) (lim b0) 0) (lim a0) i).set i (IntKind.wrap .u32 (e2 - (IntKind.wrap .u32 (c + e1))))).map encP)) q (i) (.int .u32 (IntKind.wrap .u32 (e2 - (IntKind.wrap .u32 (c + e1))))) [.int .u32 (IntKind.wrap .u32 (e2 - (IntKind.wrap .u32 (c + e1))))] (Gs.ok.ne hkm_ (by first | omega | (simp; omega))) (fun _ => rfl) (fun _ => rfl) rfl (by kernel_rfl) rfl (by simp; omega) (row_lay_map (IntKind.wrap .u32 (e2 - (IntKind.wrap .u32 (c + e1)))) (by omega)) rfl ?_)
    refine SL_nil (n_in (n_then ?_))
    refine SW_region ?_
    refine os 2 ?_
    refine kp [13, 6, 34, 8, 20, 7, 14, 0, 1, 5, 12] ?_
    refine nt ?_
    obtain ⟨hst_, hq1_, hq0_⟩ := less_y hea_ he1 hi2
    refine ⟨(i + 1, 1), by simp only []; omega, ?_⟩
    simp only []
    refine ⟨⟨fun _ => rfl, ?_⟩, by omega, by omega, hq1_ hc3⟩
    rw [← hst_]
    exact ow
   refine SW_skip (n_then ?_)
   refine SW_region ?_
   refine os 2 ?_
   refine L (ixg (i : Int) (i) hkm_ Tryz.underlying82 ?_)
   refine L (ld ?_ (hc := Gs.cell hkm_ (fun e he => (mem_h he)) (map_cell he2 rfl)))
   refine os 1 ?_
   refine oV (.int .u32 (IntKind.wrap .u32 (c + e1))) ?_
   refine oV (.int .u32 (IntKind.wrap .u32 (e2 - (IntKind.wrap .u32 (c + e1))))) ?_
   refine L (ixg (i : Int) (i) hkm_ Tryz.underlying82 ?_)
   have hok2 := Gs.ok.relen (ys := (((mixM (lessL (lim a0) (lim b0) 0) (lim a0) i).set i (IntKind.wrap .u32 (e2 - (IntKind.wrap .u32 (c + e1))))).map encP)) hkm_ (by simp)
   refine L (O_storeG (ys := (((mixM (lessL (lim a0) (lim b0) 0) (lim a0) i).set i (IntKind.wrap .u32 (e2 - (IntKind.wrap .u32 (c + e1))))).map encP)) q (i) (.int .u32 (IntKind.wrap .u32 (e2 - (IntKind.wrap .u32 (c + e1))))) [.int .u32 (IntKind.wrap .u32 (e2 - (IntKind.wrap .u32 (c + e1))))] (Gs.ok.ne hkm_ (by first | omega | (simp; omega))) (fun _ => rfl) (fun _ => rfl) rfl (by kernel_rfl) rfl (by simp; omega) (row_lay_map (IntKind.wrap .u32 (e2 - (IntKind.wrap .u32 (c + e1)))) (by omega)) rfl ?_)
   refine SL_nil (n_in (n_then ?_))
   refine SW_region ?_
   refine os 2 ?_
   refine kp [13, 34, 6, 8, 20, 7, 14, 0, 1, 5, 12] ?_
   refine nt ?_
   obtain ⟨hst_, hq1_, hq0_⟩ := less_y hea_ he1 hi2
   refine ⟨(i + 1, 0), by simp only []; omega, ?_⟩
   simp only []
   refine ⟨⟨fun _ => rfl, ?_⟩, by omega, by omega, hq0_ hc3⟩
   rw [← hst_]
   exact ow
  refine SW_skip (n_then ?_)
  refine sr ?_
  refine os 1 ?_
  refine nq ?_
  refine SW_seq ?_
  obtain ⟨e3, he3⟩ : ∃ y_, (mixM (lessL (lim a0) (lim b0) 0) (lim a0) i)[i]? = some y_ := ⟨_, List.getElem?_eq_getElem (by omega)⟩
  have hea_ := (mixM_at (lessL_len (lim a0) (lim b0) 0) (i := i) (by omega)).symm.trans he3
  have heo_ := lim_ok a0 _ (List.mem_of_getElem? hea_)
  refine SW_region ?_
  refine os 2 ?_
  refine L (ixg (i : Int) (i) hkm_ Tryz.underlying82 ?_)
  refine L (ld ?_ (hc := Gs.cell hkm_ (fun e he => (mem_h he)) (map_cell he3 rfl)))
  refine os 3 ?_
  refine kp [34, 6, 20, 8, 7, 14, 0, 1, 5, 12, 13] ?_
  refine nt ?_
  refine cdp (fun hc4 : e3 < c => ?_) (fun hc4 => ?_)
  ·refine SW_region ?_
   refine os 1 ?_
   refine nr ?_
   refine os 2 ?_
   refine L (ixg (i : Int) (i) hkm_ Tryz.underlying82 ?_)
   refine L (ld ?_ (hc := Gs.cell hkm_ (fun e he => (mem_h he)) (map_cell he3 rfl)))
   refine os 1 ?_
   refine oV (.int .u32 (IntKind.wrap .u32 (c))) ?_
   refine oV (.int .u32 (IntKind.wrap .u32 (e3 - (IntKind.wrap .u32 (c))))) ?_
   refine L (ixg (i : Int) (i) hkm_ Tryz.underlying82 ?_)
   have hok3 := Gs.ok.relen (ys := (((mixM (lessL (lim a0) (lim b0) 0) (lim a0) i).set i (IntKind.wrap .u32 (e3 - (IntKind.wrap .u32 (c))))).map encP)) hkm_ (by simp)
   refine L (O_storeG (ys := (((mixM (lessL (lim a0) (lim b0) 0) (lim a0) i).set i (IntKind.wrap .u32 (e3 - (IntKind.wrap .u32 (c))))).map encP)) q (i) (.int .u32 (IntKind.wrap .u32 (e3 - (IntKind.wrap .u32 (c))))) [.int .u32 (IntKind.wrap .u32 (e3 - (IntKind.wrap .u32 (c))))] (Gs.ok.ne hkm_ (by first | omega | (simp; omega))) (fun _ => rfl) (fun _ => rfl) rfl (by kernel_rfl) rfl (by simp; omega) (row_lay_map (IntKind.wrap .u32 (e3 - (IntKind.wrap .u32 (c)))) (by omega)) rfl ?_)
   refine SL_nil (n_in (n_then ?_))
   refine SW_region ?_
   refine os 2 ?_
   refine kp [13, 6, 34, 20, 8, 7, 14, 0, 1, 5, 12] ?_
   refine nt ?_
   obtain ⟨hst_, hq1_, hq0_⟩ := less_n (m := lim b0) hea_ (by omega) hi2
   refine ⟨(i + 1, 1), by simp only []; omega, ?_⟩
   simp only []
   refine ⟨⟨fun _ => rfl, ?_⟩, by omega, by omega, hq1_ hc4⟩
   rw [← hst_]
   exact ow
  refine SW_skip (n_then ?_)
  refine SW_region ?_
  refine os 2 ?_
  refine L (ixg (i : Int) (i) hkm_ Tryz.underlying82 ?_)
  refine L (ld ?_ (hc := Gs.cell hkm_ (fun e he => (mem_h he)) (map_cell he3 rfl)))
  refine os 1 ?_
  refine oV (.int .u32 (IntKind.wrap .u32 (c))) ?_
  refine oV (.int .u32 (IntKind.wrap .u32 (e3 - (IntKind.wrap .u32 (c))))) ?_
  refine L (ixg (i : Int) (i) hkm_ Tryz.underlying82 ?_)
  have hok4 := Gs.ok.relen (ys := (((mixM (lessL (lim a0) (lim b0) 0) (lim a0) i).set i (IntKind.wrap .u32 (e3 - (IntKind.wrap .u32 (c))))).map encP)) hkm_ (by simp)
  refine L (O_storeG (ys := (((mixM (lessL (lim a0) (lim b0) 0) (lim a0) i).set i (IntKind.wrap .u32 (e3 - (IntKind.wrap .u32 (c))))).map encP)) q (i) (.int .u32 (IntKind.wrap .u32 (e3 - (IntKind.wrap .u32 (c))))) [.int .u32 (IntKind.wrap .u32 (e3 - (IntKind.wrap .u32 (c))))] (Gs.ok.ne hkm_ (by first | omega | (simp; omega))) (fun _ => rfl) (fun _ => rfl) rfl (by kernel_rfl) rfl (by simp; omega) (row_lay_map (IntKind.wrap .u32 (e3 - (IntKind.wrap .u32 (c)))) (by omega)) rfl ?_)
  refine SL_nil (n_in (n_then ?_))
  refine SW_region ?_
  refine os 2 ?_
  refine kp [13, 34, 6, 20, 8, 7, 14, 0, 1, 5, 12] ?_
  refine nt ?_
  obtain ⟨hst_, hq1_, hq0_⟩ := less_n (m := lim b0) hea_ (by omega) hi2
  refine ⟨(i + 1, 0), by simp only []; omega, ?_⟩
  simp only []
  refine ⟨⟨fun _ => rfl, ?_⟩, by omega, by omega, hq0_ hc4⟩
  rw [← hst_]
  exact ow
 refine SW_exit (x_then (x_then (x_in (n_then ?_))))
 refine sr ?_
 refine os 1 ?_
 have hie_ : i = (lim a0).length := by omega
 have hme_ : (mixM (lessL (lim a0) (lim b0) 0) (lim a0) i) = lessL (lim a0) (lim b0) 0 := by rw [hie_]; exact mixM_end (lessL_len ..)
 have hq_ := num_trim (W0 := W0) (l := (mixM (lessL (lim a0) (lim b0) 0) (lim a0) i)) (by rw [hme_]; exact lessL_ok (lim a0) (lim b0) 0) hkm_
 rw [show limV (mixM (lessL (lim a0) (lim b0) 0) (lim a0) i) = a0 - b0 from by rw [hme_, lessL_sub (lim_ok a0) (lim_ok b0) (by rw [lim_val, lim_val]; exact hle) (lim_len_mono hle), lim_val, lim_val], hml_] at hq_
 refine L (cl (hq_) ?_)
 rintro _ _ ⟨rfl, hkt_⟩
 refine os 1 ?_
 refine nt ?_
 refine SW_ret ?_
 refine body_end (Gs.val q ((lim (a0 - b0)).length)) (fun _ => rfl) ?_
 exact ⟨q, ow, rfl, hkt_⟩

theorem num_plus {W0 : World} {a b : Gs} {a0 b0 : Nat} (hk : Gs.ok 1 (lim a0).length a ((lim a0).map encP)) (hkb : Gs.ok 1 (lim b0).length b ((lim b0).map encP)) (hsa : (lim a0).length ≤ 1048576) (hsb : (lim b0).length ≤ 1048576) : SC Tryz.prog W0 78 #[a.val (lim a0).length, b.val (lim b0).length] (Gs.ent 87 1 a ((lim a0).map encP) ++ Gs.ent 87 1 b ((lim b0).map encP)) (Ret (fun g : Gs => Gs.ent 87 1 g ((lim (a0 + b0)).map encP) ++ (Gs.ent 87 1 a ((lim a0).map encP) ++ (Gs.ent 87 1 b ((lim b0).map encP)))) (fun v g => v = g.val (lim (a0 + b0)).length ∧ Gs.ok 1 (lim (a0 + b0)).length g ((lim (a0 + b0)).map encP))) := by
 refine SC_body (fn := Tryz.f78) (n := 56) Tryz.func78 rfl (by kernel_rfl) (ρ := [(0, Gs.val a ((lim a0).length)), (1, Gs.val b ((lim b0).length))]) rfl ?_
 refine SW_sig ((Gs.ent 87 1 a ((lim a0).map encP)) ++ ((Gs.ent 87 1 b ((lim b0).map encP)) ++ ([]))) (by simp only [List.append_nil, List.append_assoc]) ?_
 refine sr ?_
 refine os 1 ?_
 refine nq ?_
 refine sr ?_
 refine os 5 ?_
 refine kp [13, 4, 0, 1] ?_
 refine nt ?_
 refine cdp (fun hc1 : ((((lim a0).length : Nat)) : Int) < ((((lim b0).length : Nat)) : Int) => ?_) (fun hc1 => ?_)
 ·refine SW_region ?_
  refine os 4 ?_
  refine nsr ?_
  refine os 3 ?_
  refine L (O_make2 (bytes := 4) 0 ((lim b0).length + 1) (.int .u32 0) (fun _ => rfl) (fun _ => rfl) Tryz.underlying82 (by kernel_rfl) rfl (by omega) (by omega) (by omega) rfl ?_)
  intro b2 hlb2 hnb2
  refine SL_weakG ?_
  have hmkb2 : Gs.ok 1 0 (Gs.at b2 ((lim b0).length + 1)) (([] : List Int).map encP) := Gs.ok_cap (by simp) (by omega) (by unfold maxLen; omega)
  refine SL_sig ((Gs.ent 87 1 (Gs.at b2 ((lim b0).length + 1)) (([] : List Int).map encP)) ++ ((Gs.ent 87 1 a ((lim a0).map encP)) ++ ((Gs.ent 87 1 b ((lim b0).map encP)) ++ ([])))) (by rw [show (([] : List Int).map encP) = List.replicate 0 (.int .u32 0) from by simp]) ?_
  refine os 1 ?_
  refine kp [5, 1, 0, 13, 4] ?_
  refine nsr ?_
  refine os 1 ?_
  refine nq ?_
  refine sr ?_
  refine os 3 ?_
  refine nt ?_
  refine SW_block ?_
  refine SW_loop (α := Nat × Gs × List Int × Int) (fun z_ ρ_ σ_ => Fits ρ_ σ_ [(1, Gs.val a ((lim a0).length)), (20, Gs.val b ((lim b0).length)), (21, .int .i64 ((((lim b0).length : Nat)) : Int)), (5, Gs.val z_.2.1 z_.2.2.1.length), (6, .int .u64 z_.2.2.2), (22, .int .i64 (z_.1 : Int))] ((Gs.ent 87 1 z_.2.1 (z_.2.2.1.map encP)) ++ ((Gs.ent 87 1 a ((lim a0).map encP)) ++ ((Gs.ent 87 1 b ((lim b0).map encP)) ++ ([])))) ∧ z_.1 ≤ (lim b0).length ∧ Gs.ok 1 z_.2.2.1.length z_.2.1 (z_.2.2.1.map encP) ∧ (z_.2.2.1.length = z_.1 ∧ LimOk z_.2.2.1 ∧ (0 ≤ z_.2.2.2 ∧ z_.2.2.2 ≤ 1)) ∧ limV z_.2.2.1 + 4294967296 ^ z_.1 * z_.2.2.2.toNat = limV ((lim b0).take z_.1) + limV ((lim a0).take z_.1)) (fun z_ => (lim b0).length - z_.1) (0, (Gs.at b2 ((lim b0).length + 1)), [], (0 : Int)) ⟨⟨fun _ => rfl, ow⟩, Nat.zero_le _, hmkb2, ⟨rfl, (fun x hx => by cases hx), (show 0 ≤ (0 : Int) ∧ (0 : Int) ≤ 1 from by omega)⟩, by simp [limV]⟩ ?_
  rintro ⟨i, ob, ys, c⟩ ρ_ σ_ ⟨hfit, hi0, hi1, hi2, hi3⟩
  refine SW_fits hfit ?_
  clear hfit
  simp only [] at hi0 hi1 hi2 hi3 ⊢
  obtain ⟨hyl, hyo, hc⟩ := hi2
  refine sr ?_
  refine os 1 ?_
  refine nq ?_
  refine cdp (fun hc3 : (i : Int) < ((((lim b0).length : Nat)) : Int) => ?_) (fun hc3 => ?_)
  ·refine SW_skip (n_then ?_)
   refine SW_seq ?_
   refine SW_block ?_
   refine SW_seq ?_
   obtain ⟨e1, he1⟩ : ∃ y_, (lim b0)[i]? = some y_ := ⟨_, List.getElem?_eq_getElem (by omega)⟩
   have heo_ := lim_ok b0 _ (List.mem_of_getElem? he1)
   refine SW_region ?_
   refine os 1 ?_
   refine L (ixg (i : Int) (i) hkb Tryz.underlying82 ?_)
   refine L (ld ?_ (hc := Gs.cell hkb (fun e he => (mem_a (mem_a (mem_h he)))) (map_cell he1 rfl)))
   refine os 2 ?_
   refine kp [8, 7, 23, 1, 20, 21, 5, 6, 22] ?_
   refine nsr ?_
   refine os 5 ?_
   refine kp [6, 8, 7, 23, 1, 20, 21, 5, 22] ?_
   refine nq ?_
   refine sr ?_
   refine os 4 ?_
   refine kp [34, 6, 8, 7, 23, 1, 20, 21, 5, 22] ?_
   refine nt ?_
   refine cdp (fun hc4 : (i : Int) < ((((lim a0).length : Nat)) : Int) => ?_) (fun hc4 => ?_)
   ·obtain ⟨e2, he2⟩ : ∃ y_, (lim a0)[i]? = some y_ := ⟨_, List.getElem?_eq_getElem (by omega)⟩
    have hey_ := lim_ok a0 _ (List.mem_of_getElem? he2)
    refine SW_region ?_
    refine os 3 ?_
    refine L (ixg (i : Int) (i) hk Tryz.underlying82 ?_)
    refine L (ld ?_ (hc := Gs.cell hk (fun e he => (mem_a (mem_h he))) (map_cell he2 rfl)))
    refine os 3 ?_
    refine kp [6, 34, 8, 7, 23, 1, 20, 21, 5, 22] ?_
    refine nsr ?_
    refine os 2 ?_
    refine oV (.int .u32 (IntKind.wrap .u32 ((c + e1) + e2))) ?_
    refine L (nws 87 1 1 [.int .u32 (IntKind.wrap .u32 ((c + e1) + e2))] ?_)
    intro b5
    refine SL_perm _ (perm_cc perm_cz) ?_
    refine L (O_append (size := 1) (bytes := 4) (z := .int .u32 0) ob ys.length 1 (some ⟨b5, 0, none⟩) 1 (ys.map encP) ([.int .u32 (IntKind.wrap .u32 ((c + e1) + e2))]) ((ys ++ [IntKind.wrap .u32 ((c + e1) + e2)]).map encP) (map_snoc _ (IntKind.wrap .u32 ((c + e1) + e2)) rfl) (fun _ => rfl) (fun _ => rfl) Tryz.underlying82 (by kernel_rfl) rfl (by decide) hi1 rfl (.inr ⟨b5, 0, rfl, Cells.own (mem_a mem_z) rfl⟩) rfl (by omega) (by decide) rfl ?_)
    intro s6 hks6 hfs6
    rw [show ys.length + 1 = (ys ++ [IntKind.wrap .u32 ((c + e1) + e2)]).length from by first | (simp; done) | (simp; omega)]
    rw [show ys.length + 1 = (ys ++ [IntKind.wrap .u32 ((c + e1) + e2)]).length from by first | (simp; done) | (simp; omega)] at hks6
    have hls6 : (ys ++ [IntKind.wrap .u32 ((c + e1) + e2)]).length = ys.length + 1 := by first | (simp; done) | (simp; omega)
    refine os 1 ?_
    refine kp [5, 6, 34, 8, 7, 23, 1, 20, 21, 22] ?_
    refine nr ?_
    refine os 1 ?_
    refine oX (.int .u64 (Int.fdiv ((c + e1) + e2) 4294967296)) (.int .u64 (((c + e1) + e2) / 4294967296)) (congrArg (Value.int .u64) (Int.fdiv_eq_ediv_of_nonneg _ (by omega))) ?_
    refine os 1 ?_
    refine SL_nil (n_in (n_then ?_))
    refine SW_region ?_
    refine os 2 ?_
    refine kp [22, 6, 5, 34, 8, 7, 23, 1, 20, 21] ?_
    refine nt ?_
    obtain ⟨q1_, q2_, q3_, q4_⟩ := plus_y hyl hyo he1 heo_ he2 hey_ hc hi3
    refine ⟨(i + 1, s6, (ys ++ [IntKind.wrap .u32 ((c + e1) + e2)]), ((c + e1) + e2) / 4294967296), by simp only []; omega, ?_⟩
    simp only []
    exact ⟨⟨fun _ => rfl, ow⟩, by omega, hks6, ⟨q1_, q2_, q3_⟩, q4_⟩
   refine SW_skip (n_then ?_)
   refine sr ?_
   refine os 2 ?_
   refine oV (.int .u32 (IntKind.wrap .u32 (c + e1))) ?_
   refine L (nws 87 1 1 [.int .u32 (IntKind.wrap .u32 (c + e1))] ?_)
   intro b7
   refine SL_perm _ (perm_cc perm_cz) ?_
   refine L (O_append (size := 1) (bytes := 4) (z := .int .u32 0) ob ys.length 1 (some ⟨b7, 0, none⟩) 1 (ys.map encP) ([.int .u32 (IntKind.wrap .u32 (c + e1))]) ((ys ++ [IntKind.wrap .u32 (c + e1)]).map encP) (map_snoc _ (IntKind.wrap .u32 (c + e1)) rfl) (fun _ => rfl) (fun _ => rfl) Tryz.underlying82 (by kernel_rfl) rfl (by decide) hi1 rfl (.inr ⟨b7, 0, rfl, Cells.own (mem_a mem_z) rfl⟩) rfl (by omega) (by decide) rfl ?_)
   intro s8 hks8 hfs8
   rw [show ys.length + 1 = (ys ++ [IntKind.wrap .u32 (c + e1)]).length from by first | (simp; done) | (simp; omega)]
   rw [show ys.length + 1 = (ys ++ [IntKind.wrap .u32 (c + e1)]).length from by first | (simp; done) | (simp; omega)] at hks8
   have hls8 : (ys ++ [IntKind.wrap .u32 (c + e1)]).length = ys.length + 1 := by first | (simp; done) | (simp; omega)
   refine os 1 ?_
   refine kp [5, 34, 6, 8, 7, 23, 1, 20, 21, 22] ?_
   refine nr ?_
   refine os 1 ?_
   refine oX (.int .u64 (Int.fdiv (c + e1) 4294967296)) (.int .u64 ((c + e1) / 4294967296)) (congrArg (Value.int .u64) (Int.fdiv_eq_ediv_of_nonneg _ (by omega))) ?_
   refine os 1 ?_
   refine SL_nil (n_in (n_then ?_))
   refine SW_region ?_
   refine os 2 ?_
   refine kp [22, 6, 5, 34, 8, 7, 23, 1, 20, 21] ?_
   refine nt ?_
   obtain ⟨q1_, q2_, q3_, q4_⟩ := plus_n (m := (lim a0)) hyl hyo he1 heo_ (by omega) hc hi3
   refine ⟨(i + 1, s8, (ys ++ [IntKind.wrap .u32 (c + e1)]), (c + e1) / 4294967296), by simp only []; omega, ?_⟩
   simp only []
   exact ⟨⟨fun _ => rfl, ow⟩, by omega, hks8, ⟨q1_, q2_, q3_⟩, q4_⟩
  refine SW_exit (x_then (x_then (x_in (n_then ?_))))
  refine sr ?_
  refine os 3 ?_
  refine L (nws 87 1 1 [.int .u32 c] ?_)
  intro b9
  refine SL_perm _ (perm_cc perm_cz) ?_
  refine L (O_append (size := 1) (bytes := 4) (z := .int .u32 0) ob ys.length 1 (some ⟨b9, 0, none⟩) 1 (ys.map encP) ([.int .u32 c]) ((ys ++ [c]).map encP) (map_snoc _ c rfl) (fun _ => rfl) (fun _ => rfl) Tryz.underlying82 (by kernel_rfl) rfl (by decide) hi1 rfl (.inr ⟨b9, 0, rfl, Cells.own (mem_a mem_z) rfl⟩) rfl (by omega) (by decide) rfl ?_)
  intro s10 hks10 hfs10
  rw [show ys.length + 1 = (ys ++ [c]).length from by first | (simp; done) | (simp; omega)]
  rw [show ys.length + 1 = (ys ++ [c]).length from by first | (simp; done) | (simp; omega)] at hks10
  have hls10 : (ys ++ [c]).length = ys.length + 1 := by first | (simp; done) | (simp; omega)
  have hie_ : i = (lim b0).length := by omega
  rw [hie_] at hyl hi3
  obtain ⟨hto_, htv_⟩ := plus_end (l := (lim b0)) (m := (lim a0)) hyl (by omega) hyo hc hi3
  rw [lim_val, lim_val, Nat.add_comm] at htv_
  have hq_ := num_trim (W0 := W0) (l := (ys ++ [c])) hto_ hks10
  rw [htv_] at hq_
  refine L (cl (hq_) ?_)
  rintro _ _ ⟨rfl, hkt_⟩
  refine os 1 ?_
  refine kp [4, 23, 1, 20, 21, 5, 6, 22] ?_
  refine nt ?_
  refine SW_ret ?_
  refine body_end (Gs.val s10 ((lim (a0 + b0)).length)) (fun _ => rfl) ?_
  exact ⟨s10, ow, rfl, hkt_⟩
 refine SW_skip (n_then ?_)
 refine sr ?_
 refine os 3 ?_
 refine L (O_make2 (bytes := 4) 0 ((lim a0).length + 1) (.int .u32 0) (fun _ => rfl) (fun _ => rfl) Tryz.underlying82 (by kernel_rfl) rfl (by omega) (by omega) (by omega) rfl ?_)
 intro b11 hlb11 hnb11
 refine SL_weakG ?_
 have hmkb11 : Gs.ok 1 0 (Gs.at b11 ((lim a0).length + 1)) (([] : List Int).map encP) := Gs.ok_cap (by simp) (by omega) (by unfold maxLen; omega)
 refine SL_sig ((Gs.ent 87 1 (Gs.at b11 ((lim a0).length + 1)) (([] : List Int).map encP)) ++ ((Gs.ent 87 1 a ((lim a0).map encP)) ++ ((Gs.ent 87 1 b ((lim b0).map encP)) ++ ([])))) (by rw [show (([] : List Int).map encP) = List.replicate 0 (.int .u32 0) from by simp]) ?_
 refine os 1 ?_
 refine kp [5, 13, 4, 0, 1] ?_
 refine nsr ?_
 refine os 1 ?_
 refine nq ?_
 refine sr ?_
 refine os 3 ?_
 refine nt ?_
 refine SW_block ?_
 refine SW_loop (α := Nat × Gs × List Int × Int) (fun z_ ρ_ σ_ => Fits ρ_ σ_ [(1, Gs.val b ((lim b0).length)), (20, Gs.val a ((lim a0).length)), (21, .int .i64 ((((lim a0).length : Nat)) : Int)), (5, Gs.val z_.2.1 z_.2.2.1.length), (6, .int .u64 z_.2.2.2), (22, .int .i64 (z_.1 : Int))] ((Gs.ent 87 1 z_.2.1 (z_.2.2.1.map encP)) ++ ((Gs.ent 87 1 a ((lim a0).map encP)) ++ ((Gs.ent 87 1 b ((lim b0).map encP)) ++ ([])))) ∧ z_.1 ≤ (lim a0).length ∧ Gs.ok 1 z_.2.2.1.length z_.2.1 (z_.2.2.1.map encP) ∧ (z_.2.2.1.length = z_.1 ∧ LimOk z_.2.2.1 ∧ (0 ≤ z_.2.2.2 ∧ z_.2.2.2 ≤ 1)) ∧ limV z_.2.2.1 + 4294967296 ^ z_.1 * z_.2.2.2.toNat = limV ((lim a0).take z_.1) + limV ((lim b0).take z_.1)) (fun z_ => (lim a0).length - z_.1) (0, (Gs.at b11 ((lim a0).length + 1)), [], (0 : Int)) ⟨⟨fun _ => rfl, ow⟩, Nat.zero_le _, hmkb11, ⟨rfl, (fun x hx => by cases hx), (show 0 ≤ (0 : Int) ∧ (0 : Int) ≤ 1 from by omega)⟩, by simp [limV]⟩ ?_
 rintro ⟨i, ob, ys, c⟩ ρ_ σ_ ⟨hfit, hi0, hi1, hi2, hi3⟩
 refine SW_fits hfit ?_
 clear hfit
 simp only [] at hi0 hi1 hi2 hi3 ⊢
 obtain ⟨hyl, hyo, hc⟩ := hi2
 refine sr ?_
 refine os 1 ?_
 refine nq ?_
 refine cdp (fun hc12 : (i : Int) < ((((lim a0).length : Nat)) : Int) => ?_) (fun hc12 => ?_)
 ·refine SW_skip (n_then ?_)
  refine SW_seq ?_
  refine SW_block ?_
  refine SW_seq ?_
  obtain ⟨e3, he3⟩ : ∃ y_, (lim a0)[i]? = some y_ := ⟨_, List.getElem?_eq_getElem (by omega)⟩
  have heo_ := lim_ok a0 _ (List.mem_of_getElem? he3)
  refine SW_region ?_
  refine os 1 ?_
  refine L (ixg (i : Int) (i) hk Tryz.underlying82 ?_)
  refine L (ld ?_ (hc := Gs.cell hk (fun e he => (mem_a (mem_h he))) (map_cell he3 rfl)))
  refine os 2 ?_
  refine kp [8, 7, 23, 1, 20, 21, 5, 6, 22] ?_
  refine nsr ?_
  refine os 5 ?_
  refine kp [6, 8, 7, 23, 1, 20, 21, 5, 22] ?_
  refine nq ?_
  refine sr ?_
  refine os 4 ?_
  refine kp [34, 6, 8, 7, 23, 1, 20, 21, 5, 22] ?_
  refine nt ?_
  refine cdp (fun hc13 : (i : Int) < ((((lim b0).length : Nat)) : Int) => ?_) (fun hc13 => ?_)
  ·obtain ⟨e4, he4⟩ : ∃ y_, (lim b0)[i]? = some y_ := ⟨_, List.getElem?_eq_getElem (by omega)⟩
   have hey_ := lim_ok b0 _ (List.mem_of_getElem? he4)
   refine SW_region ?_
   refine os 3 ?_
   refine L (ixg (i : Int) (i) hkb Tryz.underlying82 ?_)
   refine L (ld ?_ (hc := Gs.cell hkb (fun e he => (mem_a (mem_a (mem_h he)))) (map_cell he4 rfl)))
   refine os 3 ?_
   refine kp [6, 34, 8, 7, 23, 1, 20, 21, 5, 22] ?_
   refine nsr ?_
   refine os 2 ?_
   refine oV (.int .u32 (IntKind.wrap .u32 ((c + e3) + e4))) ?_
   refine L (nws 87 1 1 [.int .u32 (IntKind.wrap .u32 ((c + e3) + e4))] ?_)
   intro b14
   refine SL_perm _ (perm_cc perm_cz) ?_
   refine L (O_append (size := 1) (bytes := 4) (z := .int .u32 0) ob ys.length 1 (some ⟨b14, 0, none⟩) 1 (ys.map encP) ([.int .u32 (IntKind.wrap .u32 ((c + e3) + e4))]) ((ys ++ [IntKind.wrap .u32 ((c + e3) + e4)]).map encP) (map_snoc _ (IntKind.wrap .u32 ((c + e3) + e4)) rfl) (fun _ => rfl) (fun _ => rfl) Tryz.underlying82 (by kernel_rfl) rfl (by decide) hi1 rfl (.inr ⟨b14, 0, rfl, Cells.own (mem_a mem_z) rfl⟩) rfl (by omega) (by decide) rfl ?_)
   intro s15 hks15 hfs15
   rw [show ys.length + 1 = (ys ++ [IntKind.wrap .u32 ((c + e3) + e4)]).length from by first | (simp; done) | (simp; omega)]
   rw [show ys.length + 1 = (ys ++ [IntKind.wrap .u32 ((c + e3) + e4)]).length from by first | (simp; done) | (simp; omega)] at hks15
   have hls15 : (ys ++ [IntKind.wrap .u32 ((c + e3) + e4)]).length = ys.length + 1 := by first | (simp; done) | (simp; omega)
   refine os 1 ?_
   refine kp [5, 6, 34, 8, 7, 23, 1, 20, 21, 22] ?_
   refine nr ?_
   refine os 1 ?_
   refine oX (.int .u64 (Int.fdiv ((c + e3) + e4) 4294967296)) (.int .u64 (((c + e3) + e4) / 4294967296)) (congrArg (Value.int .u64) (Int.fdiv_eq_ediv_of_nonneg _ (by omega))) ?_
   refine os 1 ?_
   refine SL_nil (n_in (n_then ?_))
   refine SW_region ?_
   refine os 2 ?_
   refine kp [22, 6, 5, 34, 8, 7, 23, 1, 20, 21] ?_
   refine nt ?_
   obtain ⟨q1_, q2_, q3_, q4_⟩ := plus_y hyl hyo he3 heo_ he4 hey_ hc hi3
   refine ⟨(i + 1, s15, (ys ++ [IntKind.wrap .u32 ((c + e3) + e4)]), ((c + e3) + e4) / 4294967296), by simp only []; omega, ?_⟩
   simp only []
   exact ⟨⟨fun _ => rfl, ow⟩, by omega, hks15, ⟨q1_, q2_, q3_⟩, q4_⟩
  refine SW_skip (n_then ?_)
  refine sr ?_
  refine os 2 ?_
  refine oV (.int .u32 (IntKind.wrap .u32 (c + e3))) ?_
  refine L (nws 87 1 1 [.int .u32 (IntKind.wrap .u32 (c + e3))] ?_)
  intro b16
  refine SL_perm _ (perm_cc perm_cz) ?_
  refine L (O_append (size := 1) (bytes := 4) (z := .int .u32 0) ob ys.length 1 (some ⟨b16, 0, none⟩) 1 (ys.map encP) ([.int .u32 (IntKind.wrap .u32 (c + e3))]) ((ys ++ [IntKind.wrap .u32 (c + e3)]).map encP) (map_snoc _ (IntKind.wrap .u32 (c + e3)) rfl) (fun _ => rfl) (fun _ => rfl) Tryz.underlying82 (by kernel_rfl) rfl (by decide) hi1 rfl (.inr ⟨b16, 0, rfl, Cells.own (mem_a mem_z) rfl⟩) rfl (by omega) (by decide) rfl ?_)
  intro s17 hks17 hfs17
  rw [show ys.length + 1 = (ys ++ [IntKind.wrap .u32 (c + e3)]).length from by first | (simp; done) | (simp; omega)]
  rw [show ys.length + 1 = (ys ++ [IntKind.wrap .u32 (c + e3)]).length from by first | (simp; done) | (simp; omega)] at hks17
  have hls17 : (ys ++ [IntKind.wrap .u32 (c + e3)]).length = ys.length + 1 := by first | (simp; done) | (simp; omega)
  refine os 1 ?_
  refine kp [5, 34, 6, 8, 7, 23, 1, 20, 21, 22] ?_
  refine nr ?_
  refine os 1 ?_
  refine oX (.int .u64 (Int.fdiv (c + e3) 4294967296)) (.int .u64 ((c + e3) / 4294967296)) (congrArg (Value.int .u64) (Int.fdiv_eq_ediv_of_nonneg _ (by omega))) ?_
  refine os 1 ?_
  refine SL_nil (n_in (n_then ?_))
  refine SW_region ?_
  refine os 2 ?_
  refine kp [22, 6, 5, 34, 8, 7, 23, 1, 20, 21] ?_
  refine nt ?_
  obtain ⟨q1_, q2_, q3_, q4_⟩ := plus_n (m := (lim b0)) hyl hyo he3 heo_ (by omega) hc hi3
  refine ⟨(i + 1, s17, (ys ++ [IntKind.wrap .u32 (c + e3)]), (c + e3) / 4294967296), by simp only []; omega, ?_⟩
  simp only []
  exact ⟨⟨fun _ => rfl, ow⟩, by omega, hks17, ⟨q1_, q2_, q3_⟩, q4_⟩
 refine SW_exit (x_then (x_then (x_in (n_then ?_))))
 refine sr ?_
 refine os 3 ?_
 refine L (nws 87 1 1 [.int .u32 c] ?_)
 intro b18
 refine SL_perm _ (perm_cc perm_cz) ?_
 refine L (O_append (size := 1) (bytes := 4) (z := .int .u32 0) ob ys.length 1 (some ⟨b18, 0, none⟩) 1 (ys.map encP) ([.int .u32 c]) ((ys ++ [c]).map encP) (map_snoc _ c rfl) (fun _ => rfl) (fun _ => rfl) Tryz.underlying82 (by kernel_rfl) rfl (by decide) hi1 rfl (.inr ⟨b18, 0, rfl, Cells.own (mem_a mem_z) rfl⟩) rfl (by omega) (by decide) rfl ?_)
 intro s19 hks19 hfs19
 rw [show ys.length + 1 = (ys ++ [c]).length from by first | (simp; done) | (simp; omega)]
 rw [show ys.length + 1 = (ys ++ [c]).length from by first | (simp; done) | (simp; omega)] at hks19
 have hls19 : (ys ++ [c]).length = ys.length + 1 := by first | (simp; done) | (simp; omega)
 have hie_ : i = (lim a0).length := by omega
 rw [hie_] at hyl hi3
 obtain ⟨hto_, htv_⟩ := plus_end (l := (lim a0)) (m := (lim b0)) hyl (by omega) hyo hc hi3
 rw [lim_val, lim_val] at htv_
 have hq_ := num_trim (W0 := W0) (l := (ys ++ [c])) hto_ hks19
 rw [htv_] at hq_
 refine L (cl (hq_) ?_)
 rintro _ _ ⟨rfl, hkt_⟩
 refine os 1 ?_
 refine kp [4, 23, 1, 20, 21, 5, 6, 22] ?_
 refine nt ?_
 refine SW_ret ?_
 refine body_end (Gs.val s19 ((lim (a0 + b0)).length)) (fun _ => rfl) ?_
 exact ⟨s19, ow, rfl, hkt_⟩

end Go.Proofs.YtnhmmjogfkjceaaGreatDoor
namespace Go.Proofs.YtnhmmjogfkjceaaGreatDoor
open Go.Sl

theorem num_tens {W0 : World} {a : Gs} {a0 n : Nat} (hk : Gs.ok 1 (lim a0).length a ((lim a0).map encP)) (hb : (lim (a0 * 10 ^ n)).length ≤ 1048576) (hn : n ≤ 1048576) : SC Tryz.prog W0 92 #[a.val (lim a0).length, .int .i64 (n : Int)] (Gs.ent 87 1 a ((lim a0).map encP)) (Ret (fun g : Gs => Gs.ent 87 1 g ((lim (a0 * 10 ^ n)).map encP)) (fun v g => v = g.val (lim (a0 * 10 ^ n)).length ∧ Gs.ok 1 (lim (a0 * 10 ^ n)).length g ((lim (a0 * 10 ^ n)).map encP))) := by
 refine SC_body (fn := Tryz.f92) (n := 12) Tryz.func92 rfl (by kernel_rfl) (ρ := [(0, Gs.val a ((lim a0).length)), (1, .int .i64 (n : Int))]) rfl ?_
 refine SW_sig ((Gs.ent 87 1 a ((lim a0).map encP)) ++ ([])) (by simp only [List.append_nil, List.append_assoc]) ?_
 refine sr ?_
 refine os 1 ?_
 refine nq ?_
 refine sr ?_
 refine os 2 ?_
 refine nt ?_
 refine SW_block ?_
 rw [show lim a0 = (lim (a0 * 10 ^ 0)) from by simp]
 rw [show lim a0 = (lim (a0 * 10 ^ 0)) from by simp] at hk
 refine SW_loop (α := Nat × Gs) (fun z_ ρ_ σ_ => Fits ρ_ σ_ [(0, Gs.val z_.2 ((lim (a0 * 10 ^ z_.1)).length)), (5, .int .i64 (n : Int)), (6, .int .i64 (z_.1 : Int))] ((Gs.ent 87 1 z_.2 ((lim (a0 * 10 ^ z_.1)).map encP)) ++ ([])) ∧ z_.1 ≤ n ∧ Gs.ok 1 (lim (a0 * 10 ^ z_.1)).length z_.2 ((lim (a0 * 10 ^ z_.1)).map encP)) (fun z_ => n - z_.1) (0, a) ⟨⟨fun _ => rfl, ow⟩, Nat.zero_le _, hk⟩ ?_
 rintro ⟨i, g⟩ ρ_ σ_ ⟨hfit, hi0, hi1⟩
 refine SW_fits hfit ?_
 clear hfit
 simp only [] at hi0 hi1 ⊢
 refine sr ?_
 refine os 1 ?_
 refine nq ?_
 refine cdp (fun hc1 : (i : Int) < (n : Int) => ?_) (fun hc1 => ?_)
 ·refine SW_skip (n_then ?_)
  refine SW_seq ?_
  refine SW_block ?_
  refine SW_region ?_
  refine os 1 ?_
  have hq_ := num_times (W0 := W0) (n := 10) (more := 0) (hi1 : Gs.ok 1 (lim (a0 * 10 ^ i)).length g ((lim (a0 * 10 ^ i)).map encP)) (Nat.le_trans (lim_len_mono (pow_mono10 (by omega))) hb) (by decide) (by decide)
  rw [show a0 * 10 ^ i * 10 + 0 = a0 * 10 ^ (i + 1) from by rw [Nat.pow_succ, Nat.mul_assoc, Nat.add_zero]] at hq_
  refine L (cl (hq_) ?_)
  rintro _ q ⟨rfl, hkq⟩
  refine un ?_
  refine os 1 ?_
  refine SL_nil (n_in (n_then ?_))
  refine SW_region ?_
  refine os 2 ?_
  refine kp [6, 0, 7, 5] ?_
  refine nt ?_
  exact ⟨(i + 1, q), by simp only []; omega, ⟨fun _ => rfl, ow⟩, by simp only []; omega, hkq⟩
 refine SW_exit (x_then (x_then (x_in (n_then ?_))))
 refine sr ?_
 refine os 2 ?_
 refine nt ?_
 refine SW_ret ?_
 refine body_end (Gs.val g ((lim (a0 * 10 ^ i)).length)) (fun _ => rfl) ?_
 have hin_ : i = n := by omega
 rw [hin_] at hi1 ⊢
 exact ⟨g, ow, rfl, hi1⟩

theorem num_of {W0 : World} {X : Bytes} (hd : ∀ c ∈ X, 48 ≤ c.toNat ∧ c.toNat ≤ 57) (hb : (lim (ofD X)).length ≤ 1048576) (hn : X.length ≤ 1048576) : SC Tryz.prog W0 91 #[.string (bS X)] [] (Ret (fun g : Gs => Gs.ent 87 1 g ((lim (ofD X)).map encP)) (fun v g => v = g.val (lim (ofD X)).length ∧ Gs.ok 1 (lim (ofD X)).length g ((lim (ofD X)).map encP))) := by
 refine SC_body (fn := Tryz.f91) (n := 20) Tryz.func91 rfl (by kernel_rfl) (ρ := [(0, .string (bS X))]) rfl ?_
 refine sr ?_
 refine os 1 ?_
 refine nsr ?_
 refine os 1 ?_
 refine nq ?_
 refine sr ?_
 refine os 1 ?_
 refine L (O_txt (bS X) Tryz.underlying9 Tryz.underlying95 Tryz.underlying5 (fun _ => rfl) rfl ?_)
 intro b1 capb1 hcapb1
 rw [bS_size] at hcapb1 ⊢
 refine os 2 ?_
 refine nt ?_
 refine SW_block ?_
 refine SW_sig (Gs.ent 87 1 Gs.nil (([] : List Int).map encP) ++ ((b1, .txt (txtV X)) :: ([]))) rfl ?_
 refine SW_loop (α := Nat × Gs × List Int) (fun z_ ρ_ σ_ => Fits ρ_ σ_ [(3, Gs.val z_.2.1 z_.2.2.length), (7, .slice (some ⟨b1, 0, none⟩) X.length capb1), (8, .int .i64 (X.length : Int)), (9, .int .i64 (z_.1 : Int))] ((Gs.ent 87 1 z_.2.1 (z_.2.2.map encP)) ++ ((b1, .txt (txtV X)) :: ([]))) ∧ z_.1 ≤ X.length ∧ Gs.ok 1 z_.2.2.length z_.2.1 (z_.2.2.map encP) ∧ z_.2.2 = lim (ofD (X.take z_.1))) (fun z_ => X.length - z_.1) (0, Gs.nil, []) ⟨⟨fun _ => rfl, ow⟩, Nat.zero_le _, ⟨rfl, rfl⟩, by simp [ofD, lim_zero]⟩ ?_
 rintro ⟨i, g, l⟩ ρ_ σ_ ⟨hfit, hi0, hi1, hi2⟩
 refine SW_fits hfit ?_
 clear hfit
 simp only [] at hi0 hi1 hi2 ⊢
 subst hi2
 refine sr ?_
 refine os 1 ?_
 refine nq ?_
 refine cdp (fun hc2 : (i : Int) < (X.length : Int) => ?_) (fun hc2 => ?_)
 ·refine SW_skip (n_then ?_)
  refine SW_seq ?_
  refine SW_block ?_
  refine sr ?_
  refine L (O_indexAddr' (i : Int) (i) b1 0 X.length capb1 .i64 1 Tryz.underlying95 (by kernel_rfl) (fun _ => rfl) (fun _ => rfl) (by omega) (by omega) (by omega) rfl ?_)
  obtain ⟨e1, he1⟩ : ∃ y_, X[i]? = some y_ := ⟨_, List.getElem?_eq_getElem (by omega)⟩
  refine L (ld ?_ (hc := Cell.txt (mem_a mem_z) (txt_at he1)))
  refine os 1 ?_
  refine nt ?_
  have hdi_ := hd _ (List.mem_of_getElem? he1)
  refine SW_region ?_
  refine os 4 ?_
  have hq_ := num_times (W0 := W0) (n := 10) (more := e1.toNat - 48) (hi1 : Gs.ok 1 (lim (ofD (X.take i))).length g ((lim (ofD (X.take i))).map encP)) (Nat.le_trans (lim_len_mono (ofD_take_le _ _)) hb) (by decide) (by omega)
  rw [← ofD_step he1, show ((e1.toNat - 48 : Nat) : Int) = (e1.toNat : Int) - 48 from by omega] at hq_
  refine L (cl (hq_) ?_)
  rintro _ q ⟨rfl, hkq⟩
  refine un ?_
  refine os 1 ?_
  refine kp [3, 5, 10, 7, 8, 9] ?_
  refine SL_nil (n_in (n_then ?_))
  refine SW_region ?_
  refine os 2 ?_
  refine nt ?_
  exact ⟨(i + 1, q, _), by simp only []; omega, ⟨fun _ => rfl, ow⟩, by simp only []; omega, hkq, rfl⟩
 refine SW_exit (x_then (x_then (x_in (n_then ?_))))
 refine sr ?_
 refine os 2 ?_
 refine nt ?_
 refine SW_ret ?_
 refine body_end (Gs.val g ((lim (ofD (X.take i))).length)) (fun _ => rfl) ?_
 have hin_ : i = X.length := by omega
 rw [hin_, List.take_length] at hi1 ⊢
 exact ⟨g, ow, rfl, hi1⟩

end Go.Proofs.YtnhmmjogfkjceaaGreatDoor
namespace Go.Proofs.YtnhmmjogfkjceaaGreatDoor
open Go.Sl

theorem r2_trim {W0 : World} {a : Gs} {l : List Int} (hl : LimOk l) (hk : Gs.ok 1 l.length a (l.map encP)) : SC Tryz.prog W0 172 #[a.val l.length] (Gs.ent 87 1 a (l.map encP)) (Ret (fun _ : Unit => Gs.ent 87 1 a ((lim (limV l)).map encP)) (fun v _ => v = a.val (lim (limV l)).length ∧ Gs.ok 1 (lim (limV l)).length a ((lim (limV l)).map encP))) := by
 refine SC_body (fn := Tryz.f172) (n := 21) Tryz.func172 rfl (by kernel_rfl) (ρ := [(0, Gs.val a l.length)]) rfl ?_
 refine SW_sig ((Gs.ent 87 1 a (l.map encP)) ++ ([])) (by simp only [List.append_nil, List.append_assoc]) ?_
 have hll_ : l.length ≤ maxLen := Nat.le_trans (Gs.ok.cap_le hk) (Gs.ok.cap_max hk)
 unfold maxLen at hll_
 have hcp_ : l.length ≤ a.cap := Gs.ok.cap_le hk
 refine sr ?_
 refine os 1 ?_
 refine nsr ?_
 refine os 3 ?_
 refine nq ?_
 refine SW_block ?_
 refine SW_loop (α := Nat) (fun z_ ρ_ σ_ => Fits ρ_ σ_ [(0, Gs.val a l.length), (3, .int .i64 (z_ : Int))] ((Gs.ent 87 1 a (l.map encP)) ++ ([])) ∧ z_ ≤ l.length ∧ limV (l.take z_) = limV l) (fun z_ => z_) l.length ⟨⟨fun _ => rfl, ow⟩, Nat.le_refl _, by rw [List.take_length]⟩ ?_
 rintro j ρ_ σ_ ⟨hfit, hi0, hi1⟩
 refine SW_fits hfit ?_
 clear hfit
 refine SW_seq ?_
 refine sr ?_
 refine os 3 ?_
 refine tbp 8 (fun hg1 => ?_) (fun hg1 => ?_)
 ·replace hg1 : (j : Int) > 0 := hg1
  refine os 3 ?_
  refine L (ixg ((j : Int) - 1) (j - 1) hk Tryz.underlying149 ?_)
  obtain ⟨e1, he1⟩ : ∃ y_, l[j - 1]? = some y_ := ⟨_, List.getElem?_eq_getElem (by omega)⟩
  refine L (ld ?_ (hc := Gs.cell hk (fun e he => (mem_h he)) (map_cell he1 rfl)))
  refine os 2 ?_
  refine kp [15, 0, 3] ?_
  refine nt ?_
  refine cd (fun hc2 : (e1 == 0) = true => ?_) (fun hc2 => ?_)
  ·have hz0_ : l[j - 1]? = some 0 := by rw [show (0 : Int) = e1 from (by simpa using hc2 : e1 = 0).symm]; exact he1
   refine SW_skip (n_then ?_)
   refine SW_block ?_
   refine SW_region ?_
   refine os 3 ?_
   refine SL_nil (n_in (n_then ?_))
   rw [show (j : Int) - 1 = ((j - 1 : Nat) : Int) from by omega]
   exact ⟨j - 1, by omega, ⟨fun _ => rfl, ow⟩, by omega, by rw [← limV_take (n := j - 1) (by omega) hz0_, show j - 1 + 1 = j by omega]; exact hi1⟩
  refine SW_exit (x_then (x_then (x_in (n_then ?_))))
  refine sr ?_
  refine os 2 ?_
  refine L (O_val (.slice (Gs.addr a) ((j : Int)).toNat (Gs.cap a)) rfl (fun δ w _ => run_slice_to (j : Int) (Gs.addr a) l.length (Gs.cap a) .i64 Tryz.underlying149 (by kernel_rfl) rfl rfl (by omega) (by omega)) ?_)
  rw [show ((j : Int)).toNat = j from by omega]
  refine os 1 ?_
  refine kp [2, 15, 0, 3] ?_
  refine nt ?_
  have htk_ : l.take j = lim (limV l) := lim_take hl hi0 hi1 (by first | (left; omega) | (right; exact ⟨_, he1, by simpa using hc2⟩))
  have hjl_ : (lim (limV l)).length = j := by rw [← htk_, List.length_take]; omega
  have hkn_ : Gs.ok 1 (lim (limV l)).length a ((lim (limV l)).map encP) := Gs.ok_less hk (by simp) (by omega)
  refine SW_sig (Gs.ent 87 1 a ((l.take j).map encP ++ (l.drop j).map encP) ++ ([])) (by rw [← List.map_append, List.take_append_drop]) ?_
  refine SW_weakG ?_
  rw [htk_]
  refine SW_ret ?_
  refine body_end (Gs.val a j) (fun _ => rfl) ?_
  exact ⟨(), ow, by rw [hjl_], hkn_⟩
 replace hg1 : ¬ ((j : Int) > 0) := hg1
 refine os 7 ?_
 refine kp [15, 0, 3] ?_
 refine nt ?_
 refine cf ?_
 refine SW_exit (x_then (x_then (x_in (n_then ?_))))
 refine sr ?_
 refine os 2 ?_
 refine L (O_val (.slice (Gs.addr a) ((j : Int)).toNat (Gs.cap a)) rfl (fun δ w _ => run_slice_to (j : Int) (Gs.addr a) l.length (Gs.cap a) .i64 Tryz.underlying149 (by kernel_rfl) rfl rfl (by omega) (by omega)) ?_)
 rw [show ((j : Int)).toNat = j from by omega]
 refine os 1 ?_
 refine kp [2, 15, 0, 3] ?_
 refine nt ?_
 have htk_ : l.take j = lim (limV l) := lim_take hl hi0 hi1 (.inl (by omega))
 have hjl_ : (lim (limV l)).length = j := by rw [← htk_, List.length_take]; omega
 have hkn_ : Gs.ok 1 (lim (limV l)).length a ((lim (limV l)).map encP) := Gs.ok_less hk (by simp) (by omega)
 refine SW_sig (Gs.ent 87 1 a ((l.take j).map encP ++ (l.drop j).map encP) ++ ([])) (by rw [← List.map_append, List.take_append_drop]) ?_
 refine SW_weakG ?_
 rw [htk_]
 refine SW_ret ?_
 refine body_end (Gs.val a j) (fun _ => rfl) ?_
 exact ⟨(), ow, by rw [hjl_], hkn_⟩

theorem r2_nat {W0 : World} {n : Nat} (hn : n < 18446744073709551616) : SC Tryz.prog W0 145 #[.int .u64 (n : Int)] [] (Ret (fun g : Gs => Gs.ent 87 1 g ((lim n).map encP)) (fun v g => v = g.val (lim n).length ∧ Gs.ok 1 (lim n).length g ((lim n).map encP))) := by
 refine SC_body (fn := Tryz.f145) (n := 11) Tryz.func145 rfl (by kernel_rfl) (ρ := [(0, .int .u64 (n : Int))]) rfl ?_
 refine sr ?_
 refine os 1 ?_
 refine nsr ?_
 refine os 1 ?_
 refine oX (.int .u64 (Int.tmod (n : Int) 4294967296)) (.int .u64 ((n : Int) % 4294967296)) (congrArg (Value.int .u64) (rem_nn (by first | omega | exact Int.natCast_nonneg _))) ?_
 refine os 2 ?_
 refine oX (.int .u64 (IntKind.wrap .u64 (Int.tdiv (n : Int) 4294967296))) (.int .u64 ((n : Int) / 4294967296)) (congrArg (Value.int .u64) (quo_u64 (by omega) (by omega) (by decide))) ?_
 refine os 1 ?_
 refine L (nws 87 2 2 [.int .u32 ((n : Int) % 4294967296), .int .u32 ((n : Int) / 4294967296)] ?_)
 intro b1
 refine SL_sig ((Gs.ent 87 1 (Gs.at b1 2) (([(n : Int) % 4294967296, (n : Int) / 4294967296]).map encP)) ++ ([])) rfl ?_
 have hv_ : limV ([(n : Int) % 4294967296, (n : Int) / 4294967296]) = n := by simp only [limV]; omega
 have hq_ := r2_trim (W0 := W0) (l := [(n : Int) % 4294967296, (n : Int) / 4294967296]) (by intro x hx; simp only [List.mem_cons, List.not_mem_nil, or_false] at hx; omega) (show Gs.ok 1 ([(n : Int) % 4294967296, (n : Int) / 4294967296]).length (Gs.at b1 2) (([(n : Int) % 4294967296, (n : Int) / 4294967296]).map encP) from ⟨Nat.le_refl _, by unfold maxLen; omega, rfl⟩)
 rw [hv_] at hq_
 refine L (cl (hq_) ?_)
 rintro _ _ ⟨rfl, hkt_⟩
 refine os 1 ?_
 refine kp [2, 0] ?_
 refine nt ?_
 refine SW_ret ?_
 refine body_end (Gs.val (Gs.at b1 2) ((lim n).length)) (fun _ => rfl) ?_
 exact ⟨(Gs.at b1 2), ow, rfl, hkt_⟩

theorem r2_times {W0 : World} {a : Gs} {a0 n more : Nat} (hk : Gs.ok 1 (lim a0).length a ((lim a0).map encP)) (hs : (lim a0).length ≤ 1048576) (hn : n < 4294967296) (hm : more < 4294967296) : SC Tryz.prog W0 143 #[a.val (lim a0).length, .int .u32 (n : Int), .int .u32 (more : Int)] (Gs.ent 87 1 a ((lim a0).map encP)) (Ret (fun g : Gs => Gs.ent 87 1 g ((lim (a0 * n + more)).map encP) ++ (Gs.ent 87 1 a ((lim a0).map encP))) (fun v g => v = g.val (lim (a0 * n + more)).length ∧ Gs.ok 1 (lim (a0 * n + more)).length g ((lim (a0 * n + more)).map encP))) := by
 refine SC_body (fn := Tryz.f143) (n := 48) Tryz.func143 rfl (by kernel_rfl) (ρ := [(0, Gs.val a ((lim a0).length)), (1, .int .u32 (n : Int)), (2, .int .u32 (more : Int))]) rfl ?_
 refine SW_sig ((Gs.ent 87 1 a ((lim a0).map encP)) ++ ([])) (by simp only [List.append_nil, List.append_assoc]) ?_
 refine sr ?_
 refine os 1 ?_
 refine nsr ?_
 refine os 3 ?_
 refine L (O_make1 (bytes := 4) ((lim a0).length + 1) (.int .u32 0) (fun _ => rfl) (fun _ => rfl) Tryz.underlying149 (by kernel_rfl) rfl (by omega) (by omega) rfl ?_)
 intro b1 hlb1 hnb1
 have hmkb1 : Gs.ok 1 ((lim a0).length + 1) (Gs.at b1 ((lim a0).length + 1)) ((List.replicate ((lim a0).length + 1) 0).map encP) := Gs.ok_make (by simp) (by unfold maxLen; omega)
 refine SL_sig ((Gs.ent 87 1 (Gs.at b1 ((lim a0).length + 1)) ((List.replicate ((lim a0).length + 1) 0).map encP)) ++ ((Gs.ent 87 1 a ((lim a0).map encP)) ++ ([]))) (by rw [show ((List.replicate ((lim a0).length + 1) 0).map encP) = List.replicate ((lim a0).length + 1) (.int .u32 0) from by simp]) ?_
 refine os 1 ?_
 refine kp [7, 6, 0, 1, 2] ?_
 refine nsr ?_
 refine os 3 ?_
 refine nq ?_
 refine sr ?_
 refine os 1 ?_
 refine nt ?_
 refine SW_block ?_
 have hkr0_ := hmkb1
 rw [show (List.replicate ((lim a0).length + 1) 0 : List Int) = [] ++ List.replicate ((lim a0).length + 1 - 0) 0 from rfl]
 refine SW_loop (α := Nat × List Int × Int) (fun z_ ρ_ σ_ => Fits ρ_ σ_ [(0, Gs.val a ((lim a0).length)), (1, .int .u32 (n : Int)), (7, Gs.val (Gs.at b1 ((lim a0).length + 1)) ((lim a0).length + 1)), (8, .int .u64 z_.2.2), (9, .int .i64 (z_.1 : Int))] ((Gs.ent 87 1 (Gs.at b1 ((lim a0).length + 1)) ((z_.2.1 ++ List.replicate ((lim a0).length + 1 - z_.1) 0).map encP)) ++ ((Gs.ent 87 1 a ((lim a0).map encP)) ++ ([]))) ∧ z_.1 ≤ (lim a0).length ∧ (z_.2.1.length = z_.1 ∧ LimOk z_.2.1 ∧ (0 ≤ z_.2.2 ∧ z_.2.2 < 4294967296)) ∧ limV z_.2.1 + 4294967296 ^ z_.1 * z_.2.2.toNat = limV ((lim a0).take z_.1) * n + more) (fun z_ => (lim a0).length - z_.1) (0, [], (more : Int)) ⟨⟨fun _ => rfl, ow⟩, Nat.zero_le _, ⟨rfl, (fun x hx => by cases hx), (show 0 ≤ (more : Int) ∧ (more : Int) < 4294967296 from by omega)⟩, by simp [limV]⟩ ?_
 rintro ⟨i, ys, c⟩ ρ_ σ_ ⟨hfit, hi0, hi1, hi2⟩
 refine SW_fits hfit ?_
 clear hfit
 simp only [] at hi0 hi1 hi2 ⊢
 obtain ⟨hyl, hyo, hc⟩ := hi1
 have hrl_ : (ys ++ List.replicate ((lim a0).length + 1 - i) 0).length = (lim a0).length + 1 := by simp; omega
 have hkr_ : Gs.ok 1 ((lim a0).length + 1) (Gs.at b1 ((lim a0).length + 1)) ((ys ++ List.replicate ((lim a0).length + 1 - i) 0).map encP) := Gs.ok.relen hkr0_ (by simp; omega)
 refine SW_seq ?_
 refine sr ?_
 refine os 4 ?_
 refine kp [19, 0, 1, 7, 8, 9] ?_
 refine nt ?_
 refine cdp (fun hc2 : (i : Int) < ((((lim a0).length : Nat)) : Int) => ?_) (fun hc2 => ?_)
 ·refine SW_skip (n_then ?_)
  refine SW_seq ?_
  refine SW_block ?_
  refine SW_seq ?_
  obtain ⟨e1, he1⟩ : ∃ y_, (lim a0)[i]? = some y_ := ⟨_, List.getElem?_eq_getElem (by omega)⟩
  have heo_ := lim_ok a0 _ (List.mem_of_getElem? he1)
  have hmu_ := times_mul heo_ hn
  refine SW_region ?_
  refine os 3 ?_
  refine L (ixg (i : Int) (i) hk Tryz.underlying149 ?_)
  refine L (ld ?_ (hc := Gs.cell hk (fun e he => (mem_a (mem_h he))) (map_cell he1 rfl)))
  refine os 6 ?_
  refine kp [8, 19, 0, 1, 7, 9] ?_
  refine nsr ?_
  refine os 3 ?_
  refine oX (.int .u64 (Int.tmod (c + (e1 * (n : Int))) 4294967296)) (.int .u64 ((c + (e1 * (n : Int))) % 4294967296)) (congrArg (Value.int .u64) (rem_nn (by first | omega | exact Int.natCast_nonneg _))) ?_
  refine os 1 ?_
  refine L (ixg (i : Int) (i) hkr_ Tryz.underlying149 ?_)
  obtain ⟨e2, he2⟩ : ∃ y_, (ys ++ List.replicate ((lim a0).length + 1 - i) 0)[i]? = some y_ := ⟨_, List.getElem?_eq_getElem (by omega)⟩
  have hok1 := Gs.ok.relen (ys := (((ys ++ List.replicate ((lim a0).length + 1 - i) 0).set i ((c + (e1 * (n : Int))) % 4294967296)).map encP)) hkr_ (by simp)
  refine L (O_storeG (ys := (((ys ++ List.replicate ((lim a0).length + 1 - i) 0).set i ((c + (e1 * (n : Int))) % 4294967296)).map encP)) (Gs.at b1 ((lim a0).length + 1)) (i) (.int .u32 ((c + (e1 * (n : Int))) % 4294967296)) [.int .u32 ((c + (e1 * (n : Int))) % 4294967296)] (Gs.ok.ne hkr_ (by first | omega | (simp; omega))) (fun _ => rfl) (fun _ => rfl) rfl (by kernel_rfl) rfl (by simp; omega) (row_lay_map ((c + (e1 * (n : Int))) % 4294967296) (by omega)) rfl ?_)
  refine nr ?_
  refine os 1 ?_
  refine oX (.int .u64 (IntKind.wrap .u64 (Int.tdiv (c + (e1 * (n : Int))) 4294967296))) (.int .u64 ((c + (e1 * (n : Int))) / 4294967296)) (congrArg (Value.int .u64) (quo_u64 (by omega) (by omega) (by decide))) ?_
  refine os 1 ?_
  refine kp [8, 19, 0, 1, 7, 9] ?_
  refine SL_nil (n_in (n_then ?_))
  refine SW_region ?_
  refine os 3 ?_
  refine nt ?_
  obtain ⟨q1_, q2_, q3_, q4_⟩ := times_bodyR hyl hyo he1 heo_ hc hn hi2
  have hst_ := set_rep (v := (c + e1 * (n : Int)) % 4294967296) (m := (lim a0).length + 1 - i) (m' := (lim a0).length + 1 - (i + 1)) hyl (by omega)
  refine ⟨(i + 1, ys ++ [(c + e1 * (n : Int)) % 4294967296], (c + (e1 * (n : Int))) / 4294967296), by simp only []; omega, ?_⟩
  simp only []
  refine ⟨⟨fun _ => rfl, ?_⟩, by omega, ⟨q1_, q2_, q3_⟩, q4_⟩
  rw [← hst_]
  exact ow
 refine SW_exit (x_then (x_then (x_in (n_then ?_))))
 refine sr ?_
 refine os 5 ?_
 refine L (ixg ((((lim a0).length : Nat)) : Int) ((lim a0).length) hkr_ Tryz.underlying149 ?_)
 obtain ⟨e3, he3⟩ : ∃ y_, (ys ++ List.replicate ((lim a0).length + 1 - i) 0)[(lim a0).length]? = some y_ := ⟨_, List.getElem?_eq_getElem (by omega)⟩
 have hok2 := Gs.ok.relen (ys := (((ys ++ List.replicate ((lim a0).length + 1 - i) 0).set ((lim a0).length) c).map encP)) hkr_ (by simp)
 refine L (O_storeG (ys := (((ys ++ List.replicate ((lim a0).length + 1 - i) 0).set ((lim a0).length) c).map encP)) (Gs.at b1 ((lim a0).length + 1)) ((lim a0).length) (.int .u32 c) [.int .u32 c] (Gs.ok.ne hkr_ (by first | omega | (simp; omega))) (fun _ => rfl) (fun _ => rfl) rfl (by kernel_rfl) rfl (by simp; omega) (row_lay_map c (by omega)) rfl ?_)
 refine nsr ?_
 refine os 1 ?_
 refine kp [46, 19, 0, 1, 7, 8, 9] ?_
 have hie_ : i = (lim a0).length := by omega
 have hst_ := set_rep (v := c) (m := (lim a0).length + 1 - i) (m' := 0) hyl (by omega)
 rw [hie_] at hst_
 rw [hie_] at hyl hi2
 obtain ⟨hto_, htv_⟩ := times_end (l := lim a0) hyl hyo hc hi2
 rw [lim_val] at htv_
 have hrw_ : ((ys ++ List.replicate ((lim a0).length + 1 - i) 0).set ((lim a0).length) c) = (ys ++ [c]) := by first | exact hst_.trans (by simp) | (rw [hie_]; exact hst_.trans (by simp))
 have hkz_ := hok2
 rw [hrw_] at hkz_ ⊢
 have hln_ : (ys ++ [c]).length = (lim a0).length + 1 := by simp; omega
 have hok_ : Gs.ok 1 (ys ++ [c]).length (Gs.at b1 ((lim a0).length + 1)) ((ys ++ [c]).map encP) := by rw [hln_]; exact hkz_
 have hq_ := r2_trim (W0 := W0) (l := (ys ++ [c])) hto_ hok_
 rw [htv_, hln_] at hq_
 refine L (cl (hq_) ?_)
 rintro _ _ ⟨rfl, hkt_⟩
 refine os 1 ?_
 refine nt ?_
 refine SW_ret ?_
 refine body_end (Gs.val (Gs.at b1 ((lim a0).length + 1)) ((lim (a0 * n + more)).length)) (fun _ => rfl) ?_
 exact ⟨(Gs.at b1 ((lim a0).length + 1)), ow, rfl, hkt_⟩

end Go.Proofs.YtnhmmjogfkjceaaGreatDoor
namespace Go.Proofs.YtnhmmjogfkjceaaGreatDoor
open Go.Sl
def valF (a : Nat) : Nat := if a < 4503599627370496 then a else (a % 4503599627370496 + 4503599627370496) * 2 ^ (a / 4503599627370496 - 1)
theorem valF_mk {K g : Nat} (hg : g ≤ 9007199254740992) (hK : K = 0 ∨ 4503599627370496 ≤ g) : valF (K * 4503599627370496 + g) = g * 2 ^ K := by
 unfold valF
 by_cases h0 : g < 4503599627370496
 · have hk : K = 0 := by omega
   subst hk
   rw [if_pos (by omega)]; simp
 · by_cases h1 : g = 9007199254740992
   · subst h1
     rw [if_neg (by omega), show (K * 4503599627370496 + 9007199254740992) % 4503599627370496 = 0 by omega, show (K * 4503599627370496 + 9007199254740992) / 4503599627370496 - 1 = K + 1 by omega, Nat.pow_succ]
     omega
   · rw [if_neg (by omega), show (K * 4503599627370496 + g) % 4503599627370496 + 4503599627370496 = g by omega, show (K * 4503599627370496 + g) / 4503599627370496 - 1 = K by omega]
theorem valF_parts (a : Nat) : ∃ K g, a = K * 4503599627370496 + g ∧ g < 9007199254740992 ∧ (K = 0 ∨ 4503599627370496 ≤ g) := by
 by_cases h : a < 4503599627370496
 · exact ⟨0, a, by omega, by omega, .inl rfl⟩
 · exact ⟨a / 4503599627370496 - 1, a % 4503599627370496 + 4503599627370496, by omega, by omega, .inr (by omega)⟩
theorem valF_lt (a : Nat) : valF a < valF (a + 1) := by
 obtain ⟨K, g, rfl, h1, h2⟩ := valF_parts a
 rw [Nat.add_assoc, valF_mk (by omega) h2, valF_mk (K := K) (g := g + 1) (by omega) (by omega)]
 exact Nat.mul_lt_mul_of_pos_right (by omega) (Nat.two_pow_pos K)
theorem valF_mono {a b : Nat} (h : a ≤ b) : valF a ≤ valF b := by
 induction h with
 | refl => exact Nat.le_refl _
 | step _ ih => exact Nat.le_trans ih (Nat.le_of_lt (valF_lt _))
theorem valF_mono_lt {a b : Nat} (h : a < b) : valF a < valF b := Nat.lt_of_lt_of_le (valF_lt a) (valF_mono h)
theorem valF_one : valF 1 = 1 := rfl
theorem valF_zero : valF 0 = 0 := rfl
theorem valF_inf : ∃ k, k = 2098 ∧ valF 9218868437227405312 = 2 ^ k := by
 obtain ⟨K, hK⟩ : ∃ K : Nat, K = 2046 := ⟨_, rfl⟩
 have := valF_mk (K := K) (g := 4503599627370496) (by omega) (by omega)
 rw [show K * 4503599627370496 + 4503599627370496 = 9218868437227405312 by omega] at this
 refine ⟨52 + K, by omega, ?_⟩
 rw [this, show 4503599627370496 = 2 ^ 52 from rfl, ← Nat.pow_add]
def isRN (X q a : Nat) : Prop := a ≤ 9218868437227405312 ∧
 (a = 0 ∨ q * (valF (a - 1) + valF a) < 2 * X ∨ (q * (valF (a - 1) + valF a) = 2 * X ∧ a % 2 = 0)) ∧
 (a = 9218868437227405312 ∨ 2 * X < q * (valF a + valF (a + 1)) ∨ (2 * X = q * (valF a + valF (a + 1)) ∧ a % 2 = 0))
theorem isRN_uniq_lt {X q a b : Nat} (hq : 0 < q) (ha : isRN X q a) (hb : isRN X q b) (h : a < b) : False := by
 obtain ⟨a1, -, a2⟩ := ha
 obtain ⟨b1, b2, -⟩ := hb
 have h1 : valF a ≤ valF (b - 1) := valF_mono (by omega)
 have h2 : valF (a + 1) ≤ valF b := valF_mono (by omega)
 have h3 := Nat.mul_le_mul_left q (Nat.add_le_add h1 h2)
 by_cases hc : b = a + 1
 · subst hc
   rw [Nat.add_sub_cancel] at b2
   omega
 · have h4 : valF a < valF (b - 1) := valF_mono_lt (by omega)
   have h5 := Nat.mul_lt_mul_of_pos_left (Nat.add_lt_add_of_lt_of_le h4 h2) hq
   omega
theorem isRN_uniq {X q a b : Nat} (hq : 0 < q) (ha : isRN X q a) (hb : isRN X q b) : a = b := by
 rcases Nat.lt_trichotomy a b with h | h | h
 · exact (isRN_uniq_lt hq ha hb h).elim
 · exact h
 · exact (isRN_uniq_lt hq hb ha h).elim
theorem cross_lt {X q X' q' v : Nat} (hq : 0 < q) (hq' : 0 < q') (h : X * q' = X' * q) (hv : q * v < 2 * X) : q' * v < 2 * X' := by
 have h1 := Nat.mul_lt_mul_of_pos_right hv hq'
 rw [Nat.mul_assoc 2, h] at h1
 apply Nat.lt_of_mul_lt_mul_left (a := q)
 rw [show q * (q' * v) = q * v * q' by rw [Nat.mul_comm q' v, Nat.mul_assoc], show q * (2 * X') = 2 * (X' * q) by rw [Nat.mul_left_comm, Nat.mul_comm q X']]
 exact h1
theorem cross_gt {X q X' q' v : Nat} (hq : 0 < q) (hq' : 0 < q') (h : X * q' = X' * q) (hv : 2 * X < q * v) : 2 * X' < q' * v := by
 have h1 := Nat.mul_lt_mul_of_pos_right hv hq'
 rw [Nat.mul_assoc 2, h] at h1
 apply Nat.lt_of_mul_lt_mul_left (a := q)
 rw [show q * (q' * v) = q * v * q' by rw [Nat.mul_comm q' v, Nat.mul_assoc], show q * (2 * X') = 2 * (X' * q) by rw [Nat.mul_left_comm, Nat.mul_comm q X']]
 exact h1
theorem cross_eq {X q X' q' v : Nat} (hq : 0 < q) (hq' : 0 < q') (h : X * q' = X' * q) (hv : q * v = 2 * X) : q' * v = 2 * X' := by
 rcases Nat.lt_trichotomy (q' * v) (2 * X') with g | g | g
 · have := cross_lt hq' hq h.symm g; omega
 · exact g
 · have := cross_gt hq' hq h.symm g; omega
theorem isRN_scale {X q X' q' a : Nat} (hq : 0 < q) (hq' : 0 < q') (h : X * q' = X' * q) (ha : isRN X q a) : isRN X' q' a := by
 obtain ⟨a1, a2, a3⟩ := ha
 refine ⟨a1, ?_, ?_⟩
 · rcases a2 with g | g | ⟨g, e⟩
   · exact .inl g
   · exact .inr (.inl (cross_lt hq hq' h g))
   · exact .inr (.inr ⟨cross_eq hq hq' h g, e⟩)
 · rcases a3 with g | g | ⟨g, e⟩
   · exact .inl g
   · exact .inr (.inl (cross_gt hq hq' h g))
   · exact .inr (.inr ⟨(cross_eq hq hq' h g.symm).symm, e⟩)
theorem isRN_between {X q a : Nat} (hq : 0 < q) (ha : a < 9218868437227405312) (h1 : q * valF a ≤ X) (h2 : X < q * valF (a + 1)) :
   isRN X q (if q * (valF a + valF (a + 1)) < 2 * X ∨ (q * (valF a + valF (a + 1)) = 2 * X ∧ a % 2 = 1) then a + 1 else a) := by
 have e : q * (valF a + valF (a + 1)) = q * valF a + q * valF (a + 1) := Nat.mul_add ..
 split
 · next g =>
   refine ⟨by omega, .inr ?_, ?_⟩
   · rw [Nat.add_sub_cancel]
     rcases g with g | ⟨g, o⟩
     · exact .inl g
     · exact .inr ⟨g, by omega⟩
   · by_cases hi : a + 1 = 9218868437227405312
     · exact .inl hi
     · have h3 : q * valF (a + 1) < q * valF (a + 1 + 1) := Nat.mul_lt_mul_of_pos_left (valF_lt _) hq
       refine .inr (.inl ?_)
       rw [Nat.mul_add]; omega
 · next g =>
   refine ⟨by omega, ?_, .inr ?_⟩
   · by_cases h0 : a = 0
     · exact .inl h0
     · have h3 : q * valF (a - 1) < q * valF a := Nat.mul_lt_mul_of_pos_left (valF_mono_lt (by omega)) hq
       refine .inr (.inl ?_)
       rw [Nat.mul_add]; omega
   · have g1 : ¬ q * (valF a + valF (a + 1)) < 2 * X := fun h => g (.inl h)
     have g2 : ¬ (q * (valF a + valF (a + 1)) = 2 * X ∧ a % 2 = 1) := fun h => g (.inr h)
     by_cases e2 : 2 * X = q * (valF a + valF (a + 1))
     · exact .inr ⟨e2, by omega⟩
     · exact .inl (by omega)
theorem isRN_inf {X q : Nat} (hq : 0 < q) (h : q * valF 9218868437227405312 ≤ X) : isRN X q 9218868437227405312 := by
 refine ⟨Nat.le_refl _, .inr (.inl ?_), .inl rfl⟩
 have h3 : q * valF (9218868437227405312 - 1) < q * valF 9218868437227405312 := Nat.mul_lt_mul_of_pos_left (valF_mono_lt (by decide)) hq
 rw [Nat.mul_add]; omega
theorem isRN_none {X q : Nat} (h : 2 * X < q) : isRN X q 0 := by
 refine ⟨by decide, .inl rfl, .inr (.inl ?_)⟩
 rw [valF_zero, valF_one]; omega
theorem pow_cmp {A B x y x' y' : Nat} (h : x + y' = x' + y) : A * 2 ^ x < B * 2 ^ y ↔ A * 2 ^ x' < B * 2 ^ y' := by
 have p1 := Nat.two_pow_pos y'
 have p2 := Nat.two_pow_pos y
 rw [← Nat.mul_lt_mul_right (a0 := p1), ← Nat.mul_lt_mul_right (a0 := p2) (b := A * 2 ^ x')]
 rw [Nat.mul_assoc A, ← Nat.pow_add, h, Nat.mul_assoc A, ← Nat.pow_add, Nat.mul_assoc B, ← Nat.pow_add, Nat.mul_assoc B, ← Nat.pow_add, Nat.add_comm y y']
theorem pow_cmp_eq {A B x y x' y' : Nat} (h : x + y' = x' + y) : A * 2 ^ x = B * 2 ^ y ↔ A * 2 ^ x' = B * 2 ^ y' := by
 have h1 := pow_cmp (A := A) (B := B) h
 have h2 := pow_cmp (A := B) (B := A) (x := y) (y := x) (x' := y') (y' := x') (by omega)
 omega
def Stands (X q : Nat) (m : Nat) (E : Int) (half : Bool) : Prop := ∀ f : Nat,
 (X * 2 ^ (-E).toNat < (2 * f * q) * 2 ^ E.toNat ↔ m < 2 * f) ∧ (X * 2 ^ (-E).toNat = (2 * f * q) * 2 ^ E.toNat ↔ m = 2 * f ∧ half = false)
theorem Stands.at {X q m : Nat} {E : Int} {half : Bool} (h : Stands X q m E half) {g s K j : Nat} (hs : 0 < s) (hE : E = (K : Int) - s - j) :
   (X * 2 ^ j < g * q * 2 ^ K ↔ m < g * 2 ^ s) ∧ (X * 2 ^ j = g * q * 2 ^ K ↔ m = g * 2 ^ s ∧ half = false) := by
 obtain ⟨t, rfl⟩ : ∃ t, s = t + 1 := ⟨s - 1, by omega⟩
 have h1 := h (g * 2 ^ t)
 have e : 2 * (g * 2 ^ t) = g * 2 ^ (t + 1) := by rw [Nat.pow_succ, Nat.mul_comm 2, Nat.mul_assoc]
 rw [e] at h1
 have e2 : g * 2 ^ (t + 1) * q * 2 ^ E.toNat = g * q * 2 ^ (t + 1 + E.toNat) := by rw [Nat.mul_right_comm g (2 ^ (t + 1)) q, Nat.mul_assoc (g * q), ← Nat.pow_add]
 rw [e2, pow_cmp (x := (-E).toNat) (y := t + 1 + E.toNat) (x' := j) (y' := K) (by omega), pow_cmp_eq (x := (-E).toNat) (y := t + 1 + E.toNat) (x' := j) (y' := K) (by omega)] at h1
 exact h1
theorem rest_cmp {r k : Nat} (hk : k ≤ 64) (hk0 : 0 < k) (hr : r < 2 ^ k) : (r * 2 ^ (64 - k) > 9223372036854775808 ↔ r > 2 ^ (k - 1)) ∧ (r * 2 ^ (64 - k) = 9223372036854775808 ↔ r = 2 ^ (k - 1)) := by
 have e : (9223372036854775808 : Nat) = 2 ^ (k - 1) * 2 ^ (64 - k) := by rw [← Nat.pow_add, show k - 1 + (64 - k) = 63 by omega]
 have p := Nat.two_pow_pos (64 - k)
 rw [e]
 constructor
 · exact Nat.mul_lt_mul_right p
 · constructor
   · exact Nat.eq_of_mul_eq_mul_right p
   · intro h; rw [h]
theorem rest_mod {m k : Nat} (hk : k ≤ 64) : m * 2 ^ (64 - k) % 18446744073709551616 = m % 2 ^ k * 2 ^ (64 - k) := by
 rw [show (18446744073709551616 : Nat) = 2 ^ k * 2 ^ (64 - k) by rw [← Nat.pow_add, show k + (64 - k) = 64 by omega], Nat.mul_mod_mul_right]
theorem form_spec {X q m : Nat} {e : Int} {half : Bool} (hq : 0 < q) (hm : 9223372036854775808 ≤ m) (hm2 : m < 18446744073709551616) (h : Stands X q m (e + 1074) half) : isRN X q (formNear m e half) := by
 unfold formNear
 by_cases h1 : e + 63 > 1023
 · rw [if_pos h1]
   apply isRN_inf hq
   obtain ⟨k, hk, hv⟩ := valF_inf
   rw [hv]
   have h2 := h 4611686018427387904
   have h3 : ¬ X * 2 ^ (-(e + 1074)).toNat < 2 * 4611686018427387904 * q * 2 ^ (e + 1074).toNat := by rw [h2.1]; omega
   rw [show (-(e + 1074)).toNat = 0 by omega, Nat.pow_zero, Nat.mul_one] at h3
   refine Nat.le_trans ?_ (Nat.le_of_not_lt h3)
   rw [show 2 * 4611686018427387904 = 2 ^ 63 from rfl, Nat.mul_comm (2 ^ 63) q, Nat.mul_assoc, ← Nat.pow_add]
   exact Nat.mul_le_mul_left _ (Nat.pow_le_pow_right (by decide) (by omega))
 · rw [if_neg h1]
   simp only []
   obtain ⟨s, K, hs, hs0, hK, hE, hKm⟩ : ∃ s K : Nat, (if e + 63 + 1023 < 1 then 12 - (e + 63 + 1023) else 11) = (s : Int) ∧ 11 ≤ s ∧ ((if e + 63 + 1023 < 1 then 1 else e + 63 + 1023) - 1).toNat = K ∧ e + 1074 = (K : Int) - s ∧ (K ≤ 2045 ∧ (K = 0 ∨ s = 11) ) := by
     by_cases h2 : e + 63 + 1023 < 1
     · exact ⟨(12 - (e + 63 + 1023)).toNat, 0, by rw [if_pos h2]; omega, by omega, by rw [if_pos h2]; rfl, by omega, by omega, .inl rfl⟩
     · exact ⟨11, (e + 63 + 1023 - 1).toNat, by rw [if_neg h2]; rfl, by omega, by rw [if_neg h2], by omega, by omega, .inr rfl⟩
   rw [hs, hK]
   by_cases h3 : (s : Int) > 64
   · rw [if_pos h3]
     apply isRN_none
     have hK0 : K = 0 := by omega
     subst hK0
     have h4 := (h.at (g := 1) (s := s - 1) (K := 0) (j := 1) (by omega) (by omega)).1
     have h5 : (2 : Nat) ^ 64 ≤ 2 ^ (s - 1) := Nat.pow_le_pow_right (by decide) (by omega)
     have h6 := h4.2 (by rw [Nat.one_mul]; exact Nat.lt_of_lt_of_le hm2 h5)
     simp only [Nat.one_mul, Nat.pow_zero, Nat.mul_one, Nat.pow_one] at h6
     omega
   · rw [if_neg h3, Int.toNat_natCast]
     have hs64 : s ≤ 64 := by omega
     obtain ⟨M, hM⟩ : ∃ M, m / 2 ^ s = M := ⟨_, rfl⟩
     obtain ⟨r, hr⟩ : ∃ r, m % 2 ^ s = r := ⟨_, rfl⟩
     have p := Nat.two_pow_pos s
     have hmr : M * 2 ^ s + r = m := by rw [← hM, ← hr, Nat.mul_comm]; exact Nat.div_add_mod m (2 ^ s)
     have hrl : r < 2 ^ s := by rw [← hr]; exact Nat.mod_lt _ p
     have hM53 : M < 9007199254740992 := by rw [← hM]; exact div_pow_lt hm2 hs0
     have hMK : K = 0 ∨ 4503599627370496 ≤ M := by
       rcases hKm.2 with q0 | q0
       · exact .inl q0
       · right; rw [← hM, q0]; omega
     rw [rest_mod hs64, hr, hM]
     have hc := rest_cmp hs64 (by omega) hrl
     have e0 : valF (K * 4503599627370496 + M) = M * 2 ^ K := valF_mk (by omega) hMK
     have e1 : valF (K * 4503599627370496 + M + 1) = (M + 1) * 2 ^ K := by rw [Nat.add_assoc]; exact valF_mk (by omega) (by omega)
     have c0 := (h.at (g := M) (s := s) (K := K) (j := 0) (by omega) (by omega)).1
     have c1 := (h.at (g := M + 1) (s := s) (K := K) (j := 0) (by omega) (by omega)).1
     have c2 := h.at (g := 2 * M + 1) (s := s - 1) (K := K) (j := 1) (by omega) (by omega)
     rw [Nat.pow_zero, Nat.mul_one] at c0 c1
     have d1 : (M + 1) * 2 ^ s = M * 2 ^ s + 2 ^ s := Nat.succ_mul ..
     have d2 : (2 * M + 1) * 2 ^ (s - 1) = M * 2 ^ s + 2 ^ (s - 1) := by
       rw [Nat.succ_mul, show s = (s - 1) + 1 by omega, Nat.pow_succ, Nat.add_sub_cancel, Nat.mul_comm 2 M, Nat.mul_assoc, Nat.mul_comm 2]
     rw [d2] at c2
     rw [d1] at c1
     have b := isRN_between (X := X) hq (a := K * 4503599627370496 + M) (by omega)
       (by rw [e0, show q * (M * 2 ^ K) = M * q * 2 ^ K by rw [← Nat.mul_assoc, Nat.mul_comm q]]; exact Nat.le_of_not_lt fun z => absurd (c0.1 z) (by omega))
       (by rw [e1, show q * ((M + 1) * 2 ^ K) = (M + 1) * q * 2 ^ K by rw [← Nat.mul_assoc, Nat.mul_comm q]]; exact c1.2 (by omega))
     rw [e0, e1, show q * (M * 2 ^ K + (M + 1) * 2 ^ K) = (2 * M + 1) * q * 2 ^ K by rw [← Nat.add_mul, ← Nat.mul_assoc, Nat.mul_comm q, show M + (M + 1) = 2 * M + 1 by omega]] at b
     rw [Nat.pow_one, Nat.mul_comm X 2] at c2
     have pe : (K * 4503599627370496 + M) % 2 = M % 2 := by omega
     rw [pe] at b
     have hiff : (r * 2 ^ (64 - s) > 9223372036854775808 ∨ r * 2 ^ (64 - s) = 9223372036854775808 ∧ (half = true ∨ M % 2 = 1)) ↔ ((2 * M + 1) * q * 2 ^ K < 2 * X ∨ (2 * M + 1) * q * 2 ^ K = 2 * X ∧ M % 2 = 1) := by
       rw [hc.1, hc.2]
       have lt := c2.1
       have eq := c2.2
       generalize (2 * M + 1) * q * 2 ^ K = Z at *
       generalize 2 ^ (s - 1) = H at *
       generalize M * 2 ^ s = B at *
       cases half
       · simp only [Bool.false_eq_true, and_true, false_or] at eq ⊢
         omega
       · simp only [Bool.true_eq_false, and_false, iff_false, true_or, and_true] at eq ⊢
         omega
     by_cases hu : r * 2 ^ (64 - s) > 9223372036854775808 ∨ r * 2 ^ (64 - s) = 9223372036854775808 ∧ (half = true ∨ M % 2 = 1)
     · rw [if_pos hu]
       rw [if_pos (hiff.1 hu)] at b
       rw [← Nat.add_assoc]
       exact b
     · rw [if_neg hu]
       rw [if_neg fun z => hu (hiff.2 z)] at b
       exact b
theorem div_spec {Q : Nat} (hQ : 0 < Q) : ∀ (k p man : Nat), p < Q * 2 ^ k → man * 2 ^ k + (2 ^ k - 1) < 18446744073709551616 → ∀ t, (0 < k → t = Q * 2 ^ (k - 1)) → divN k p t man = (p % Q, man * 2 ^ k + p / Q)
 | 0, p, man, hp, hm, t, ht => by
   rw [Nat.pow_zero, Nat.mul_one] at hp
   rw [divN, Nat.mod_eq_of_lt hp, Nat.div_eq_of_lt hp, Nat.pow_zero, Nat.mul_one, Nat.add_zero]
 | k + 1, p, man, hp, hm, t, ht => by
   have ht' := ht (by omega)
   rw [Nat.add_sub_cancel] at ht'
   have hp2 : Q * 2 ^ (k + 1) = Q * 2 ^ k + Q * 2 ^ k := by rw [Nat.pow_succ, Nat.mul_two, Nat.mul_add]
   have hm2 : man * 2 ^ (k + 1) = 2 * (man * 2 ^ k) := by rw [Nat.pow_succ, ← Nat.mul_assoc, Nat.mul_comm]
   have hm3 : man ≤ man * 2 ^ k := Nat.le_mul_of_pos_right _ (Nat.two_pow_pos k)
   have hp3 : 2 ^ (k + 1) = 2 ^ k + 2 ^ k := by rw [Nat.pow_succ]; omega
   have hp4 := Nat.two_pow_pos k
   have hmm : man * 2 % 18446744073709551616 = man * 2 := Nat.mod_eq_of_lt (by omega)
   have hnext : 0 < k → t / 2 = Q * 2 ^ (k - 1) := fun h => by
     rw [ht', show k = (k - 1) + 1 by omega, Nat.pow_succ, ← Nat.mul_assoc, Nat.mul_div_cancel _ (by decide), Nat.add_sub_cancel]
   by_cases h : t ≤ p
   · rw [divN_step1 h, hmm, div_spec hQ k _ _ (by omega) (by rw [Nat.succ_mul, Nat.mul_right_comm]; omega) _ hnext]
     have e : p = (p - t) + Q * 2 ^ k := by omega
     refine Prod.ext ?_ ?_
     · show (p - t) % Q = p % Q
       conv => rhs; rw [e, Nat.add_mul_mod_self_left]
     · show (man * 2 + 1) * 2 ^ k + (p - t) / Q = man * 2 ^ (k + 1) + p / Q
       conv => rhs; rw [e, Nat.add_mul_div_left _ _ hQ]
       rw [Nat.succ_mul, Nat.mul_right_comm]; omega
   · rw [divN_step0 h, hmm, div_spec hQ k _ _ (by omega) (by rw [Nat.mul_right_comm]; omega) _ hnext]
     rw [Nat.mul_right_comm]
     refine Prod.ext rfl ?_
     show man * 2 ^ k * 2 + p / Q = man * 2 ^ (k + 1) + p / Q
     omega
def StandsA (X q : Nat) (m : Nat) (E : Int) (half : Bool) : Prop := ∀ f : Nat,
 (X * 2 ^ (-E).toNat < (f * q) * 2 ^ E.toNat ↔ m < f) ∧ (X * 2 ^ (-E).toNat = (f * q) * 2 ^ E.toNat ↔ m = f ∧ half = false)
theorem near_spec {X q man : Nat} {e : Int} {half : Bool} (hq : 0 < q) (hm : 4611686018427387904 ≤ man) (hm2 : man < 18446744073709551616) (he : -5000 ≤ e ∧ e ≤ 5000) (h : StandsA X q man (e + 1074) half) : isRN X q (nearN man e half) := by
 unfold nearN
 simp only []
 rw [if_neg (by omega), if_neg (by omega), show min (max e (-5000)) 5000 = e by omega]
 have hb : bitsN man = 63 ∨ bitsN man = 64 := by
   by_cases h63 : man < 9223372036854775808
   · exact .inl (bitsN_iff (k := 62) (by omega) (by omega))
   · exact .inr (bitsN_iff (k := 63) (by omega) (by omega))
 rcases hb with hb | hb
 · have hlt : man < 9223372036854775808 := by have := bitsN_lt man; rw [hb] at this; exact this
   rw [hb]
   have hE : ∀ f : Nat, (X * 2 ^ (-(e - 1 + 1074)).toNat < (2 * f * q) * 2 ^ (e - 1 + 1074).toNat ↔ man < f) ∧ (X * 2 ^ (-(e - 1 + 1074)).toNat = (2 * f * q) * 2 ^ (e - 1 + 1074).toNat ↔ man = f ∧ half = false) := by
     intro f
     rw [show 2 * f * q * 2 ^ (e - 1 + 1074).toNat = f * q * 2 ^ (1 + (e - 1 + 1074).toNat) by rw [Nat.pow_add, Nat.pow_one, ← Nat.mul_assoc, Nat.mul_comm (f * q) 2, Nat.mul_assoc 2]]
     have h1 := h f
     exact ⟨Iff.trans (pow_cmp (by omega)) h1.1, Iff.trans (pow_cmp_eq (by omega)) h1.2⟩
   cases half
   · rw [if_neg (by simp)]
     refine form_spec hq (by omega) (by omega) fun f => ?_
     rw [show e - ((64 - 63 : Nat) : Int) + 1074 = e - 1 + 1074 by omega, (hE f).1, (hE f).2]
     simp only [and_true]
     omega
   · rw [if_pos (by simp)]
     refine form_spec hq (by omega) (by omega) fun f => ?_
     rw [show e - ((64 - 63 : Nat) : Int) + 1074 = e - 1 + 1074 by omega, (hE f).1, (hE f).2]
     simp only [and_true, Bool.true_eq_false, and_false, false_iff]
     omega
 · have hge : 9223372036854775808 ≤ man := by have := bitsN_ge man (by omega); rw [hb] at this; exact this
   rw [hb, if_neg (by simp)]
   rw [show man * 2 ^ (64 - 64) = man by simp, show e - ((64 - 64 : Nat) : Int) = e by omega]
   exact form_spec hq hge hm2 fun f => h (2 * f)
theorem round_spec {p q S : Nat} (hp : 0 < p) (hq : 0 < q) (hS : S = 1074) (hb : bitsN p ≤ 4900) (hb2 : bitsN q ≤ 4900) : isRN (p * 2 ^ S) q (roundN p q) := by
 unfold roundN
 simp only []
 obtain ⟨up, hup⟩ : ∃ up : Int, up = 63 - bitsN p + bitsN q := ⟨_, rfl⟩
 rw [← hup]
 obtain ⟨P, hP⟩ : ∃ P, P = p * 2 ^ up.toNat := ⟨_, rfl⟩
 obtain ⟨Q, hQ⟩ : ∃ Q, Q = q * 2 ^ (-up).toNat := ⟨_, rfl⟩
 rw [← hP, ← hQ]
 have hQ0 : 0 < Q := by rw [hQ]; exact Nat.mul_pos hq (Nat.two_pow_pos _)
 have bp0 : 0 < bitsN p := by rw [bitsN_pos (by omega)]; omega
 have bq0 : 0 < bitsN q := by rw [bitsN_pos (by omega)]; omega
 have p1 := bitsN_ge p (by omega)
 have p2 := bitsN_lt p
 have q1 := bitsN_ge q (by omega)
 have q2 := bitsN_lt q
 have e1 : (bitsN p - 1) + up.toNat = 62 + (bitsN q + (-up).toNat) := by omega
 have lo : Q * 2 ^ 62 ≤ P := by
   have a1 : Q ≤ 2 ^ (bitsN q + (-up).toNat) := by rw [hQ, Nat.pow_add]; exact Nat.mul_le_mul_right _ (Nat.le_of_lt q2)
   have a2 : 2 ^ (bitsN p - 1 + up.toNat) ≤ P := by rw [hP, Nat.pow_add]; exact Nat.mul_le_mul_right _ p1
   rw [e1, Nat.pow_add, Nat.mul_comm] at a2
   exact Nat.le_trans (Nat.mul_le_mul_right _ a1) a2
 have hi : P < Q * 2 ^ 64 := by
   have a1 : 2 ^ (bitsN q - 1 + (-up).toNat) ≤ Q := by rw [hQ, Nat.pow_add]; exact Nat.mul_le_mul_right _ q1
   have a2 : P < 2 ^ (bitsN p + up.toNat) := by rw [hP, Nat.pow_add]; exact Nat.mul_lt_mul_of_pos_right p2 (Nat.two_pow_pos _)
   rw [show bitsN p + up.toNat = (bitsN q - 1 + (-up).toNat) + 64 by omega, Nat.pow_add] at a2
   exact Nat.lt_of_lt_of_le a2 (Nat.mul_le_mul_right _ a1)
 rw [div_spec hQ0 64 P 0 hi (by decide) (Q * 2 ^ 63) (fun _ => rfl)]
 simp only [Nat.zero_mul, Nat.zero_add]
 refine near_spec hq ?_ ?_ (by omega) fun f => ?_
 · rw [show 4611686018427387904 = 2 ^ 62 from rfl, Nat.le_div_iff_mul_le hQ0, Nat.mul_comm]; exact lo
 · rw [show 18446744073709551616 = 2 ^ 64 from rfl, Nat.div_lt_iff_lt_mul hQ0, Nat.mul_comm]; exact hi
 · have hx : ∀ x y : Nat, x = S + (-(-up + 1074)).toNat → y = (-up + 1074).toNat → (p * 2 ^ x < f * q * 2 ^ y ↔ P < f * Q) ∧ (p * 2 ^ x = f * q * 2 ^ y ↔ P = f * Q) := by
     intro x y hx hy
     rw [hP, hQ, ← Nat.mul_assoc]
     exact ⟨pow_cmp (by omega), pow_cmp_eq (by omega)⟩
   have h1 := hx _ _ rfl rfl
   rw [Nat.mul_assoc p, ← Nat.pow_add, h1.1, h1.2, Nat.div_lt_iff_lt_mul hQ0]
   refine ⟨Iff.rfl, ?_⟩
   have hl : decide (0 < (lim (P % Q)).length) = false ↔ P % Q = 0 := by
     rw [decide_eq_false_iff_not, ← lim_len_eq]; omega
   rw [hl]
   have hdm := Nat.div_add_mod P Q
   constructor
   · intro h
     subst h
     exact ⟨Nat.mul_div_cancel _ hQ0, Nat.mul_mod_left ..⟩
   · rintro ⟨h, h0⟩
     rw [h0, h, Nat.mul_comm] at hdm
     omega
end Go.Proofs.YtnhmmjogfkjceaaGreatDoor
namespace Go.Proofs.YtnhmmjogfkjceaaGreatDoor
open Go.Sl
structure SpanP where
  r : Nat
  u : Nat
  a : Nat
  b : Nat
  ends : Bool
def highB (s : SpanP) : Bool := decide (cmpN (s.r + s.a) s.u > 0) || (decide (cmpN (s.r + s.a) s.u = 0) && s.ends)
def lowB (s : SpanP) : Bool := decide (cmpN s.r s.b < 0) || (decide (cmpN s.r s.b = 0) && s.ends)
def tenS (s : SpanP) : SpanP := ⟨s.r * 10, s.u, s.a * 10, s.b * 10, s.ends⟩
def manP (a : Nat) : Nat := if a / 4503599627370496 = 0 then a % 4503599627370496 else a % 4503599627370496 + 4503599627370496
def expP (a : Nat) : Nat := if a / 4503599627370496 = 0 then 1 else a / 4503599627370496
def nearP (a : Nat) : Nat := if manP a = 4503599627370496 ∧ expP a > 1 then 2 else 1
def openS (a : Nat) : SpanP := ⟨manP a * 2 ^ (expP a - 1075 + nearP a), 1 * 2 ^ (1075 - expP a + nearP a), 1 * 2 ^ (expP a - 1075 + nearP a - 1), 1 * 2 ^ (expP a - 1075), ((manP a % 2 : Nat) : Int) == 0⟩
def upF : Nat → SpanP → Int → SpanP × Int
 | 0, s, p => (s, p)
 | f + 1, s, p => if highB s = true then upF f ⟨s.r, s.u * 10, s.a, s.b, s.ends⟩ (p + 1) else (s, p)
def dnF : Nat → SpanP → Int → SpanP × Int
 | 0, s, p => (s, p)
 | f + 1, s, p => if highB (tenS s) = true then (s, p) else dnF f (tenS s) (p - 1)
def restS (s : SpanP) : SpanP := ⟨s.r * 10 % s.u, s.u, s.a * 10, s.b * 10, s.ends⟩
def digS (s : SpanP) : Nat := s.r * 10 / s.u
def upD (s : SpanP) (d : Nat) : Bool := highB s && (!lowB s || (decide (cmpN (s.r + s.r) s.u > 0) || (decide (cmpN (s.r + s.r) s.u = 0) && decide (d % 2 = 1))))
def genF : Nat → SpanP → Bytes → Bytes
 | 0, _, m => m
 | f + 1, s, m =>
   if lowB (restS s) = false ∧ highB (restS s) = false then genF f (restS s) (m ++ Lib.itoa (digS s : Int))
   else m ++ Lib.itoa (if upD (restS s) (digS s) = true then (digS s : Int) + 1 else (digS s : Int))
def upS (a : Nat) : SpanP × Int := upF ((openS a).r + (openS a).a + 1 - (openS a).u + 1) (openS a) 0
def dnS (a : Nat) : SpanP × Int := dnF ((upS a).1.u + 1 - (upS a).1.r) (upS a).1 (upS a).2
def shortP (a : Nat) : Bytes × Int := (genF 20 (dnS a).1 [], (dnS a).2)
def formP (D : Bytes) (p : Int) : Bytes :=
 if p ≥ (D.length : Int) ∧ p ≤ 21 then D ++ Lib.repeatL [48] (p - (D.length : Int)).toNat
 else if p > 0 ∧ p ≤ 21 then (D.take p.toNat ++ [46]) ++ D.drop p.toNat
 else if p > -6 ∧ p ≤ 0 then ([48, 46] ++ Lib.repeatL [48] (-p).toNat) ++ D
 else
   let E := if (D.length : Int) > 1 then (D.take 1 ++ [46]) ++ D.drop 1 else D
   if p > 0 then (E ++ [101, 43]) ++ Lib.itoa (p - 1) else (E ++ [101]) ++ Lib.itoa (p - 1)
def printP0 (a : Nat) : Bytes :=
 if a > 9218868437227405312 then [78, 97, 78]
 else if a = 0 then [48]
 else if a = 9218868437227405312 then [73, 110, 102, 105, 110, 105, 116, 121]
 else formP (shortP a).1 (shortP a).2
def printP (a : Nat) : Bytes :=
 if a % 9223372036854775808 > 9218868437227405312 then [78, 97, 78]
 else if a % 9223372036854775808 = 0 then [48]
 else if a ≥ 9223372036854775808 then [45] ++ printP0 (a - 9223372036854775808)
 else printP0 a
def kindP (a : Nat) : Int := if a % 9223372036854775808 = 0 then 0 else if a % 9223372036854775808 < 9218868437227405312 then 1 else if a % 9223372036854775808 = 9218868437227405312 then 2 else 3
theorem kind_nought {a : Nat} (h : a = 0) : kindP a = 0 := by subst h; rfl
theorem kind_all (a : Nat) : (kindP a = 0 ∧ a % 9223372036854775808 = 0) ∨ (kindP a = 1 ∧ 0 < a % 9223372036854775808 ∧ a % 9223372036854775808 < 9218868437227405312) ∨ (kindP a = 2 ∧ a % 9223372036854775808 = 9218868437227405312) ∨ (kindP a = 3 ∧ a % 9223372036854775808 > 9218868437227405312) := by
 unfold kindP
 split
 · exact .inl ⟨rfl, by omega⟩
 · split
   · exact .inr (.inl ⟨rfl, by omega, by omega⟩)
   · split
     · exact .inr (.inr (.inl ⟨rfl, by omega⟩))
     · exact .inr (.inr (.inr ⟨rfl, by omega⟩))
theorem printP_small {a : Nat} (h : a < 9223372036854775808) : printP a = printP0 a := by
 unfold printP printP0
 rw [Nat.mod_eq_of_lt h, if_neg (by omega : ¬ a ≥ 9223372036854775808)]
 split
 · rfl
 · split <;> rfl
section
variable {D : Bytes} {p : Int}
def expo (D : Bytes) : Bytes := if (D.length : Int) > 1 then (D.take 1 ++ [46]) ++ D.drop 1 else D
theorem form_a (h1 : p ≥ (D.length : Int)) (h2 : p ≤ 21) : formP D p = D ++ Lib.repeatL [48] (p - (D.length : Int)).toNat := by unfold formP; rw [if_pos ⟨h1, h2⟩]
theorem form_b (h : ¬ (p ≥ (D.length : Int) ∧ p ≤ 21)) (h1 : p > 0) (h2 : p ≤ 21) : formP D p = (D.take p.toNat ++ [46]) ++ D.drop p.toNat := by unfold formP; rw [if_neg h, if_pos ⟨h1, h2⟩]
theorem form_c (h : ¬ (p ≥ (D.length : Int) ∧ p ≤ 21)) (h1 : p > -6) (h2 : p ≤ 0) : formP D p = ([48, 46] ++ Lib.repeatL [48] (-p).toNat) ++ D := by unfold formP; rw [if_neg h, if_neg (by omega), if_pos ⟨h1, h2⟩]
theorem form_d (h : ¬ (p ≥ (D.length : Int) ∧ p ≤ 21)) (h1 : ¬ (p > 0 ∧ p ≤ 21)) (h2 : ¬ (p > -6 ∧ p ≤ 0)) (h3 : p > 0) : formP D p = (expo D ++ [101, 43]) ++ Lib.itoa (p - 1) := by unfold formP; rw [if_neg h, if_neg h1, if_neg h2]; simp only []; rw [if_pos h3]; rfl
theorem form_e (h : ¬ (p ≥ (D.length : Int) ∧ p ≤ 21)) (h1 : ¬ (p > 0 ∧ p ≤ 21)) (h2 : ¬ (p > -6 ∧ p ≤ 0)) (h3 : ¬ p > 0) : formP D p = (expo D ++ [101]) ++ Lib.itoa (p - 1) := by unfold formP; rw [if_neg h, if_neg h1, if_neg h2]; simp only []; rw [if_neg h3]; rfl
theorem expo_t (h : (D.length : Int) > 1) : expo D = (D.take 1 ++ [46]) ++ D.drop 1 := by unfold expo; rw [if_pos h]
theorem expo_f (h : ¬ (D.length : Int) > 1) : expo D = D := by unfold expo; rw [if_neg h]
end
def capE : Nat := 1024
def capB : Nat := 4294967296 ^ capE
theorem cap_len {x : Nat} (h : x < capB) : (lim x).length ≤ 1048576 := Nat.le_trans (lim_len_lt (k := capE) h) (by decide)
theorem cap_small {x : Nat} (h : x < 18446744073709551616) : (lim x).length ≤ 1048576 := Nat.le_trans (lim_len_lt (k := 2) (by omega)) (by decide)
theorem pow_le {k K : Nat} (h : k ≤ K) : 2 ^ k ≤ 2 ^ K := Nat.pow_le_pow_right (by decide) h
theorem cap_room : ∃ K C : Nat, K = 1100 ∧ C = 2 ^ K ∧ C * 1000000000000000000000000000000 < capB := by
 obtain ⟨K, hK⟩ : ∃ K : Nat, K = 1100 := ⟨_, rfl⟩
 refine ⟨K, 2 ^ K, hK, rfl, ?_⟩
 have h1 : (1000000000000000000000000000000 : Nat) ≤ 2 ^ 100 := by decide
 have h2 : 2 ^ K * 1000000000000000000000000000000 ≤ 2 ^ K * 2 ^ 100 := Nat.mul_le_mul_left _ h1
 rw [← Nat.pow_add] at h2
 have h3 : capB = 2 ^ (32 * capE) := by unfold capB; rw [show 4294967296 = 2 ^ 32 from rfl, ← Nat.pow_mul]
 rw [h3]
 exact Nat.lt_of_le_of_lt h2 (Nat.pow_lt_pow_right (by decide) (by rw [show capE = 1024 from rfl]; omega))
theorem manP_lt (a : Nat) : manP a < 9007199254740992 := by unfold manP; split <;> omega
theorem manP_pos {a : Nat} (h : 0 < a) : 0 < manP a := by unfold manP; split <;> omega
theorem expP_in {a : Nat} (h : a < 9218868437227405312) : 1 ≤ expP a ∧ expP a ≤ 2046 := by unfold expP; split <;> omega
theorem nearP_in (a : Nat) : nearP a = 1 ∨ nearP a = 2 := by unfold nearP; split; exact .inr rfl; exact .inl rfl
theorem openS_in {a K C : Nat} (h0 : 0 < a) (h : a < 9218868437227405312) (hK : K = 1100) (hC : C = 2 ^ K) : (openS a).r ≤ C ∧ (openS a).u ≤ C ∧ (openS a).a ≤ C ∧ (openS a).b ≤ (openS a).a ∧ 0 < (openS a).u ∧ 0 < (openS a).r := by
 obtain ⟨e1, e2⟩ := expP_in h
 have hm := manP_lt a
 have hm0 := manP_pos h0
 have hn := nearP_in a
 replace hC := Nat.le_of_eq hC.symm
 have hp : manP a * 2 ^ (expP a - 1075 + nearP a) ≤ 2 ^ 53 * 2 ^ (expP a - 1075 + nearP a) := Nat.mul_le_mul_right _ (by omega)
 rw [← Nat.pow_add] at hp
 refine ⟨Nat.le_trans hp (Nat.le_trans (pow_le (by omega)) hC), ?_, ?_, ?_, ?_, ?_⟩
 · show 1 * 2 ^ _ ≤ C; rw [Nat.one_mul]; exact Nat.le_trans (pow_le (by omega)) hC
 · show 1 * 2 ^ _ ≤ C; rw [Nat.one_mul]; exact Nat.le_trans (pow_le (by omega)) hC
 · show 1 * 2 ^ _ ≤ 1 * 2 ^ _; rw [Nat.one_mul, Nat.one_mul]; exact pow_le (by omega)
 · show 0 < 1 * 2 ^ _; rw [Nat.one_mul]; exact Nat.two_pow_pos _
 · show 0 < manP a * 2 ^ _; exact Nat.mul_pos hm0 (Nat.two_pow_pos _)
theorem and52 (m : Nat) (h : m < 18446744073709551616) : IntKind.wrap .u64 ((BitVec.ofInt 64 (m : Int) &&& BitVec.ofInt 64 4503599627370495).toNat) = ((m % 4503599627370496 : Nat) : Int) := by
 have e : (BitVec.ofInt 64 (m : Int) &&& BitVec.ofInt 64 4503599627370495).toNat = m % 4503599627370496 := by
   rw [BitVec.toNat_and, show (BitVec.ofInt 64 4503599627370495).toNat = 2 ^ 52 - 1 from rfl, Nat.and_two_pow_sub_one_eq_mod]
   simp [BitVec.toNat_ofInt]
 rw [e, wrap64]
 omega
theorem or52 {m : Nat} (h : m < 4503599627370496) : IntKind.wrap .u64 ((BitVec.ofInt 64 (m : Int) ||| BitVec.ofInt 64 4503599627370496).toNat) = ((m + 4503599627370496 : Nat) : Int) := by
 have := or_apart64 (a := 1) (b := m) (s := 52) (by omega) (by omega)
 rw [show ((1 * 2 ^ 52 : Nat) : Int) = 4503599627370496 from rfl, show 1 * 2 ^ 52 + m = m + 4503599627370496 by omega] at this
 exact this
theorem sized64 (m : Nat) (h : m < 18446744073709551616) : IntKind.wrap .u64 ((BitVec.ofInt 64 (m : Int) &&& ~~~ BitVec.ofInt 64 9223372036854775808).toNat) = ((m % 9223372036854775808 : Nat) : Int) := by
 have e : (BitVec.ofInt 64 (m : Int) &&& ~~~ BitVec.ofInt 64 9223372036854775808).toNat = m % 9223372036854775808 := by
   rw [BitVec.toNat_and, show (~~~ BitVec.ofInt 64 9223372036854775808).toNat = 2 ^ 63 - 1 from rfl, Nat.and_two_pow_sub_one_eq_mod]
   simp [BitVec.toNat_ofInt]
 rw [e, wrap64]
 omega
section
variable {f : Nat} {s : SpanP} {p : Int} {m : Bytes}
theorem upF_go (h : highB s = true) : upF (f + 1) s p = upF f ⟨s.r, s.u * 10, s.a, s.b, s.ends⟩ (p + 1) := by conv => lhs; unfold upF; rw [if_pos h]
theorem upF_no (h : highB s = false) : upF (f + 1) s p = (s, p) := by unfold upF; rw [if_neg (by rw [h]; decide)]
theorem dnF_go (h : highB (tenS s) = false) : dnF (f + 1) s p = dnF f (tenS s) (p - 1) := by conv => lhs; unfold dnF; rw [if_neg (by rw [h]; decide)]
theorem dnF_no (h : highB (tenS s) = true) : dnF (f + 1) s p = (s, p) := by unfold dnF; rw [if_pos h]
theorem genF_go (h1 : lowB (restS s) = false) (h2 : highB (restS s) = false) : genF (f + 1) s m = genF f (restS s) (m ++ Lib.itoa (digS s : Int)) := by conv => lhs; unfold genF; rw [if_pos ⟨h1, h2⟩]
theorem genF_up (h : ¬ (lowB (restS s) = false ∧ highB (restS s) = false)) (h1 : upD (restS s) (digS s) = true) : genF (f + 1) s m = m ++ Lib.itoa ((digS s : Int) + 1) := by unfold genF; rw [if_neg h, if_pos h1]
theorem genF_dn (h : ¬ (lowB (restS s) = false ∧ highB (restS s) = false)) (h1 : upD (restS s) (digS s) = false) : genF (f + 1) s m = m ++ Lib.itoa (digS s : Int) := by unfold genF; rw [if_neg h, if_neg (by rw [h1]; decide)]
theorem high_ge (h : highB s = true) : s.u ≤ s.r + s.a := by
 unfold highB cmpN at h
 simp at h
 split at h
 · omega
 · omega
theorem high_lt (h : highB s = false) : s.r + s.a ≤ s.u := by
 unfold highB cmpN at h
 simp at h
 split at h
 · omega
 · split at h
   · simp at h
   · omega
theorem dig_end {T u d r : Nat} (h : r + d * u = T) (hr : r < u) : r = T % u ∧ d = T / u := by
 have hu : 0 < u := by omega
 subst h
 exact ⟨by rw [Nat.add_mul_mod_self_right, Nat.mod_eq_of_lt hr], by rw [Nat.add_mul_div_right _ _ hu, Nat.div_eq_of_lt hr]; omega⟩
theorem pow2_le {n K C x : Nat} (hK : K = 1100) (hC : C = 2 ^ K) (h : 2 ^ n ≤ x) (hx : x ≤ 20 * C) : n ≤ 1104 := by
 apply Classical.byContradiction
 intro hn
 have h1 : 2 ^ (K + 5) ≤ 2 ^ n := pow_le (by omega)
 rw [Nat.pow_add, ← hC] at h1
 have h2 : 0 < C := by rw [hC]; exact Nat.two_pow_pos _
 omega
theorem pow2_up {n x : Nat} (h : 2 ^ n ≤ x) : 2 ^ (n + 1) ≤ x * 10 := by rw [Nat.pow_succ]; omega
theorem dig_in {x d u T : Nat} (hu : 0 < u) (h : x + d * u = T) (hT : T ≤ 10 * u) : d ≤ 10 := Nat.le_of_mul_le_mul_right (Nat.le_trans (by omega : d * u ≤ T) hT) hu
theorem dig_rng {n : Nat} (h : n ≤ 10) : ((-9223372036854775808 : Int) ≤ (n : Int) ∧ (n : Int) ≤ 9223372036854775807) ∧ ((-9223372036854775808 : Int) ≤ (n : Int) + 1 ∧ (n : Int) + 1 ≤ 9223372036854775807) := by omega
theorem par1 {n : Nat} (h : (n : Int) % 2 = 1) : n % 2 = 1 := by omega
theorem par0 {n : Nat} (h : ¬ (n : Int) % 2 = 1) : ¬ n % 2 = 1 := by omega
theorem dig_more {x d u T : Nat} (h : x + d * u = T) (hx : u ≤ x) : (x - u) + (d + 1) * u = T := by rw [Nat.succ_mul]; omega
theorem grow_in {C i x : Nat} (h : x ≤ 20 * C * 10 ^ i) (hi : i < 20) : x * 10 ≤ 20 * C * 10 ^ (i + 1) ∧ x * 10 ≤ C * 2000000000000000000000 := by
 have h1 : x * 10 ≤ 20 * C * 10 ^ (i + 1) := by rw [Nat.pow_succ, ← Nat.mul_assoc]; exact Nat.mul_le_mul_right 10 h
 have h2 : (10 : Nat) ^ (i + 1) ≤ 10 ^ 20 := Nat.pow_le_pow_right (by decide) (by omega)
 have h3 : 20 * C * 10 ^ (i + 1) ≤ 20 * C * 10 ^ 20 := Nat.mul_le_mul_left _ h2
 refine ⟨h1, Nat.le_trans h1 (Nat.le_trans h3 ?_)⟩
 rw [show (10 : Nat) ^ 20 = 100000000000000000000 from rfl]
 omega
end
end Go.Proofs.YtnhmmjogfkjceaaGreatDoor
namespace Go.Proofs.YtnhmmjogfkjceaaGreatDoor
open Go.Sl
abbrev isBl (c : UInt8) : Bool := [9, 10, 32].contains c
theorem alive_print : printP 4599075939470750516 = [48, 46, 51, 48, 48, 48, 48, 48, 48, 48, 48, 48, 48, 48, 48, 48, 48, 48, 52] := by kernel_rfl
theorem alive_lit : litP [48, 120, 49, 48] = (4625196817309499392, true) := by kernel_rfl
theorem alive_read : readP [32, 49, 46, 53, 10] = 4609434218613702656 := by kernel_rfl
theorem dropWhile_app {p : UInt8 → Bool} : ∀ {P : Bytes} (X : Bytes), (∀ c ∈ P, p c = true) → (P ++ X).dropWhile p = X.dropWhile p
 | [], _, _ => rfl
 | c :: r, X, h => by rw [List.cons_append, List.dropWhile_cons, if_pos (h c (List.mem_cons_self ..))]; exact dropWhile_app X fun d hd => h d (List.mem_cons_of_mem _ hd)
theorem dropWhile_app2 {p : UInt8 → Bool} : ∀ {X : Bytes} (Q : Bytes), X.dropWhile p ≠ [] → (X ++ Q).dropWhile p = X.dropWhile p ++ Q
 | [], _, h => absurd rfl h
 | c :: r, Q, h => by
   by_cases hc : p c = true
   · rw [List.cons_append, List.dropWhile_cons, if_pos hc, List.dropWhile_cons, if_pos hc]
     rw [List.dropWhile_cons, if_pos hc] at h
     exact dropWhile_app2 Q h
   · rw [List.cons_append, List.dropWhile_cons, if_neg hc, List.dropWhile_cons, if_neg hc]; rfl
theorem trimR_app {X Q : Bytes} (h : ∀ c ∈ Q, isBl c = true) : Lib.trimRightS (X ++ Q) [9, 10, 32] = Lib.trimRightS X [9, 10, 32] := by
 unfold Lib.trimRightS
 rw [List.reverse_append, dropWhile_app _ fun c hc => h c (List.mem_reverse.1 hc)]
theorem trimR_ne {X Y : Bytes} (h : Lib.trimRightS X [9, 10, 32] ≠ []) : Lib.trimRightS (Y ++ X) [9, 10, 32] = Y ++ Lib.trimRightS X [9, 10, 32] := by
 unfold Lib.trimRightS at h ⊢
 rw [List.reverse_append, dropWhile_app2 _ (by intro q; exact h (by rw [q]; rfl)), List.reverse_append, List.reverse_reverse]
theorem all_of_dropWhile {p : UInt8 → Bool} {X : Bytes} (h : X.dropWhile p = []) : ∀ c ∈ X, p c = true := by rw [dropWhile_nil_iff, List.all_eq_true] at h; exact h
theorem trimR_nil {X : Bytes} (h : Lib.trimRightS X [9, 10, 32] = []) : ∀ c ∈ X, isBl c = true := by
 unfold Lib.trimRightS at h
 have h1 : X.reverse.dropWhile ([9, 10, 32].contains ·) = [] := by simpa using h
 intro c hc
 exact all_of_dropWhile h1 c (List.mem_reverse.2 hc)
theorem trim_pre {P X : Bytes} (h : ∀ c ∈ P, isBl c = true) : Lib.trimS (P ++ X) [9, 10, 32] = Lib.trimS X [9, 10, 32] := by
 unfold Lib.trimS
 by_cases hn : Lib.trimRightS X [9, 10, 32] = []
 · have h1 : ∀ c ∈ P ++ X, isBl c = true := fun c hc => (List.mem_append.1 hc).elim (h c) (trimR_nil hn c)
   have h2 : Lib.trimRightS (P ++ X) [9, 10, 32] = [] := by
     have := trimR_app (X := []) h1
     rw [List.nil_append] at this
     exact this
   rw [hn, h2]
 · rw [trimR_ne hn]
   unfold Lib.trimLeftS
   exact dropWhile_app _ h
theorem trim_post {X Q : Bytes} (h : ∀ c ∈ Q, isBl c = true) : Lib.trimS (X ++ Q) [9, 10, 32] = Lib.trimS X [9, 10, 32] := by unfold Lib.trimS; rw [trimR_app h]
section
variable {c : UInt8} {X : Bytes}
end
section
open Go
variable {P : Program} {ρ : Fr} {dst : Option Tmp} {t t2 ty : TypeId} {x y : Operand} {pos : String} {after : Array Edge} {gd : Option (Nat × Bool)} {m c : Int}
end
end Go.Proofs.YtnhmmjogfkjceaaGreatDoor
namespace Go.Proofs.YtnhmmjogfkjceaaGreatDoor
open Go.Sl
theorem dig_of {u : Nat} (h : u < 10) : isDig (UInt8.ofNat (48 + u)) = true ∧ (UInt8.ofNat (48 + u)).toNat = 48 + u := by
 have e : (UInt8.ofNat (48 + u)).toNat = 48 + u := by rw [UInt8.toNat_ofNat']; omega
 exact ⟨by unfold isDig; rw [e]; exact decide_eq_true (by omega), e⟩
theorem isDig_in {c : UInt8} (h : isDig c = true) : 48 ≤ c.toNat ∧ c.toNat ≤ 57 := by unfold isDig at h; exact of_decide_eq_true h
theorem isDig_ne {c : UInt8} (h : isDig c = true) : c ≠ 43 ∧ c ≠ 45 ∧ c ≠ 46 ∧ c ≠ 101 ∧ c ≠ 69 ∧ c ≠ 73 ∧ c ≠ 120 ∧ c ≠ 88 := by
 have := isDig_in h
 refine ⟨?_, ?_, ?_, ?_, ?_, ?_, ?_, ?_⟩ <;> (rintro rfl; exact absurd this (by decide))
theorem ofD_first {c : UInt8} {r : Bytes} (h : 49 ≤ c.toNat) : 0 < ofD (c :: r) := by
 have := ofD_ge r (0 * 10 + (c.toNat - 48))
 show 0 < r.foldl _ (0 * 10 + (c.toNat - 48))
 omega
section
variable {D : Bytes} (hD : ∀ c ∈ D, isDig c = true) (hn : D ≠ []) {z : Int} (h1 : -1099511627776 ≤ z) (h2 : z ≤ 1099511627776)
include hD hn h1 h2
end
end Go.Proofs.YtnhmmjogfkjceaaGreatDoor
namespace Go.Proofs.YtnhmmjogfkjceaaGreatDoor
open Go.Sl
def digC (d : Nat) : UInt8 := UInt8.ofNat (48 + d)
theorem digC_dig {d : Nat} (h : d < 10) : isDig (digC d) = true ∧ (digC d).toNat = 48 + d := dig_of h
structure Ends (s : SpanP) (m m' : Bytes) (k M r1 d : Nat) : Prop where
  len : m'.length = m.length + k + 1
  digs : (∀ c ∈ m, isDig c = true) → ∀ c ∈ m', isDig c = true
  cut : ∃ Q, m' = Q ++ [digC d] ∧ Q.length = m.length + k ∧ ofD Q = ofD m * 10 ^ k + M
  rest : s.r * 10 ^ k = M * s.u + r1
  less : r1 < s.u
  low : lowB ⟨r1, s.u, s.a * 10 ^ k, s.b * 10 ^ k, s.ends⟩ = false
  high : highB ⟨r1, s.u, s.a * 10 ^ k, s.b * 10 ^ k, s.ends⟩ = false
  dig : 1 ≤ d ∧ d ≤ 9
  stop : (d * s.u ≤ r1 * 10 ∧ (r1 * 10 - d * s.u < s.b * 10 ^ (k + 1) ∨ (r1 * 10 - d * s.u = s.b * 10 ^ (k + 1) ∧ s.ends = true))) ∨ (r1 * 10 ≤ d * s.u ∧ (d * s.u - r1 * 10 < s.a * 10 ^ (k + 1) ∨ (d * s.u - r1 * 10 = s.a * 10 ^ (k + 1) ∧ s.ends = true)))
theorem a_parts (a : Nat) : a = (expP a - 1) * 4503599627370496 + manP a ∧ manP a < 9007199254740992 ∧ (expP a - 1 = 0 ∨ 4503599627370496 ≤ manP a) := by
 unfold expP manP
 split <;> omega
section
variable {a S W q : Nat} (h0 : 0 < a) (ha : a < 9218868437227405312) (hS : S = 1074) (hq : 0 < q)
include h0 ha hS hq
end
theorem ofD_cons (c : UInt8) (l : Bytes) : ofD (c :: l) = (c.toNat - 48) * 10 ^ l.length + ofD l := by
 have h : ∀ (l : Bytes) (x : Nat), l.foldl (fun a c => a * 10 + (c.toNat - 48)) x = x * 10 ^ l.length + l.foldl (fun a c => a * 10 + (c.toNat - 48)) 0 := by
   intro l
   induction l with
   | nil => intro x; simp
   | cons c r ih =>
     intro x
     rw [List.foldl_cons, List.foldl_cons, ih, ih (0 * 10 + (c.toNat - 48)), List.length_cons, Nat.pow_succ, Nat.add_mul, Nat.mul_assoc x 10, Nat.mul_comm 10, Nat.zero_mul, Nat.zero_add, Nat.add_assoc]
 show l.foldl _ (0 * 10 + (c.toNat - 48)) = _
 rw [h, Nat.zero_mul, Nat.zero_add]
 rfl
theorem ofD_lead {c : UInt8} {r : Bytes} (hc : 49 ≤ c.toNat) : 10 ^ r.length ≤ ofD (c :: r) := by
 rw [ofD_cons]
 have := Nat.mul_le_mul_right (10 ^ r.length) (show 1 ≤ c.toNat - 48 by omega)
 omega
structure Short (a S : Nat) (D : Bytes) (p : Int) (i j k M d : Nat) (Q : Bytes) : Prop where
  pow : p = (i : Int) - j
  cut : D = Q ++ [digC d]
  len : Q.length = k
  few : k < 20
  digs : ∀ c ∈ D, isDig c = true
  worth : ofD Q = M
  last : 1 ≤ d ∧ d ≤ 9
  lead : 0 < k → 10 ^ (k - 1) ≤ M
  near : isRN (ofD D * 10 ^ i * 2 ^ S) (10 ^ (j + k + 1)) a
  less : ¬ isRN (M * 10 ^ i * 2 ^ S) (10 ^ (j + k)) a
  more : ¬ isRN ((M + 1) * 10 ^ i * 2 ^ S) (10 ^ (j + k)) a
end Go.Proofs.YtnhmmjogfkjceaaGreatDoor
namespace Go.Proofs.YtnhmmjogfkjceaaGreatDoor
open Go.Sl
theorem ten_310 {e : Nat} (h : e ≤ 1025) : ∃ k, k = 310 ∧ 2 ^ e ≤ 10 ^ k := by
 obtain ⟨m, hm⟩ : ∃ m : Nat, m = 5 := ⟨_, rfl⟩
 refine ⟨62 * m, by omega, ?_⟩
 refine Nat.le_trans (Nat.pow_le_pow_right (by decide) (show e ≤ 205 * m by omega)) ?_
 rw [Nat.pow_mul, Nat.pow_mul]
 exact Nat.pow_le_pow_left (by decide) m
theorem ten_330 {e : Nat} (h : e ≤ 1090) : ∃ k, k = 330 ∧ 2 ^ e ≤ 10 ^ k := by
 obtain ⟨m, hm⟩ : ∃ m : Nat, m = 10 := ⟨_, rfl⟩
 refine ⟨33 * m, by omega, ?_⟩
 refine Nat.le_trans (Nat.pow_le_pow_right (by decide) (show e ≤ 109 * m by omega)) ?_
 rw [Nat.pow_mul, Nat.pow_mul]
 exact Nat.pow_le_pow_left (by decide) m
def okC (x : UInt8) : Prop := isDig x = true ∨ x = 46 ∨ x = 101 ∨ x = 43 ∨ x = 45
theorem okC.ne {x : UInt8} (h : okC x) : x ≠ 120 ∧ x ≠ 88 ∧ x ≠ 73 := by
 rcases h with q | q | q | q | q
 · have := isDig_ne q; exact ⟨this.2.2.2.2.2.2.1, this.2.2.2.2.2.2.2, this.2.2.2.2.2.1⟩
 all_goals (subst q; decide)
def Tail (T : Bytes) (z : Int) : Prop := (T = [] ∧ z = 0) ∨ ∃ r, T = 101 :: r ∧ powN 0 ((wayP r).2.takeWhile isDig) * (wayP r).1 = z ∧ (wayP r).2.takeWhile isDig ≠ [] ∧ (wayP r).2.dropWhile isDig = [] ∧ ∀ x ∈ r, okC x ∧ x ≠ 46
theorem Tail.ok {T : Bytes} {z : Int} (h : Tail T z) : ∀ x ∈ T, okC x := by
 rcases h with ⟨h, _⟩ | ⟨r, h, _, _, _, hr⟩
 · rw [h]; intro x hx; cases hx
 · rw [h]; intro x hx
   rcases List.mem_cons.1 hx with q | q
   · exact .inr (.inr (.inl q))
   · exact (hr x q).1
section
variable {a S : Nat} {D : Bytes} {p : Int} {i j k M d : Nat} {Q : Bytes} (hS : S = 1074) (h0 : 0 < a) (ha : a < 9218868437227405312) (h : Short a S D p i j k M d Q)
include h
theorem Short.length : D.length = k + 1 := by rw [h.cut, List.length_append, h.len]; rfl
theorem Short.first : ∃ c r, D = c :: r ∧ 49 ≤ c.toNat ∧ isDig c = true := by
  have hd := h.digs
  have hc := h.cut
  cases hQ : Q with
  | nil =>
    rw [hQ] at hc
    have := digC_dig (d := d) (by have := h.last; omega)
    exact ⟨digC d, [], by rw [hc]; rfl, by rw [this.2]; have := h.last; omega, this.1⟩
  | cons c r =>
    rw [hQ, List.cons_append] at hc
    have hcd : isDig c = true := hd c (by rw [hc]; exact List.mem_cons_self ..)
    have hl := h.len
    have hw := h.worth
    rw [hQ] at hl hw
    have hk : k = r.length + 1 := hl.symm
    have hlead := h.lead (by omega)
    rw [← hw, hk, Nat.add_sub_cancel, ofD_cons] at hlead
    have hlt := ofD_lt _ r rfl fun x hx => isDig_in (hd x (by rw [hc]; exact List.mem_cons_of_mem _ (List.mem_append.2 (.inl hx))))
    refine ⟨c, _, hc, ?_, hcd⟩
    have hc2 := isDig_in hcd
    rcases Nat.lt_or_ge 48 c.toNat with q | q
    · exact q
    · rw [show c.toNat - 48 = 0 by omega, Nat.zero_mul, Nat.zero_add] at hlead
      omega
include hS h0 ha
theorem Short.range : -400 ≤ p ∧ p ≤ 400 := by
 obtain ⟨c, r, hD, hc, -⟩ := h.first
 have hlen := h.length
 have hr : r.length = k := by rw [hD] at hlen; simpa using hlen
 have hlo : 10 ^ k ≤ ofD D := by rw [hD, ← hr]; exact ofD_lead hc
 have hhi := ofD_lt _ D rfl fun x hx => isDig_in (h.digs x hx)
 rw [hlen] at hhi
 have hp := h.pow
 have q10 : ∀ n : Nat, 0 < 10 ^ n := fun n => Nat.pow_pos (by decide)
 have q2 : ∀ n : Nat, 0 < 2 ^ n := fun n => Nat.two_pow_pos n
 apply Classical.byContradiction
 intro hn
 rcases Int.lt_or_le 400 p with hb | hb
 · have : isRN (ofD D * 10 ^ i * 2 ^ S) (10 ^ (j + k + 1)) 9218868437227405312 := by
     apply isRN_inf (q10 _)
     obtain ⟨n, hn, hv⟩ := valF_inf
     obtain ⟨t, ht, hp2⟩ := ten_310 (e := n - S) (by omega)
     rw [hv, show n = (n - S) + S by omega, Nat.pow_add 2, ← Nat.mul_assoc]
     refine Nat.mul_le_mul_right _ ?_
     refine Nat.le_trans (Nat.mul_le_mul_left _ hp2) ?_
     rw [← Nat.pow_add]
     refine Nat.le_trans ?_ (Nat.mul_le_mul_right _ hlo)
     rw [← Nat.pow_add]
     exact Nat.pow_le_pow_right (by decide) (by omega)
   have := isRN_uniq (q10 _) h.near this
   omega
 · have : isRN (ofD D * 10 ^ i * 2 ^ S) (10 ^ (j + k + 1)) 0 := by
     apply isRN_none
     obtain ⟨t, ht, hp2⟩ := ten_330 (e := S + 1) (by omega)
     have e1 : 2 * (ofD D * 10 ^ i * 2 ^ S) = ofD D * 10 ^ i * 2 ^ (S + 1) := by rw [Nat.pow_succ, Nat.mul_left_comm, Nat.mul_comm 2]
     have e2 : ofD D * 10 ^ i * 2 ^ (S + 1) < 10 ^ (k + 1) * 10 ^ i * 2 ^ (S + 1) := Nat.mul_lt_mul_of_pos_right (Nat.mul_lt_mul_of_pos_right hhi (q10 _)) (q2 _)
     have e3 : 10 ^ (k + 1) * 10 ^ i * 2 ^ (S + 1) ≤ 10 ^ (k + 1) * 10 ^ i * 10 ^ t := Nat.mul_le_mul_left _ hp2
     rw [← Nat.pow_add, ← Nat.pow_add] at e3
     have e4 : (10 : Nat) ^ (k + 1 + i + t) ≤ 10 ^ (j + k + 1) := Nat.pow_le_pow_right (by decide) (by omega)
     rw [← Nat.pow_add] at e2
     omega
   have := isRN_uniq (q10 _) h.near this
   omega
end
end Go.Proofs.YtnhmmjogfkjceaaGreatDoor
namespace Go.Proofs.YtnhmmjogfkjceaaGreatDoor
open Go.Sl
theorem expP_pos (a : Nat) : 1 ≤ expP a := by unfold expP; split <;> omega
theorem valF_man (a : Nat) : valF a = manP a * 2 ^ (expP a - 1) := by
 obtain ⟨q1, q2, q3⟩ := a_parts a
 have := valF_mk (K := expP a - 1) (g := manP a) (by omega) q3
 rw [← q1] at this
 exact this
theorem valF_man1 (a : Nat) : valF a + valF (a + 1) = (2 * manP a + 1) * 2 ^ (expP a - 1) := by
 obtain ⟨q1, q2, q3⟩ := a_parts a
 have h1 : valF (a + 1) = (manP a + 1) * 2 ^ (expP a - 1) := by
   rw [show a + 1 = (expP a - 1) * 4503599627370496 + (manP a + 1) by omega]; exact valF_mk (by omega) (by omega)
 rw [valF_man, h1, ← Nat.add_mul]
 congr 1
 omega
theorem cmp_iff (a b : Nat) : (0 ≤ cmpN a b ↔ b ≤ a) ∧ (0 < cmpN a b ↔ b < a) ∧ (cmpN a b = 0 ↔ a = b) := by
 unfold cmpN
 split
 · omega
 · split <;> omega
def againstP (p q m : Nat) (e : Int) : Int := cmpN (p * 2 ^ (-e).toNat) (q * 2 ^ e.toNat * m)
theorem against_cmp {p q m x y : Nat} {e : Int} (h : (-e).toNat + y = x + e.toNat) : (0 ≤ againstP p q m e ↔ q * m * 2 ^ y ≤ p * 2 ^ x) ∧ (0 < againstP p q m e ↔ q * m * 2 ^ y < p * 2 ^ x) ∧ (againstP p q m e = 0 ↔ q * m * 2 ^ y = p * 2 ^ x) := by
 unfold againstP
 have h1 := cmp_iff (p * 2 ^ (-e).toNat) (q * 2 ^ e.toNat * m)
 rw [Nat.mul_right_comm q] at h1 ⊢
 have a1 := pow_cmp (A := q * m) (B := p) (x := e.toNat) (y := (-e).toNat) (x' := y) (y' := x) (by omega)
 have a2 := pow_cmp (A := p) (B := q * m) (x := (-e).toNat) (y := e.toNat) (x' := x) (y' := y) (by omega)
 have a3 := pow_cmp_eq (A := q * m) (B := p) (x := e.toNat) (y := (-e).toNat) (x' := y) (y' := x) (by omega)
 rw [h1.1, h1.2.1, h1.2.2, a1]
 refine ⟨?_, Iff.rfl, ?_⟩
 · rw [← Nat.not_lt, a2, Nat.not_lt]
 · rw [eq_comm, a3]
theorem against_val {p q a S : Nat} (hS : S = 1074) : 0 ≤ againstP p q (manP a) ((expP a : Int) - 1075) ↔ q * valF a ≤ p * 2 ^ S := by
 have h := expP_pos a
 rw [(against_cmp (x := S) (y := expP a - 1) (by omega)).1, valF_man, Nat.mul_assoc]
theorem against_mid {p q a S : Nat} (hS : S = 1074) : (0 < againstP p q (2 * manP a + 1) ((expP a : Int) - 1075 - 1) ↔ q * (valF a + valF (a + 1)) < 2 * (p * 2 ^ S)) ∧ (againstP p q (2 * manP a + 1) ((expP a : Int) - 1075 - 1) = 0 ↔ q * (valF a + valF (a + 1)) = 2 * (p * 2 ^ S)) := by
 have h := expP_pos a
 have h1 := against_cmp (p := p) (q := q) (m := 2 * manP a + 1) (e := (expP a : Int) - 1075 - 1) (x := S + 1) (y := expP a - 1) (by omega)
 rw [valF_man1, h1.2.1, h1.2.2, Nat.mul_assoc, show p * 2 ^ (S + 1) = 2 * (p * 2 ^ S) by rw [Nat.pow_succ, ← Nat.mul_assoc, Nat.mul_comm]]
 exact ⟨Iff.rfl, Iff.rfl⟩
theorem near10_end {p q a S : Nat} {up : Prop} [Decidable up] (hp : 0 < p) (hq : 0 < q) (hS : S = 1074) (hb : bitsN p ≤ 4900) (hb2 : bitsN q ≤ 4900) (ha : a < 9218868437227405312) (h3 : q * valF a ≤ p * 2 ^ S)
   (h4 : 9218868437227405312 ≤ a + 1 ∨ p * 2 ^ S < q * valF (a + 1)) (hup : up ↔ (0 < againstP p q (2 * manP a + 1) ((expP a : Int) - 1075 - 1) ∨ (againstP p q (2 * manP a + 1) ((expP a : Int) - 1075 - 1) = 0 ∧ a % 2 = 1))) :
   roundN p q = if up then a + 1 else a := by
 refine isRN_uniq hq (round_spec hp hq hS hb hb2) ?_
 rw [(against_mid hS).1, (against_mid hS).2] at hup
 by_cases h5 : p * 2 ^ S < q * valF (a + 1)
 · have h6 := isRN_between hq ha h3 h5
   by_cases hu : up
   · rw [if_pos (hup.1 hu)] at h6; rw [if_pos hu]; exact h6
   · rw [if_neg fun z => hu (hup.2 z)] at h6; rw [if_neg hu]; exact h6
 · have h7 : a + 1 = 9218868437227405312 := by omega
   have h8 : up := hup.2 (.inl (by
     have : q * valF a < q * valF (a + 1) := Nat.mul_lt_mul_of_pos_left (valF_lt a) hq
     rw [Nat.mul_add]; omega))
   rw [if_pos h8, h7]
   rw [h7] at h5
   exact isRN_inf hq (by omega)
theorem any_take {Y : Bytes} {i : Nat} {c : UInt8} (h : Y[i]? = some c) (hi : 800 ≤ i) : ((Y.take (i + 1)).drop 800).any (· != 48) = (((Y.take i).drop 800).any (· != 48) || (c != 48)) := by
 have hl := (List.getElem?_eq_some_iff.1 h).1
 rw [List.take_add_one, h, List.drop_append_of_le_length (by rw [List.length_take]; omega), List.any_append]
 simp
theorem cutD_lost {Y : Bytes} {P : Int} (h : Y.length > 800) (ha : (Y.drop 800).any (· != 48) = true) : cutD Y P = (Y.take 800 ++ [49], P + (Y.length : Int) - 800 - 1) := by
 unfold cutD; rw [if_pos h, if_pos ha]; congr 1; omega
theorem cutD_kept {Y : Bytes} {P : Int} (h : Y.length > 800) (ha : (Y.drop 800).any (· != 48) = false) : cutD Y P = (Y.take 800, P + (Y.length : Int) - 800) := by
 unfold cutD; rw [if_pos h, if_neg (by rw [ha]; decide)]; congr 1; omega
theorem strip_head {Y : Bytes} {c : UInt8} (h : Y[0]? = some c) (hc : c = 48) : (Y.drop 1).dropWhile (· == 48) = Y.dropWhile (· == 48) := by
 cases Y with
 | nil => cases h
 | cons d r => cases h; subst hc; rfl
theorem strip_stop {Y : Bytes} {c : UInt8} (h : Y[0]? = some c) (hc : c ≠ 48) : Y.dropWhile (· == 48) = Y := by
 cases Y with
 | nil => cases h
 | cons d r => cases h; rw [List.dropWhile_cons, if_neg (by simpa using hc)]
theorem cut_pos {L : Bytes} {P : Int} (hd : ∀ c ∈ L, 48 ≤ c.toNat ∧ c.toNat ≤ 57) (hs : L.dropWhile (· == 48) = L) (hne : (cutD L P).1 ≠ []) : 0 < ofD (cutD L P).1 := by
 cases L with
 | nil => exact absurd rfl hne
 | cons c r =>
   have hc : 49 ≤ c.toNat := by
     have h1 := hd c List.mem_cons_self
     rcases Nat.lt_or_ge 48 c.toNat with q | q
     · exact q
     · have : c = 48 := by apply UInt8.toNat_inj.1; show c.toNat = 48; omega
       subst this
       rw [List.dropWhile_cons, if_pos (by decide)] at hs
       have := dropWhile_len (· == 48) r
       rw [hs, List.length_cons] at this
       omega
   by_cases h : (c :: r).length > 800
   · by_cases ha : ((c :: r).drop 800).any (· != 48) = true
     · rw [cutD_lost h ha]; exact ofD_first hc
     · rw [cutD_kept h (by simpa using ha)]; exact ofD_first hc
   · rw [cutD_no h]; exact ofD_first hc
end Go.Proofs.YtnhmmjogfkjceaaGreatDoor
namespace Go.Proofs.YtnhmmjogfkjceaaGreatDoor
open Go.Sl
theorem bl_of {c : UInt8} (h : (c.toNat : Int) = 9 ∨ (c.toNat : Int) = 10 ∨ (c.toNat : Int) = 32) : isBl c = true := by
 rcases h with h | h | h
 · rw [(u8_eq (n := 9) (by decide)).1 h]; rfl
 · rw [(u8_eq (n := 10) (by decide)).1 h]; rfl
 · rw [(u8_eq (n := 32) (by decide)).1 h]; rfl
theorem bl_not {c : UInt8} (h1 : ¬ (c.toNat : Int) = 9) (h2 : ¬ (c.toNat : Int) = 10) (h3 : ¬ (c.toNat : Int) = 32) : isBl c = false := by
 have a1 : c ≠ 9 := fun q => h1 (by rw [q]; rfl)
 have a2 : c ≠ 10 := fun q => h2 (by rw [q]; rfl)
 have a3 : c ≠ 32 := fun q => h3 (by rw [q]; rfl)
 simp [isBl, a1, a2, a3]
theorem bl_head {Y : Bytes} {c : UInt8} (h : Y[0]? = some c) (hc : isBl c = true) : (Y.drop 1).dropWhile isBl = Y.dropWhile isBl := by
 rw [cons_of_at h, List.dropWhile_cons, if_pos hc, List.drop_one, List.tail_cons]
theorem bl_stop {Y : Bytes} {c : UInt8} (h : Y[0]? = some c) (hc : isBl c = false) : Y.dropWhile isBl = Y := by
 have := cons_of_at h
 rw [this, List.dropWhile_cons, if_neg (by rw [hc]; decide)]
theorem trim_dw (X : Bytes) : Lib.trimS (X.dropWhile isBl) [9, 10, 32] = Lib.trimS X [9, 10, 32] := by
 conv => rhs; rw [← List.takeWhile_append_dropWhile (p := isBl) (l := X)]
 exact (trim_pre fun c hc => takeWhile_all isBl hc).symm
theorem dw_head {X : Bytes} : ∀ c, (X.dropWhile isBl)[0]? = some c → isBl c = false := by
 intro c hc
 have h := List.head?_dropWhile_not isBl X
 rw [head_at hc] at h
 simpa using h
theorem bl_last {Y : Bytes} {c : UInt8} {n : Nat} (hn : n = Y.length - 1) (h : Y[n]? = some c) (hc : isBl c = true) : Lib.trimS (Y.take n) [9, 10, 32] = Lib.trimS Y [9, 10, 32] := by
 have e : Y = Y.take n ++ [c] := by
   have hl := (List.getElem?_eq_some_iff.1 h).1
   conv => lhs; rw [← List.take_length (l := Y), show Y.length = n + 1 by omega, List.take_add_one, h]
   rfl
 conv => rhs; rw [e]
 exact (trim_post fun d hd => by rw [List.mem_singleton.1 hd]; exact hc).symm
theorem head_take {Y : Bytes} {n : Nat} (hY : ∀ c, Y[0]? = some c → isBl c = false) : ∀ c, (Y.take n)[0]? = some c → isBl c = false := by
 intro c hc
 refine hY c ?_
 rw [List.getElem?_take] at hc
 split at hc
 · exact hc
 · cases hc
theorem trim_self {Y : Bytes} (h0 : ∀ c, Y[0]? = some c → isBl c = false) (h1 : Y = [] ∨ ∃ c n, n = Y.length - 1 ∧ Y[n]? = some c ∧ isBl c = false) : Lib.trimS Y [9, 10, 32] = Y := by
 rcases h1 with h1 | ⟨c, n, hn, hc, hb⟩
 · subst h1; rfl
 · have hl := (List.getElem?_eq_some_iff.1 hc).1
   have e : Y = Y.take n ++ [c] := by
     conv => lhs; rw [← List.take_length (l := Y), show Y.length = n + 1 by omega, List.take_add_one, hc]
     rfl
   have r1 : Lib.trimRightS Y [9, 10, 32] = Y := by
     unfold Lib.trimRightS
     conv => lhs; rw [e, List.reverse_append]
     rw [show ([c] : Bytes).reverse = [c] from rfl, List.singleton_append, List.dropWhile_cons, if_neg (by show ¬ isBl c = true; rw [hb]; decide), List.reverse_cons, List.reverse_reverse]
     exact e.symm
   unfold Lib.trimS
   rw [r1]
   unfold Lib.trimLeftS
   obtain ⟨d, hd⟩ : ∃ d, Y[0]? = some d := ⟨_, List.getElem?_eq_getElem (by omega)⟩
   exact bl_stop hd (h0 d hd)
theorem tw_step {X : Bytes} {i : Nat} {c : UInt8} (h : X[i]? = some c) (hc : isDig c = true) : ((X.drop i).takeWhile isDig).length = ((X.drop (i + 1)).takeWhile isDig).length + 1 := by
 rw [drop_at h, List.takeWhile_cons, if_pos hc]; rfl
theorem tw_stop {X : Bytes} {i : Nat} (h : X.length ≤ i ∨ ∃ c, X[i]? = some c ∧ isDig c = false) : ((X.drop i).takeWhile isDig).length = 0 := by
 rcases h with h | ⟨c, h, hc⟩
 · rw [List.drop_of_length_le h]; rfl
 · rw [drop_at h, List.takeWhile_cons, if_neg (by rw [hc]; decide)]; rfl
theorem dig_yes {c : UInt8} (h1 : (c.toNat : Int) ≥ 48) (h2 : (c.toNat : Int) ≤ 57) : isDig c = true := by unfold isDig; exact decide_eq_true (by omega)
theorem dig_no {c : UInt8} (h : ¬ ((c.toNat : Int) ≥ 48 ∧ (c.toNat : Int) ≤ 57)) : isDig c = false := by unfold isDig; exact decide_eq_false (by omega)
theorem drop_tw (X : Bytes) : X.drop (X.takeWhile isDig).length = X.dropWhile isDig := by
 conv => lhs; rw [← List.takeWhile_append_dropWhile (p := isDig) (l := X)]
 rw [List.takeWhile_append_dropWhile]
 conv => lhs; arg 2; rw [← List.takeWhile_append_dropWhile (p := isDig) (l := X)]
 rw [List.drop_left']
 rfl
theorem dot_iff {X : Bytes} (h : (decP X).2 = true) : 46 ∈ X ↔ ∃ r, X.dropWhile isDig = 46 :: r := by
 have e : X = X.takeWhile isDig ++ X.dropWhile isDig := (List.takeWhile_append_dropWhile ..).symm
 have h1 : (46 : UInt8) ∉ X.takeWhile isDig := fun q => by have := takeWhile_dig q; exact absurd this.1 (by decide)
 constructor
 · intro hm
   rw [e, List.mem_append] at hm
   rcases hm with hm | hm
   · exact absurd hm h1
   · cases hR : X.dropWhile isDig with
     | nil => rw [hR] at hm; cases hm
     | cons c r =>
       by_cases hc : c = 46
       · exact ⟨r, by rw [hc]⟩
       · exfalso
         have hf : fracP (X.dropWhile isDig) = ([], c :: r) := by rw [hR]; unfold fracP; split; · next q => injection q with q1 q2; exact absurd q1 hc
                                                                  · rfl
         by_cases ha : X.takeWhile isDig = []
         · rw [decP_none (A := X.takeWhile isDig) (B := []) rfl (by rw [hf]) ⟨ha, rfl⟩] at h; cases h
         · by_cases hx : c = 101 ∨ c = 69
           · rw [decP_pow (A := X.takeWhile isDig) (B := []) (R := c :: r) (c := c) (r := r) rfl (by rw [hf]) (by rw [hf]) (fun q => ha q.1) rfl hx] at h
             have h2 := of_decide_eq_true h
             rw [hR] at hm
             rcases List.mem_cons.1 hm with q | q
             · exact hc q.symm
             · -- 46 stands in r: neither a sign nor a digit
               have hr : r = (if r.head? = some 43 ∨ r.head? = some 45 then r.take 1 else []) ++ (wayP r).2 := by
                 cases r with
                 | nil => rfl
                 | cons d t =>
                   by_cases hd : d = 43 ∨ d = 45
                   · rw [wayP_at hd, if_pos (by rcases hd with rfl | rfl <;> simp)]; rfl
                   · rw [wayP_no hd, if_neg (by simpa using hd)]; rfl
               have hw : (46 : UInt8) ∉ (wayP r).2 := by
                 intro q2
                 rw [← List.takeWhile_append_dropWhile (p := isDig) (l := (wayP r).2), h2.2, List.append_nil] at q2
                 exact absurd (takeWhile_dig q2).1 (by decide)
               rw [hr, List.mem_append] at q
               rcases q with q | q
               · split at q
                 · next hh =>
                   cases r with
                   | nil => cases q
                   | cons d t =>
                     have : (46 : UInt8) = d := by simpa using q
                     subst this
                     simp at hh
                 · cases q
               · exact hw q
           · rw [decP_other (A := X.takeWhile isDig) (B := []) (R := c :: r) (c := c) (r := r) rfl (by rw [hf]) (by rw [hf]) (fun q => ha q.1) rfl (by constructor <;> (intro q; exact hx (by simp [q])))] at h
             cases h
 · rintro ⟨r, hr⟩
   rw [e, hr]
   simp
end Go.Proofs.YtnhmmjogfkjceaaGreatDoor
