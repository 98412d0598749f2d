/-
  What the functions of numbers as texts do, step by step: each theorem is one function's contract. Conditions: those that each theorem names.
-/
import Derived.Test.YtnhmmjogfkjceaaGreatDoorProg
import Derived.Test.YtnhmmjogfkjceaaGreatDoorM2
import Derived.Test.YtnhmmjogfkjceaaGreatDoorM1
set_option linter.unusedVariables false
set_option linter.unusedSimpArgs false
set_option maxRecDepth 100000
set_option maxHeartbeats 4000000
namespace Go.Proofs.YtnhmmjogfkjceaaGreatDoor
open Go.Sl

theorem num_Clone_nil {W0 : World}  : SC Tryz.prog W0 122 #[.slice none 0 0] [] (Ret (fun q : Gs => Gs.ent 87 1 q (([] : List Int).map encP)) (fun v q => v = q.val ([] : List Int).length ∧ Gs.ok 1 ([] : List Int).length q (([] : List Int).map encP))) := by
 refine SC_body (fn := Tryz.f122) (n := 8) Tryz.func122 rfl (by kernel_rfl) (ρ := [(0, .slice none 0 0)]) rfl ?_
 refine sr ?_
 refine os 1 ?_
 refine nq ?_
 refine sr ?_
 refine os 1 ?_
 refine oV (.bool true) ?_
 refine nt ?_
 refine ct ?_
 refine sr ?_
 refine os 1 ?_
 refine nt ?_
 refine SW_ret (r_then ?_)
 refine body_end (.slice none 0 0) (fun _ => rfl) ?_
 exact ⟨.nil, (Own.of_perm (List.Perm.of_eq (by simp [Gs.ent]))), rfl, rfl, rfl⟩

theorem num_Clone_at {W0 : World} {g c : Nat} {l : List Int} (hk : Gs.ok 1 l.length (Gs.at g c) (l.map encP)) (hs : l.length ≤ 1048576) : SC Tryz.prog W0 122 #[Gs.val (Gs.at g c) l.length] (Gs.ent 87 1 (Gs.at g c) (l.map encP)) (Ret (fun q : Gs => Gs.ent 87 1 q (l.map encP) ++ Gs.ent 87 1 (Gs.at g c) (l.map encP)) (fun v q => v = q.val l.length ∧ Gs.ok 1 l.length q (l.map encP))) := by
 refine SC_body (fn := Tryz.f122) (n := 8) Tryz.func122 rfl (by kernel_rfl) (ρ := [(0, Gs.val (Gs.at g c) l.length)]) rfl ?_
 refine SW_sig ((Gs.ent 87 1 (Gs.at g c) (l.map encP)) ++ ([])) (by simp only [List.append_nil, List.append_assoc]) ?_
 refine sr ?_
 refine os 1 ?_
 refine nq ?_
 refine sr ?_
 refine os 1 ?_
 refine oV (.bool false) ?_
 refine nt ?_
 refine cf ?_
 refine SW_skip (n_then ?_)
 refine sr ?_
 refine L (nws 87 0 0 [] ?_)
 intro b1
 refine os 1 ?_
 refine SL_sig ((Gs.ent 87 1 (Gs.at b1 0) (([] : List Int).map encP)) ++ ((Gs.ent 87 1 (Gs.at g c) (l.map encP)) ++ ([]))) rfl ?_
 refine L (O_append (size := 1) (bytes := 4) (z := .int .u32 0) (Gs.at b1 0) 0 l.length (Gs.addr (Gs.at g c)) (Gs.cap (Gs.at g c)) (([] : List Int).map encP) (l.map encP) ((([] : List Int) ++ l).map encP) (map_app _ _) (fun _ => rfl) (fun _ => rfl) Tryz.underlying82 (by kernel_rfl) rfl (by decide) ⟨Nat.le_refl _, by unfold maxLen; omega, rfl⟩ (Gs.ok.len hk) (Gs.src hk (fun e he => (mem_a (mem_h he)))) (map_one (fun _ => rfl) _) (by omega) (by decide) rfl ?_)
 intro s2 hks2 hfs2
 rw [show 0 + l.length = (([] : List Int) ++ l).length from by first | (simp; done) | (simp; omega)]
 rw [show 0 + l.length = (([] : List Int) ++ l).length from by first | (simp; done) | (simp; omega)] at hks2
 have hls2 : (([] : List Int) ++ l).length = ([] : List Int).length + l.length := by simp
 refine os 1 ?_
 refine kp [2, 4, 0] ?_
 refine nt ?_
 refine SW_ret ?_
 refine body_end (Gs.val s2 ((([] : List Int) ++ l).length)) (fun _ => rfl) ?_
 have hlq_ : (([] : List Int) ++ l) = l := by simp
 have hkq_ := hks2
 rw [hlq_] at hkq_ ⊢
 exact ⟨s2, ow, rfl, hkq_⟩

theorem num_Clone {W0 : World} {a : Gs} {l : List Int} (hk : Gs.ok 1 l.length a (l.map encP)) (hs : l.length ≤ 1048576) : SC Tryz.prog W0 122 #[a.val l.length] (Gs.ent 87 1 a (l.map encP)) (Ret (fun q : Gs => Gs.ent 87 1 q (l.map encP) ++ Gs.ent 87 1 a (l.map encP)) (fun v q => v = q.val l.length ∧ Gs.ok 1 l.length q (l.map encP))) := by
 cases a with
 | nil =>
   obtain ⟨_, h2⟩ := hk
   obtain rfl : l = [] := by simpa using h2
   exact num_Clone_nil.mono fun v σ ⟨q, ho, h⟩ => ⟨q, by simpa [Gs.ent] using ho, h⟩
 | _ g c => exact num_Clone_at hk hs

theorem num_half {W0 : World} {a : Gs} {a0 : Nat} (hk : Gs.ok 1 (lim a0).length a ((lim a0).map encP)) (hs0 : (lim a0).length ≤ 1048576) : SC Tryz.prog W0 131 #[a.val (lim a0).length] (Gs.ent 87 1 a ((lim a0).map encP)) (Ret (fun g : Gs => Gs.ent 87 1 g ((lim (a0 / 2)).map encP) ++ Gs.ent 87 1 a ((lim a0).map encP)) (fun v g => v = g.val (lim (a0 / 2)).length ∧ Gs.ok 1 (lim (a0 / 2)).length g ((lim (a0 / 2)).map encP))) := by
 refine SC_body (fn := Tryz.f131) (n := 38) Tryz.func131 rfl (by kernel_rfl) (ρ := [(0, Gs.val a ((lim a0).length))]) rfl ?_
 refine SW_sig ((Gs.ent 87 1 a ((lim a0).map encP)) ++ ([])) (by simp only [List.append_nil, List.append_assoc]) ?_
 refine sr ?_
 refine os 1 ?_
 refine nsr ?_
 refine os 1 ?_
 refine L (cl (num_Clone hk hs0) ?_)
 rintro _ q ⟨rfl, hkq⟩
 refine un ?_
 refine os 1 ?_
 refine nq ?_
 refine sr ?_
 refine os 3 ?_
 refine kp [9, 8, 3, 2, 0] ?_
 refine nt ?_
 refine SW_block ?_
 rw [show Gs.ent 87 1 q ((lim a0).map encP) = Gs.ent 87 1 q ((halfM (lim a0) 0).map encP) from by rw [halfM_zero]]
 refine SW_loop (α := Nat) (fun z_ ρ_ σ_ => Fits ρ_ σ_ [(0, Gs.val a ((lim a0).length)), (3, Gs.val q ((lim a0).length)), (8, .int .i64 ((((lim a0).length : Nat)) : Int)), (9, .int .i64 (z_ : Int))] ((Gs.ent 87 1 q ((halfM (lim a0) z_).map encP)) ++ ((Gs.ent 87 1 a ((lim a0).map encP)) ++ ([]))) ∧ z_ ≤ (lim a0).length) (fun z_ => (lim a0).length - z_) 0 ⟨⟨fun _ => rfl, ow⟩, Nat.zero_le _⟩ ?_
 rintro i ρ_ σ_ ⟨hfit, hi0⟩
 refine SW_fits hfit ?_
 clear hfit
 have hml_ := halfM_len (l := lim a0) (i := i) (by omega)
 have hkm_ : Gs.ok 1 (halfM (lim a0) i).length q ((halfM (lim a0) i).map encP) := by rw [hml_]; exact Gs.ok.relen hkq (by simp [hml_])
 refine sr ?_
 refine os 1 ?_
 refine nq ?_
 refine cdp (fun hc1 : (i : Int) < ((((lim a0).length : Nat)) : Int) => ?_) (fun hc1 => ?_)
 ·refine SW_skip (n_then ?_)
  refine SW_seq ?_
  refine SW_block ?_
  refine sr ?_
  refine os 2 ?_
  refine nsr ?_
  refine os 2 ?_
  refine L (ixg (i : Int) (i) hkm_ Tryz.underlying82 ?_)
  obtain ⟨e1, he1⟩ : ∃ y_, (halfM (lim a0) i)[i]? = some y_ := ⟨_, List.getElem?_eq_getElem (by omega)⟩
  refine L (ld ?_ (hc := Gs.cell hkm_ (fun e he => (mem_h he)) (map_cell he1 rfl)))
  refine oX (.int .u32 (Int.fdiv e1 2)) (.int .u32 (e1 / 2)) (congrArg (Value.int .u32) (Int.fdiv_eq_ediv_of_nonneg _ (by omega))) ?_
  refine L (ixg (i : Int) (i) hkm_ Tryz.underlying82 ?_)
  have hok1 := Gs.ok.relen (ys := (((halfM (lim a0) i).set i (e1 / 2)).map encP)) hkm_ (by simp)
  refine L (O_storeG (ys := (((halfM (lim a0) i).set i (e1 / 2)).map encP)) q (i) (.int .u32 (e1 / 2)) [.int .u32 (e1 / 2)] (Gs.ok.ne hkm_ (by first | omega | (simp; omega))) (fun _ => rfl) (fun _ => rfl) rfl (by kernel_rfl) rfl (by simp; omega) (row_lay_map (e1 / 2) (by omega)) rfl ?_)
  refine nq ?_
  have hea_ := (halfM_at (l := lim a0) (i := i) (by omega)).symm.trans he1
  have heo_ := lim_ok a0 _ (List.mem_of_getElem? hea_)
  refine SW_region ?_
  refine os 5 ?_
  refine kp [22, 4, 10, 0, 3, 8, 9] ?_
  refine nt ?_
  refine cdp (fun hc2 : ((i : Int) + 1) < ((((lim a0).length : Nat)) : Int) => ?_) (fun hc2 => ?_)
  ·have hsl_ : ((halfM (lim a0) i).set i (e1 / 2)).length = (lim a0).length := by rw [List.length_set]; exact hml_
   obtain ⟨e2, he2⟩ : ∃ y_, (lim a0)[(i + 1)]? = some y_ := ⟨_, List.getElem?_eq_getElem (by omega)⟩
   refine SW_draw [((Gs.blk q), i, .int .u32 (e1 / 2)), ((Gs.blk a), (i + 1), .int .u32 e2)] [0, 1, 2, 3, 4, 5, 6, 7, 8, 9] (by kernel_rfl) (rd_cons (Gs.cell hok1 (fun e he => (mem_h he)) (map_cell (get_set he1) rfl)) (rd_cons (Gs.cell hk (fun e he => (mem_a (mem_h he))) (map_cell he2 rfl)) rd_nil)) ?_
   refine aS 0 ?_
   refine aS 1 ?_
   refine aI 2 (i : Int) (i) hok1 Tryz.underlying82 ?_
   refine aL 3 ?_
   refine aS 4 ?_
   refine aS 5 ?_
   refine tk 6 (.int .i64 (IntKind.wrap .i64 ((i : Int) + 1))) ?_
   rw [show IntKind.wrap .i64 ((i : Int) + 1) = (i : Int) + 1 from IntWalk.i64_in _ (by omega)]
   refine aI 7 ((i : Int) + 1) ((i + 1)) hk Tryz.underlying82 ?_
   refine aL 8 ?_
   refine tk 9 (.int .u32 (IntKind.wrap .u32 (e2 * 2147483648))) ?_
   refine tk 10 (.int .u32 (e1 / 2 + e2 % 2 * 2147483648)) ?_ (hy := orR32 (m := e1 / 2) (c := IntKind.wrap .u32 (e2 * 2147483648)) _ (by rw [half_shl]; exact half_or heo_))
   refine kpA [33, 24, 23, 22, 4, 10, 0, 3, 8, 9] ?_
   refine aI 11 (i : Int) (i) hok1 Tryz.underlying82 ?_
   have hok3 := Gs.ok.relen (ys := (((halfM (lim a0) i).set i (e1 / 2 + e2 % 2 * 2147483648)).map encP)) hok1 (by simp)
   refine sa1 false 12 (h := O_storeG (ys := (((halfM (lim a0) i).set i (e1 / 2 + e2 % 2 * 2147483648)).map encP)) q (i) (.int .u32 (e1 / 2 + e2 % 2 * 2147483648)) [.int .u32 (e1 / 2 + e2 % 2 * 2147483648)] (Gs.ok.ne hok1 (by first | omega | (simp; omega))) (fun _ => rfl) (fun _ => rfl) rfl (by kernel_rfl) rfl (by simp; omega) ((row_lay_map (e1 / 2 + e2 % 2 * 2147483648) (by omega)).trans (by rw [List.set_set])) rfl ?_)
   refine ⟨fun hnd => (by cases hnd), ?_⟩
   refine SA_done (by kernel_rfl) (n_in (n_then ?_))
   refine SW_region ?_
   refine os 2 ?_
   refine kp [9, 22, 4, 10, 0, 3, 8] ?_
   refine nt ?_
   have hst_ : (halfM (lim a0) i).set i (e1 / 2 + e2 % 2 * 2147483648) = halfM (lim a0) (i + 1) := halfM_step (by rw [halfL_at hea_]; rw [he2])
   refine ⟨i + 1, by omega, ⟨fun _ => rfl, ?_⟩, by omega⟩
   rw [← hst_]
   exact ow
  refine SW_skip (n_in (n_then ?_))
  refine SW_region ?_
  refine os 2 ?_
  refine nt ?_
  have hst_ : (halfM (lim a0) i).set i (e1 / 2) = halfM (lim a0) (i + 1) := halfM_step (by rw [halfL_at hea_]; rw [List.getElem?_eq_none (by omega)]; simp)
  refine ⟨i + 1, by omega, ⟨fun _ => rfl, ?_⟩, by omega⟩
  rw [← hst_]
  exact ow
 refine SW_exit (x_then (x_then (x_in (n_then ?_))))
 refine sr ?_
 refine os 1 ?_
 have hie_ : i = (lim a0).length := by omega
 have hme_ : halfM (lim a0) i = halfL (lim a0) := by rw [hie_]; exact halfM_end
 have hq_ := num_trim (W0 := W0) (l := halfM (lim a0) i) (by rw [hme_]; exact halfL_ok (lim_ok a0)) hkm_
 rw [show limV (halfM (lim a0) i) = a0 / 2 from by rw [hme_, halfL_val (lim_ok a0), lim_val], hml_] at hq_
 refine L (cl (hq_) ?_)
 rintro _ _ ⟨rfl, hkt_⟩
 refine os 1 ?_
 refine nt ?_
 refine SW_ret ?_
 refine body_end (Gs.val q ((lim (a0 / 2)).length)) (fun _ => rfl) ?_
 exact ⟨q, ow, rfl, hkt_⟩

end Go.Proofs.YtnhmmjogfkjceaaGreatDoor
namespace Go.Proofs.YtnhmmjogfkjceaaGreatDoor
open Go.Sl

theorem num_less {W0 : World} {a b : Gs} {a0 b0 : Nat} (hk : Gs.ok 1 (lim a0).length a ((lim a0).map encP)) (hkb : Gs.ok 1 (lim b0).length b ((lim b0).map encP)) (hs0 : (lim a0).length ≤ 1048576) (hle : b0 ≤ a0) : SC Tryz.prog W0 76 #[a.val (lim a0).length, b.val (lim b0).length] (Gs.ent 87 1 a ((lim a0).map encP) ++ Gs.ent 87 1 b ((lim b0).map encP)) (Ret (fun g : Gs => Gs.ent 87 1 g ((lim (a0 - b0)).map encP) ++ (Gs.ent 87 1 a ((lim a0).map encP) ++ (Gs.ent 87 1 b ((lim b0).map encP)))) (fun v g => v = g.val (lim (a0 - b0)).length ∧ Gs.ok 1 (lim (a0 - b0)).length g ((lim (a0 - b0)).map encP))) := by
 refine SC_body (fn := Tryz.f76) (n := 46) Tryz.func76 rfl (by kernel_rfl) (ρ := [(0, Gs.val a ((lim a0).length)), (1, Gs.val b ((lim b0).length))]) rfl ?_
 refine SW_sig ((Gs.ent 87 1 a ((lim a0).map encP)) ++ ((Gs.ent 87 1 b ((lim b0).map encP)) ++ ([]))) (by simp only [List.append_nil, List.append_assoc]) ?_
 refine sr ?_
 refine os 1 ?_
 refine nsr ?_
 refine os 1 ?_
 refine L (cl (num_Clone hk hs0) ?_)
 rintro _ q ⟨rfl, hkq⟩
 refine un ?_
 refine os 1 ?_
 refine nsr ?_
 refine os 1 ?_
 refine nq ?_
 refine sr ?_
 refine os 3 ?_
 refine kp [13, 12, 6, 5, 4, 0, 1] ?_
 refine nt ?_
 refine SW_block ?_
 rw [show Gs.ent 87 1 q ((lim a0).map encP) = Gs.ent 87 1 q ((mixM (lessL (lim a0) (lim b0) 0) (lim a0) 0).map encP) from by rw [mixM_zero]]
 refine SW_loop (α := Nat × Int) (fun z_ ρ_ σ_ => Fits ρ_ σ_ [(0, Gs.val a ((lim a0).length)), (1, Gs.val b ((lim b0).length)), (5, Gs.val q ((lim a0).length)), (12, .int .i64 ((((lim a0).length : Nat)) : Int)), (6, .int .u64 z_.2), (13, .int .i64 (z_.1 : Int))] ((Gs.ent 87 1 q ((mixM (lessL (lim a0) (lim b0) 0) (lim a0) z_.1).map encP)) ++ ((Gs.ent 87 1 a ((lim a0).map encP)) ++ ((Gs.ent 87 1 b ((lim b0).map encP)) ++ ([])))) ∧ z_.1 ≤ (lim a0).length ∧ (0 ≤ z_.2 ∧ z_.2 ≤ 1) ∧ z_.2 = lessB ((lim a0).take z_.1) (lim b0) 0) (fun z_ => (lim a0).length - z_.1) (0, 0) ⟨⟨fun _ => rfl, ow⟩, Nat.zero_le _, ⟨Int.le_refl _, by decide⟩, rfl⟩ ?_
 rintro ⟨i, c⟩ ρ_ σ_ ⟨hfit, hi0, hi1, hi2⟩
 refine SW_fits hfit ?_
 clear hfit
 simp only [] at hi0 hi1 hi2 ⊢
 have hml_ := mixM_len (lessL_len (lim a0) (lim b0) 0) (i := i) (by omega)
 have hkm_ : Gs.ok 1 (mixM (lessL (lim a0) (lim b0) 0) (lim a0) i).length q ((mixM (lessL (lim a0) (lim b0) 0) (lim a0) i).map encP) := by rw [hml_]; exact Gs.ok.relen hkq (by simp [hml_])
 refine sr ?_
 refine os 1 ?_
 refine nq ?_
 refine cdp (fun hc1 : (i : Int) < ((((lim a0).length : Nat)) : Int) => ?_) (fun hc1 => ?_)
 ·refine SW_skip (n_then ?_)
  refine SW_seq ?_
  refine SW_block ?_
  refine sr ?_
  refine os 2 ?_
  refine nsr ?_
  refine os 2 ?_
  refine nq ?_
  refine sr ?_
  refine os 4 ?_
  refine kp [20, 8, 7, 14, 0, 1, 5, 12, 6, 13] ?_
  refine nt ?_
  refine cdp (fun hc2 : (i : Int) < ((((lim b0).length : Nat)) : Int) => ?_) (fun hc2 => ?_)
  ·obtain ⟨e1, he1⟩ : ∃ y_, (lim b0)[i]? = some y_ := ⟨_, List.getElem?_eq_getElem (by omega)⟩
   have hey_ := lim_ok b0 _ (List.mem_of_getElem? he1)
   refine SW_region ?_
   refine os 3 ?_
   refine L (ixg (i : Int) (i) hkb Tryz.underlying82 ?_)
   refine L (ld ?_ (hc := Gs.cell hkb (fun e he => (mem_a (mem_a (mem_h he)))) (map_cell he1 rfl)))
   refine os 3 ?_
   refine kp [8, 20, 7, 14, 0, 1, 5, 12, 6, 13] ?_
   refine nsr ?_
   refine os 1 ?_
   refine nq ?_
   refine SW_seq ?_
   obtain ⟨e2, he2⟩ : ∃ y_, (mixM (lessL (lim a0) (lim b0) 0) (lim a0) i)[i]? = some y_ := ⟨_, List.getElem?_eq_getElem (by omega)⟩
   have hea_ := (mixM_at (lessL_len (lim a0) (lim b0) 0) (i := i) (by omega)).symm.trans he2
   have heo_ := lim_ok a0 _ (List.mem_of_getElem? hea_)
   refine SW_region ?_
   refine os 2 ?_
   refine L (ixg (i : Int) (i) hkm_ Tryz.underlying82 ?_)
   refine L (ld ?_ (hc := Gs.cell hkm_ (fun e he => (mem_h he)) (map_cell he2 rfl)))
   refine os 3 ?_
   refine kp [34, 6, 8, 20, 7, 14, 0, 1, 5, 12, 13] ?_
   refine nt ?_
   refine cdp (fun hc3 : e2 < (c + e1) => ?_) (fun hc3 => ?_)
   ·refine SW_region ?_
    refine os 1 ?_
    refine nr ?_
    refine os 2 ?_
    refine L (ixg (i : Int) (i) hkm_ Tryz.underlying82 ?_)
    refine L (ld ?_ (hc := Gs.cell hkm_ (fun e he => (mem_h he)) (map_cell he2 rfl)))
    refine os 1 ?_
    refine oV (.int .u32 (IntKind.wrap .u32 (c + e1))) ?_
    refine oV (.int .u32 (IntKind.wrap .u32 (e2 - (IntKind.wrap .u32 (c + e1))))) ?_
    refine L (ixg (i : Int) (i) hkm_ Tryz.underlying82 ?_)
    have hok1 := Gs.ok.relen (ys := (((mixM (lessL (lim a0) (lim b0) 0) (lim a0) i).set i (IntKind.wrap .u32 (e2 - (IntKind.wrap .u32 (c + e1))))).map encP)) hkm_ (by simp)
    refine L (O_storeG (ys := (((mixM (lessL (lim a0) (lim b0) 0) (lim a0) i).set i (IntKind.wrap .u32 (e2 - (IntKind.wrap .u32 (c + e1))))).map encP)) q (i) (.int .u32 (IntKind.wrap .u32 (e2 - (IntKind.wrap .u32 (c + e1))))) [.int .u32 (IntKind.wrap .u32 (e2 - (IntKind.wrap .u32 (c + e1))))] (Gs.ok.ne hkm_ (by first | omega | (simp; omega))) (fun _ => rfl) (fun _ => rfl) rfl (by kernel_rfl) rfl (by simp; omega) (row_lay_map (IntKind.wrap .u32 (e2 - (IntKind.wrap .u32 (c + e1)))) (by omega)) rfl ?_)
    refine SL_nil (n_in (n_then ?_))
    refine SW_region ?_
    refine os 2 ?_
    refine kp [13, 6, 34, 8, 20, 7, 14, 0, 1, 5, 12] ?_
    refine nt ?_
    obtain ⟨hst_, hq1_, hq0_⟩ := less_y hea_ he1 hi2
    refine ⟨(i + 1, 1), by simp only []; omega, ?_⟩
    simp only []
    refine ⟨⟨fun _ => rfl, ?_⟩, by omega, by omega, hq1_ hc3⟩
    rw [← hst_]
    exact ow
   refine SW_skip (n_then ?_)
   refine SW_region ?_
   refine os 2 ?_
   refine L (ixg (i : Int) (i) hkm_ Tryz.underlying82 ?_)
   refine L (ld ?_ (hc := Gs.cell hkm_ (fun e he => (mem_h he)) (map_cell he2 rfl)))
   refine os 1 ?_
   refine oV (.int .u32 (IntKind.wrap .u32 (c + e1))) ?_
   refine oV (.int .u32 (IntKind.wrap .u32 (e2 - (IntKind.wrap .u32 (c + e1))))) ?_
   refine L (ixg (i : Int) (i) hkm_ Tryz.underlying82 ?_)
   have hok2 := Gs.ok.relen (ys := (((mixM (lessL (lim a0) (lim b0) 0) (lim a0) i).set i (IntKind.wrap .u32 (e2 - (IntKind.wrap .u32 (c + e1))))).map encP)) hkm_ (by simp)
   refine L (O_storeG (ys := (((mixM (lessL (lim a0) (lim b0) 0) (lim a0) i).set i (IntKind.wrap .u32 (e2 - (IntKind.wrap .u32 (c + e1))))).map encP)) q (i) (.int .u32 (IntKind.wrap .u32 (e2 - (IntKind.wrap .u32 (c + e1))))) [.int .u32 (IntKind.wrap .u32 (e2 - (IntKind.wrap .u32 (c + e1))))] (Gs.ok.ne hkm_ (by first | omega | (simp; omega))) (fun _ => rfl) (fun _ => rfl) rfl (by kernel_rfl) rfl (by simp; omega) (row_lay_map (IntKind.wrap .u32 (e2 - (IntKind.wrap .u32 (c + e1)))) (by omega)) rfl ?_)
   refine SL_nil (n_in (n_then ?_))
   refine SW_region ?_
   refine os 2 ?_
   refine kp [13, 34, 6, 8, 20, 7, 14, 0, 1, 5, 12] ?_
   refine nt ?_
   obtain ⟨hst_, hq1_, hq0_⟩ := less_y hea_ he1 hi2
   refine ⟨(i + 1, 0), by simp only []; omega, ?_⟩
   simp only []
   refine ⟨⟨fun _ => rfl, ?_⟩, by omega, by omega, hq0_ hc3⟩
   rw [← hst_]
   exact ow
  refine SW_skip (n_then ?_)
  refine sr ?_
  refine os 1 ?_
  refine nq ?_
  refine SW_seq ?_
  obtain ⟨e3, he3⟩ : ∃ y_, (mixM (lessL (lim a0) (lim b0) 0) (lim a0) i)[i]? = some y_ := ⟨_, List.getElem?_eq_getElem (by omega)⟩
  have hea_ := (mixM_at (lessL_len (lim a0) (lim b0) 0) (i := i) (by omega)).symm.trans he3
  have heo_ := lim_ok a0 _ (List.mem_of_getElem? hea_)
  refine SW_region ?_
  refine os 2 ?_
  refine L (ixg (i : Int) (i) hkm_ Tryz.underlying82 ?_)
  refine L (ld ?_ (hc := Gs.cell hkm_ (fun e he => (mem_h he)) (map_cell he3 rfl)))
  refine os 3 ?_
  refine kp [34, 6, 20, 8, 7, 14, 0, 1, 5, 12, 13] ?_
  refine nt ?_
  refine cdp (fun hc4 : e3 < c => ?_) (fun hc4 => ?_)
  ·refine SW_region ?_
   refine os 1 ?_
   refine nr ?_
   refine os 2 ?_
   refine L (ixg (i : Int) (i) hkm_ Tryz.underlying82 ?_)
   refine L (ld ?_ (hc := Gs.cell hkm_ (fun e he => (mem_h he)) (map_cell he3 rfl)))
   refine os 1 ?_
   refine oV (.int .u32 (IntKind.wrap .u32 (c))) ?_
   refine oV (.int .u32 (IntKind.wrap .u32 (e3 - (IntKind.wrap .u32 (c))))) ?_
   refine L (ixg (i : Int) (i) hkm_ Tryz.underlying82 ?_)
   have hok3 := Gs.ok.relen (ys := (((mixM (lessL (lim a0) (lim b0) 0) (lim a0) i).set i (IntKind.wrap .u32 (e3 - (IntKind.wrap .u32 (c))))).map encP)) hkm_ (by simp)
   refine L (O_storeG (ys := (((mixM (lessL (lim a0) (lim b0) 0) (lim a0) i).set i (IntKind.wrap .u32 (e3 - (IntKind.wrap .u32 (c))))).map encP)) q (i) (.int .u32 (IntKind.wrap .u32 (e3 - (IntKind.wrap .u32 (c))))) [.int .u32 (IntKind.wrap .u32 (e3 - (IntKind.wrap .u32 (c))))] (Gs.ok.ne hkm_ (by first | omega | (simp; omega))) (fun _ => rfl) (fun _ => rfl) rfl (by kernel_rfl) rfl (by simp; omega) (row_lay_map (IntKind.wrap .u32 (e3 - (IntKind.wrap .u32 (c)))) (by omega)) rfl ?_)
   refine SL_nil (n_in (n_then ?_))
   refine SW_region ?_
   refine os 2 ?_
   refine kp [13, 6, 34, 20, 8, 7, 14, 0, 1, 5, 12] ?_
   refine nt ?_
   obtain ⟨hst_, hq1_, hq0_⟩ := less_n (m := lim b0) hea_ (by omega) hi2
   refine ⟨(i + 1, 1), by simp only []; omega, ?_⟩
   simp only []
   refine ⟨⟨fun _ => rfl, ?_⟩, by omega, by omega, hq1_ hc4⟩
   rw [← hst_]
   exact ow
  refine SW_skip (n_then ?_)
  refine SW_region ?_
  refine os 2 ?_
  refine L (ixg (i : Int) (i) hkm_ Tryz.underlying82 ?_)
  refine L (ld ?_ (hc := Gs.cell hkm_ (fun e he => (mem_h he)) (map_cell he3 rfl)))
  refine os 1 ?_
  refine oV (.int .u32 (IntKind.wrap .u32 (c))) ?_
  refine oV (.int .u32 (IntKind.wrap .u32 (e3 - (IntKind.wrap .u32 (c))))) ?_
  refine L (ixg (i : Int) (i) hkm_ Tryz.underlying82 ?_)
  have hok4 := Gs.ok.relen (ys := (((mixM (lessL (lim a0) (lim b0) 0) (lim a0) i).set i (IntKind.wrap .u32 (e3 - (IntKind.wrap .u32 (c))))).map encP)) hkm_ (by simp)
  refine L (O_storeG (ys := (((mixM (lessL (lim a0) (lim b0) 0) (lim a0) i).set i (IntKind.wrap .u32 (e3 - (IntKind.wrap .u32 (c))))).map encP)) q (i) (.int .u32 (IntKind.wrap .u32 (e3 - (IntKind.wrap .u32 (c))))) [.int .u32 (IntKind.wrap .u32 (e3 - (IntKind.wrap .u32 (c))))] (Gs.ok.ne hkm_ (by first | omega | (simp; omega))) (fun _ => rfl) (fun _ => rfl) rfl (by kernel_rfl) rfl (by simp; omega) (row_lay_map (IntKind.wrap .u32 (e3 - (IntKind.wrap .u32 (c)))) (by omega)) rfl ?_)
  refine SL_nil (n_in (n_then ?_))
  refine SW_region ?_
  refine os 2 ?_
  refine kp [13, 34, 6, 20, 8, 7, 14, 0, 1, 5, 12] ?_
  refine nt ?_
  obtain ⟨hst_, hq1_, hq0_⟩ := less_n (m := lim b0) hea_ (by omega) hi2
  refine ⟨(i + 1, 0), by simp only []; omega, ?_⟩
  simp only []
  refine ⟨⟨fun _ => rfl, ?_⟩, by omega, by omega, hq0_ hc4⟩
  rw [← hst_]
  exact ow
 refine SW_exit (x_then (x_then (x_in (n_then ?_))))
 refine sr ?_
 refine os 1 ?_
 have hie_ : i = (lim a0).length := by omega
 have hme_ : (mixM (lessL (lim a0) (lim b0) 0) (lim a0) i) = lessL (lim a0) (lim b0) 0 := by rw [hie_]; exact mixM_end (lessL_len ..)
 have hq_ := num_trim (W0 := W0) (l := (mixM (lessL (lim a0) (lim b0) 0) (lim a0) i)) (by rw [hme_]; exact lessL_ok (lim a0) (lim b0) 0) hkm_
 rw [show limV (mixM (lessL (lim a0) (lim b0) 0) (lim a0) i) = a0 - b0 from by rw [hme_, lessL_sub (lim_ok a0) (lim_ok b0) (by rw [lim_val, lim_val]; exact hle) (lim_len_mono hle), lim_val, lim_val], hml_] at hq_
 refine L (cl (hq_) ?_)
 rintro _ _ ⟨rfl, hkt_⟩
 refine os 1 ?_
 refine nt ?_
 refine SW_ret ?_
 refine body_end (Gs.val q ((lim (a0 - b0)).length)) (fun _ => rfl) ?_
 exact ⟨q, ow, rfl, hkt_⟩

theorem num_plus {W0 : World} {a b : Gs} {a0 b0 : Nat} (hk : Gs.ok 1 (lim a0).length a ((lim a0).map encP)) (hkb : Gs.ok 1 (lim b0).length b ((lim b0).map encP)) (hsa : (lim a0).length ≤ 1048576) (hsb : (lim b0).length ≤ 1048576) : SC Tryz.prog W0 78 #[a.val (lim a0).length, b.val (lim b0).length] (Gs.ent 87 1 a ((lim a0).map encP) ++ Gs.ent 87 1 b ((lim b0).map encP)) (Ret (fun g : Gs => Gs.ent 87 1 g ((lim (a0 + b0)).map encP) ++ (Gs.ent 87 1 a ((lim a0).map encP) ++ (Gs.ent 87 1 b ((lim b0).map encP)))) (fun v g => v = g.val (lim (a0 + b0)).length ∧ Gs.ok 1 (lim (a0 + b0)).length g ((lim (a0 + b0)).map encP))) := by
 refine SC_body (fn := Tryz.f78) (n := 56) Tryz.func78 rfl (by kernel_rfl) (ρ := [(0, Gs.val a ((lim a0).length)), (1, Gs.val b ((lim b0).length))]) rfl ?_
 refine SW_sig ((Gs.ent 87 1 a ((lim a0).map encP)) ++ ((Gs.ent 87 1 b ((lim b0).map encP)) ++ ([]))) (by simp only [List.append_nil, List.append_assoc]) ?_
 refine sr ?_
 refine os 1 ?_
 refine nq ?_
 refine sr ?_
 refine os 5 ?_
 refine kp [13, 4, 0, 1] ?_
 refine nt ?_
 refine cdp (fun hc1 : ((((lim a0).length : Nat)) : Int) < ((((lim b0).length : Nat)) : Int) => ?_) (fun hc1 => ?_)
 ·refine SW_region ?_
  refine os 4 ?_
  refine nsr ?_
  refine os 3 ?_
  refine L (O_make2 (bytes := 4) 0 ((lim b0).length + 1) (.int .u32 0) (fun _ => rfl) (fun _ => rfl) Tryz.underlying82 (by kernel_rfl) rfl (by omega) (by omega) (by omega) rfl ?_)
  intro b2 hlb2 hnb2
  refine SL_weakG ?_
  have hmkb2 : Gs.ok 1 0 (Gs.at b2 ((lim b0).length + 1)) (([] : List Int).map encP) := Gs.ok_cap (by simp) (by omega) (by unfold maxLen; omega)
  refine SL_sig ((Gs.ent 87 1 (Gs.at b2 ((lim b0).length + 1)) (([] : List Int).map encP)) ++ ((Gs.ent 87 1 a ((lim a0).map encP)) ++ ((Gs.ent 87 1 b ((lim b0).map encP)) ++ ([])))) (by rw [show (([] : List Int).map encP) = List.replicate 0 (.int .u32 0) from by simp]) ?_
  refine os 1 ?_
  refine kp [5, 1, 0, 13, 4] ?_
  refine nsr ?_
  refine os 1 ?_
  refine nq ?_
  refine sr ?_
  refine os 3 ?_
  refine nt ?_
  refine SW_block ?_
  refine SW_loop (α := Nat × Gs × List Int × Int) (fun z_ ρ_ σ_ => Fits ρ_ σ_ [(1, Gs.val a ((lim a0).length)), (20, Gs.val b ((lim b0).length)), (21, .int .i64 ((((lim b0).length : Nat)) : Int)), (5, Gs.val z_.2.1 z_.2.2.1.length), (6, .int .u64 z_.2.2.2), (22, .int .i64 (z_.1 : Int))] ((Gs.ent 87 1 z_.2.1 (z_.2.2.1.map encP)) ++ ((Gs.ent 87 1 a ((lim a0).map encP)) ++ ((Gs.ent 87 1 b ((lim b0).map encP)) ++ ([])))) ∧ z_.1 ≤ (lim b0).length ∧ Gs.ok 1 z_.2.2.1.length z_.2.1 (z_.2.2.1.map encP) ∧ (z_.2.2.1.length = z_.1 ∧ LimOk z_.2.2.1 ∧ (0 ≤ z_.2.2.2 ∧ z_.2.2.2 ≤ 1)) ∧ limV z_.2.2.1 + 4294967296 ^ z_.1 * z_.2.2.2.toNat = limV ((lim b0).take z_.1) + limV ((lim a0).take z_.1)) (fun z_ => (lim b0).length - z_.1) (0, (Gs.at b2 ((lim b0).length + 1)), [], (0 : Int)) ⟨⟨fun _ => rfl, ow⟩, Nat.zero_le _, hmkb2, ⟨rfl, (fun x hx => by cases hx), (show 0 ≤ (0 : Int) ∧ (0 : Int) ≤ 1 from by omega)⟩, by simp [limV]⟩ ?_
  rintro ⟨i, ob, ys, c⟩ ρ_ σ_ ⟨hfit, hi0, hi1, hi2, hi3⟩
  refine SW_fits hfit ?_
  clear hfit
  simp only [] at hi0 hi1 hi2 hi3 ⊢
  obtain ⟨hyl, hyo, hc⟩ := hi2
  refine sr ?_
  refine os 1 ?_
  refine nq ?_
  refine cdp (fun hc3 : (i : Int) < ((((lim b0).length : Nat)) : Int) => ?_) (fun hc3 => ?_)
  ·refine SW_skip (n_then ?_)
   refine SW_seq ?_
   refine SW_block ?_
   refine SW_seq ?_
   obtain ⟨e1, he1⟩ : ∃ y_, (lim b0)[i]? = some y_ := ⟨_, List.getElem?_eq_getElem (by omega)⟩
   have heo_ := lim_ok b0 _ (List.mem_of_getElem? he1)
   refine SW_region ?_
   refine os 1 ?_
   refine L (ixg (i : Int) (i) hkb Tryz.underlying82 ?_)
   refine L (ld ?_ (hc := Gs.cell hkb (fun e he => (mem_a (mem_a (mem_h he)))) (map_cell he1 rfl)))
   refine os 2 ?_
   refine kp [8, 7, 23, 1, 20, 21, 5, 6, 22] ?_
   refine nsr ?_
   refine os 5 ?_
   refine kp [6, 8, 7, 23, 1, 20, 21, 5, 22] ?_
   refine nq ?_
   refine sr ?_
   refine os 4 ?_
   refine kp [34, 6, 8, 7, 23, 1, 20, 21, 5, 22] ?_
   refine nt ?_
   refine cdp (fun hc4 : (i : Int) < ((((lim a0).length : Nat)) : Int) => ?_) (fun hc4 => ?_)
   ·obtain ⟨e2, he2⟩ : ∃ y_, (lim a0)[i]? = some y_ := ⟨_, List.getElem?_eq_getElem (by omega)⟩
    have hey_ := lim_ok a0 _ (List.mem_of_getElem? he2)
    refine SW_region ?_
    refine os 3 ?_
    refine L (ixg (i : Int) (i) hk Tryz.underlying82 ?_)
    refine L (ld ?_ (hc := Gs.cell hk (fun e he => (mem_a (mem_h he))) (map_cell he2 rfl)))
    refine os 3 ?_
    refine kp [6, 34, 8, 7, 23, 1, 20, 21, 5, 22] ?_
    refine nsr ?_
    refine os 2 ?_
    refine oV (.int .u32 (IntKind.wrap .u32 ((c + e1) + e2))) ?_
    refine L (nws 87 1 1 [.int .u32 (IntKind.wrap .u32 ((c + e1) + e2))] ?_)
    intro b5
    refine SL_perm _ (perm_cc perm_cz) ?_
    refine L (O_append (size := 1) (bytes := 4) (z := .int .u32 0) ob ys.length 1 (some ⟨b5, 0, none⟩) 1 (ys.map encP) ([.int .u32 (IntKind.wrap .u32 ((c + e1) + e2))]) ((ys ++ [IntKind.wrap .u32 ((c + e1) + e2)]).map encP) (map_snoc _ (IntKind.wrap .u32 ((c + e1) + e2)) rfl) (fun _ => rfl) (fun _ => rfl) Tryz.underlying82 (by kernel_rfl) rfl (by decide) hi1 rfl (.inr ⟨b5, 0, rfl, Cells.own (mem_a mem_z) rfl⟩) rfl (by omega) (by decide) rfl ?_)
    intro s6 hks6 hfs6
    rw [show ys.length + 1 = (ys ++ [IntKind.wrap .u32 ((c + e1) + e2)]).length from by first | (simp; done) | (simp; omega)]
    rw [show ys.length + 1 = (ys ++ [IntKind.wrap .u32 ((c + e1) + e2)]).length from by first | (simp; done) | (simp; omega)] at hks6
    have hls6 : (ys ++ [IntKind.wrap .u32 ((c + e1) + e2)]).length = ys.length + 1 := by first | (simp; done) | (simp; omega)
    refine os 1 ?_
    refine kp [5, 6, 34, 8, 7, 23, 1, 20, 21, 22] ?_
    refine nr ?_
    refine os 1 ?_
    refine oX (.int .u64 (Int.fdiv ((c + e1) + e2) 4294967296)) (.int .u64 (((c + e1) + e2) / 4294967296)) (congrArg (Value.int .u64) (Int.fdiv_eq_ediv_of_nonneg _ (by omega))) ?_
    refine os 1 ?_
    refine SL_nil (n_in (n_then ?_))
    refine SW_region ?_
    refine os 2 ?_
    refine kp [22, 6, 5, 34, 8, 7, 23, 1, 20, 21] ?_
    refine nt ?_
    obtain ⟨q1_, q2_, q3_, q4_⟩ := plus_y hyl hyo he1 heo_ he2 hey_ hc hi3
    refine ⟨(i + 1, s6, (ys ++ [IntKind.wrap .u32 ((c + e1) + e2)]), ((c + e1) + e2) / 4294967296), by simp only []; omega, ?_⟩
    simp only []
    exact ⟨⟨fun _ => rfl, ow⟩, by omega, hks6, ⟨q1_, q2_, q3_⟩, q4_⟩
   refine SW_skip (n_then ?_)
   refine sr ?_
   refine os 2 ?_
   refine oV (.int .u32 (IntKind.wrap .u32 (c + e1))) ?_
   refine L (nws 87 1 1 [.int .u32 (IntKind.wrap .u32 (c + e1))] ?_)
   intro b7
   refine SL_perm _ (perm_cc perm_cz) ?_
   refine L (O_append (size := 1) (bytes := 4) (z := .int .u32 0) ob ys.length 1 (some ⟨b7, 0, none⟩) 1 (ys.map encP) ([.int .u32 (IntKind.wrap .u32 (c + e1))]) ((ys ++ [IntKind.wrap .u32 (c + e1)]).map encP) (map_snoc _ (IntKind.wrap .u32 (c + e1)) rfl) (fun _ => rfl) (fun _ => rfl) Tryz.underlying82 (by kernel_rfl) rfl (by decide) hi1 rfl (.inr ⟨b7, 0, rfl, Cells.own (mem_a mem_z) rfl⟩) rfl (by omega) (by decide) rfl ?_)
   intro s8 hks8 hfs8
   rw [show ys.length + 1 = (ys ++ [IntKind.wrap .u32 (c + e1)]).length from by first | (simp; done) | (simp; omega)]
   rw [show ys.length + 1 = (ys ++ [IntKind.wrap .u32 (c + e1)]).length from by first | (simp; done) | (simp; omega)] at hks8
   have hls8 : (ys ++ [IntKind.wrap .u32 (c + e1)]).length = ys.length + 1 := by first | (simp; done) | (simp; omega)
   refine os 1 ?_
   refine kp [5, 34, 6, 8, 7, 23, 1, 20, 21, 22] ?_
   refine nr ?_
   refine os 1 ?_
   refine oX (.int .u64 (Int.fdiv (c + e1) 4294967296)) (.int .u64 ((c + e1) / 4294967296)) (congrArg (Value.int .u64) (Int.fdiv_eq_ediv_of_nonneg _ (by omega))) ?_
   refine os 1 ?_
   refine SL_nil (n_in (n_then ?_))
   refine SW_region ?_
   refine os 2 ?_
   refine kp [22, 6, 5, 34, 8, 7, 23, 1, 20, 21] ?_
   refine nt ?_
   obtain ⟨q1_, q2_, q3_, q4_⟩ := plus_n (m := (lim a0)) hyl hyo he1 heo_ (by omega) hc hi3
   refine ⟨(i + 1, s8, (ys ++ [IntKind.wrap .u32 (c + e1)]), (c + e1) / 4294967296), by simp only []; omega, ?_⟩
   simp only []
   exact ⟨⟨fun _ => rfl, ow⟩, by omega, hks8, ⟨q1_, q2_, q3_⟩, q4_⟩
  refine SW_exit (x_then (x_then (x_in (n_then ?_))))
  refine sr ?_
  refine os 3 ?_
  refine L (nws 87 1 1 [.int .u32 c] ?_)
  intro b9
  refine SL_perm _ (perm_cc perm_cz) ?_
  refine L (O_append (size := 1) (bytes := 4) (z := .int .u32 0) ob ys.length 1 (some ⟨b9, 0, none⟩) 1 (ys.map encP) ([.int .u32 c]) ((ys ++ [c]).map encP) (map_snoc _ c rfl) (fun _ => rfl) (fun _ => rfl) Tryz.underlying82 (by kernel_rfl) rfl (by decide) hi1 rfl (.inr ⟨b9, 0, rfl, Cells.own (mem_a mem_z) rfl⟩) rfl (by omega) (by decide) rfl ?_)
  intro s10 hks10 hfs10
  rw [show ys.length + 1 = (ys ++ [c]).length from by first | (simp; done) | (simp; omega)]
  rw [show ys.length + 1 = (ys ++ [c]).length from by first | (simp; done) | (simp; omega)] at hks10
  have hls10 : (ys ++ [c]).length = ys.length + 1 := by first | (simp; done) | (simp; omega)
  have hie_ : i = (lim b0).length := by omega
  rw [hie_] at hyl hi3
  obtain ⟨hto_, htv_⟩ := plus_end (l := (lim b0)) (m := (lim a0)) hyl (by omega) hyo hc hi3
  rw [lim_val, lim_val, Nat.add_comm] at htv_
  have hq_ := num_trim (W0 := W0) (l := (ys ++ [c])) hto_ hks10
  rw [htv_] at hq_
  refine L (cl (hq_) ?_)
  rintro _ _ ⟨rfl, hkt_⟩
  refine os 1 ?_
  refine kp [4, 23, 1, 20, 21, 5, 6, 22] ?_
  refine nt ?_
  refine SW_ret ?_
  refine body_end (Gs.val s10 ((lim (a0 + b0)).length)) (fun _ => rfl) ?_
  exact ⟨s10, ow, rfl, hkt_⟩
 refine SW_skip (n_then ?_)
 refine sr ?_
 refine os 3 ?_
 refine L (O_make2 (bytes := 4) 0 ((lim a0).length + 1) (.int .u32 0) (fun _ => rfl) (fun _ => rfl) Tryz.underlying82 (by kernel_rfl) rfl (by omega) (by omega) (by omega) rfl ?_)
 intro b11 hlb11 hnb11
 refine SL_weakG ?_
 have hmkb11 : Gs.ok 1 0 (Gs.at b11 ((lim a0).length + 1)) (([] : List Int).map encP) := Gs.ok_cap (by simp) (by omega) (by unfold maxLen; omega)
 refine SL_sig ((Gs.ent 87 1 (Gs.at b11 ((lim a0).length + 1)) (([] : List Int).map encP)) ++ ((Gs.ent 87 1 a ((lim a0).map encP)) ++ ((Gs.ent 87 1 b ((lim b0).map encP)) ++ ([])))) (by rw [show (([] : List Int).map encP) = List.replicate 0 (.int .u32 0) from by simp]) ?_
 refine os 1 ?_
 refine kp [5, 13, 4, 0, 1] ?_
 refine nsr ?_
 refine os 1 ?_
 refine nq ?_
 refine sr ?_
 refine os 3 ?_
 refine nt ?_
 refine SW_block ?_
 refine SW_loop (α := Nat × Gs × List Int × Int) (fun z_ ρ_ σ_ => Fits ρ_ σ_ [(1, Gs.val b ((lim b0).length)), (20, Gs.val a ((lim a0).length)), (21, .int .i64 ((((lim a0).length : Nat)) : Int)), (5, Gs.val z_.2.1 z_.2.2.1.length), (6, .int .u64 z_.2.2.2), (22, .int .i64 (z_.1 : Int))] ((Gs.ent 87 1 z_.2.1 (z_.2.2.1.map encP)) ++ ((Gs.ent 87 1 a ((lim a0).map encP)) ++ ((Gs.ent 87 1 b ((lim b0).map encP)) ++ ([])))) ∧ z_.1 ≤ (lim a0).length ∧ Gs.ok 1 z_.2.2.1.length z_.2.1 (z_.2.2.1.map encP) ∧ (z_.2.2.1.length = z_.1 ∧ LimOk z_.2.2.1 ∧ (0 ≤ z_.2.2.2 ∧ z_.2.2.2 ≤ 1)) ∧ limV z_.2.2.1 + 4294967296 ^ z_.1 * z_.2.2.2.toNat = limV ((lim a0).take z_.1) + limV ((lim b0).take z_.1)) (fun z_ => (lim a0).length - z_.1) (0, (Gs.at b11 ((lim a0).length + 1)), [], (0 : Int)) ⟨⟨fun _ => rfl, ow⟩, Nat.zero_le _, hmkb11, ⟨rfl, (fun x hx => by cases hx), (show 0 ≤ (0 : Int) ∧ (0 : Int) ≤ 1 from by omega)⟩, by simp [limV]⟩ ?_
 rintro ⟨i, ob, ys, c⟩ ρ_ σ_ ⟨hfit, hi0, hi1, hi2, hi3⟩
 refine SW_fits hfit ?_
 clear hfit
 simp only [] at hi0 hi1 hi2 hi3 ⊢
 obtain ⟨hyl, hyo, hc⟩ := hi2
 refine sr ?_
 refine os 1 ?_
 refine nq ?_
 refine cdp (fun hc12 : (i : Int) < ((((lim a0).length : Nat)) : Int) => ?_) (fun hc12 => ?_)
 ·refine SW_skip (n_then ?_)
  refine SW_seq ?_
  refine SW_block ?_
  refine SW_seq ?_
  obtain ⟨e3, he3⟩ : ∃ y_, (lim a0)[i]? = some y_ := ⟨_, List.getElem?_eq_getElem (by omega)⟩
  have heo_ := lim_ok a0 _ (List.mem_of_getElem? he3)
  refine SW_region ?_
  refine os 1 ?_
  refine L (ixg (i : Int) (i) hk Tryz.underlying82 ?_)
  refine L (ld ?_ (hc := Gs.cell hk (fun e he => (mem_a (mem_h he))) (map_cell he3 rfl)))
  refine os 2 ?_
  refine kp [8, 7, 23, 1, 20, 21, 5, 6, 22] ?_
  refine nsr ?_
  refine os 5 ?_
  refine kp [6, 8, 7, 23, 1, 20, 21, 5, 22] ?_
  refine nq ?_
  refine sr ?_
  refine os 4 ?_
  refine kp [34, 6, 8, 7, 23, 1, 20, 21, 5, 22] ?_
  refine nt ?_
  refine cdp (fun hc13 : (i : Int) < ((((lim b0).length : Nat)) : Int) => ?_) (fun hc13 => ?_)
  ·obtain ⟨e4, he4⟩ : ∃ y_, (lim b0)[i]? = some y_ := ⟨_, List.getElem?_eq_getElem (by omega)⟩
   have hey_ := lim_ok b0 _ (List.mem_of_getElem? he4)
   refine SW_region ?_
   refine os 3 ?_
   refine L (ixg (i : Int) (i) hkb Tryz.underlying82 ?_)
   refine L (ld ?_ (hc := Gs.cell hkb (fun e he => (mem_a (mem_a (mem_h he)))) (map_cell he4 rfl)))
   refine os 3 ?_
   refine kp [6, 34, 8, 7, 23, 1, 20, 21, 5, 22] ?_
   refine nsr ?_
   refine os 2 ?_
   refine oV (.int .u32 (IntKind.wrap .u32 ((c + e3) + e4))) ?_
   refine L (nws 87 1 1 [.int .u32 (IntKind.wrap .u32 ((c + e3) + e4))] ?_)
   intro b14
   refine SL_perm _ (perm_cc perm_cz) ?_
   refine L (O_append (size := 1) (bytes := 4) (z := .int .u32 0) ob ys.length 1 (some ⟨b14, 0, none⟩) 1 (ys.map encP) ([.int .u32 (IntKind.wrap .u32 ((c + e3) + e4))]) ((ys ++ [IntKind.wrap .u32 ((c + e3) + e4)]).map encP) (map_snoc _ (IntKind.wrap .u32 ((c + e3) + e4)) rfl) (fun _ => rfl) (fun _ => rfl) Tryz.underlying82 (by kernel_rfl) rfl (by decide) hi1 rfl (.inr ⟨b14, 0, rfl, Cells.own (mem_a mem_z) rfl⟩) rfl (by omega) (by decide) rfl ?_)
   intro s15 hks15 hfs15
   rw [show ys.length + 1 = (ys ++ [IntKind.wrap .u32 ((c + e3) + e4)]).length from by first | (simp; done) | (simp; omega)]
   rw [show ys.length + 1 = (ys ++ [IntKind.wrap .u32 ((c + e3) + e4)]).length from by first | (simp; done) | (simp; omega)] at hks15
   have hls15 : (ys ++ [IntKind.wrap .u32 ((c + e3) + e4)]).length = ys.length + 1 := by first | (simp; done) | (simp; omega)
   refine os 1 ?_
   refine kp [5, 6, 34, 8, 7, 23, 1, 20, 21, 22] ?_
   refine nr ?_
   refine os 1 ?_
   refine oX (.int .u64 (Int.fdiv ((c + e3) + e4) 4294967296)) (.int .u64 (((c + e3) + e4) / 4294967296)) (congrArg (Value.int .u64) (Int.fdiv_eq_ediv_of_nonneg _ (by omega))) ?_
   refine os 1 ?_
   refine SL_nil (n_in (n_then ?_))
   refine SW_region ?_
   refine os 2 ?_
   refine kp [22, 6, 5, 34, 8, 7, 23, 1, 20, 21] ?_
   refine nt ?_
   obtain ⟨q1_, q2_, q3_, q4_⟩ := plus_y hyl hyo he3 heo_ he4 hey_ hc hi3
   refine ⟨(i + 1, s15, (ys ++ [IntKind.wrap .u32 ((c + e3) + e4)]), ((c + e3) + e4) / 4294967296), by simp only []; omega, ?_⟩
   simp only []
   exact ⟨⟨fun _ => rfl, ow⟩, by omega, hks15, ⟨q1_, q2_, q3_⟩, q4_⟩
  refine SW_skip (n_then ?_)
  refine sr ?_
  refine os 2 ?_
  refine oV (.int .u32 (IntKind.wrap .u32 (c + e3))) ?_
  refine L (nws 87 1 1 [.int .u32 (IntKind.wrap .u32 (c + e3))] ?_)
  intro b16
  refine SL_perm _ (perm_cc perm_cz) ?_
  refine L (O_append (size := 1) (bytes := 4) (z := .int .u32 0) ob ys.length 1 (some ⟨b16, 0, none⟩) 1 (ys.map encP) ([.int .u32 (IntKind.wrap .u32 (c + e3))]) ((ys ++ [IntKind.wrap .u32 (c + e3)]).map encP) (map_snoc _ (IntKind.wrap .u32 (c + e3)) rfl) (fun _ => rfl) (fun _ => rfl) Tryz.underlying82 (by kernel_rfl) rfl (by decide) hi1 rfl (.inr ⟨b16, 0, rfl, Cells.own (mem_a mem_z) rfl⟩) rfl (by omega) (by decide) rfl ?_)
  intro s17 hks17 hfs17
  rw [show ys.length + 1 = (ys ++ [IntKind.wrap .u32 (c + e3)]).length from by first | (simp; done) | (simp; omega)]
  rw [show ys.length + 1 = (ys ++ [IntKind.wrap .u32 (c + e3)]).length from by first | (simp; done) | (simp; omega)] at hks17
  have hls17 : (ys ++ [IntKind.wrap .u32 (c + e3)]).length = ys.length + 1 := by first | (simp; done) | (simp; omega)
  refine os 1 ?_
  refine kp [5, 34, 6, 8, 7, 23, 1, 20, 21, 22] ?_
  refine nr ?_
  refine os 1 ?_
  refine oX (.int .u64 (Int.fdiv (c + e3) 4294967296)) (.int .u64 ((c + e3) / 4294967296)) (congrArg (Value.int .u64) (Int.fdiv_eq_ediv_of_nonneg _ (by omega))) ?_
  refine os 1 ?_
  refine SL_nil (n_in (n_then ?_))
  refine SW_region ?_
  refine os 2 ?_
  refine kp [22, 6, 5, 34, 8, 7, 23, 1, 20, 21] ?_
  refine nt ?_
  obtain ⟨q1_, q2_, q3_, q4_⟩ := plus_n (m := (lim b0)) hyl hyo he3 heo_ (by omega) hc hi3
  refine ⟨(i + 1, s17, (ys ++ [IntKind.wrap .u32 (c + e3)]), (c + e3) / 4294967296), by simp only []; omega, ?_⟩
  simp only []
  exact ⟨⟨fun _ => rfl, ow⟩, by omega, hks17, ⟨q1_, q2_, q3_⟩, q4_⟩
 refine SW_exit (x_then (x_then (x_in (n_then ?_))))
 refine sr ?_
 refine os 3 ?_
 refine L (nws 87 1 1 [.int .u32 c] ?_)
 intro b18
 refine SL_perm _ (perm_cc perm_cz) ?_
 refine L (O_append (size := 1) (bytes := 4) (z := .int .u32 0) ob ys.length 1 (some ⟨b18, 0, none⟩) 1 (ys.map encP) ([.int .u32 c]) ((ys ++ [c]).map encP) (map_snoc _ c rfl) (fun _ => rfl) (fun _ => rfl) Tryz.underlying82 (by kernel_rfl) rfl (by decide) hi1 rfl (.inr ⟨b18, 0, rfl, Cells.own (mem_a mem_z) rfl⟩) rfl (by omega) (by decide) rfl ?_)
 intro s19 hks19 hfs19
 rw [show ys.length + 1 = (ys ++ [c]).length from by first | (simp; done) | (simp; omega)]
 rw [show ys.length + 1 = (ys ++ [c]).length from by first | (simp; done) | (simp; omega)] at hks19
 have hls19 : (ys ++ [c]).length = ys.length + 1 := by first | (simp; done) | (simp; omega)
 have hie_ : i = (lim a0).length := by omega
 rw [hie_] at hyl hi3
 obtain ⟨hto_, htv_⟩ := plus_end (l := (lim a0)) (m := (lim b0)) hyl (by omega) hyo hc hi3
 rw [lim_val, lim_val] at htv_
 have hq_ := num_trim (W0 := W0) (l := (ys ++ [c])) hto_ hks19
 rw [htv_] at hq_
 refine L (cl (hq_) ?_)
 rintro _ _ ⟨rfl, hkt_⟩
 refine os 1 ?_
 refine kp [4, 23, 1, 20, 21, 5, 6, 22] ?_
 refine nt ?_
 refine SW_ret ?_
 refine body_end (Gs.val s19 ((lim (a0 + b0)).length)) (fun _ => rfl) ?_
 exact ⟨s19, ow, rfl, hkt_⟩

end Go.Proofs.YtnhmmjogfkjceaaGreatDoor
namespace Go.Proofs.YtnhmmjogfkjceaaGreatDoor
open Go.Sl

theorem num_tens {W0 : World} {a : Gs} {a0 n : Nat} (hk : Gs.ok 1 (lim a0).length a ((lim a0).map encP)) (hb : (lim (a0 * 10 ^ n)).length ≤ 1048576) (hn : n ≤ 1048576) : SC Tryz.prog W0 92 #[a.val (lim a0).length, .int .i64 (n : Int)] (Gs.ent 87 1 a ((lim a0).map encP)) (Ret (fun g : Gs => Gs.ent 87 1 g ((lim (a0 * 10 ^ n)).map encP)) (fun v g => v = g.val (lim (a0 * 10 ^ n)).length ∧ Gs.ok 1 (lim (a0 * 10 ^ n)).length g ((lim (a0 * 10 ^ n)).map encP))) := by
 refine SC_body (fn := Tryz.f92) (n := 12) Tryz.func92 rfl (by kernel_rfl) (ρ := [(0, Gs.val a ((lim a0).length)), (1, .int .i64 (n : Int))]) rfl ?_
 refine SW_sig ((Gs.ent 87 1 a ((lim a0).map encP)) ++ ([])) (by simp only [List.append_nil, List.append_assoc]) ?_
 refine sr ?_
 refine os 1 ?_
 refine nq ?_
 refine sr ?_
 refine os 2 ?_
 refine nt ?_
 refine SW_block ?_
 rw [show lim a0 = (lim (a0 * 10 ^ 0)) from by simp]
 rw [show lim a0 = (lim (a0 * 10 ^ 0)) from by simp] at hk
 refine SW_loop (α := Nat × Gs) (fun z_ ρ_ σ_ => Fits ρ_ σ_ [(0, Gs.val z_.2 ((lim (a0 * 10 ^ z_.1)).length)), (5, .int .i64 (n : Int)), (6, .int .i64 (z_.1 : Int))] ((Gs.ent 87 1 z_.2 ((lim (a0 * 10 ^ z_.1)).map encP)) ++ ([])) ∧ z_.1 ≤ n ∧ Gs.ok 1 (lim (a0 * 10 ^ z_.1)).length z_.2 ((lim (a0 * 10 ^ z_.1)).map encP)) (fun z_ => n - z_.1) (0, a) ⟨⟨fun _ => rfl, ow⟩, Nat.zero_le _, hk⟩ ?_
 rintro ⟨i, g⟩ ρ_ σ_ ⟨hfit, hi0, hi1⟩
 refine SW_fits hfit ?_
 clear hfit
 simp only [] at hi0 hi1 ⊢
 refine sr ?_
 refine os 1 ?_
 refine nq ?_
 refine cdp (fun hc1 : (i : Int) < (n : Int) => ?_) (fun hc1 => ?_)
 ·refine SW_skip (n_then ?_)
  refine SW_seq ?_
  refine SW_block ?_
  refine SW_region ?_
  refine os 1 ?_
  have hq_ := num_times (W0 := W0) (n := 10) (more := 0) (hi1 : Gs.ok 1 (lim (a0 * 10 ^ i)).length g ((lim (a0 * 10 ^ i)).map encP)) (Nat.le_trans (lim_len_mono (pow_mono10 (by omega))) hb) (by decide) (by decide)
  rw [show a0 * 10 ^ i * 10 + 0 = a0 * 10 ^ (i + 1) from by rw [Nat.pow_succ, Nat.mul_assoc, Nat.add_zero]] at hq_
  refine L (cl (hq_) ?_)
  rintro _ q ⟨rfl, hkq⟩
  refine un ?_
  refine os 1 ?_
  refine SL_nil (n_in (n_then ?_))
  refine SW_region ?_
  refine os 2 ?_
  refine kp [6, 0, 7, 5] ?_
  refine nt ?_
  exact ⟨(i + 1, q), by simp only []; omega, ⟨fun _ => rfl, ow⟩, by simp only []; omega, hkq⟩
 refine SW_exit (x_then (x_then (x_in (n_then ?_))))
 refine sr ?_
 refine os 2 ?_
 refine nt ?_
 refine SW_ret ?_
 refine body_end (Gs.val g ((lim (a0 * 10 ^ i)).length)) (fun _ => rfl) ?_
 have hin_ : i = n := by omega
 rw [hin_] at hi1 ⊢
 exact ⟨g, ow, rfl, hi1⟩

theorem num_of {W0 : World} {X : Bytes} (hd : ∀ c ∈ X, 48 ≤ c.toNat ∧ c.toNat ≤ 57) (hb : (lim (ofD X)).length ≤ 1048576) (hn : X.length ≤ 1048576) : SC Tryz.prog W0 91 #[.string (bS X)] [] (Ret (fun g : Gs => Gs.ent 87 1 g ((lim (ofD X)).map encP)) (fun v g => v = g.val (lim (ofD X)).length ∧ Gs.ok 1 (lim (ofD X)).length g ((lim (ofD X)).map encP))) := by
 refine SC_body (fn := Tryz.f91) (n := 20) Tryz.func91 rfl (by kernel_rfl) (ρ := [(0, .string (bS X))]) rfl ?_
 refine sr ?_
 refine os 1 ?_
 refine nsr ?_
 refine os 1 ?_
 refine nq ?_
 refine sr ?_
 refine os 1 ?_
 refine L (O_txt (bS X) Tryz.underlying9 Tryz.underlying95 Tryz.underlying5 (fun _ => rfl) rfl ?_)
 intro b1 capb1 hcapb1
 rw [bS_size] at hcapb1 ⊢
 refine os 2 ?_
 refine nt ?_
 refine SW_block ?_
 refine SW_sig (Gs.ent 87 1 Gs.nil (([] : List Int).map encP) ++ ((b1, .txt (txtV X)) :: ([]))) rfl ?_
 refine SW_loop (α := Nat × Gs × List Int) (fun z_ ρ_ σ_ => Fits ρ_ σ_ [(3, Gs.val z_.2.1 z_.2.2.length), (7, .slice (some ⟨b1, 0, none⟩) X.length capb1), (8, .int .i64 (X.length : Int)), (9, .int .i64 (z_.1 : Int))] ((Gs.ent 87 1 z_.2.1 (z_.2.2.map encP)) ++ ((b1, .txt (txtV X)) :: ([]))) ∧ z_.1 ≤ X.length ∧ Gs.ok 1 z_.2.2.length z_.2.1 (z_.2.2.map encP) ∧ z_.2.2 = lim (ofD (X.take z_.1))) (fun z_ => X.length - z_.1) (0, Gs.nil, []) ⟨⟨fun _ => rfl, ow⟩, Nat.zero_le _, ⟨rfl, rfl⟩, by simp [ofD, lim_zero]⟩ ?_
 rintro ⟨i, g, l⟩ ρ_ σ_ ⟨hfit, hi0, hi1, hi2⟩
 refine SW_fits hfit ?_
 clear hfit
 simp only [] at hi0 hi1 hi2 ⊢
 subst hi2
 refine sr ?_
 refine os 1 ?_
 refine nq ?_
 refine cdp (fun hc2 : (i : Int) < (X.length : Int) => ?_) (fun hc2 => ?_)
 ·refine SW_skip (n_then ?_)
  refine SW_seq ?_
  refine SW_block ?_
  refine sr ?_
  refine L (O_indexAddr' (i : Int) (i) b1 0 X.length capb1 .i64 1 Tryz.underlying95 (by kernel_rfl) (fun _ => rfl) (fun _ => rfl) (by omega) (by omega) (by omega) rfl ?_)
  obtain ⟨e1, he1⟩ : ∃ y_, X[i]? = some y_ := ⟨_, List.getElem?_eq_getElem (by omega)⟩
  refine L (ld ?_ (hc := Cell.txt (mem_a mem_z) (txt_at he1)))
  refine os 1 ?_
  refine nt ?_
  have hdi_ := hd _ (List.mem_of_getElem? he1)
  refine SW_region ?_
  refine os 4 ?_
  have hq_ := num_times (W0 := W0) (n := 10) (more := e1.toNat - 48) (hi1 : Gs.ok 1 (lim (ofD (X.take i))).length g ((lim (ofD (X.take i))).map encP)) (Nat.le_trans (lim_len_mono (ofD_take_le _ _)) hb) (by decide) (by omega)
  rw [← ofD_step he1, show ((e1.toNat - 48 : Nat) : Int) = (e1.toNat : Int) - 48 from by omega] at hq_
  refine L (cl (hq_) ?_)
  rintro _ q ⟨rfl, hkq⟩
  refine un ?_
  refine os 1 ?_
  refine kp [3, 5, 10, 7, 8, 9] ?_
  refine SL_nil (n_in (n_then ?_))
  refine SW_region ?_
  refine os 2 ?_
  refine nt ?_
  exact ⟨(i + 1, q, _), by simp only []; omega, ⟨fun _ => rfl, ow⟩, by simp only []; omega, hkq, rfl⟩
 refine SW_exit (x_then (x_then (x_in (n_then ?_))))
 refine sr ?_
 refine os 2 ?_
 refine nt ?_
 refine SW_ret ?_
 refine body_end (Gs.val g ((lim (ofD (X.take i))).length)) (fun _ => rfl) ?_
 have hin_ : i = X.length := by omega
 rw [hin_, List.take_length] at hi1 ⊢
 exact ⟨g, ow, rfl, hi1⟩

end Go.Proofs.YtnhmmjogfkjceaaGreatDoor
namespace Go.Proofs.YtnhmmjogfkjceaaGreatDoor
open Go.Sl

theorem num_signed {W0 : World} {x : Int} : SC Tryz.prog W0 163 #[.bool false, .int .u64 x] [] (Ret (fun _ : Unit => []) (fun v _ => v = .int .u64 x)) := by
 refine SC_body (fn := Tryz.f163) (n := 9) Tryz.func163 rfl (by kernel_rfl) (ρ := [(0, .bool false), (1, .int .u64 x)]) rfl ?_
 refine sr ?_
 refine os 1 ?_
 refine nq ?_
 refine sr ?_
 refine os 1 ?_
 refine nt ?_
 refine cf ?_
 refine SW_skip (n_then ?_)
 refine sr ?_
 refine os 2 ?_
 refine nt ?_
 refine SW_ret ?_
 refine body_end (.int .u64 x) (fun _ => rfl) ?_
 exact ⟨(), ow, rfl⟩

theorem num_lead {W0 : World} {m e : Int} (he : -10000 ≤ e ∧ e ≤ 10000) : SC Tryz.prog W0 162 #[.agg #[.bool false, .int .u64 m, .int .i64 e]] [] (Ret (fun _ : Unit => []) (fun v _ => v = .int .i64 (e + 63))) := by
 refine SC_body (fn := Tryz.f162) (n := 6) Tryz.func162 rfl (by kernel_rfl) (ρ := [(0, .agg #[.bool false, .int .u64 m, .int .i64 e])]) rfl ?_
 refine sr ?_
 refine L (nw 137 3 [.bool false, .int .u64 m, .int .i64 e] ?_)
 intro b1
 refine os 1 ?_
 refine nsr ?_
 refine os 1 ?_
 refine L (ld ?_)
 refine os 2 ?_
 refine kp [2, 1, 0] ?_
 refine nt ?_
 refine SW_ret ?_
 refine body_end (.int .i64 (e + 63)) (fun _ => rfl) ?_
 exact ⟨(), ow, rfl⟩

theorem num_near {W0 : World} {m : Nat} {e : Int} {h : Bool} (hm : m < 18446744073709551616) (he : -10000 ≤ e ∧ e ≤ 10000) : SC Tryz.prog W0 129 #[.agg #[.bool false, .int .u64 (m : Int), .int .i64 e], .bool h] [] (Ret (fun _ : Unit => []) (fun v _ => v = .int .u64 (formNear m e h : Int))) := by
 refine SC_body (fn := Tryz.f129) (n := 61) Tryz.func129 rfl (by kernel_rfl) (ρ := [(0, .agg #[.bool false, .int .u64 (m : Int), .int .i64 e]), (1, .bool h)]) rfl ?_
 refine sr ?_
 refine L (nw 137 3 [.bool false, .int .u64 (m : Int), .int .i64 e] ?_)
 intro b1
 refine os 1 ?_
 refine nq ?_
 refine sr ?_
 refine L (lds 3 ?_)
 refine L (cl (num_lead he) ?_)
 rintro _ _ rfl
 refine un ?_
 refine os 1 ?_
 refine nt ?_
 refine cdp (fun hc2 : (e + 63) > 1023 => ?_) (fun hc2 => ?_)
 ·refine sr ?_
  refine os 1 ?_
  refine L (ld ?_)
  refine L (cl (num_signed) ?_)
  rintro _ _ rfl
  refine un ?_
  refine os 1 ?_
  refine kp [4, 11, 2, 0, 1] ?_
  refine nt ?_
  refine SW_ret (r_then ?_)
  refine body_end (.int .u64 9218868437227405312) (fun _ => rfl) ?_
  exact ⟨(), ow, by rw [formNear_hi (by omega)]; rfl⟩
 refine SW_skip (n_then ?_)
 refine sr ?_
 refine L (lds 3 ?_)
 refine L (cl (num_lead he) ?_)
 rintro _ _ rfl
 refine un ?_
 refine os 3 ?_
 refine kp [6, 5, 11, 4, 2, 0, 1] ?_
 refine nq ?_
 refine sr ?_
 refine os 2 ?_
 refine nt ?_
 refine cdp (fun hc3 : ((e + 63) + 1023) < 1 => ?_) (fun hc3 => ?_)
 ·refine SW_region ?_
  refine os 4 ?_
  refine kp [6, 5, 19, 11, 4, 2, 0, 1] ?_
  refine nq ?_
  refine sr ?_
  refine os 2 ?_
  refine nt ?_
  refine cdp (fun hc4 : (12 - ((e + 63) + 1023)) > 64 => ?_) (fun hc4 => ?_)
  ·refine sr ?_
   refine os 1 ?_
   refine L (ld ?_)
   refine L (cl (num_signed) ?_)
   rintro _ _ rfl
   refine un ?_
   refine os 1 ?_
   refine kp [4, 23, 6, 5, 19, 11, 2, 0, 1] ?_
   refine nt ?_
   refine SW_ret (r_then ?_)
   refine body_end (.int .u64 0) (fun _ => rfl) ?_
   exact ⟨(), ow, by rw [formNear_lo (by omega) (by omega)]; rfl⟩
  refine SW_skip (n_then ?_)
  refine SW_seq ?_
  obtain ⟨M, hM⟩ : ∃ M, M = m / 2 ^ (12 - (e + 63 + 1023)).toNat := ⟨_, rfl⟩
  obtain ⟨R, hR⟩ : ∃ R, R = m * 2 ^ (64 - (12 - (e + 63 + 1023)).toNat) % 18446744073709551616 := ⟨_, rfl⟩
  have hdv_ := div_pow_lt (s := (12 - (e + 63 + 1023)).toNat) hm (by omega)
  rw [← hM] at hdv_
  have hrl_ : R < 18446744073709551616 := by rw [hR]; exact Nat.mod_lt _ (by decide)
  refine SW_region ?_
  refine os 1 ?_
  refine L (ld ?_)
  refine os 1 ?_
  refine oV (.int .u64 (M : Int)) ?_ (hs := shrR (m := (m : Int)) (c := 12 - ((e + 63) + 1023)) _ (by omega) (by rw [show IntKind.u64.bits = 64 from rfl, Nat.min_eq_left (by omega)]; rw [Int.fdiv_eq_ediv_of_nonneg _ (by exact_mod_cast Nat.zero_le _), hM]; simp))
  refine os 1 ?_
  refine kp [7, 23, 6, 5, 19, 11, 4, 2, 0, 1] ?_
  refine nsr ?_
  refine os 1 ?_
  refine L (ld ?_)
  refine os 2 ?_
  refine oV (.int .u64 (R : Int)) ?_ (hs := shlR (m := (m : Int)) (c := 64 - (12 - ((e + 63) + 1023))) _ (by omega) (by rw [show IntKind.u64.bits = 64 from rfl, Nat.min_eq_left (by omega), wrap64, hR, show (64 - (12 - ((e + 63) + 1023))).toNat = 64 - (12 - (e + 63 + 1023)).toNat from by omega]; simp))
  refine os 1 ?_
  refine kp [8, 7, 23, 6, 5, 19, 11, 4, 2, 0, 1] ?_
  refine nq ?_
  refine sr ?_
  refine os 3 ?_
  refine tbp 38 (fun hg5 => ?_) (fun hg5 => ?_)
  ·replace hg5 : (R : Int) > 9223372036854775808 := hg5
   refine os 11 ?_
   refine kp [49, 8, 7, 23, 6, 5, 19, 11, 4, 2, 0, 1] ?_
   refine nt ?_
   refine ct ?_
   refine SW_region ?_
   refine os 3 ?_
   refine nsr ?_
   refine os 1 ?_
   refine L (ld ?_)
   refine os 1 ?_
   refine oV (.int .i64 0) ?_
   refine oV (.int .u64 0) ?_
   refine oV (.int .u64 0) ?_
   refine os 2 ?_
   refine kp [59, 53, 7, 49, 8, 23, 6, 5, 19, 11, 4, 2, 0, 1] ?_
   refine L (cl (num_signed) ?_)
   rintro _ _ rfl
   refine un ?_
   refine os 1 ?_
   refine kp [4, 7, 49, 8, 23, 6, 5, 19, 11, 2, 0, 1] ?_
   refine nt ?_
   refine SW_ret ?_
   refine body_end (.int .u64 (0 + ((M : Int) + 1))) (fun _ => rfl) ?_
   have hfn_ := formNear_d (m := m) (e := e) (h := h) (by omega) (by omega) hM hR
   rw [up_if (show upIf R M h from by first | exact .inl (by omega) | exact .inr ⟨by omega, .inl (by assumption)⟩ | exact .inr ⟨by omega, .inr (by omega)⟩)] at hfn_
   exact ⟨(), ow, congrArg (Value.int .u64) (by omega)⟩
  replace hg5 : ¬ ((R : Int) > 9223372036854775808) := hg5
  refine os 3 ?_
  refine tb 41 (fun hg6 => ?_) (fun hg6 => ?_)
  ·replace hg6 : ((R : Int) == 9223372036854775808) = true := hg6
   simp only [beq_iff_eq, bne_iff_ne, ne_eq, beq_eq_false_iff_ne, bne_eq_false_iff_eq, Classical.not_not] at hg6
   refine os 2 ?_
   refine tb 43 (fun hg7 => ?_) (fun hg7 => ?_)
   ·replace hg7 : h = true := hg7
    refine os 6 ?_
    refine kp [49, 8, 7, 23, 6, 5, 19, 11, 4, 2, 0, 1] ?_
    refine nt ?_
    refine ct ?_
    refine SW_region ?_
    refine os 3 ?_
    refine nsr ?_
    refine os 1 ?_
    refine L (ld ?_)
    refine os 1 ?_
    refine oV (.int .i64 0) ?_
    refine oV (.int .u64 0) ?_
    refine oV (.int .u64 0) ?_
    refine os 2 ?_
    refine kp [59, 53, 7, 49, 8, 23, 6, 5, 19, 11, 4, 2, 0, 1] ?_
    refine L (cl (num_signed) ?_)
    rintro _ _ rfl
    refine un ?_
    refine os 1 ?_
    refine kp [4, 7, 49, 8, 23, 6, 5, 19, 11, 2, 0, 1] ?_
    refine nt ?_
    refine SW_ret ?_
    refine body_end (.int .u64 (0 + ((M : Int) + 1))) (fun _ => rfl) ?_
    have hfn_ := formNear_d (m := m) (e := e) (h := h) (by omega) (by omega) hM hR
    rw [up_if (show upIf R M h from by first | exact .inl (by omega) | exact .inr ⟨by omega, .inl (by assumption)⟩ | exact .inr ⟨by omega, .inr (by omega)⟩)] at hfn_
    exact ⟨(), ow, congrArg (Value.int .u64) (by omega)⟩
   replace hg7 : h = false := hg7
   refine os 1 ?_
   refine oV (.int .u64 ((M % 2 : Nat) : Int)) ?_ (hs := andR (m := (M : Int)) (c := 1) _ (and1_64 M (by omega)))
   refine os 4 ?_
   refine kp [49, 8, 7, 23, 6, 5, 19, 11, 4, 2, 0, 1] ?_
   refine nt ?_
   refine cd (fun hc8 : (((M % 2 : Nat) : Int) == 1) = true => ?_) (fun hc8 => ?_)
   ·simp only [beq_iff_eq, bne_iff_ne, ne_eq, beq_eq_false_iff_ne, bne_eq_false_iff_eq, Classical.not_not] at hc8
    refine SW_region ?_
    refine os 3 ?_
    refine nsr ?_
    refine os 1 ?_
    refine L (ld ?_)
    refine os 1 ?_
    refine oV (.int .i64 0) ?_
    refine oV (.int .u64 0) ?_
    refine oV (.int .u64 0) ?_
    refine os 2 ?_
    refine kp [59, 53, 7, 49, 8, 23, 6, 5, 19, 11, 4, 2, 0, 1] ?_
    refine L (cl (num_signed) ?_)
    rintro _ _ rfl
    refine un ?_
    refine os 1 ?_
    refine kp [4, 7, 49, 8, 23, 6, 5, 19, 11, 2, 0, 1] ?_
    refine nt ?_
    refine SW_ret ?_
    refine body_end (.int .u64 (0 + ((M : Int) + 1))) (fun _ => rfl) ?_
    have hfn_ := formNear_d (m := m) (e := e) (h := h) (by omega) (by omega) hM hR
    rw [up_if (show upIf R M h from by first | exact .inl (by omega) | exact .inr ⟨by omega, .inl (by assumption)⟩ | exact .inr ⟨by omega, .inr (by omega)⟩)] at hfn_
    exact ⟨(), ow, congrArg (Value.int .u64) (by omega)⟩
   simp only [beq_iff_eq, bne_iff_ne, ne_eq, beq_eq_false_iff_ne, bne_eq_false_iff_eq, Classical.not_not] at hc8
   refine SW_skip (n_then ?_)
   refine sr ?_
   refine os 1 ?_
   refine L (ld ?_)
   refine os 1 ?_
   refine oV (.int .i64 0) ?_
   refine oV (.int .u64 0) ?_
   refine oV (.int .u64 0) ?_
   refine os 2 ?_
   refine kp [59, 53, 49, 8, 7, 23, 6, 5, 19, 11, 4, 2, 0, 1] ?_
   refine L (cl (num_signed) ?_)
   rintro _ _ rfl
   refine un ?_
   refine os 1 ?_
   refine kp [4, 49, 8, 7, 23, 6, 5, 19, 11, 2, 0, 1] ?_
   refine nt ?_
   refine SW_ret ?_
   refine body_end (.int .u64 (0 + (M : Int))) (fun _ => rfl) ?_
   have hfn_ := formNear_d (m := m) (e := e) (h := h) (by omega) (by omega) hM hR
   rw [dn_if (show ¬ upIf R M h from by rintro (q | ⟨q1, q2 | q2⟩) <;> first | omega | simp_all)] at hfn_
   exact ⟨(), ow, congrArg (Value.int .u64) (by omega)⟩
  replace hg6 : ((R : Int) == 9223372036854775808) = false := hg6
  simp only [beq_iff_eq, bne_iff_ne, ne_eq, beq_eq_false_iff_ne, bne_eq_false_iff_eq, Classical.not_not] at hg6
  refine os 8 ?_
  refine kp [49, 8, 7, 23, 6, 5, 19, 11, 4, 2, 0, 1] ?_
  refine nt ?_
  refine cf ?_
  refine SW_skip (n_then ?_)
  refine sr ?_
  refine os 1 ?_
  refine L (ld ?_)
  refine os 1 ?_
  refine oV (.int .i64 0) ?_
  refine oV (.int .u64 0) ?_
  refine oV (.int .u64 0) ?_
  refine os 2 ?_
  refine kp [59, 53, 49, 8, 7, 23, 6, 5, 19, 11, 4, 2, 0, 1] ?_
  refine L (cl (num_signed) ?_)
  rintro _ _ rfl
  refine un ?_
  refine os 1 ?_
  refine kp [4, 49, 8, 7, 23, 6, 5, 19, 11, 2, 0, 1] ?_
  refine nt ?_
  refine SW_ret ?_
  refine body_end (.int .u64 (0 + (M : Int))) (fun _ => rfl) ?_
  have hfn_ := formNear_d (m := m) (e := e) (h := h) (by omega) (by omega) hM hR
  rw [dn_if (show ¬ upIf R M h from by rintro (q | ⟨q1, q2 | q2⟩) <;> first | omega | simp_all)] at hfn_
  exact ⟨(), ow, congrArg (Value.int .u64) (by omega)⟩
 refine SW_skip (n_then ?_)
 refine SW_seq ?_
 refine sr ?_
 refine os 1 ?_
 refine oV (.bool false) ?_
 refine nt ?_
 refine cf ?_
 refine SW_skip (n_then ?_)
 refine SW_seq ?_
 obtain ⟨M, hM⟩ : ∃ M, M = m / 2 ^ 11 := ⟨_, rfl⟩
 obtain ⟨R, hR⟩ : ∃ R, R = m * 2 ^ 53 % 18446744073709551616 := ⟨_, rfl⟩
 have hdv_ := div_pow_lt (s := 11) hm (by omega)
 rw [← hM] at hdv_
 have hrl_ : R < 18446744073709551616 := by rw [hR]; exact Nat.mod_lt _ (by decide)
 refine SW_region ?_
 refine os 1 ?_
 refine L (ld ?_)
 refine os 1 ?_
 refine oV (.int .u64 (M : Int)) ?_ (hs := shrR (m := (m : Int)) (c := 11) _ (by omega) (by rw [show IntKind.u64.bits = 64 from rfl, Nat.min_eq_left (by omega)]; rw [Int.fdiv_eq_ediv_of_nonneg _ (by exact_mod_cast Nat.zero_le _), hM]; simp))
 refine os 1 ?_
 refine kp [7, 23, 19, 6, 5, 11, 4, 2, 0, 1] ?_
 refine nsr ?_
 refine os 1 ?_
 refine L (ld ?_)
 refine os 1 ?_
 refine oV (.int .i64 53) ?_
 refine oV (.int .u64 (R : Int)) ?_ (hs := shlR (m := (m : Int)) (c := 53) _ (by omega) (by rw [show IntKind.u64.bits = 64 from rfl, Nat.min_eq_left (by omega), wrap64, hR, show (53 : Int).toNat = 53 from rfl]; simp))
 refine os 1 ?_
 refine kp [8, 7, 23, 19, 6, 5, 11, 4, 2, 0, 1] ?_
 refine nq ?_
 refine sr ?_
 refine os 3 ?_
 refine tbp 38 (fun hg9 => ?_) (fun hg9 => ?_)
 ·replace hg9 : (R : Int) > 9223372036854775808 := hg9
  refine os 11 ?_
  refine kp [49, 8, 7, 23, 19, 6, 5, 11, 4, 2, 0, 1] ?_
  refine nt ?_
  refine ct ?_
  refine SW_region ?_
  refine os 3 ?_
  refine nsr ?_
  refine os 1 ?_
  refine L (ld ?_)
  refine os 3 ?_
  refine oX (.int .u64 (IntKind.wrap .u64 ((((e + 63) + 1023) - 1) * 4503599627370496))) (.int .u64 ((((e + 63) + 1023) - 1) * 4503599627370496)) (congrArg (Value.int .u64) (IntWalk.u64_in _ (by omega))) ?_
  refine os 2 ?_
  refine kp [59, 53, 7, 49, 8, 23, 19, 6, 5, 11, 4, 2, 0, 1] ?_
  refine L (cl (num_signed) ?_)
  rintro _ _ rfl
  refine un ?_
  refine os 1 ?_
  refine kp [4, 7, 49, 8, 23, 19, 6, 5, 11, 2, 0, 1] ?_
  refine nt ?_
  refine SW_ret ?_
  refine body_end (.int .u64 (((((e + 63) + 1023) - 1) * 4503599627370496) + ((M : Int) + 1))) (fun _ => rfl) ?_
  have hfn_ := formNear_n (m := m) (e := e) (h := h) (by omega) (by omega) hM hR
  rw [up_if (show upIf R M h from by first | exact .inl (by omega) | exact .inr ⟨by omega, .inl (by assumption)⟩ | exact .inr ⟨by omega, .inr (by omega)⟩)] at hfn_
  exact ⟨(), ow, congrArg (Value.int .u64) (by omega)⟩
 replace hg9 : ¬ ((R : Int) > 9223372036854775808) := hg9
 refine os 3 ?_
 refine tb 41 (fun hg10 => ?_) (fun hg10 => ?_)
 ·replace hg10 : ((R : Int) == 9223372036854775808) = true := hg10
  simp only [beq_iff_eq, bne_iff_ne, ne_eq, beq_eq_false_iff_ne, bne_eq_false_iff_eq, Classical.not_not] at hg10
  refine os 2 ?_
  refine tb 43 (fun hg11 => ?_) (fun hg11 => ?_)
  ·replace hg11 : h = true := hg11
   refine os 6 ?_
   refine kp [49, 8, 7, 23, 19, 6, 5, 11, 4, 2, 0, 1] ?_
   refine nt ?_
   refine ct ?_
   refine SW_region ?_
   refine os 3 ?_
   refine nsr ?_
   refine os 1 ?_
   refine L (ld ?_)
   refine os 3 ?_
   refine oX (.int .u64 (IntKind.wrap .u64 ((((e + 63) + 1023) - 1) * 4503599627370496))) (.int .u64 ((((e + 63) + 1023) - 1) * 4503599627370496)) (congrArg (Value.int .u64) (IntWalk.u64_in _ (by omega))) ?_
   refine os 2 ?_
   refine kp [59, 53, 7, 49, 8, 23, 19, 6, 5, 11, 4, 2, 0, 1] ?_
   refine L (cl (num_signed) ?_)
   rintro _ _ rfl
   refine un ?_
   refine os 1 ?_
   refine kp [4, 7, 49, 8, 23, 19, 6, 5, 11, 2, 0, 1] ?_
   refine nt ?_
   refine SW_ret ?_
   refine body_end (.int .u64 (((((e + 63) + 1023) - 1) * 4503599627370496) + ((M : Int) + 1))) (fun _ => rfl) ?_
   have hfn_ := formNear_n (m := m) (e := e) (h := h) (by omega) (by omega) hM hR
   rw [up_if (show upIf R M h from by first | exact .inl (by omega) | exact .inr ⟨by omega, .inl (by assumption)⟩ | exact .inr ⟨by omega, .inr (by omega)⟩)] at hfn_
   exact ⟨(), ow, congrArg (Value.int .u64) (by omega)⟩
  replace hg11 : h = false := hg11
  refine os 1 ?_
  refine oV (.int .u64 ((M % 2 : Nat) : Int)) ?_ (hs := andR (m := (M : Int)) (c := 1) _ (and1_64 M (by omega)))
  refine os 4 ?_
  refine kp [49, 8, 7, 23, 19, 6, 5, 11, 4, 2, 0, 1] ?_
  refine nt ?_
  refine cd (fun hc12 : (((M % 2 : Nat) : Int) == 1) = true => ?_) (fun hc12 => ?_)
  ·simp only [beq_iff_eq, bne_iff_ne, ne_eq, beq_eq_false_iff_ne, bne_eq_false_iff_eq, Classical.not_not] at hc12
   refine SW_region ?_
   refine os 3 ?_
   refine nsr ?_
   refine os 1 ?_
   refine L (ld ?_)
   refine os 3 ?_
   refine oX (.int .u64 (IntKind.wrap .u64 ((((e + 63) + 1023) - 1) * 4503599627370496))) (.int .u64 ((((e + 63) + 1023) - 1) * 4503599627370496)) (congrArg (Value.int .u64) (IntWalk.u64_in _ (by omega))) ?_
   refine os 2 ?_
   refine kp [59, 53, 7, 49, 8, 23, 19, 6, 5, 11, 4, 2, 0, 1] ?_
   refine L (cl (num_signed) ?_)
   rintro _ _ rfl
   refine un ?_
   refine os 1 ?_
   refine kp [4, 7, 49, 8, 23, 19, 6, 5, 11, 2, 0, 1] ?_
   refine nt ?_
   refine SW_ret ?_
   refine body_end (.int .u64 (((((e + 63) + 1023) - 1) * 4503599627370496) + ((M : Int) + 1))) (fun _ => rfl) ?_
   have hfn_ := formNear_n (m := m) (e := e) (h := h) (by omega) (by omega) hM hR
   rw [up_if (show upIf R M h from by first | exact .inl (by omega) | exact .inr ⟨by omega, .inl (by assumption)⟩ | exact .inr ⟨by omega, .inr (by omega)⟩)] at hfn_
   exact ⟨(), ow, congrArg (Value.int .u64) (by omega)⟩
  simp only [beq_iff_eq, bne_iff_ne, ne_eq, beq_eq_false_iff_ne, bne_eq_false_iff_eq, Classical.not_not] at hc12
  refine SW_skip (n_then ?_)
  refine sr ?_
  refine os 1 ?_
  refine L (ld ?_)
  refine os 3 ?_
  refine oX (.int .u64 (IntKind.wrap .u64 ((((e + 63) + 1023) - 1) * 4503599627370496))) (.int .u64 ((((e + 63) + 1023) - 1) * 4503599627370496)) (congrArg (Value.int .u64) (IntWalk.u64_in _ (by omega))) ?_
  refine os 2 ?_
  refine kp [59, 53, 49, 8, 7, 23, 19, 6, 5, 11, 4, 2, 0, 1] ?_
  refine L (cl (num_signed) ?_)
  rintro _ _ rfl
  refine un ?_
  refine os 1 ?_
  refine kp [4, 49, 8, 7, 23, 19, 6, 5, 11, 2, 0, 1] ?_
  refine nt ?_
  refine SW_ret ?_
  refine body_end (.int .u64 (((((e + 63) + 1023) - 1) * 4503599627370496) + (M : Int))) (fun _ => rfl) ?_
  have hfn_ := formNear_n (m := m) (e := e) (h := h) (by omega) (by omega) hM hR
  rw [dn_if (show ¬ upIf R M h from by rintro (q | ⟨q1, q2 | q2⟩) <;> first | omega | simp_all)] at hfn_
  exact ⟨(), ow, congrArg (Value.int .u64) (by omega)⟩
 replace hg10 : ((R : Int) == 9223372036854775808) = false := hg10
 simp only [beq_iff_eq, bne_iff_ne, ne_eq, beq_eq_false_iff_ne, bne_eq_false_iff_eq, Classical.not_not] at hg10
 refine os 8 ?_
 refine kp [49, 8, 7, 23, 19, 6, 5, 11, 4, 2, 0, 1] ?_
 refine nt ?_
 refine cf ?_
 refine SW_skip (n_then ?_)
 refine sr ?_
 refine os 1 ?_
 refine L (ld ?_)
 refine os 3 ?_
 refine oX (.int .u64 (IntKind.wrap .u64 ((((e + 63) + 1023) - 1) * 4503599627370496))) (.int .u64 ((((e + 63) + 1023) - 1) * 4503599627370496)) (congrArg (Value.int .u64) (IntWalk.u64_in _ (by omega))) ?_
 refine os 2 ?_
 refine kp [59, 53, 49, 8, 7, 23, 19, 6, 5, 11, 4, 2, 0, 1] ?_
 refine L (cl (num_signed) ?_)
 rintro _ _ rfl
 refine un ?_
 refine os 1 ?_
 refine kp [4, 49, 8, 7, 23, 19, 6, 5, 11, 2, 0, 1] ?_
 refine nt ?_
 refine SW_ret ?_
 refine body_end (.int .u64 (((((e + 63) + 1023) - 1) * 4503599627370496) + (M : Int))) (fun _ => rfl) ?_
 have hfn_ := formNear_n (m := m) (e := e) (h := h) (by omega) (by omega) hM hR
 rw [dn_if (show ¬ upIf R M h from by rintro (q | ⟨q1, q2 | q2⟩) <;> first | omega | simp_all)] at hfn_
 exact ⟨(), ow, congrArg (Value.int .u64) (by omega)⟩

theorem num_Near {W0 : World} {m : Nat} {e : Int} {h : Bool} (hm : m < 18446744073709551616) : SC Tryz.prog W0 87 #[.int .u64 (m : Int), .int .i64 e, .bool h] [] (Ret (fun _ : Unit => []) (fun v _ => v = .int .u64 (nearN m e h : Int))) := by
 refine SC_body (fn := Tryz.f87) (n := 42) Tryz.func87 rfl (by kernel_rfl) (ρ := [(0, .int .u64 (m : Int)), (1, .int .i64 e), (2, .bool h)]) rfl ?_
 have hs64_ := bitsN_le64 hm
 have hst_ := shl_top hm
 refine sr ?_
 refine os 1 ?_
 refine nsr ?_
 refine os 1 ?_
 refine oV (.int .i64 (if -5000 > e then -5000 else e)) ?_
 refine oV (.int .i64 (if 5000 < if -5000 > e then -5000 else e then 5000 else if -5000 > e then -5000 else e)) ?_
 refine os 1 ?_
 refine kp [1, 6, 0, 2] ?_
 refine nq ?_
 refine SW_seq ?_
 rw [show (if 5000 < if -5000 > e then -5000 else e then 5000 else if -5000 > e then -5000 else e : Int) = clampE e from clampE_eq e]
 have hcl_ := clampE_in e
 refine SW_region ?_
 refine os 3 ?_
 refine tb 13 (fun hg1 => ?_) (fun hg1 => ?_)
 ·replace hg1 : ((m : Int) == 0) = true := hg1
  simp only [beq_iff_eq, bne_iff_ne, ne_eq, beq_eq_false_iff_ne, bne_eq_false_iff_eq, Classical.not_not] at hg1
  refine os 2 ?_
  refine kp [15, 1, 6, 0, 2] ?_
  refine nt ?_
  refine cd (fun hc2 : (h) = true => ?_) (fun hc2 => ?_)
  ·subst hc2
   refine SW_region ?_
   refine os 5 ?_
   refine nq ?_
   refine sr ?_
   refine os 1 ?_
   refine oV (.bool false) ?_
   refine kp [19, 2, 1, 0, 15, 6] ?_
   refine nt ?_
   refine cf ?_
   refine SW_skip (n_then ?_)
   refine sr ?_
   refine os 1 ?_
   refine L (cl (str_lz64 1 (by decide)) ?_)
   rintro v1 _ hv1
   obtain rfl : v1 = .int .i64 63 := hv1.trans (by rw [lz_one])
   refine un ?_
   refine os 1 ?_
   refine nsr ?_
   refine os 2 ?_
   refine oV (.int .u64 9223372036854775808) ?_
   refine os 1 ?_
   refine kp [0, 7, 19, 2, 1, 15, 6] ?_
   refine nq ?_
   refine sr ?_
   refine os 5 ?_
   refine kp [29, 0, 7, 19, 2, 1, 15, 6] ?_
   refine nt ?_
   refine cf ?_
   refine SW_skip (n_then ?_)
   refine sr ?_
   refine os 4 ?_
   refine oV (.agg #[.bool false, .int .u64 9223372036854775808, .int .i64 (((clampE e) - 1) - 63)]) ?_
   refine os 1 ?_
   refine L (cl (num_near (m := 9223372036854775808) (e := ((clampE e) - 1) - 63) (h := false) (by omega) (by omega)) ?_)
   rintro v2 _ hv2
   obtain rfl : v2 = .int .u64 (formNear 9223372036854775808 (((clampE e) - 1) - 63) false : Int) := hv2.trans (rfl)
   refine un ?_
   refine os 1 ?_
   refine kp [6, 29, 0, 7, 19, 2, 1, 15] ?_
   refine nt ?_
   refine SW_ret ?_
   refine body_end (.int .u64 (formNear 9223372036854775808 (((clampE e) - 1) - 63) false : Int)) (fun _ => rfl) ?_
   have hm0_ : m = 0 := by omega
   subst hm0_
   exact ⟨(), ow, congrArg (Value.int .u64) (by rw [near_z])⟩
  subst hc2
  refine SW_skip (n_then ?_)
  refine SW_seq ?_
  refine sr ?_
  refine os 2 ?_
  refine nt ?_
  refine SW_true (fun _ => (congrArg Value.bool (show ((m : Int) == 0) = true from (by simp; omega)))) ?_
  refine sr ?_
  refine os 1 ?_
  refine nt ?_
  refine SW_ret (r_then ?_)
  refine body_end (.int .u64 0) (fun _ => rfl) ?_
  have hm0_ : m = 0 := by omega
  subst hm0_
  exact ⟨(), ow, congrArg (Value.int .u64) (by rw [near_0 rfl]; rfl)⟩
 replace hg1 : ((m : Int) == 0) = false := hg1
 simp only [beq_iff_eq, bne_iff_ne, ne_eq, beq_eq_false_iff_ne, bne_eq_false_iff_eq, Classical.not_not] at hg1
 refine os 2 ?_
 refine kp [15, 1, 6, 0, 2] ?_
 refine nt ?_
 refine cf ?_
 refine SW_skip (n_then ?_)
 refine SW_seq ?_
 refine sr ?_
 refine os 2 ?_
 refine nt ?_
 refine SW_false (fun _ => (congrArg Value.bool (show ((m : Int) == 0) = false from (by simp; omega)))) ?_
 refine SW_skip (n_then ?_)
 refine sr ?_
 refine os 1 ?_
 refine L (cl (str_lz64 (m : Int) (by omega)) ?_)
 rintro v3 _ hv3
 obtain rfl : v3 = .int .i64 ((64 - bitsN m : Nat) : Int) := hv3.trans (by rw [lz_eq hm])
 refine un ?_
 refine os 1 ?_
 refine kp [7, 19, 15, 1, 6, 0, 2] ?_
 refine nsr ?_
 refine os 2 ?_
 refine oV (.int .u64 ((m * 2 ^ (64 - bitsN m) : Nat) : Int)) ?_ (hs := shlR (m := (m : Int)) (c := ((64 - bitsN m : Nat) : Int)) _ (by omega) (shl_wrap (shl_top hm) (by omega)))
 refine os 1 ?_
 refine kp [0, 7, 19, 15, 1, 6, 2] ?_
 refine nq ?_
 refine sr ?_
 refine os 2 ?_
 refine tb 26 (fun hg3 => ?_) (fun hg3 => ?_)
 ·replace hg3 : h = true := hg3
  subst hg3
  refine os 3 ?_
  refine kp [29, 0, 7, 19, 15, 1, 6, 2] ?_
  refine nt ?_
  refine cdp (fun hc4 : ((64 - bitsN m : Nat) : Int) > 0 => ?_) (fun hc4 => ?_)
  ·refine SW_region ?_
   refine os 3 ?_
   refine oV (.int .u64 ((2 ^ ((64 - bitsN m) - 1) : Nat) : Int)) ?_ (hs := shlR (m := 1) (c := ((64 - bitsN m : Nat) : Int) - 1) _ (by omega) (by rw [show ((64 - bitsN m : Nat) : Int) - 1 = (((64 - bitsN m) - 1 : Nat) : Int) from by omega]; exact one_shl (by omega)))
   refine oV (.int .u64 ((m * 2 ^ (64 - bitsN m) + 2 ^ ((64 - bitsN m) - 1) : Nat) : Int)) ?_ (hs := orR (m := ((m * 2 ^ (64 - bitsN m) : Nat) : Int)) (c := ((2 ^ ((64 - bitsN m) - 1) : Nat) : Int)) _ (or_half (by omega) (shl_half (shl_top hm) (by omega) (by omega))))
   refine os 2 ?_
   refine kp [2, 0, 29, 7, 19, 15, 1, 6] ?_
   refine nsr ?_
   refine os 4 ?_
   refine oV (.agg #[.bool false, .int .u64 ((m * 2 ^ (64 - bitsN m) + 2 ^ ((64 - bitsN m) - 1) : Nat) : Int), .int .i64 ((clampE e) - ((64 - bitsN m : Nat) : Int))]) ?_
   refine os 1 ?_
   refine L (cl (num_near (m := m * 2 ^ (64 - bitsN m) + 2 ^ ((64 - bitsN m) - 1)) (e := (clampE e) - ((64 - bitsN m : Nat) : Int)) (h := false) (shl_half (shl_top hm) (by omega) (by omega)) (by omega)) ?_)
   rintro v4 _ hv4
   obtain rfl : v4 = .int .u64 (formNear (m * 2 ^ (64 - bitsN m) + 2 ^ ((64 - bitsN m) - 1)) ((clampE e) - ((64 - bitsN m : Nat) : Int)) false : Int) := hv4.trans (rfl)
   refine un ?_
   refine os 1 ?_
   refine kp [6, 2, 0, 29, 7, 19, 15, 1] ?_
   refine nt ?_
   refine SW_ret ?_
   refine body_end (.int .u64 (formNear (m * 2 ^ (64 - bitsN m) + 2 ^ ((64 - bitsN m) - 1)) ((clampE e) - ((64 - bitsN m : Nat) : Int)) false : Int)) (fun _ => rfl) ?_
   exact ⟨(), ow, congrArg (Value.int .u64) (by rw [near_half (by omega) rfl (by omega)])⟩
  refine SW_skip (n_then ?_)
  refine sr ?_
  refine os 4 ?_
  refine oV (.agg #[.bool false, .int .u64 ((m * 2 ^ (64 - bitsN m) : Nat) : Int), .int .i64 ((clampE e) - ((64 - bitsN m : Nat) : Int))]) ?_
  refine os 1 ?_
  refine L (cl (num_near (m := m * 2 ^ (64 - bitsN m)) (e := (clampE e) - ((64 - bitsN m : Nat) : Int)) (h := true) (by omega) (by omega)) ?_)
  rintro v5 _ hv5
  obtain rfl : v5 = .int .u64 (formNear (m * 2 ^ (64 - bitsN m)) ((clampE e) - ((64 - bitsN m : Nat) : Int)) true : Int) := hv5.trans (rfl)
  refine un ?_
  refine os 1 ?_
  refine kp [6, 29, 0, 7, 19, 15, 1, 2] ?_
  refine nt ?_
  refine SW_ret ?_
  refine body_end (.int .u64 (formNear (m * 2 ^ (64 - bitsN m)) ((clampE e) - ((64 - bitsN m : Nat) : Int)) true : Int)) (fun _ => rfl) ?_
  exact ⟨(), ow, congrArg (Value.int .u64) (by rw [near_up (by omega) (by rintro ⟨q1, q2⟩; first | omega | simp_all)])⟩
 replace hg3 : h = false := hg3
 subst hg3
 refine os 3 ?_
 refine kp [29, 0, 7, 19, 15, 1, 6, 2] ?_
 refine nt ?_
 refine cf ?_
 refine SW_skip (n_then ?_)
 refine sr ?_
 refine os 4 ?_
 refine oV (.agg #[.bool false, .int .u64 ((m * 2 ^ (64 - bitsN m) : Nat) : Int), .int .i64 ((clampE e) - ((64 - bitsN m : Nat) : Int))]) ?_
 refine os 1 ?_
 refine L (cl (num_near (m := m * 2 ^ (64 - bitsN m)) (e := (clampE e) - ((64 - bitsN m : Nat) : Int)) (h := false) (by omega) (by omega)) ?_)
 rintro v6 _ hv6
 obtain rfl : v6 = .int .u64 (formNear (m * 2 ^ (64 - bitsN m)) ((clampE e) - ((64 - bitsN m : Nat) : Int)) false : Int) := hv6.trans (rfl)
 refine un ?_
 refine os 1 ?_
 refine kp [6, 29, 0, 7, 19, 15, 1, 2] ?_
 refine nt ?_
 refine SW_ret ?_
 refine body_end (.int .u64 (formNear (m * 2 ^ (64 - bitsN m)) ((clampE e) - ((64 - bitsN m : Nat) : Int)) false : Int)) (fun _ => rfl) ?_
 exact ⟨(), ow, congrArg (Value.int .u64) (by rw [near_up (by omega) (by rintro ⟨q1, q2⟩; first | omega | simp_all)])⟩

end Go.Proofs.YtnhmmjogfkjceaaGreatDoor
namespace Go.Proofs.YtnhmmjogfkjceaaGreatDoor
open Go.Sl

theorem num_upZ {W0 : World} {a : Gs} {a0 n : Nat} {z : Int} (hz : z = (n : Int)) (hk : Gs.ok 1 (lim a0).length a ((lim a0).map encP)) (hs0 : (lim a0).length ≤ 1048576) (hn : n ≤ 33554431) : SC Tryz.prog W0 120 #[a.val (lim a0).length, .int .i64 z] (Gs.ent 87 1 a ((lim a0).map encP)) (Ret (fun g : Gs => Gs.ent 87 1 g ((lim (a0 * 2 ^ n)).map encP) ++ (Gs.ent 87 1 a ((lim a0).map encP))) (fun v g => v = g.val (lim (a0 * 2 ^ n)).length ∧ Gs.ok 1 (lim (a0 * 2 ^ n)).length g ((lim (a0 * 2 ^ n)).map encP))) := by
 subst hz
 have := num_up (W0 := W0) (k := n / 32) (s := n % 32) hk hs0 (by omega) (by omega)
 rw [show 32 * (n / 32) + n % 32 = n by omega] at this
 exact this

theorem num_rounded {W0 : World} {a b : Gs} {p0 q0 : Nat} (hk : Gs.ok 1 (lim p0).length a ((lim p0).map encP)) (hkb : Gs.ok 1 (lim q0).length b ((lim q0).map encP)) (hp : bitsN p0 ≤ 8192) (hq : bitsN q0 ≤ 8192) : SC Tryz.prog W0 90 #[a.val (lim p0).length, b.val (lim q0).length] (Gs.ent 87 1 a ((lim p0).map encP) ++ Gs.ent 87 1 b ((lim q0).map encP)) (Ret (fun _ : Unit => []) (fun v _ => v = .int .u64 (roundN p0 q0 : Int))) := by
 refine SC_body (fn := Tryz.f90) (n := 48) Tryz.func90 rfl (by kernel_rfl) (ρ := [(0, Gs.val a ((lim p0).length)), (1, Gs.val b ((lim q0).length))]) rfl ?_
 refine SW_sig ((Gs.ent 87 1 a ((lim p0).map encP)) ++ ((Gs.ent 87 1 b ((lim q0).map encP)) ++ ([]))) (by simp only [List.append_nil, List.append_assoc]) ?_
 refine sr ?_
 refine os 1 ?_
 refine nsr ?_
 refine os 1 ?_
 refine L (cl (num_size (a0 := p0) hk (by first | exact hbq_ | exact hbp_ | exact len_bits (by omega))) ?_)
 rintro _ _ rfl
 refine os 2 ?_
 refine L (cl (num_size (a0 := q0) hkb (by first | exact hbq_ | exact hbp_ | exact len_bits (by omega))) ?_)
 rintro _ _ rfl
 refine os 2 ?_
 refine kp [5, 4, 0, 1] ?_
 refine nq ?_
 have hbp0_ := bitsN_mul_pow p0 (63 - (bitsN p0 : Int) + (bitsN q0 : Int)).toNat
 have hbq0_ := bitsN_mul_pow q0 (-(63 - (bitsN p0 : Int) + (bitsN q0 : Int))).toNat
 have hbt0_ := bitsN_mul_pow (q0 * 2 ^ (-(63 - (bitsN p0 : Int) + (bitsN q0 : Int))).toNat) 63
 have hbp_ : (lim (p0 * 2 ^ (63 - (bitsN p0 : Int) + (bitsN q0 : Int)).toNat)).length ≤ 1048576 := len_bits (by omega)
 have hbt_ : (lim (q0 * 2 ^ (-(63 - (bitsN p0 : Int) + (bitsN q0 : Int))).toNat * 2 ^ 63)).length ≤ 1048576 := len_bits (by omega)
 have hbq_ : (lim (q0 * 2 ^ (-(63 - (bitsN p0 : Int) + (bitsN q0 : Int))).toNat)).length ≤ 1048576 := len_bits (by omega)
 refine SW_region ?_
 refine os 2 ?_
 refine oV (.int .i64 (if 0 > (63 - (bitsN p0 : Int)) + (bitsN q0 : Int) then 0 else (63 - (bitsN p0 : Int)) + (bitsN q0 : Int))) ?_
 refine L (cl (num_upZ (n := ((63 - (bitsN p0 : Int)) + (bitsN q0 : Int)).toNat) (max0_eq _) hk (by first | exact hbq_ | exact hbp_ | exact len_bits (by omega)) (by omega)) ?_)
 rintro _ u1 ⟨rfl, hku1⟩
 refine un ?_
 refine os 2 ?_
 refine oX (.int .i64 (IntKind.wrap .i64 (0 - ((63 - (bitsN p0 : Int)) + (bitsN q0 : Int))))) (.int .i64 (-((63 - (bitsN p0 : Int)) + (bitsN q0 : Int)))) (congrArg (Value.int .i64) ((IntWalk.i64_in _ (by omega)).trans (Int.zero_sub _))) ?_
 refine oV (.int .i64 (if 0 > -((63 - (bitsN p0 : Int)) + (bitsN q0 : Int)) then 0 else -((63 - (bitsN p0 : Int)) + (bitsN q0 : Int)))) ?_
 refine L (cl (num_upZ (n := (-((63 - (bitsN p0 : Int)) + (bitsN q0 : Int))).toNat) (max0_eq _) hkb (by first | exact hbq_ | exact hbp_ | exact len_bits (by omega)) (by omega)) ?_)
 rintro _ u2 ⟨rfl, hku2⟩
 refine un ?_
 refine os 2 ?_
 refine kp [1, 0, 5, 4] ?_
 refine nsr ?_
 refine os 1 ?_
 refine L (cl (num_upZ (n := 63) rfl hku2 (by first | exact hbq_ | exact hbp_ | exact len_bits (by omega)) (by omega)) ?_)
 rintro _ u3 ⟨rfl, hku3⟩
 refine un ?_
 refine os 1 ?_
 refine nsr ?_
 refine os 1 ?_
 refine nq ?_
 refine sr ?_
 refine os 1 ?_
 refine nt ?_
 refine SW_block ?_
 refine SW_loop (α := Nat × Gs × Gs × Nat × Nat × Nat) (fun z_ ρ_ σ_ => Fits ρ_ σ_ [(0, Gs.val z_.2.1 ((lim z_.2.2.2.1).length)), (6, Gs.val z_.2.2.1 ((lim z_.2.2.2.2.1).length)), (5, .int .i64 ((63 - (bitsN p0 : Int)) + (bitsN q0 : Int))), (7, .int .u64 (z_.2.2.2.2.2 : Int)), (25, .int .i64 (z_.1 : Int))] ((Gs.ent 87 1 z_.2.1 ((lim z_.2.2.2.1).map encP)) ++ ((Gs.ent 87 1 z_.2.2.1 ((lim z_.2.2.2.2.1).map encP)) ++ ([]))) ∧ z_.1 ≤ 64 ∧ Gs.ok 1 (lim z_.2.2.2.1).length z_.2.1 ((lim z_.2.2.2.1).map encP) ∧ Gs.ok 1 (lim z_.2.2.2.2.1).length z_.2.2.1 ((lim z_.2.2.2.2.1).map encP) ∧ (z_.2.2.2.1 ≤ (p0 * 2 ^ (63 - (bitsN p0 : Int) + (bitsN q0 : Int)).toNat) ∧ z_.2.2.2.2.1 ≤ (q0 * 2 ^ (-(63 - (bitsN p0 : Int) + (bitsN q0 : Int))).toNat * 2 ^ 63) ∧ z_.2.2.2.2.2 < 18446744073709551616) ∧ divN (64 - z_.1) z_.2.2.2.1 z_.2.2.2.2.1 z_.2.2.2.2.2 = divN 64 (p0 * 2 ^ (63 - (bitsN p0 : Int) + (bitsN q0 : Int)).toNat) (q0 * 2 ^ (-(63 - (bitsN p0 : Int) + (bitsN q0 : Int))).toNat * 2 ^ 63) 0) (fun z_ => 64 - z_.1) (0, u1, u3, (p0 * 2 ^ (((63 - (bitsN p0 : Int)) + (bitsN q0 : Int)).toNat)), ((q0 * 2 ^ ((-((63 - (bitsN p0 : Int)) + (bitsN q0 : Int))).toNat)) * 2 ^ 63), 0) ⟨⟨fun _ => rfl, ow⟩, by omega, hku1, hku3, ⟨Nat.le_refl _, Nat.le_refl _, (show 0 < 18446744073709551616 by decide)⟩, rfl⟩ ?_
 rintro ⟨i, x, y, p, t, m⟩ ρ_ σ_ ⟨hfit, hi0, hi1, hi2, hi3, hi4⟩
 refine SW_fits hfit ?_
 clear hfit
 simp only [] at hi0 hi1 hi2 hi3 hi4 ⊢
 obtain ⟨hp_, ht_, hm_⟩ := hi3
 have hlp_ := len_mono hp_ hbp_
 have hlt_ := len_mono ht_ hbt_
 refine sr ?_
 refine os 1 ?_
 refine nq ?_
 refine cdp (fun hc4 : (i : Int) < 64 => ?_) (fun hc4 => ?_)
 ·refine SW_skip (n_then ?_)
  refine SW_seq ?_
  refine SW_block ?_
  refine sr ?_
  refine os 1 ?_
  refine oV (.int .u64 ((m * 2 % 18446744073709551616 : Nat) : Int)) ?_ (hs := shlR (m := (m : Int)) (c := 1) _ (by decide) (shl_one m))
  refine os 1 ?_
  refine nq ?_
  refine sr ?_
  refine os 2 ?_
  refine L (cl (num_order (a0 := p) (b0 := t) hi1 hi2 hlp_) ?_)
  rintro _ _ rfl
  refine un ?_
  refine os 1 ?_
  refine kp [32, 7, 26, 0, 6, 5, 25] ?_
  refine nt ?_
  refine cdp (fun hc5 : (cmpN p t) ≥ 0 => ?_) (fun hc5 => ?_)
  ·refine sr ?_
   refine os 2 ?_
   refine L (cl (num_less (a0 := p) (b0 := t) hi1 hi2 hlp_ (cmp_ge hc5)) ?_)
   rintro _ u6 ⟨rfl, hku6⟩
   refine un ?_
   refine os 1 ?_
   refine kp [0, 32, 7, 26, 6, 5, 25] ?_
   refine nr ?_
   refine os 1 ?_
   refine oV (.int .u64 ((m * 2 % 18446744073709551616 + 1 : Nat) : Int)) ?_ (hs := orR (m := ((m * 2 % 18446744073709551616 : Nat) : Int)) (c := 1) _ (or_one m))
   refine os 1 ?_
   refine nr ?_
   refine os 1 ?_
   refine L (cl (num_half (a0 := t) hi2 hlt_) ?_)
   rintro _ u7 ⟨rfl, hku7⟩
   refine un ?_
   refine os 1 ?_
   refine kp [6, 7, 0, 32, 26, 5, 25] ?_
   refine SL_nil (n_in (n_then ?_))
   refine SW_region ?_
   refine os 2 ?_
   refine nt ?_
   obtain ⟨k, hk_⟩ : ∃ k, 64 - i = k + 1 := ⟨63 - i, by omega⟩
   rw [hk_, divN_step1 (cmp_ge hc5)] at hi4
   refine ⟨(i + 1, u6, u7, (p - t), (t / 2), m * 2 % 18446744073709551616 + 1), by simp only []; omega, ?_⟩
   simp only []
   exact ⟨⟨fun _ => rfl, ow⟩, by omega, hku6, hku7, ⟨by omega, by omega, by omega⟩, by rw [show 64 - (i + 1) = k from by omega]; exact hi4⟩
  refine SW_skip (n_then ?_)
  refine SW_region ?_
  refine os 1 ?_
  refine L (cl (num_half (a0 := t) hi2 hlt_) ?_)
  rintro _ u8 ⟨rfl, hku8⟩
  refine un ?_
  refine os 1 ?_
  refine SL_nil (n_in (n_then ?_))
  refine SW_region ?_
  refine os 2 ?_
  refine kp [25, 6, 32, 7, 26, 0, 5] ?_
  refine nt ?_
  obtain ⟨k, hk_⟩ : ∃ k, 64 - i = k + 1 := ⟨63 - i, by omega⟩
  rw [hk_, divN_step0 (cmp_nge hc5)] at hi4
  refine ⟨(i + 1, x, u8, p, (t / 2), m * 2 % 18446744073709551616), by simp only []; omega, ?_⟩
  simp only []
  exact ⟨⟨fun _ => rfl, ow⟩, by omega, hi1, hku8, ⟨by omega, by omega, by omega⟩, by rw [show 64 - (i + 1) = k from by omega]; exact hi4⟩
 refine SW_exit (x_then (x_then (x_in (n_then ?_))))
 refine sr ?_
 refine os 2 ?_
 refine oX (.int .i64 (IntKind.wrap .i64 (0 - ((63 - (bitsN p0 : Int)) + (bitsN q0 : Int))))) (.int .i64 (-((63 - (bitsN p0 : Int)) + (bitsN q0 : Int)))) (congrArg (Value.int .i64) ((IntWalk.i64_in _ (by omega)).trans (Int.zero_sub _))) ?_
 refine os 3 ?_
 refine L (cl (num_Near (m := m) (by omega)) ?_)
 rintro _ _ rfl
 refine un ?_
 refine os 1 ?_
 refine kp [4, 26, 0, 6, 5, 7, 25] ?_
 refine nt ?_
 refine SW_ret ?_
 refine body_end (.int .u64 (nearN m (-((63 - (bitsN p0 : Int)) + (bitsN q0 : Int))) (decide (((((lim p).length : Nat)) : Int) > 0)) : Int)) (fun _ => rfl) ?_
 have hin_ : i = 64 := by omega
 rw [hin_, show 64 - 64 = 0 from rfl] at hi4
 exact ⟨(), ow, congrArg (Value.int .u64) (by rw [roundN_eq hi4])⟩

end Go.Proofs.YtnhmmjogfkjceaaGreatDoor
namespace Go.Proofs.YtnhmmjogfkjceaaGreatDoor
open Go.Sl

theorem num_figures {W0 : World} {X : Bytes} (hX : X.length ≤ 4611686018427387904) : SC Tryz.prog W0 88 #[.string (bS X)] [] (Ret (fun _ : Unit => []) (fun v _ => v = .tuple #[.string (bS (X.takeWhile isDig)), .string (bS (X.dropWhile isDig))])) := by
 refine SC_body (fn := Tryz.f88) (n := 15) Tryz.func88 rfl (by kernel_rfl) (ρ := [(0, .string (bS X))]) rfl ?_
 have hdl_ := dropWhile_len isDig X
 refine sr ?_
 refine os 2 ?_
 refine nsr ?_
 refine os 1 ?_
 refine L (cl (str_TrimLeft X [48, 49, 50, 51, 52, 53, 54, 55, 56, 57] (by decide) (by decide)) ?_)
 rintro v1 _ hv1
 obtain rfl : v1 = .string (bS (X.dropWhile isDig)) := hv1.trans (congrArg (fun l_ => Value.string (bS l_)) (trimLeft_digs X))
 refine un ?_
 refine os 1 ?_
 refine nsr ?_
 refine os 2 ?_
 refine oX (.int .i64 ((bS X).size : Int)) (.int .i64 (X.length : Int)) (congrArg (fun n_ : Nat => Value.int .i64 (n_ : Int)) (bS_size _)) ?_
 refine os 1 ?_
 refine oX (.int .i64 ((bS (X.dropWhile isDig)).size : Int)) (.int .i64 ((X.dropWhile isDig).length : Int)) (congrArg (fun n_ : Nat => Value.int .i64 (n_ : Int)) (bS_size _)) ?_
 refine os 1 ?_
 refine kp [12, 7, 4, 3, 2, 0] ?_
 refine L (O_val (.string (bS (X.take ((X.length : Int) - ((X.dropWhile isDig).length : Int)).toNat))) rfl (fun δ w _ => run_strTo (l := X) ((X.length : Int) - ((X.dropWhile isDig).length : Int)) .i64 Tryz.underlying9 rfl rfl (by omega) (by omega)) ?_)
 rw [show ((X.length : Int) - ((X.dropWhile isDig).length : Int)).toNat = (X.length - (X.dropWhile isDig).length) from by omega]
 refine os 3 ?_
 refine kp [3, 2, 4, 0] ?_
 refine nt ?_
 refine SW_ret ?_
 refine body_end (.tuple #[.string (bS (X.take (X.length - (X.dropWhile isDig).length))), .string (bS (X.dropWhile isDig))]) (fun _ => rfl) ?_
 exact ⟨(), ow, by rw [take_drop_len]⟩

theorem num_decimal {W0 : World} {X : Bytes} (hX : X.length ≤ 4611686018427387904) : SC Tryz.prog W0 41 #[.string (bS X)] [] (Ret (fun _ : Unit => []) (fun v _ => v = numV (decP X))) := by
 refine SC_body (fn := Tryz.f41) (n := 100) Tryz.func41 rfl (by kernel_rfl) (ρ := [(0, .string (bS X))]) rfl ?_
 have hdd_ := dropWhile_len isDig X
 refine sr ?_
 refine L (nw 62 3 [.string (bS []), .string (bS []), .int .i64 0] ?_)
 intro b1
 refine os 1 ?_
 refine nsr ?_
 refine L (nw 62 3 [.string (bS []), .string (bS []), .int .i64 0] ?_)
 intro b2
 refine nsr ?_
 refine os 1 ?_
 refine L (cl (num_figures (X := X) (by first | omega | (simp; omega))) ?_)
 rintro _ _ rfl
 refine un ?_
 refine os 4 ?_
 refine L (st [.string (bS (X.takeWhile isDig)), .string (bS []), .int .i64 0] ?_)
 refine os 1 ?_
 refine kp [0, 4, 3, 2] ?_
 refine nq ?_
 refine SW_seq ?_
 refine SW_cut3 (fun ρ_ σ_ => Fits ρ_ σ_ [(2, pt b1 0), (3, .bool false), (4, pt b2 0), (0, .string (bS (fracP (X.dropWhile isDig)).2))] ((b2, .cells 62 3 [.string (bS (X.takeWhile isDig)), .string (bS (fracP (X.dropWhile isDig)).1), .int .i64 0]) :: ((b1, .cells 62 3 [.string (bS []), .string (bS []), .int .i64 0]) :: ([])))) ?_ ?_
 ·refine SW_region ?_
  refine os 1 ?_
  refine L (cl (str_HasPrefix (X.dropWhile isDig) [46]) ?_)
  rintro _ _ rfl
  refine un ?_
  refine nt ?_
  refine cd (fun hc3 : (Lib.hasPrefix (X.dropWhile isDig) [46]) = true => ?_) (fun hc3 => ?_)
  ·obtain ⟨r_, hr_⟩ := pre_dot hc3
   have hdl_ : 1 ≤ (X.dropWhile isDig).length := by rw [hr_]; simp
   refine SW_region ?_
   refine os 1 ?_
   refine L (O_val (.string (bS ((X.dropWhile isDig).drop 1))) rfl (fun δ w _ => run_strFrom (l := (X.dropWhile isDig)) 1 .i64 Tryz.underlying9 rfl rfl (by omega) (by omega)) ?_)
   refine L (cl (num_figures (X := ((X.dropWhile isDig).drop 1)) (by first | omega | (simp; omega))) ?_)
   rintro _ _ rfl
   refine un ?_
   refine os 4 ?_
   refine L (st [.string (bS (X.takeWhile isDig)), .string (bS (((X.dropWhile isDig).drop 1).takeWhile isDig)), .int .i64 0] ?_)
   refine os 1 ?_
   refine kp [0, 17, 4, 3, 2] ?_
   refine nt ?_
   have hfp_ : fracP (X.dropWhile isDig) = (((X.dropWhile isDig).drop 1).takeWhile isDig, ((X.dropWhile isDig).drop 1).dropWhile isDig) := by rw [hr_]; rfl
   rw [hfp_]
   exact ⟨fun _ => rfl, ow⟩
  refine SW_skip (n_then ?_)
  rw [fracP_no (by simpa using hc3)]
  exact ⟨fun _ => rfl, ow⟩
 ·rintro ρ_ σ_ hfit
  refine SW_fits hfit ?_
  clear hfit
  refine SW_seq ?_
  refine SW_seq ?_
  have hRl_ : (fracP (X.dropWhile isDig)).2.length ≤ X.length := Nat.le_trans (fracP_len _).2 (dropWhile_len _ _)
  generalize hB_ : (fracP (X.dropWhile isDig)).1 = B
  generalize hR_ : (fracP (X.dropWhile isDig)).2 = R at hRl_ ⊢
  generalize hA_ : X.takeWhile isDig = A
  refine SW_cut3 (fun ρ_ σ_ => Fits ρ_ σ_ [(2, pt b1 0), (3, .bool false), (4, pt b2 0), (0, .string (bS R))] ((b2, .cells 62 3 [.string (bS A), .string (bS B), .int .i64 0]) :: ((b1, .cells 62 3 [.string (bS []), .string (bS []), .int .i64 0]) :: ([]))) ∧ (¬ (A = [] ∧ B = []))) ?_ ?_
  ·refine SW_region ?_
   refine os 1 ?_
   refine L (ld ?_)
   refine oX (.bool ((bS A).toList == (bS []).toList)) (.bool (decide (A = []))) (congrArg Value.bool (by rw [strB_eq])) ?_
   refine os 1 ?_
   refine tbp 28 (fun hg4 => ?_) (fun hg4 => ?_)
   ·replace hg4 : A = [] := hg4
    refine os 1 ?_
    refine L (ld ?_)
    refine oX (.bool ((bS B).toList == (bS []).toList)) (.bool (decide (B = []))) (congrArg Value.bool (by rw [strB_eq])) ?_
    refine os 1 ?_
    refine kp [32, 2, 3, 4, 0] ?_
    refine nt ?_
    refine cdp (fun hc5 : B = [] => ?_) (fun hc5 => ?_)
    ·refine sr ?_
     refine L (lds 3 ?_)
     refine L (st [.string (bS A), .string (bS B), .int .i64 0] ?_)
     refine os 1 ?_
     refine nt ?_
     refine SW_ret (r_then ?_)
     refine body_endC [.agg #[.string (bS A), .string (bS B), .int .i64 0], .bool false] (fun _ => (.cons ⟨b1, 0, rfl, .inl ⟨[.string (bS A), .string (bS B), .int .i64 0], by kernel_rfl, (cells_cons (Cell.own mem_z rfl) (cells_cons (Cell.own mem_z rfl) (cells_cons (Cell.own mem_z rfl) cells_nil))), rfl⟩⟩ (.cons rfl .nil))) ?_
     exact ⟨(), ow, by rw [decP_none hA_ hB_ ⟨by assumption, by assumption⟩]; rfl⟩
    refine SW_skip (n_then ?_)
    exact ⟨⟨fun _ => rfl, ow⟩, fun q => by first | exact absurd q.1 (by assumption) | exact absurd q.2 (by assumption)⟩
   replace hg4 : ¬ (A = []) := hg4
   refine os 4 ?_
   refine kp [32, 2, 3, 4, 0] ?_
   refine nt ?_
   refine cf ?_
   refine SW_skip (n_then ?_)
   exact ⟨⟨fun _ => rfl, ow⟩, fun q => by first | exact absurd q.1 (by assumption) | exact absurd q.2 (by assumption)⟩
  ·rintro ρ_ σ_ ⟨hfit, hab_⟩
   refine SW_fits hfit ?_
   clear hfit
   refine SW_seq ?_
   refine sr ?_
   refine os 1 ?_
   refine oX (.bool ((bS R).toList == (bS []).toList)) (.bool (decide (R = []))) (congrArg Value.bool (by rw [strB_eq])) ?_
   refine nt ?_
   refine cdp (fun hc6 : R = [] => ?_) (fun hc6 => ?_)
   ·refine sr ?_
    refine L (lds 3 ?_)
    refine L (st [.string (bS A), .string (bS B), .int .i64 0] ?_)
    refine os 1 ?_
    refine nt ?_
    refine SW_ret (r_then ?_)
    refine body_endC [.agg #[.string (bS A), .string (bS B), .int .i64 0], .bool true] (fun _ => (.cons ⟨b1, 0, rfl, .inl ⟨[.string (bS A), .string (bS B), .int .i64 0], by kernel_rfl, (cells_cons (Cell.own mem_z rfl) (cells_cons (Cell.own mem_z rfl) (cells_cons (Cell.own mem_z rfl) cells_nil))), rfl⟩⟩ (.cons rfl .nil))) ?_
    exact ⟨(), ow, by rw [decP_end hA_ hB_ hR_ hab_ (by assumption)]; rfl⟩
   refine SW_skip (n_then ?_)
   refine SW_seq ?_
   refine SW_seq ?_
   have hpos_ : 0 < R.length := List.length_pos_iff.2 hc6
   obtain ⟨c, hc0_⟩ : ∃ y_, R[0]? = some y_ := ⟨_, List.getElem?_eq_getElem hpos_⟩
   have hcr_ := cons_of_at hc0_
   refine SW_cut3 (fun ρ_ σ_ => Fits ρ_ σ_ [(2, pt b1 0), (3, .bool false), (4, pt b2 0), (0, .string (bS R))] ((b2, .cells 62 3 [.string (bS A), .string (bS B), .int .i64 0]) :: ((b1, .cells 62 3 [.string (bS []), .string (bS []), .int .i64 0]) :: ([]))) ∧ (c = 101 ∨ c = 69)) ?_ ?_
   ·refine SW_region ?_
    refine os 1 ?_
    refine ixb 0 R .i64 c Tryz.underlying9 hc0_ ?_
    refine os 2 ?_
    refine tb 40 (fun hg7 => ?_) (fun hg7 => ?_)
    ·replace hg7 : ((c.toNat : Int) != 101) = true := hg7
     simp only [beq_iff_eq, bne_iff_ne, ne_eq, beq_eq_false_iff_ne, bne_eq_false_iff_eq, Classical.not_not] at hg7
     refine os 1 ?_
     refine ixb 0 R .i64 c Tryz.underlying9 hc0_ ?_
     refine os 2 ?_
     refine kp [44, 35, 2, 3, 4, 0] ?_
     refine nt ?_
     refine cd (fun hc8 : ((c.toNat : Int) != 69) = true => ?_) (fun hc8 => ?_)
     ·simp only [beq_iff_eq, bne_iff_ne, ne_eq, beq_eq_false_iff_ne, bne_eq_false_iff_eq, Classical.not_not] at hc8
      refine sr ?_
      refine L (lds 3 ?_)
      refine L (st [.string (bS A), .string (bS B), .int .i64 0] ?_)
      refine os 1 ?_
      refine nt ?_
      refine SW_ret (r_then ?_)
      refine body_endC [.agg #[.string (bS A), .string (bS B), .int .i64 0], .bool false] (fun _ => (.cons ⟨b1, 0, rfl, .inl ⟨[.string (bS A), .string (bS B), .int .i64 0], by kernel_rfl, (cells_cons (Cell.own mem_z rfl) (cells_cons (Cell.own mem_z rfl) (cells_cons (Cell.own mem_z rfl) cells_nil))), rfl⟩⟩ (.cons rfl .nil))) ?_
      exact ⟨(), ow, by rw [decP_other hA_ hB_ hR_ hab_ hcr_ ⟨fun q => by subst q; simp at *, fun q => by subst q; simp at *⟩]; rfl⟩
     simp only [beq_iff_eq, bne_iff_ne, ne_eq, beq_eq_false_iff_ne, bne_eq_false_iff_eq, Classical.not_not] at hc8
     refine SW_skip (n_then ?_)
     exact ⟨⟨fun _ => rfl, ow⟩, by first | exact .inl ((u8_eq (n := 101) (by decide)).1 (by omega)) | exact .inr ((u8_eq (n := 69) (by decide)).1 (by omega))⟩
    replace hg7 : ((c.toNat : Int) != 101) = false := hg7
    simp only [beq_iff_eq, bne_iff_ne, ne_eq, beq_eq_false_iff_ne, bne_eq_false_iff_eq, Classical.not_not] at hg7
    refine os 4 ?_
    refine kp [44, 35, 2, 3, 4, 0] ?_
    refine nt ?_
    refine cf ?_
    refine SW_skip (n_then ?_)
    exact ⟨⟨fun _ => rfl, ow⟩, by first | exact .inl ((u8_eq (n := 101) (by decide)).1 (by omega)) | exact .inr ((u8_eq (n := 69) (by decide)).1 (by omega))⟩
   ·rintro ρ_ σ_ ⟨hfit, hce_⟩
    refine SW_fits hfit ?_
    clear hfit
    refine sr ?_
    refine os 1 ?_
    refine L (O_val (.string (bS (R.drop 1))) rfl (fun δ w _ => run_strFrom (l := R) 1 .i64 Tryz.underlying9 rfl rfl (by omega) (by omega)) ?_)
    refine os 1 ?_
    refine nsr ?_
    refine os 1 ?_
    refine nq ?_
    refine SW_seq ?_
    have hrl_ : (R.drop 1).length ≤ X.length := by rw [List.length_drop]; omega
    generalize hr_ : R.drop 1 = r at hrl_ hcr_ ⊢
    refine SW_cut3 (fun ρ_ σ_ => Fits ρ_ σ_ [(2, pt b1 0), (3, .bool false), (4, pt b2 0), (0, .string (bS (wayP r).2)), (5, .int .i64 ((wayP r).1))] ((b2, .cells 62 3 [.string (bS A), .string (bS B), .int .i64 0]) :: ((b1, .cells 62 3 [.string (bS []), .string (bS []), .int .i64 0]) :: ([])))) ?_ ?_
    ·refine SW_region ?_
     refine os 1 ?_
     refine oX (.bool (!((bS r).toList == (bS []).toList))) (.bool (!(decide (r = [])))) (congrArg Value.bool (by rw [strB_eq])) ?_
     refine os 1 ?_
     refine tb 50 (fun hg9 => ?_) (fun hg9 => ?_)
     ·replace hg9 : (!(decide (r = []))) = true := hg9
      replace hg9 := bnot_t hg9
      replace hg9 := of_decide_eq_false hg9
      have hrp_ : 0 < r.length := List.length_pos_iff.2 hg9
      refine os 1 ?_
      obtain ⟨e1, he1⟩ : ∃ y_, r[0]? = some y_ := ⟨_, List.getElem?_eq_getElem (by omega)⟩
      refine ixb 0 r .i64 e1 Tryz.underlying9 he1 ?_
      refine os 2 ?_
      refine kp [54, 50, 5, 0, 2, 3, 4] ?_
      refine tb 54 (fun hg10 => ?_) (fun hg10 => ?_)
      ·replace hg10 : ((e1.toNat : Int) == 43) = true := hg10
       simp only [beq_iff_eq, bne_iff_ne, ne_eq, beq_eq_false_iff_ne, bne_eq_false_iff_eq, Classical.not_not] at hg10
       refine os 5 ?_
       refine kp [59, 5, 0, 2, 3, 4] ?_
       refine nt ?_
       refine ct ?_
       refine sr ?_
       refine os 1 ?_
       refine ixb 0 r .i64 e1 Tryz.underlying9 he1 ?_
       refine os 3 ?_
       refine kp [5, 59, 0, 2, 3, 4] ?_
       refine nr ?_
       refine os 1 ?_
       refine L (O_val (.string (bS (r.drop 1))) rfl (fun δ w _ => run_strFrom (l := r) 1 .i64 Tryz.underlying9 rfl rfl (by omega) (by omega)) ?_)
       refine os 1 ?_
       refine nt ?_
       have hw_ := wayP_hit he1 (by first | exact .inl ((u8_eq (n := 43) (by decide)).1 (by omega)) | exact .inr ((u8_eq (n := 45) (by decide)).1 (by omega)))
       rw [hw_]
       exact ⟨fun _ => rfl, ow⟩
      replace hg10 : ((e1.toNat : Int) == 43) = false := hg10
      simp only [beq_iff_eq, bne_iff_ne, ne_eq, beq_eq_false_iff_ne, bne_eq_false_iff_eq, Classical.not_not] at hg10
      refine os 1 ?_
      refine ixb 0 r .i64 e1 Tryz.underlying9 he1 ?_
      refine os 3 ?_
      refine kp [59, 5, 0, 2, 3, 4] ?_
      refine nt ?_
      refine cd (fun hc11 : ((e1.toNat : Int) == 45) = true => ?_) (fun hc11 => ?_)
      ·simp only [beq_iff_eq, bne_iff_ne, ne_eq, beq_eq_false_iff_ne, bne_eq_false_iff_eq, Classical.not_not] at hc11
       refine sr ?_
       refine os 1 ?_
       refine ixb 0 r .i64 e1 Tryz.underlying9 he1 ?_
       refine os 3 ?_
       refine kp [5, 59, 0, 2, 3, 4] ?_
       refine nr ?_
       refine os 1 ?_
       refine L (O_val (.string (bS (r.drop 1))) rfl (fun δ w _ => run_strFrom (l := r) 1 .i64 Tryz.underlying9 rfl rfl (by omega) (by omega)) ?_)
       refine os 1 ?_
       refine nt ?_
       have hw_ := wayP_hit he1 (by first | exact .inl ((u8_eq (n := 43) (by decide)).1 (by omega)) | exact .inr ((u8_eq (n := 45) (by decide)).1 (by omega)))
       rw [hw_]
       exact ⟨fun _ => rfl, ow⟩
      simp only [beq_iff_eq, bne_iff_ne, ne_eq, beq_eq_false_iff_ne, bne_eq_false_iff_eq, Classical.not_not] at hc11
      refine SW_skip (n_then ?_)
      have hw_ := wayP_miss he1 (by rintro (q | q) <;> subst q <;> simp at *)
      rw [hw_]
      exact ⟨fun _ => rfl, ow⟩
     replace hg9 : (!(decide (r = []))) = false := hg9
     replace hg9 := bnot_f hg9
     replace hg9 := of_decide_eq_true hg9
     refine os 9 ?_
     refine kp [59, 5, 0, 2, 3, 4] ?_
     refine nt ?_
     refine cf ?_
     refine SW_skip (n_then ?_)
     have hw_ : wayP r = (1, r) := by rw [hg9]; rfl
     rw [hw_]
     exact ⟨fun _ => rfl, ow⟩
    ·rintro ρ_ σ_ hfit
     refine SW_fits hfit ?_
     clear hfit
     refine SW_seq ?_
     have hQl_ : (wayP r).2.length ≤ X.length := Nat.le_trans (wayP_len r) hrl_
     have hW_ := wayP_in r
     generalize hQ_ : (wayP r).2 = Q at hQl_ ⊢
     generalize hw_ : (wayP r).1 = W at hW_ ⊢
     have hEl_ := takeWhile_len isDig Q
     have hEd_ := dropWhile_len isDig Q
     refine SW_region ?_
     refine os 1 ?_
     refine L (cl (num_figures (X := Q) (by first | omega | (simp; omega))) ?_)
     rintro _ _ rfl
     refine un ?_
     refine os 5 ?_
     refine kp [7, 6, 2, 3, 4, 0, 5] ?_
     refine nq ?_
     refine sr ?_
     refine os 1 ?_
     refine L (O_txt (bS (Q.takeWhile isDig)) Tryz.underlying9 Tryz.underlying95 Tryz.underlying5 (fun _ => rfl) rfl ?_)
     intro b12 capb12 hcapb12
     rw [bS_size] at hcapb12 ⊢
     refine os 2 ?_
     refine nt ?_
     refine SW_block ?_
     refine SW_loop (α := Nat) (fun z_ ρ_ σ_ => Fits ρ_ σ_ [(2, pt b1 0), (3, .bool false), (4, pt b2 0), (5, .int .i64 W), (6, .string (bS (Q.takeWhile isDig))), (7, .string (bS (Q.dropWhile isDig))), (72, .slice (some ⟨b12, 0, none⟩) ((Q.takeWhile isDig).length) capb12), (73, .int .i64 ((((Q.takeWhile isDig).length : Nat)) : Int)), (74, .int .i64 (z_ : Int))] ((b2, .cells 62 3 [.string (bS A), .string (bS B), .int .i64 (powN 0 ((Q.takeWhile isDig).take z_))]) :: ((b12, .txt (txtV (Q.takeWhile isDig))) :: ((b1, .cells 62 3 [.string (bS []), .string (bS []), .int .i64 0]) :: ([])))) ∧ z_ ≤ (Q.takeWhile isDig).length) (fun z_ => (Q.takeWhile isDig).length - z_) 0 ⟨⟨fun _ => rfl, (by simp only [List.take_zero, powN]; exact ow)⟩, Nat.zero_le _⟩ ?_
     rintro i ρ_ σ_ ⟨hfit, hi0⟩
     refine SW_fits hfit ?_
     clear hfit
     have hpw_ := powN_in ((Q.takeWhile isDig).take i) 0 (by omega) (fun c hc => takeWhile_dig (List.mem_of_mem_take hc))
     refine sr ?_
     refine os 1 ?_
     refine nq ?_
     refine cdp (fun hc13 : (i : Int) < ((((Q.takeWhile isDig).length : Nat)) : Int) => ?_) (fun hc13 => ?_)
     ·refine SW_skip (n_then ?_)
      refine SW_seq ?_
      refine SW_block ?_
      refine sr ?_
      refine L (O_indexAddr' (i : Int) (i) b12 0 ((Q.takeWhile isDig).length) capb12 .i64 1 Tryz.underlying95 (by kernel_rfl) (fun _ => rfl) (fun _ => rfl) (by omega) (by omega) (by omega) rfl ?_)
      obtain ⟨e2, he2⟩ : ∃ y_, (Q.takeWhile isDig)[i]? = some y_ := ⟨_, List.getElem?_eq_getElem (by omega)⟩
      refine L (ld ?_ (hc := Cell.txt (mem_c mem_z) (txt_at he2)))
      refine os 1 ?_
      refine nt ?_
      have hde_ := takeWhile_dig (List.mem_of_getElem? he2)
      refine SW_region ?_
      refine os 1 ?_
      refine L (ld ?_)
      refine os 5 ?_
      refine oV (.int .i64 (if 1099511627776 < ((powN 0 ((Q.takeWhile isDig).take i)) * 10) + ((e2.toNat : Int) - 48) then 1099511627776 else ((powN 0 ((Q.takeWhile isDig).take i)) * 10) + ((e2.toNat : Int) - 48))) ?_
      refine os 1 ?_
      refine kp [86, 85, 9, 75, 2, 3, 4, 5, 6, 7, 72, 73, 74] ?_
      refine L (st [.string (bS A), .string (bS B), .int .i64 (if 1099511627776 < ((powN 0 ((Q.takeWhile isDig).take i)) * 10) + ((e2.toNat : Int) - 48) then 1099511627776 else ((powN 0 ((Q.takeWhile isDig).take i)) * 10) + ((e2.toNat : Int) - 48))] ?_)
      refine SL_nil (n_in (n_then ?_))
      refine SW_region ?_
      refine os 2 ?_
      refine kp [74, 9, 75, 2, 3, 4, 5, 6, 7, 72, 73] ?_
      refine nt ?_
      refine ⟨i + 1, by omega, ?_, by omega⟩
      rw [powN_step he2, ← min_if]
      exact ⟨fun _ => rfl, ow⟩
     refine SW_exit (x_then (x_then (x_in (n_then ?_))))
     refine SW_seq ?_
     have hwm_ := way_mul hpw_ hW_
     refine SW_region ?_
     refine os 1 ?_
     refine L (ld ?_)
     refine os 3 ?_
     refine L (st [.string (bS A), .string (bS B), .int .i64 ((powN 0 ((Q.takeWhile isDig).take i)) * W)] ?_)
     refine nsr ?_
     refine L (lds 3 ?_)
     refine os 1 ?_
     refine oX (.bool (!((bS (Q.takeWhile isDig)).toList == (bS []).toList))) (.bool (!(decide ((Q.takeWhile isDig) = [])))) (congrArg Value.bool (by rw [strB_eq])) ?_
     refine os 1 ?_
     refine kp [96, 93, 75, 2, 3, 4, 5, 6, 7, 72, 73, 74] ?_
     refine tb 96 (fun hg14 => ?_) (fun hg14 => ?_)
     ·replace hg14 : (!(decide ((Q.takeWhile isDig) = []))) = true := hg14
      replace hg14 := bnot_t hg14
      replace hg14 := of_decide_eq_false hg14
      refine os 1 ?_
      refine oX (.bool ((bS (Q.dropWhile isDig)).toList == (bS []).toList)) (.bool (decide ((Q.dropWhile isDig) = []))) (congrArg Value.bool (by rw [strB_eq])) ?_
      refine os 1 ?_
      refine L (st [.string (bS A), .string (bS B), .int .i64 ((powN 0 ((Q.takeWhile isDig).take i)) * W)] ?_)
      refine os 1 ?_
      refine kp [3, 75, 2, 4, 5, 6, 7, 72, 73, 74] ?_
      refine nt ?_
      refine SW_ret ?_
      refine body_endC [.agg #[.string (bS A), .string (bS B), .int .i64 ((powN 0 ((Q.takeWhile isDig).take i)) * W)], .bool (decide ((Q.dropWhile isDig) = []))] (fun _ => (.cons ⟨b1, 0, rfl, .inl ⟨[.string (bS A), .string (bS B), .int .i64 ((powN 0 ((Q.takeWhile isDig).take i)) * W)], by kernel_rfl, (cells_cons (Cell.own mem_z rfl) (cells_cons (Cell.own mem_z rfl) (cells_cons (Cell.own mem_z rfl) cells_nil))), rfl⟩⟩ (.cons rfl .nil))) ?_
      have hin_ : i = (Q.takeWhile isDig).length := by omega
      refine ⟨(), ow, ?_⟩
      rw [decP_pow hA_ hB_ hR_ hab_ hcr_ hce_, hw_, hQ_]
      exact num_eq (by rw [hin_, List.take_length]) (decide_eq_decide.2 ⟨fun q => ⟨hg14, q⟩, fun q => q.2⟩)
     replace hg14 : (!(decide ((Q.takeWhile isDig) = []))) = false := hg14
     replace hg14 := bnot_f hg14
     replace hg14 := of_decide_eq_true hg14
     refine os 3 ?_
     refine L (st [.string (bS A), .string (bS B), .int .i64 ((powN 0 ((Q.takeWhile isDig).take i)) * W)] ?_)
     refine os 1 ?_
     refine kp [3, 75, 2, 4, 5, 6, 7, 72, 73, 74] ?_
     refine nt ?_
     refine SW_ret ?_
     refine body_endC [.agg #[.string (bS A), .string (bS B), .int .i64 ((powN 0 ((Q.takeWhile isDig).take i)) * W)], .bool false] (fun _ => (.cons ⟨b1, 0, rfl, .inl ⟨[.string (bS A), .string (bS B), .int .i64 ((powN 0 ((Q.takeWhile isDig).take i)) * W)], by kernel_rfl, (cells_cons (Cell.own mem_z rfl) (cells_cons (Cell.own mem_z rfl) (cells_cons (Cell.own mem_z rfl) cells_nil))), rfl⟩⟩ (.cons rfl .nil))) ?_
     have hin_ : i = (Q.takeWhile isDig).length := by omega
     refine ⟨(), ow, ?_⟩
     rw [decP_pow hA_ hB_ hR_ hab_ hcr_ hce_, hw_, hQ_]
     exact num_eq (by rw [hin_, List.take_length]) (decide_eq_false fun q => q.1 hg14).symm

end Go.Proofs.YtnhmmjogfkjceaaGreatDoor
namespace Go.Proofs.YtnhmmjogfkjceaaGreatDoor
open Go.Sl

theorem num_tensZ {W0 : World} {a : Gs} {a0 n : Nat} {z : Int} (hz : z = (n : Int)) (hk : Gs.ok 1 (lim a0).length a ((lim a0).map encP)) (hb : (lim (a0 * 10 ^ n)).length ≤ 1048576) (hn : n ≤ 1048576) : SC Tryz.prog W0 92 #[a.val (lim a0).length, .int .i64 z] (Gs.ent 87 1 a ((lim a0).map encP)) (Ret (fun g : Gs => Gs.ent 87 1 g ((lim (a0 * 10 ^ n)).map encP)) (fun v g => v = g.val (lim (a0 * 10 ^ n)).length ∧ Gs.ok 1 (lim (a0 * 10 ^ n)).length g ((lim (a0 * 10 ^ n)).map encP))) := by
 subst hz; exact num_tens hk hb hn

theorem num_nearest {W0 : World} {A B : Bytes} {p : Int} (hl : A.length + B.length ≤ 4611686018427387904) (hd : ∀ c ∈ A ++ B, 48 ≤ c.toNat ∧ c.toNat ≤ 57) (hp : -1099511627776 ≤ p ∧ p ≤ 1099511627776) : SC Tryz.prog W0 43 #[.agg #[.string (bS A), .string (bS B), .int .i64 p]] [] (Ret (fun _ : Unit => []) (fun v _ => v = .int .u64 (nearestP ⟨A, B, p⟩ : Int))) := by
 refine SC_body (fn := Tryz.f43) (n := 63) Tryz.func43 rfl (by kernel_rfl) (ρ := [(0, .agg #[.string (bS A), .string (bS B), .int .i64 p])]) rfl ?_
 refine sr ?_
 refine L (nw 62 3 [.string (bS A), .string (bS B), .int .i64 p] ?_)
 intro b1
 refine os 1 ?_
 refine nsr ?_
 refine os 1 ?_
 refine L (ld ?_)
 refine os 1 ?_
 refine L (ld ?_)
 refine oV (.string (bS (A ++ B))) ?_ (hs := (fun δ w_ => run_catB A B (by first | omega | (simp; omega)) rfl rfl))
 refine L (cl (str_TrimLeft (A ++ B) [48] (by decide) (by decide)) ?_)
 rintro v1 _ hv1
 obtain rfl : v1 = .string (bS ((A ++ B).dropWhile (· == 48))) := hv1.trans (congrArg (fun l_ => Value.string (bS l_)) (trimLeft_0 (A ++ B)))
 refine un ?_
 refine os 1 ?_
 refine kp [3, 2, 1, 0] ?_
 refine nq ?_
 have hLl_ : ((A ++ B).dropWhile (· == 48)).length ≤ A.length + B.length := Nat.le_trans (dropWhile_len _ _) (by simp)
 have hLd_ : ∀ c ∈ ((A ++ B).dropWhile (· == 48)), 48 ≤ c.toNat ∧ c.toNat ≤ 57 := fun c hc => hd c ((List.dropWhile_sublist _).subset hc)
 generalize hL_ : (A ++ B).dropWhile (· == 48) = Y at hLl_ hLd_ ⊢
 refine SW_region ?_
 refine os 1 ?_
 refine L (ld ?_)
 refine os 1 ?_
 refine L (ld ?_)
 refine oX (.int .i64 ((bS B).size : Int)) (.int .i64 (B.length : Int)) (congrArg (fun n_ : Nat => Value.int .i64 (n_ : Int)) (bS_size _)) ?_
 refine os 2 ?_
 refine kp [4, 3, 2, 1, 0] ?_
 refine nq ?_
 refine SW_seq ?_
 generalize hP_ : p - (B.length : Int) = P
 have hPr_ : -1099511627776 - (B.length : Int) ≤ P ∧ P ≤ 1099511627776 := by omega
 refine SW_cut3 (fun ρ_ σ_ => Fits ρ_ σ_ [(2, .int .u64 0), (3, .string (bS (cutD Y P).1)), (4, .int .i64 ((cutD Y P).2))] ([])) ?_ ?_
 ·refine SW_region ?_
  refine os 1 ?_
  refine oX (.int .i64 ((bS Y).size : Int)) (.int .i64 (Y.length : Int)) (congrArg (fun n_ : Nat => Value.int .i64 (n_ : Int)) (bS_size _)) ?_
  refine os 1 ?_
  refine nt ?_
  refine cdp (fun hc2 : (Y.length : Int) > 800 => ?_) (fun hc2 => ?_)
  ·refine sr ?_
   refine os 1 ?_
   refine L (O_val (.string (bS (Y.drop 800))) rfl (fun δ w _ => run_strFrom (l := Y) 800 .i64 Tryz.underlying9 rfl rfl (by omega) (by omega)) ?_)
   refine L (cl (str_Trim (Y.drop 800) [48] (by first | omega | (simp; omega)) (by decide) (by decide)) ?_)
   rintro _ _ rfl
   refine un ?_
   refine oX (.bool (!((bS (Lib.trimS (Y.drop 800) [48])).toList == (bS []).toList))) (.bool (!(decide ((Lib.trimS (Y.drop 800) [48]) = [])))) (congrArg Value.bool (by rw [strB_eq])) ?_
   refine os 1 ?_
   refine kp [5, 21, 2, 3, 4] ?_
   refine nsr ?_
   refine os 2 ?_
   refine oX (.int .i64 ((bS Y).size : Int)) (.int .i64 (Y.length : Int)) (congrArg (fun n_ : Nat => Value.int .i64 (n_ : Int)) (bS_size _)) ?_
   refine os 3 ?_
   refine kp [4, 5, 21, 2, 3] ?_
   refine nsr ?_
   refine os 1 ?_
   refine L (O_val (.string (bS (Y.take 800))) rfl (fun δ w _ => run_strTo (l := Y) 800 .i64 Tryz.underlying9 rfl rfl (by omega) (by omega)) ?_)
   refine os 1 ?_
   refine nsr ?_
   refine os 1 ?_
   refine nt ?_
   refine cd (fun hc3 : (!(decide ((Lib.trimS (Y.drop 800) [48]) = []))) = true => ?_) (fun hc3 => ?_)
   ·replace hc3 := bnot_t hc3
    replace hc3 := of_decide_eq_false hc3
    refine sr ?_
    refine os 1 ?_
    refine oV (.string (bS ((Y.take 800) ++ [49]))) ?_ (hs := (fun δ w_ => run_catB (Y.take 800) [49] (by first | omega | (simp; omega)) rfl rfl))
    refine os 1 ?_
    refine kp [3, 33, 4, 5, 21, 2] ?_
    refine nr ?_
    refine os 3 ?_
    refine nt ?_
    rw [cutD_more (by omega) hc3]
    exact ⟨fun _ => rfl, ow⟩
   replace hc3 := bnot_f hc3
   replace hc3 := of_decide_eq_true hc3
   refine SW_skip (n_then ?_)
   rw [cutD_cut (by omega) hc3]
   exact ⟨fun _ => rfl, ow⟩
  refine SW_skip (n_then ?_)
  rw [cutD_no (L := Y) (by omega)]
  exact ⟨fun _ => rfl, ow⟩
 ·rintro ρ_ σ_ hfit
  refine SW_fits hfit ?_
  clear hfit
  refine SW_seq ?_
  refine SW_seq ?_
  have hcf_ := cutD_facts (P := P) hLd_
  generalize hc1_ : (cutD Y P).1 = M at hcf_ ⊢
  generalize hc2_ : (cutD Y P).2 = q at hcf_ ⊢
  obtain ⟨hMl_, hMd_, hq1_, hq2_⟩ := hcf_
  refine SW_region ?_
  refine os 1 ?_
  refine oX (.int .i64 ((bS M).size : Int)) (.int .i64 (M.length : Int)) (congrArg (fun n_ : Nat => Value.int .i64 (n_ : Int)) (bS_size _)) ?_
  refine os 3 ?_
  refine kp [6, 2, 3, 4] ?_
  refine nt ?_
  refine SW_block ?_
  refine sr ?_
  refine os 1 ?_
  refine oX (.bool ((bS M).toList == (bS []).toList)) (.bool (decide (M = []))) (congrArg Value.bool (by rw [strB_eq])) ?_
  refine os 1 ?_
  refine tbp 45 (fun hg4 => ?_) (fun hg4 => ?_)
  ·replace hg4 : M = [] := hg4
   refine os 4 ?_
   refine kp [42, 6, 2, 3, 4] ?_
   refine nt ?_
   refine ct ?_
   refine sr ?_
   refine os 1 ?_
   refine nt ?_
   refine SW_ret (r_in (r_then ?_))
   refine body_end (.int .u64 0) (fun _ => rfl) ?_
   exact ⟨(), ow, congrArg (Value.int .u64) (by rw [nearestP_eq hL_ hP_ hc1_ hc2_, nearD_none (by first | exact .inl (by assumption) | exact .inr (by omega))]; rfl)⟩
  replace hg4 : ¬ (M = []) := hg4
  refine os 4 ?_
  refine kp [42, 6, 2, 3, 4] ?_
  refine nt ?_
  refine cdp (fun hc5 : ((M.length : Int) + q) < (-330) => ?_) (fun hc5 => ?_)
  ·refine sr ?_
   refine os 1 ?_
   refine nt ?_
   refine SW_ret (r_in (r_then ?_))
   refine body_end (.int .u64 0) (fun _ => rfl) ?_
   exact ⟨(), ow, congrArg (Value.int .u64) (by rw [nearestP_eq hL_ hP_ hc1_ hc2_, nearD_none (by first | exact .inl (by assumption) | exact .inr (by omega))]; rfl)⟩
  refine sr ?_
  refine os 3 ?_
  refine nt ?_
  refine cdp (fun hc6 : ((M.length : Int) + q) > 310 => ?_) (fun hc6 => ?_)
  ·refine sr ?_
   refine os 1 ?_
   refine nt ?_
   refine SW_ret (r_in (r_then ?_))
   refine body_end (.int .u64 9218868437227405312) (fun _ => rfl) ?_
   exact ⟨(), ow, congrArg (Value.int .u64) (by rw [nearestP_eq hL_ hP_ hc1_ hc2_, nearD_inf (by assumption) (by omega) (by omega)]; rfl)⟩
  refine SW_skip (n_in (n_then ?_))
  refine sr ?_
  refine os 1 ?_
  refine L (cl (num_of (X := M) hMd_ (len_mono (Nat.le_of_lt (ofD_lt _ _ rfl hMd_)) (len_bits (Nat.le_trans (bitsN_ten (Nat.le_refl _)) (by omega)))) (by omega)) ?_)
  rintro _ u7 ⟨rfl, hku7⟩
  refine os 1 ?_
  refine oV (.int .i64 (if 0 > q then 0 else q)) ?_
  refine L (cl (num_tensZ (n := (q).toNat) (max0_eq _) hku7 (len_bits (Nat.le_trans (bitsN_ten (ofD_tens hMd_ hMl_)) (by omega))) (by omega)) ?_)
  rintro _ u8 ⟨rfl, hku8⟩
  have hsm_ := num_small (W0 := W0) (n := 1) (by decide)
  refine L (cl (hsm_) ?_)
  rintro _ u9 ⟨rfl, hku9⟩
  refine os 1 ?_
  refine oX (.int .i64 (IntKind.wrap .i64 (0 - q))) (.int .i64 (-q)) (congrArg (Value.int .i64) ((IntWalk.i64_in _ (by omega)).trans (Int.zero_sub _))) ?_
  refine oV (.int .i64 (if 0 > -q then 0 else -q)) ?_
  refine kp [60, 57, 56, 49, 42, 6, 2, 3, 4] ?_
  refine L (cl (num_tensZ (n := (-q).toNat) (max0_eq _) hku9 (len_bits (Nat.le_trans (bitsN_ten (one_tens _)) (by omega))) (by omega)) ?_)
  rintro _ u10 ⟨rfl, hku10⟩
  refine L (cl (num_rounded (p0 := (ofD M) * 10 ^ ((q).toNat)) (q0 := 1 * 10 ^ ((-q).toNat)) hku8 hku10 (Nat.le_trans (bitsN_ten (ofD_tens hMd_ hMl_)) (by omega)) (Nat.le_trans (bitsN_ten (one_tens _)) (by omega))) ?_)
  rintro _ _ rfl
  refine un ?_
  refine os 1 ?_
  refine kp [2, 49, 42, 6, 3, 4] ?_
  refine nt ?_
  refine SW_ret ?_
  refine body_end (.int .u64 (roundN ((ofD M) * 10 ^ ((q).toNat)) (1 * 10 ^ ((-q).toNat)) : Int)) (fun _ => rfl) ?_
  exact ⟨(), ow, congrArg (Value.int .u64) (by rw [nearestP_eq hL_ hP_ hc1_ hc2_, nearD_some (by assumption) (by omega) (by omega)])⟩

theorem num_hex {W0 : World} {X : Bytes} (hX : X.length ≤ 1152921504606846976) : SC Tryz.prog W0 40 #[.string (bS X)] [] (Ret (fun _ : Unit => []) (fun v _ => v = .tuple #[.int .u64 ((hexP X).1 : Int), .bool (hexP X).2])) := by
 refine SC_body (fn := Tryz.f40) (n := 59) Tryz.func40 rfl (by kernel_rfl) (ρ := [(0, .string (bS X))]) rfl ?_
 refine sr ?_
 refine os 2 ?_
 refine nsr ?_
 refine os 3 ?_
 refine nq ?_
 refine sr ?_
 refine os 1 ?_
 refine L (O_txt (bS X) Tryz.underlying9 Tryz.underlying95 Tryz.underlying5 (fun _ => rfl) rfl ?_)
 intro b1 capb1 hcapb1
 rw [bS_size] at hcapb1 ⊢
 refine os 2 ?_
 refine nt ?_
 refine SW_block ?_
 refine SW_loop (α := Nat × Nat × Int × Bool) (fun z_ ρ_ σ_ => Fits ρ_ σ_ [(0, .string (bS X)), (2, .int .u64 0), (3, .bool false), (11, .slice (some ⟨b1, 0, none⟩) X.length capb1), (12, .int .i64 (X.length : Int)), (4, .int .u64 (z_.2.1 : Int)), (5, .int .i64 z_.2.2.1), (6, .bool z_.2.2.2), (13, .int .i64 (z_.1 : Int))] ((b1, .txt (txtV X)) :: ([])) ∧ z_.1 ≤ X.length ∧ (z_.2.1 < 18446744073709551616 ∧ 0 ≤ z_.2.2.1 ∧ z_.2.2.1 ≤ 4 * (z_.1 : Int)) ∧ hexGo z_.2.1 z_.2.2.1 z_.2.2.2 (X.drop z_.1) = hexGo 0 0 false X) (fun z_ => X.length - z_.1) (0, 0, 0, false) ⟨⟨fun _ => rfl, ow⟩, Nat.zero_le _, ⟨(show 0 < 18446744073709551616 by decide), Int.le_refl _, (show (0 : Int) ≤ 4 * ((0 : Nat) : Int) by decide)⟩, by simp⟩ ?_
 rintro ⟨i, m, x, b⟩ ρ_ σ_ ⟨hfit, hi0, hi1, hi2⟩
 refine SW_fits hfit ?_
 clear hfit
 simp only [] at hi0 hi1 hi2 ⊢
 obtain ⟨hm_, hx0_, hx1_⟩ := hi1
 refine sr ?_
 refine os 1 ?_
 refine nq ?_
 refine cdp (fun hc2 : (i : Int) < (X.length : Int) => ?_) (fun hc2 => ?_)
 ·refine SW_skip (n_then ?_)
  refine SW_seq ?_
  refine SW_block ?_
  refine sr ?_
  refine L (O_indexAddr' (i : Int) (i) b1 0 X.length capb1 .i64 1 Tryz.underlying95 (by kernel_rfl) (fun _ => rfl) (fun _ => rfl) (by omega) (by omega) (by omega) rfl ?_)
  obtain ⟨e1, he1⟩ : ∃ y_, X[i]? = some y_ := ⟨_, List.getElem?_eq_getElem (by omega)⟩
  refine L (ld ?_ (hc := Cell.txt mem_z (txt_at he1)))
  refine os 1 ?_
  refine nsr ?_
  refine os 1 ?_
  refine oV (.int .u8 ((e1 ||| 32).toNat : Int)) ?_ (hs := or8R (m := (e1.toNat : Int)) (c := 32) _ (or8 e1))
  refine L (cl (str_IndexByte [48, 49, 50, 51, 52, 53, 54, 55, 56, 57, 97, 98, 99, 100, 101, 102] (e1 ||| 32)) ?_)
  rintro v1 _ hv1
  obtain rfl : v1 = .int .i64 (Lib.indexByte nibs (e1 ||| 32)) := hv1.trans (rfl)
  refine un ?_
  refine os 1 ?_
  refine kp [9, 8, 14, 0, 2, 3, 11, 12, 4, 5, 6, 13] ?_
  refine nq ?_
  refine SW_seq ?_
  rw [drop_at he1] at hi2
  refine SW_cut3 (fun ρ_ σ_ => Fits ρ_ σ_ [(0, .string (bS X)), (2, .int .u64 0), (3, .bool false), (4, .int .u64 (m : Int)), (5, .int .i64 x), (6, .bool b), (11, .slice (some ⟨b1, 0, none⟩) X.length capb1), (12, .int .i64 (X.length : Int)), (13, .int .i64 (i : Int)), (9, .int .i64 (Lib.indexByte nibs (e1 ||| 32)))] ((b1, .txt (txtV X)) :: ([])) ∧ (hexD e1 = some (Lib.indexByte nibs (e1 ||| 32)).toNat ∧ 0 ≤ (Lib.indexByte nibs (e1 ||| 32)))) ?_ ?_
  ·refine SW_region ?_
   refine os 3 ?_
   refine tbp 22 (fun hg3 => ?_) (fun hg3 => ?_)
   ·replace hg3 : (e1.toNat : Int) < 48 := hg3
    refine os 14 ?_
    refine kp [36, 9, 8, 14, 0, 2, 3, 11, 12, 4, 5, 6, 13] ?_
    refine nt ?_
    refine ct ?_
    refine sr ?_
    refine os 2 ?_
    refine nt ?_
    refine SW_ret (r_then (r_in (r_then (r_then (r_in (r_then ?_))))))
    refine body_end (.tuple #[.int .u64 0, .bool false]) (fun _ => rfl) ?_
    rw [hexGo_none (hexD_none (by first | exact .inl (by omega) | exact .inr (.inl (by omega)) | exact .inr (.inr ⟨by omega, by omega⟩)))] at hi2
    exact ⟨(), ow, by rw [hexP_none hi2.symm]; rfl⟩
   replace hg3 : ¬ ((e1.toNat : Int) < 48) := hg3
   refine os 4 ?_
   refine kp [26, 9, 8, 14, 0, 2, 3, 11, 12, 4, 5, 6, 13] ?_
   refine tbp 26 (fun hg4 => ?_) (fun hg4 => ?_)
   ·replace hg4 : (Lib.indexByte nibs (e1 ||| 32)) < 0 := hg4
    refine os 10 ?_
    refine kp [36, 9, 8, 14, 0, 2, 3, 11, 12, 4, 5, 6, 13] ?_
    refine nt ?_
    refine ct ?_
    refine sr ?_
    refine os 2 ?_
    refine nt ?_
    refine SW_ret (r_then (r_in (r_then (r_then (r_in (r_then ?_))))))
    refine body_end (.tuple #[.int .u64 0, .bool false]) (fun _ => rfl) ?_
    rw [hexGo_none (hexD_none (by first | exact .inl (by omega) | exact .inr (.inl (by omega)) | exact .inr (.inr ⟨by omega, by omega⟩)))] at hi2
    exact ⟨(), ow, by rw [hexP_none hi2.symm]; rfl⟩
   replace hg4 : ¬ ((Lib.indexByte nibs (e1 ||| 32)) < 0) := hg4
   refine os 3 ?_
   refine tbp 29 (fun hg5 => ?_) (fun hg5 => ?_)
   ·replace hg5 : (Lib.indexByte nibs (e1 ||| 32)) < 10 := hg5
    refine os 7 ?_
    refine kp [36, 9, 8, 14, 0, 2, 3, 11, 12, 4, 5, 6, 13] ?_
    refine nt ?_
    refine cd (fun hc6 : ((e1.toNat : Int) != (48 + (Lib.indexByte nibs (e1 ||| 32)))) = true => ?_) (fun hc6 => ?_)
    ·simp only [beq_iff_eq, bne_iff_ne, ne_eq, beq_eq_false_iff_ne, bne_eq_false_iff_eq, Classical.not_not] at hc6
     refine sr ?_
     refine os 2 ?_
     refine nt ?_
     refine SW_ret (r_then (r_in (r_then (r_then (r_in (r_then ?_))))))
     refine body_end (.tuple #[.int .u64 0, .bool false]) (fun _ => rfl) ?_
     rw [hexGo_none (hexD_none (by first | exact .inl (by omega) | exact .inr (.inl (by omega)) | exact .inr (.inr ⟨by omega, by omega⟩)))] at hi2
     exact ⟨(), ow, by rw [hexP_none hi2.symm]; rfl⟩
    simp only [beq_iff_eq, bne_iff_ne, ne_eq, beq_eq_false_iff_ne, bne_eq_false_iff_eq, Classical.not_not] at hc6
    refine SW_skip (n_then ?_)
    exact ⟨⟨fun _ => rfl, ow⟩, hexD_some (by rintro (q | q | ⟨q1, q2⟩) <;> omega), by omega⟩
   replace hg5 : ¬ ((Lib.indexByte nibs (e1 ||| 32)) < 10) := hg5
   refine os 7 ?_
   refine kp [36, 9, 8, 14, 0, 2, 3, 11, 12, 4, 5, 6, 13] ?_
   refine nt ?_
   refine cf ?_
   refine SW_skip (n_then ?_)
   exact ⟨⟨fun _ => rfl, ow⟩, hexD_some (by rintro (q | q | ⟨q1, q2⟩) <;> omega), by omega⟩
  ·rintro ρ_ σ_ ⟨hfit, ⟨hxd_, hx9_⟩⟩
   refine SW_fits hfit ?_
   clear hfit
   refine SW_seq ?_
   refine SW_seq ?_
   have hnl_ := nib_lt (e1 ||| 32)
   obtain ⟨d, hd_⟩ := Int.eq_ofNat_of_zero_le hx9_
   rw [hd_] at hxd_ hnl_ ⊢
   rw [Int.toNat_natCast] at hxd_
   refine SW_region ?_
   refine os 1 ?_
   refine oX (.int .u64 (Int.fdiv (m : Int) 1152921504606846976)) (.int .u64 ((m : Int) / 1152921504606846976)) (congrArg (Value.int .u64) (Int.fdiv_eq_ediv_of_nonneg _ (by omega))) ?_
   refine os 1 ?_
   refine nt ?_
   refine cd (fun hc7 : (((m : Int) / 1152921504606846976) == 0) = true => ?_) (fun hc7 => ?_)
   ·simp only [beq_iff_eq, bne_iff_ne, ne_eq, beq_eq_false_iff_ne, bne_eq_false_iff_eq, Classical.not_not] at hc7
    refine sr ?_
    refine os 1 ?_
    refine oV (.int .u64 ((m * 16 : Nat) : Int)) ?_ (hs := shlR (m := (m : Int)) (c := 4) _ (by decide) (shl_nib m (by omega)))
    refine os 2 ?_
    refine oV (.int .u64 ((m * 16 + d : Nat) : Int)) ?_ (hs := orR (m := ((m * 16 : Nat) : Int)) (c := (d : Int)) _ (or_nib (by omega) (by omega)))
    refine os 1 ?_
    refine kp [4, 39, 0, 2, 3, 5, 6, 11, 12, 13, 9] ?_
    refine nt ?_
    refine SW_exit (x_then (x_in (n_then ?_)))
    refine SW_region ?_
    refine os 2 ?_
    refine nt ?_
    rw [hexGo_in hxd_ (by omega)] at hi2
    exact ⟨(i + 1, m * 16 + d, x, b), by simp only []; omega, ⟨fun _ => rfl, ow⟩, by simp only []; omega, ⟨by simp only []; omega, by simp only []; omega, by simp only []; omega⟩, hi2⟩
   simp only [beq_iff_eq, bne_iff_ne, ne_eq, beq_eq_false_iff_ne, bne_eq_false_iff_eq, Classical.not_not] at hc7
   refine SW_skip (n_then ?_)
   refine sr ?_
   refine os 3 ?_
   refine kp [5, 39, 0, 2, 3, 4, 6, 11, 12, 13, 9] ?_
   refine nr ?_
   refine os 2 ?_
   refine tb 48 (fun hg8 => ?_) (fun hg8 => ?_)
   ·replace hg8 : b = true := hg8
    refine os 4 ?_
    refine kp [6, 5, 39, 0, 2, 3, 4, 11, 12, 13, 9] ?_
    refine SL_nil (n_in (n_then ?_))
    refine SW_region ?_
    refine os 2 ?_
    refine nt ?_
    rw [hexGo_out hxd_ (by omega), show (b || decide (0 < d)) = true from by simp [hg8]] at hi2
    exact ⟨(i + 1, m, x + 4, true), by simp only []; omega, ⟨fun _ => rfl, ow⟩, by simp only []; omega, ⟨by simp only []; omega, by simp only []; omega, by simp only []; omega⟩, hi2⟩
   replace hg8 : b = false := hg8
   refine os 4 ?_
   refine kp [6, 5, 39, 0, 2, 3, 4, 11, 12, 13, 9] ?_
   refine SL_nil (n_in (n_then ?_))
   refine SW_region ?_
   refine os 2 ?_
   refine nt ?_
   rw [hexGo_out hxd_ (by omega), show (b || decide (0 < d)) = decide ((d : Int) > 0) from by simp [hg8]] at hi2
   exact ⟨(i + 1, m, x + 4, decide ((d : Int) > 0)), by simp only []; omega, ⟨fun _ => rfl, ow⟩, by simp only []; omega, ⟨by simp only []; omega, by simp only []; omega, by simp only []; omega⟩, hi2⟩
 refine SW_exit (x_then (x_then (x_in (n_then ?_))))
 refine sr ?_
 refine os 3 ?_
 refine L (cl (num_Near (m := m) (by omega)) ?_)
 rintro _ _ rfl
 refine un ?_
 refine os 1 ?_
 refine oX (.bool (!((bS X).toList == (bS []).toList))) (.bool (!(decide (X = [])))) (congrArg Value.bool (by rw [strB_eq])) ?_
 refine os 2 ?_
 refine kp [3, 2, 14, 0, 11, 12, 4, 5, 6, 13] ?_
 refine nt ?_
 refine SW_ret ?_
 refine body_end (.tuple #[.int .u64 (nearN m x b : Int), .bool (!(decide (X = [])))]) (fun _ => rfl) ?_
 have hin_ : i = X.length := by omega
 rw [hin_, List.drop_length] at hi2
 exact ⟨(), ow, by rw [hexP_some hi2.symm]; simp⟩

end Go.Proofs.YtnhmmjogfkjceaaGreatDoor
