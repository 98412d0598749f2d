/-
  LexStrings, within the bound on what it reads, and tied to the program's text: it returns true whatever it is given, and leaves its arguments as they were. Conditions: the arguments' bulk is at most 1048576; the listed library variables stand as their text lays them, as the statement says.
-/
import Derived.Test.YtnhmmjogfkjceaaDoorProg
import Derived.Test.YtnhmmjogfkjceaaDoorM5
import Derived.Test.YtnhmmjogfkjceaaDoorM2
set_option linter.unusedVariables false
set_option linter.unusedSimpArgs false
set_option maxRecDepth 100000
set_option maxHeartbeats 4000000
namespace Go.Proofs.YtnhmmjogfkjceaaDoor
open Go.Sl

theorem law_quoted_at {W0 : World} {s : Bytes} {q : UInt8} {how : List Bool} {b0_ o0_ c : Nat} (hs : s.length ≤ 5000) (hh : how.length ≤ 1048576) (hq_ : Cells W0 [] b0_ o0_ (how.map encB)) : SC Tryd.prog W0 13 #[.string (bS s), .int .u8 (q.toNat : Int), .slice (some ⟨b0_, o0_, none⟩) how.length c] [] (Ret (fun _ : Unit => []) (fun v _ => v = .string (bS (quotedP q s how)))) := by
 refine SC_body (fn := Tryd.f13) (n := 69) Tryd.func13 rfl (by kernel_rfl) (ρ := [(0, .string (bS s)), (1, .int .u8 (q.toNat : Int)), (2, .slice (some ⟨b0_, o0_, none⟩) how.length c)]) rfl ?_
 refine sr ?_
 refine os 1 ?_
 refine nsr ?_
 refine os 1 ?_
 refine nsr ?_
 refine os 1 ?_
 refine L (nws 5 1 1 [.int .u8 (q.toNat : Int)] ?_)
 intro b1
 refine os 1 ?_
 refine nq ?_
 refine sr ?_
 refine os 1 ?_
 refine nt ?_
 refine SW_block ?_
 refine SW_sig ((Gs.ent 5 1 (Gs.at b1 1) (([q]).map u8V)) ++ ([])) rfl ?_
 refine SW_loop (α := Nat × Gs × Bytes) (fun z_ ρ_ σ_ => Fits ρ_ σ_ [(0, .string (bS s)), (1, .int .u8 (q.toNat : Int)), (2, .slice (some ⟨b0_, o0_, none⟩) how.length c), (7, .string (bS hexL)), (8, Gs.val z_.2.1 z_.2.2.length), (9, .int .i64 (z_.1 : Int))] ((Gs.ent 5 1 z_.2.1 (z_.2.2.map u8V)) ++ ([])) ∧ z_.1 ≤ s.length ∧ Gs.ok 1 z_.2.2.length z_.2.1 (z_.2.2.map u8V) ∧ (z_.2.2.length ≤ 1 + 4 * z_.1 ∧ z_.2.2 ≠ []) ∧ z_.2.2 ++ (quoteB q (s.drop z_.1) (how.drop z_.1) ++ [q]) = quotedP q s how) (fun z_ => s.length - z_.1) (0, (Gs.at b1 1), [q]) ⟨⟨fun _ => rfl, ow⟩, Nat.zero_le _, ⟨Nat.le_refl _, by unfold maxLen; omega, rfl⟩, ⟨Nat.le_refl _, by simp⟩, rfl⟩ ?_
 rintro ⟨i, g, m⟩ ρ_ σ_ ⟨hfit, hi0, hi1, hi2, hi3⟩
 refine SW_fits hfit ?_
 clear hfit
 simp only [] at hi0 hi1 hi2 hi3 ⊢
 obtain ⟨hml_, hmn_⟩ := hi2
 refine SW_seq ?_
 refine sr ?_
 refine os 2 ?_
 refine oX (.int .i64 ((bS s).size : Int)) (.int .i64 (s.length : Int)) (congrArg (fun n_ : Nat => Value.int .i64 (n_ : Int)) (bS_size _)) ?_
 refine os 1 ?_
 refine kp [16, 0, 1, 2, 7, 8, 9] ?_
 refine nt ?_
 refine cdp (fun hc2 : (i : Int) < (s.length : Int) => ?_) (fun hc2 => ?_)
 ·refine SW_skip (n_then ?_)
  refine SW_seq ?_
  refine SW_block ?_
  refine sr ?_
  refine os 2 ?_
  obtain ⟨e1, he1⟩ : ∃ y_, s[i]? = some y_ := ⟨_, List.getElem?_eq_getElem (by omega)⟩
  refine ixb (i : Int) s .i64 e1 Tryd.underlying9 he1 ?_
  refine os 1 ?_
  refine kp [10, 16, 0, 1, 2, 7, 8, 9] ?_
  refine nsr ?_
  refine os 5 ?_
  refine tbp 26 (fun hg3 => ?_) (fun hg3 => ?_)
  ·replace hg3 : (i : Int) < (how.length : Int) := hg3
   refine os 2 ?_
   refine L (O_indexAddr' (i : Int) (o0_ + i) b0_ o0_ how.length c .i64 1 Tryd.underlying35 (by kernel_rfl) (fun _ => rfl) (fun _ => rfl) (by omega) (by omega) (by omega) rfl ?_)
   obtain ⟨e2, he2⟩ : ∃ y_, how[i]? = some y_ := ⟨_, List.getElem?_eq_getElem (by omega)⟩
   refine L (ld ?_ (hc := Cell.mono (hq_ _ _ (map_cell he2 rfl)) (fun e he => absurd he List.not_mem_nil)))
   refine os 2 ?_
   refine kp [32, 10, 16, 0, 1, 2, 7, 8, 9] ?_
   refine tb 32 (fun hg4 => ?_) (fun hg4 => ?_)
   ·replace hg4 : e2 = true := hg4
    refine os 16 ?_
    refine kp [48, 10, 16, 0, 1, 2, 7, 8, 9] ?_
    refine nt ?_
    refine ct ?_
    obtain ⟨hx1_, hx2_⟩ := hex_lt (c := e1)
    have hc256_ : e1.toNat < 256 := e1.toNat_lt
    obtain ⟨e3, he3⟩ : ∃ y_, hexL[(e1.toNat / 16)]? = some y_ := ⟨_, List.getElem?_eq_getElem (by exact hx1_)⟩
    obtain ⟨e4, he4⟩ : ∃ y_, hexL[(e1.toNat % 16)]? = some y_ := ⟨_, List.getElem?_eq_getElem (by exact hx2_)⟩
    refine SW_draw [] [] (by kernel_rfl) rd_nil ?_
    refine aS 0 ?_
    refine aS 1 ?_
    refine aS 2 ?_
    refine tk 3 (.int .u8 (IntKind.wrap .u8 (Int.tdiv (e1.toNat : Int) 16))) ?_
    rw [show IntKind.wrap .u8 (Int.tdiv (e1.toNat : Int) 16) = (e1.toNat : Int) / 16 from quo_u8 (by omega) (by omega) (by decide)]
    refine tk 4 (.int .u8 (e3.toNat : Int)) ?_ (hy := fun δ w => run_indexB ((e1.toNat : Int) / 16) hexL .u8 e3 Tryd.underlying9 rfl rfl (by omega) (by rw [show ((e1.toNat : Int) / 16).toNat = (e1.toNat / 16) from by omega]; exact he3))
    refine aS 5 ?_
    refine aS 6 ?_
    refine tk 7 (.int .u8 (Int.tmod (e1.toNat : Int) 16)) ?_
    rw [show Int.tmod (e1.toNat : Int) 16 = (e1.toNat : Int) % 16 from rem_nn (by omega)]
    refine tk 8 (.int .u8 (e4.toNat : Int)) ?_ (hy := fun δ w => run_indexB ((e1.toNat : Int) % 16) hexL .u8 e4 Tryd.underlying9 rfl rfl (by omega) (by rw [show ((e1.toNat : Int) % 16).toNat = (e1.toNat % 16) from by omega]; exact he4))
    refine sa1 false 9 (h := nws 5 4 4 [.int .u8 92, .int .u8 120, .int .u8 (e3.toNat : Int), .int .u8 (e4.toNat : Int)] ?_)
    intro b5
    refine ⟨fun hnd => (by cases hnd), ?_⟩
    refine kpA [58, 49, 48, 10, 16, 0, 1, 2, 7, 8, 9] ?_
    refine SA_perm _ (perm_cc perm_cz) ?_
    refine sa1 false 10 (h := O_append (size := 1) (bytes := 1) (z := .int .u8 0) g m.length 4 (some ⟨b5, 0, none⟩) 4 (m.map u8V) ([.int .u8 92, .int .u8 120, .int .u8 (e3.toNat : Int), .int .u8 (e4.toNat : Int)]) ((m ++ [(92 : UInt8), (120 : UInt8), e3, e4]).map u8V) (by simp [u8V]) (fun _ => rfl) (fun _ => rfl) Tryd.underlying31 (by kernel_rfl) rfl (by decide) hi1 rfl (.inr ⟨b5, 0, rfl, Cells.own (mem_a mem_z) rfl⟩) rfl (by omega) (by decide) rfl ?_)
    intro s6 hks6 hfs6
    rw [show m.length + 4 = (m ++ [(92 : UInt8), (120 : UInt8), e3, e4]).length from by first | (simp; done) | (simp; omega)]
    rw [show m.length + 4 = (m ++ [(92 : UInt8), (120 : UInt8), e3, e4]).length from by first | (simp; done) | (simp; omega)] at hks6
    have hls6 : (m ++ [(92 : UInt8), (120 : UInt8), e3, e4]).length = m.length + 4 := by first | (simp; done) | (simp; omega)
    refine ⟨fun hnd => (by cases hnd), ?_⟩
    refine aS 11 ?_
    refine SA_done (by kernel_rfl) (n_in (n_then ?_))
    refine SW_region ?_
    refine os 3 ?_
    refine kp [9, 8, 48, 10, 16, 0, 1, 2, 7] ?_
    refine nt ?_
    have hnq_ : needQ q e1 ((how.drop i).headD false) = true := needQ_how (by rw [how_at he2]; exact hg4)
    have hqc_ := quoteC_hex hnq_ he3 he4
    rw [quote_step he1 hqc_] at hi3
    exact ⟨(i + 1, s6, (m ++ [(92 : UInt8), (120 : UInt8), e3, e4])), by simp only []; omega, ⟨fun _ => rfl, ow⟩, by simp only []; omega, hks6, ⟨by simp only []; omega, by simp⟩, hi3⟩
   replace hg4 : e2 = false := hg4
   refine os 4 ?_
   refine tbp 36 (fun hg7 => ?_) (fun hg7 => ?_)
   ·replace hg7 : (e1.toNat : Int) < 32 := hg7
    refine os 12 ?_
    refine kp [48, 10, 16, 0, 1, 2, 7, 8, 9] ?_
    refine nt ?_
    refine ct ?_
    obtain ⟨hx1_, hx2_⟩ := hex_lt (c := e1)
    have hc256_ : e1.toNat < 256 := e1.toNat_lt
    obtain ⟨e5, he5⟩ : ∃ y_, hexL[(e1.toNat / 16)]? = some y_ := ⟨_, List.getElem?_eq_getElem (by exact hx1_)⟩
    obtain ⟨e6, he6⟩ : ∃ y_, hexL[(e1.toNat % 16)]? = some y_ := ⟨_, List.getElem?_eq_getElem (by exact hx2_)⟩
    refine SW_draw [] [] (by kernel_rfl) rd_nil ?_
    refine aS 0 ?_
    refine aS 1 ?_
    refine aS 2 ?_
    refine tk 3 (.int .u8 (IntKind.wrap .u8 (Int.tdiv (e1.toNat : Int) 16))) ?_
    rw [show IntKind.wrap .u8 (Int.tdiv (e1.toNat : Int) 16) = (e1.toNat : Int) / 16 from quo_u8 (by omega) (by omega) (by decide)]
    refine tk 4 (.int .u8 (e5.toNat : Int)) ?_ (hy := fun δ w => run_indexB ((e1.toNat : Int) / 16) hexL .u8 e5 Tryd.underlying9 rfl rfl (by omega) (by rw [show ((e1.toNat : Int) / 16).toNat = (e1.toNat / 16) from by omega]; exact he5))
    refine aS 5 ?_
    refine aS 6 ?_
    refine tk 7 (.int .u8 (Int.tmod (e1.toNat : Int) 16)) ?_
    rw [show Int.tmod (e1.toNat : Int) 16 = (e1.toNat : Int) % 16 from rem_nn (by omega)]
    refine tk 8 (.int .u8 (e6.toNat : Int)) ?_ (hy := fun δ w => run_indexB ((e1.toNat : Int) % 16) hexL .u8 e6 Tryd.underlying9 rfl rfl (by omega) (by rw [show ((e1.toNat : Int) % 16).toNat = (e1.toNat % 16) from by omega]; exact he6))
    refine sa1 false 9 (h := nws 5 4 4 [.int .u8 92, .int .u8 120, .int .u8 (e5.toNat : Int), .int .u8 (e6.toNat : Int)] ?_)
    intro b8
    refine ⟨fun hnd => (by cases hnd), ?_⟩
    refine kpA [58, 49, 48, 10, 16, 0, 1, 2, 7, 8, 9] ?_
    refine SA_perm _ (perm_cc perm_cz) ?_
    refine sa1 false 10 (h := O_append (size := 1) (bytes := 1) (z := .int .u8 0) g m.length 4 (some ⟨b8, 0, none⟩) 4 (m.map u8V) ([.int .u8 92, .int .u8 120, .int .u8 (e5.toNat : Int), .int .u8 (e6.toNat : Int)]) ((m ++ [(92 : UInt8), (120 : UInt8), e5, e6]).map u8V) (by simp [u8V]) (fun _ => rfl) (fun _ => rfl) Tryd.underlying31 (by kernel_rfl) rfl (by decide) hi1 rfl (.inr ⟨b8, 0, rfl, Cells.own (mem_a mem_z) rfl⟩) rfl (by omega) (by decide) rfl ?_)
    intro s9 hks9 hfs9
    rw [show m.length + 4 = (m ++ [(92 : UInt8), (120 : UInt8), e5, e6]).length from by first | (simp; done) | (simp; omega)]
    rw [show m.length + 4 = (m ++ [(92 : UInt8), (120 : UInt8), e5, e6]).length from by first | (simp; done) | (simp; omega)] at hks9
    have hls9 : (m ++ [(92 : UInt8), (120 : UInt8), e5, e6]).length = m.length + 4 := by first | (simp; done) | (simp; omega)
    refine ⟨fun hnd => (by cases hnd), ?_⟩
    refine aS 11 ?_
    refine SA_done (by kernel_rfl) (n_in (n_then ?_))
    refine SW_region ?_
    refine os 3 ?_
    refine kp [9, 8, 48, 10, 16, 0, 1, 2, 7] ?_
    refine nt ?_
    have hnq_ : needQ q e1 ((how.drop i).headD false) = true := needQ_is (by omega)
    have hqc_ := quoteC_hex hnq_ he5 he6
    rw [quote_step he1 hqc_] at hi3
    exact ⟨(i + 1, s9, (m ++ [(92 : UInt8), (120 : UInt8), e5, e6])), by simp only []; omega, ⟨fun _ => rfl, ow⟩, by simp only []; omega, hks9, ⟨by simp only []; omega, by simp⟩, hi3⟩
   replace hg7 : ¬ ((e1.toNat : Int) < 32) := hg7
   refine os 4 ?_
   refine kp [40, 10, 16, 0, 1, 2, 7, 8, 9] ?_
   refine tbp 40 (fun hg10 => ?_) (fun hg10 => ?_)
   ·replace hg10 : (e1.toNat : Int) > 126 := hg10
    refine os 8 ?_
    refine kp [48, 10, 16, 0, 1, 2, 7, 8, 9] ?_
    refine nt ?_
    refine ct ?_
    obtain ⟨hx1_, hx2_⟩ := hex_lt (c := e1)
    have hc256_ : e1.toNat < 256 := e1.toNat_lt
    obtain ⟨e7, he7⟩ : ∃ y_, hexL[(e1.toNat / 16)]? = some y_ := ⟨_, List.getElem?_eq_getElem (by exact hx1_)⟩
    obtain ⟨e8, he8⟩ : ∃ y_, hexL[(e1.toNat % 16)]? = some y_ := ⟨_, List.getElem?_eq_getElem (by exact hx2_)⟩
    refine SW_draw [] [] (by kernel_rfl) rd_nil ?_
    refine aS 0 ?_
    refine aS 1 ?_
    refine aS 2 ?_
    refine tk 3 (.int .u8 (IntKind.wrap .u8 (Int.tdiv (e1.toNat : Int) 16))) ?_
    rw [show IntKind.wrap .u8 (Int.tdiv (e1.toNat : Int) 16) = (e1.toNat : Int) / 16 from quo_u8 (by omega) (by omega) (by decide)]
    refine tk 4 (.int .u8 (e7.toNat : Int)) ?_ (hy := fun δ w => run_indexB ((e1.toNat : Int) / 16) hexL .u8 e7 Tryd.underlying9 rfl rfl (by omega) (by rw [show ((e1.toNat : Int) / 16).toNat = (e1.toNat / 16) from by omega]; exact he7))
    refine aS 5 ?_
    refine aS 6 ?_
    refine tk 7 (.int .u8 (Int.tmod (e1.toNat : Int) 16)) ?_
    rw [show Int.tmod (e1.toNat : Int) 16 = (e1.toNat : Int) % 16 from rem_nn (by omega)]
    refine tk 8 (.int .u8 (e8.toNat : Int)) ?_ (hy := fun δ w => run_indexB ((e1.toNat : Int) % 16) hexL .u8 e8 Tryd.underlying9 rfl rfl (by omega) (by rw [show ((e1.toNat : Int) % 16).toNat = (e1.toNat % 16) from by omega]; exact he8))
    refine sa1 false 9 (h := nws 5 4 4 [.int .u8 92, .int .u8 120, .int .u8 (e7.toNat : Int), .int .u8 (e8.toNat : Int)] ?_)
    intro b11
    refine ⟨fun hnd => (by cases hnd), ?_⟩
    refine kpA [58, 49, 48, 10, 16, 0, 1, 2, 7, 8, 9] ?_
    refine SA_perm _ (perm_cc perm_cz) ?_
    refine sa1 false 10 (h := O_append (size := 1) (bytes := 1) (z := .int .u8 0) g m.length 4 (some ⟨b11, 0, none⟩) 4 (m.map u8V) ([.int .u8 92, .int .u8 120, .int .u8 (e7.toNat : Int), .int .u8 (e8.toNat : Int)]) ((m ++ [(92 : UInt8), (120 : UInt8), e7, e8]).map u8V) (by simp [u8V]) (fun _ => rfl) (fun _ => rfl) Tryd.underlying31 (by kernel_rfl) rfl (by decide) hi1 rfl (.inr ⟨b11, 0, rfl, Cells.own (mem_a mem_z) rfl⟩) rfl (by omega) (by decide) rfl ?_)
    intro s12 hks12 hfs12
    rw [show m.length + 4 = (m ++ [(92 : UInt8), (120 : UInt8), e7, e8]).length from by first | (simp; done) | (simp; omega)]
    rw [show m.length + 4 = (m ++ [(92 : UInt8), (120 : UInt8), e7, e8]).length from by first | (simp; done) | (simp; omega)] at hks12
    have hls12 : (m ++ [(92 : UInt8), (120 : UInt8), e7, e8]).length = m.length + 4 := by first | (simp; done) | (simp; omega)
    refine ⟨fun hnd => (by cases hnd), ?_⟩
    refine aS 11 ?_
    refine SA_done (by kernel_rfl) (n_in (n_then ?_))
    refine SW_region ?_
    refine os 3 ?_
    refine kp [9, 8, 48, 10, 16, 0, 1, 2, 7] ?_
    refine nt ?_
    have hnq_ : needQ q e1 ((how.drop i).headD false) = true := needQ_is (by omega)
    have hqc_ := quoteC_hex hnq_ he7 he8
    rw [quote_step he1 hqc_] at hi3
    exact ⟨(i + 1, s12, (m ++ [(92 : UInt8), (120 : UInt8), e7, e8])), by simp only []; omega, ⟨fun _ => rfl, ow⟩, by simp only []; omega, hks12, ⟨by simp only []; omega, by simp⟩, hi3⟩
   replace hg10 : ¬ ((e1.toNat : Int) > 126) := hg10
   refine os 5 ?_
   refine tb 45 (fun hg13 => ?_) (fun hg13 => ?_)
   ·replace hg13 : ((e1.toNat : Int) == (q.toNat : Int)) = true := hg13
    simp only [beq_iff_eq, bne_iff_ne, ne_eq, beq_eq_false_iff_ne, bne_eq_false_iff_eq, Classical.not_not] at hg13
    refine os 3 ?_
    refine kp [48, 10, 16, 0, 1, 2, 7, 8, 9] ?_
    refine nt ?_
    refine ct ?_
    obtain ⟨hx1_, hx2_⟩ := hex_lt (c := e1)
    have hc256_ : e1.toNat < 256 := e1.toNat_lt
    obtain ⟨e9, he9⟩ : ∃ y_, hexL[(e1.toNat / 16)]? = some y_ := ⟨_, List.getElem?_eq_getElem (by exact hx1_)⟩
    obtain ⟨e10, he10⟩ : ∃ y_, hexL[(e1.toNat % 16)]? = some y_ := ⟨_, List.getElem?_eq_getElem (by exact hx2_)⟩
    refine SW_draw [] [] (by kernel_rfl) rd_nil ?_
    refine aS 0 ?_
    refine aS 1 ?_
    refine aS 2 ?_
    refine tk 3 (.int .u8 (IntKind.wrap .u8 (Int.tdiv (e1.toNat : Int) 16))) ?_
    rw [show IntKind.wrap .u8 (Int.tdiv (e1.toNat : Int) 16) = (e1.toNat : Int) / 16 from quo_u8 (by omega) (by omega) (by decide)]
    refine tk 4 (.int .u8 (e9.toNat : Int)) ?_ (hy := fun δ w => run_indexB ((e1.toNat : Int) / 16) hexL .u8 e9 Tryd.underlying9 rfl rfl (by omega) (by rw [show ((e1.toNat : Int) / 16).toNat = (e1.toNat / 16) from by omega]; exact he9))
    refine aS 5 ?_
    refine aS 6 ?_
    refine tk 7 (.int .u8 (Int.tmod (e1.toNat : Int) 16)) ?_
    rw [show Int.tmod (e1.toNat : Int) 16 = (e1.toNat : Int) % 16 from rem_nn (by omega)]
    refine tk 8 (.int .u8 (e10.toNat : Int)) ?_ (hy := fun δ w => run_indexB ((e1.toNat : Int) % 16) hexL .u8 e10 Tryd.underlying9 rfl rfl (by omega) (by rw [show ((e1.toNat : Int) % 16).toNat = (e1.toNat % 16) from by omega]; exact he10))
    refine sa1 false 9 (h := nws 5 4 4 [.int .u8 92, .int .u8 120, .int .u8 (e9.toNat : Int), .int .u8 (e10.toNat : Int)] ?_)
    intro b14
    refine ⟨fun hnd => (by cases hnd), ?_⟩
    refine kpA [58, 49, 48, 10, 16, 0, 1, 2, 7, 8, 9] ?_
    refine SA_perm _ (perm_cc perm_cz) ?_
    refine sa1 false 10 (h := O_append (size := 1) (bytes := 1) (z := .int .u8 0) g m.length 4 (some ⟨b14, 0, none⟩) 4 (m.map u8V) ([.int .u8 92, .int .u8 120, .int .u8 (e9.toNat : Int), .int .u8 (e10.toNat : Int)]) ((m ++ [(92 : UInt8), (120 : UInt8), e9, e10]).map u8V) (by simp [u8V]) (fun _ => rfl) (fun _ => rfl) Tryd.underlying31 (by kernel_rfl) rfl (by decide) hi1 rfl (.inr ⟨b14, 0, rfl, Cells.own (mem_a mem_z) rfl⟩) rfl (by omega) (by decide) rfl ?_)
    intro s15 hks15 hfs15
    rw [show m.length + 4 = (m ++ [(92 : UInt8), (120 : UInt8), e9, e10]).length from by first | (simp; done) | (simp; omega)]
    rw [show m.length + 4 = (m ++ [(92 : UInt8), (120 : UInt8), e9, e10]).length from by first | (simp; done) | (simp; omega)] at hks15
    have hls15 : (m ++ [(92 : UInt8), (120 : UInt8), e9, e10]).length = m.length + 4 := by first | (simp; done) | (simp; omega)
    refine ⟨fun hnd => (by cases hnd), ?_⟩
    refine aS 11 ?_
    refine SA_done (by kernel_rfl) (n_in (n_then ?_))
    refine SW_region ?_
    refine os 3 ?_
    refine kp [9, 8, 48, 10, 16, 0, 1, 2, 7] ?_
    refine nt ?_
    have hnq_ : needQ q e1 ((how.drop i).headD false) = true := needQ_is (by omega)
    have hqc_ := quoteC_hex hnq_ he9 he10
    rw [quote_step he1 hqc_] at hi3
    exact ⟨(i + 1, s15, (m ++ [(92 : UInt8), (120 : UInt8), e9, e10])), by simp only []; omega, ⟨fun _ => rfl, ow⟩, by simp only []; omega, hks15, ⟨by simp only []; omega, by simp⟩, hi3⟩
   replace hg13 : ((e1.toNat : Int) == (q.toNat : Int)) = false := hg13
   simp only [beq_iff_eq, bne_iff_ne, ne_eq, beq_eq_false_iff_ne, bne_eq_false_iff_eq, Classical.not_not] at hg13
   refine os 3 ?_
   refine kp [48, 10, 16, 0, 1, 2, 7, 8, 9] ?_
   refine nt ?_
   refine cd (fun hc16 : ((e1.toNat : Int) == 92) = true => ?_) (fun hc16 => ?_)
   ·simp only [beq_iff_eq, bne_iff_ne, ne_eq, beq_eq_false_iff_ne, bne_eq_false_iff_eq, Classical.not_not] at hc16
    obtain ⟨hx1_, hx2_⟩ := hex_lt (c := e1)
    have hc256_ : e1.toNat < 256 := e1.toNat_lt
    obtain ⟨e11, he11⟩ : ∃ y_, hexL[(e1.toNat / 16)]? = some y_ := ⟨_, List.getElem?_eq_getElem (by exact hx1_)⟩
    obtain ⟨e12, he12⟩ : ∃ y_, hexL[(e1.toNat % 16)]? = some y_ := ⟨_, List.getElem?_eq_getElem (by exact hx2_)⟩
    refine SW_draw [] [] (by kernel_rfl) rd_nil ?_
    refine aS 0 ?_
    refine aS 1 ?_
    refine aS 2 ?_
    refine tk 3 (.int .u8 (IntKind.wrap .u8 (Int.tdiv (e1.toNat : Int) 16))) ?_
    rw [show IntKind.wrap .u8 (Int.tdiv (e1.toNat : Int) 16) = (e1.toNat : Int) / 16 from quo_u8 (by omega) (by omega) (by decide)]
    refine tk 4 (.int .u8 (e11.toNat : Int)) ?_ (hy := fun δ w => run_indexB ((e1.toNat : Int) / 16) hexL .u8 e11 Tryd.underlying9 rfl rfl (by omega) (by rw [show ((e1.toNat : Int) / 16).toNat = (e1.toNat / 16) from by omega]; exact he11))
    refine aS 5 ?_
    refine aS 6 ?_
    refine tk 7 (.int .u8 (Int.tmod (e1.toNat : Int) 16)) ?_
    rw [show Int.tmod (e1.toNat : Int) 16 = (e1.toNat : Int) % 16 from rem_nn (by omega)]
    refine tk 8 (.int .u8 (e12.toNat : Int)) ?_ (hy := fun δ w => run_indexB ((e1.toNat : Int) % 16) hexL .u8 e12 Tryd.underlying9 rfl rfl (by omega) (by rw [show ((e1.toNat : Int) % 16).toNat = (e1.toNat % 16) from by omega]; exact he12))
    refine sa1 false 9 (h := nws 5 4 4 [.int .u8 92, .int .u8 120, .int .u8 (e11.toNat : Int), .int .u8 (e12.toNat : Int)] ?_)
    intro b17
    refine ⟨fun hnd => (by cases hnd), ?_⟩
    refine kpA [58, 49, 48, 10, 16, 0, 1, 2, 7, 8, 9] ?_
    refine SA_perm _ (perm_cc perm_cz) ?_
    refine sa1 false 10 (h := O_append (size := 1) (bytes := 1) (z := .int .u8 0) g m.length 4 (some ⟨b17, 0, none⟩) 4 (m.map u8V) ([.int .u8 92, .int .u8 120, .int .u8 (e11.toNat : Int), .int .u8 (e12.toNat : Int)]) ((m ++ [(92 : UInt8), (120 : UInt8), e11, e12]).map u8V) (by simp [u8V]) (fun _ => rfl) (fun _ => rfl) Tryd.underlying31 (by kernel_rfl) rfl (by decide) hi1 rfl (.inr ⟨b17, 0, rfl, Cells.own (mem_a mem_z) rfl⟩) rfl (by omega) (by decide) rfl ?_)
    intro s18 hks18 hfs18
    rw [show m.length + 4 = (m ++ [(92 : UInt8), (120 : UInt8), e11, e12]).length from by first | (simp; done) | (simp; omega)]
    rw [show m.length + 4 = (m ++ [(92 : UInt8), (120 : UInt8), e11, e12]).length from by first | (simp; done) | (simp; omega)] at hks18
    have hls18 : (m ++ [(92 : UInt8), (120 : UInt8), e11, e12]).length = m.length + 4 := by first | (simp; done) | (simp; omega)
    refine ⟨fun hnd => (by cases hnd), ?_⟩
    refine aS 11 ?_
    refine SA_done (by kernel_rfl) (n_in (n_then ?_))
    refine SW_region ?_
    refine os 3 ?_
    refine kp [9, 8, 48, 10, 16, 0, 1, 2, 7] ?_
    refine nt ?_
    have hnq_ : needQ q e1 ((how.drop i).headD false) = true := needQ_is (by omega)
    have hqc_ := quoteC_hex hnq_ he11 he12
    rw [quote_step he1 hqc_] at hi3
    exact ⟨(i + 1, s18, (m ++ [(92 : UInt8), (120 : UInt8), e11, e12])), by simp only []; omega, ⟨fun _ => rfl, ow⟩, by simp only []; omega, hks18, ⟨by simp only []; omega, by simp⟩, hi3⟩
   simp only [beq_iff_eq, bne_iff_ne, ne_eq, beq_eq_false_iff_ne, bne_eq_false_iff_eq, Classical.not_not] at hc16
   refine SW_region ?_
   refine os 2 ?_
   refine L (nws 5 1 1 [.int .u8 (e1.toNat : Int)] ?_)
   intro b19
   refine SL_perm _ (perm_cc perm_cz) ?_
   refine L (O_append (size := 1) (bytes := 1) (z := .int .u8 0) g m.length 1 (some ⟨b19, 0, none⟩) 1 (m.map u8V) ([.int .u8 (e1.toNat : Int)]) ((m ++ [e1]).map u8V) (map_snoc _ e1 rfl) (fun _ => rfl) (fun _ => rfl) Tryd.underlying31 (by kernel_rfl) rfl (by decide) hi1 rfl (.inr ⟨b19, 0, rfl, Cells.own (mem_a mem_z) rfl⟩) rfl (by omega) (by decide) rfl ?_)
   intro s20 hks20 hfs20
   rw [show m.length + 1 = (m ++ [e1]).length from by first | (simp; done) | (simp; omega)]
   rw [show m.length + 1 = (m ++ [e1]).length from by first | (simp; done) | (simp; omega)] at hks20
   have hls20 : (m ++ [e1]).length = m.length + 1 := by first | (simp; done) | (simp; omega)
   refine os 1 ?_
   refine kp [8, 48, 10, 16, 0, 1, 2, 7, 9] ?_
   refine SL_nil (n_in (n_then ?_))
   refine SW_region ?_
   refine os 3 ?_
   refine nt ?_
   have hnq_ : needQ q e1 ((how.drop i).headD false) = false := needQ_not (by rw [how_at he2]; exact hg4) (by omega)
   have hqc_ := quoteC_one hnq_
   rw [quote_step he1 hqc_] at hi3
   exact ⟨(i + 1, s20, (m ++ [e1])), by simp only []; omega, ⟨fun _ => rfl, ow⟩, by simp only []; omega, hks20, ⟨by simp only []; omega, by simp⟩, hi3⟩
  replace hg3 : ¬ ((i : Int) < (how.length : Int)) := hg3
  refine os 10 ?_
  refine kp [36, 10, 16, 0, 1, 2, 7, 8, 9] ?_
  refine tbp 36 (fun hg21 => ?_) (fun hg21 => ?_)
  ·replace hg21 : (e1.toNat : Int) < 32 := hg21
   refine os 12 ?_
   refine kp [48, 10, 16, 0, 1, 2, 7, 8, 9] ?_
   refine nt ?_
   refine ct ?_
   obtain ⟨hx1_, hx2_⟩ := hex_lt (c := e1)
   have hc256_ : e1.toNat < 256 := e1.toNat_lt
   obtain ⟨e13, he13⟩ : ∃ y_, hexL[(e1.toNat / 16)]? = some y_ := ⟨_, List.getElem?_eq_getElem (by exact hx1_)⟩
   obtain ⟨e14, he14⟩ : ∃ y_, hexL[(e1.toNat % 16)]? = some y_ := ⟨_, List.getElem?_eq_getElem (by exact hx2_)⟩
   refine SW_draw [] [] (by kernel_rfl) rd_nil ?_
   refine aS 0 ?_
   refine aS 1 ?_
   refine aS 2 ?_
   refine tk 3 (.int .u8 (IntKind.wrap .u8 (Int.tdiv (e1.toNat : Int) 16))) ?_
   rw [show IntKind.wrap .u8 (Int.tdiv (e1.toNat : Int) 16) = (e1.toNat : Int) / 16 from quo_u8 (by omega) (by omega) (by decide)]
   refine tk 4 (.int .u8 (e13.toNat : Int)) ?_ (hy := fun δ w => run_indexB ((e1.toNat : Int) / 16) hexL .u8 e13 Tryd.underlying9 rfl rfl (by omega) (by rw [show ((e1.toNat : Int) / 16).toNat = (e1.toNat / 16) from by omega]; exact he13))
   refine aS 5 ?_
   refine aS 6 ?_
   refine tk 7 (.int .u8 (Int.tmod (e1.toNat : Int) 16)) ?_
   rw [show Int.tmod (e1.toNat : Int) 16 = (e1.toNat : Int) % 16 from rem_nn (by omega)]
   refine tk 8 (.int .u8 (e14.toNat : Int)) ?_ (hy := fun δ w => run_indexB ((e1.toNat : Int) % 16) hexL .u8 e14 Tryd.underlying9 rfl rfl (by omega) (by rw [show ((e1.toNat : Int) % 16).toNat = (e1.toNat % 16) from by omega]; exact he14))
   refine sa1 false 9 (h := nws 5 4 4 [.int .u8 92, .int .u8 120, .int .u8 (e13.toNat : Int), .int .u8 (e14.toNat : Int)] ?_)
   intro b22
   refine ⟨fun hnd => (by cases hnd), ?_⟩
   refine kpA [58, 49, 48, 10, 16, 0, 1, 2, 7, 8, 9] ?_
   refine SA_perm _ (perm_cc perm_cz) ?_
   refine sa1 false 10 (h := O_append (size := 1) (bytes := 1) (z := .int .u8 0) g m.length 4 (some ⟨b22, 0, none⟩) 4 (m.map u8V) ([.int .u8 92, .int .u8 120, .int .u8 (e13.toNat : Int), .int .u8 (e14.toNat : Int)]) ((m ++ [(92 : UInt8), (120 : UInt8), e13, e14]).map u8V) (by simp [u8V]) (fun _ => rfl) (fun _ => rfl) Tryd.underlying31 (by kernel_rfl) rfl (by decide) hi1 rfl (.inr ⟨b22, 0, rfl, Cells.own (mem_a mem_z) rfl⟩) rfl (by omega) (by decide) rfl ?_)
   intro s23 hks23 hfs23
   rw [show m.length + 4 = (m ++ [(92 : UInt8), (120 : UInt8), e13, e14]).length from by first | (simp; done) | (simp; omega)]
   rw [show m.length + 4 = (m ++ [(92 : UInt8), (120 : UInt8), e13, e14]).length from by first | (simp; done) | (simp; omega)] at hks23
   have hls23 : (m ++ [(92 : UInt8), (120 : UInt8), e13, e14]).length = m.length + 4 := by first | (simp; done) | (simp; omega)
   refine ⟨fun hnd => (by cases hnd), ?_⟩
   refine aS 11 ?_
   refine SA_done (by kernel_rfl) (n_in (n_then ?_))
   refine SW_region ?_
   refine os 3 ?_
   refine kp [9, 8, 48, 10, 16, 0, 1, 2, 7] ?_
   refine nt ?_
   have hnq_ : needQ q e1 ((how.drop i).headD false) = true := needQ_is (by omega)
   have hqc_ := quoteC_hex hnq_ he13 he14
   rw [quote_step he1 hqc_] at hi3
   exact ⟨(i + 1, s23, (m ++ [(92 : UInt8), (120 : UInt8), e13, e14])), by simp only []; omega, ⟨fun _ => rfl, ow⟩, by simp only []; omega, hks23, ⟨by simp only []; omega, by simp⟩, hi3⟩
  replace hg21 : ¬ ((e1.toNat : Int) < 32) := hg21
  refine os 4 ?_
  refine tbp 40 (fun hg24 => ?_) (fun hg24 => ?_)
  ·replace hg24 : (e1.toNat : Int) > 126 := hg24
   refine os 8 ?_
   refine kp [48, 10, 16, 0, 1, 2, 7, 8, 9] ?_
   refine nt ?_
   refine ct ?_
   obtain ⟨hx1_, hx2_⟩ := hex_lt (c := e1)
   have hc256_ : e1.toNat < 256 := e1.toNat_lt
   obtain ⟨e15, he15⟩ : ∃ y_, hexL[(e1.toNat / 16)]? = some y_ := ⟨_, List.getElem?_eq_getElem (by exact hx1_)⟩
   obtain ⟨e16, he16⟩ : ∃ y_, hexL[(e1.toNat % 16)]? = some y_ := ⟨_, List.getElem?_eq_getElem (by exact hx2_)⟩
   refine SW_draw [] [] (by kernel_rfl) rd_nil ?_
   refine aS 0 ?_
   refine aS 1 ?_
   refine aS 2 ?_
   refine tk 3 (.int .u8 (IntKind.wrap .u8 (Int.tdiv (e1.toNat : Int) 16))) ?_
   rw [show IntKind.wrap .u8 (Int.tdiv (e1.toNat : Int) 16) = (e1.toNat : Int) / 16 from quo_u8 (by omega) (by omega) (by decide)]
   refine tk 4 (.int .u8 (e15.toNat : Int)) ?_ (hy := fun δ w => run_indexB ((e1.toNat : Int) / 16) hexL .u8 e15 Tryd.underlying9 rfl rfl (by omega) (by rw [show ((e1.toNat : Int) / 16).toNat = (e1.toNat / 16) from by omega]; exact he15))
   refine aS 5 ?_
   refine aS 6 ?_
   refine tk 7 (.int .u8 (Int.tmod (e1.toNat : Int) 16)) ?_
   rw [show Int.tmod (e1.toNat : Int) 16 = (e1.toNat : Int) % 16 from rem_nn (by omega)]
   refine tk 8 (.int .u8 (e16.toNat : Int)) ?_ (hy := fun δ w => run_indexB ((e1.toNat : Int) % 16) hexL .u8 e16 Tryd.underlying9 rfl rfl (by omega) (by rw [show ((e1.toNat : Int) % 16).toNat = (e1.toNat % 16) from by omega]; exact he16))
   refine sa1 false 9 (h := nws 5 4 4 [.int .u8 92, .int .u8 120, .int .u8 (e15.toNat : Int), .int .u8 (e16.toNat : Int)] ?_)
   intro b25
   refine ⟨fun hnd => (by cases hnd), ?_⟩
   refine kpA [58, 49, 48, 10, 16, 0, 1, 2, 7, 8, 9] ?_
   refine SA_perm _ (perm_cc perm_cz) ?_
   refine sa1 false 10 (h := O_append (size := 1) (bytes := 1) (z := .int .u8 0) g m.length 4 (some ⟨b25, 0, none⟩) 4 (m.map u8V) ([.int .u8 92, .int .u8 120, .int .u8 (e15.toNat : Int), .int .u8 (e16.toNat : Int)]) ((m ++ [(92 : UInt8), (120 : UInt8), e15, e16]).map u8V) (by simp [u8V]) (fun _ => rfl) (fun _ => rfl) Tryd.underlying31 (by kernel_rfl) rfl (by decide) hi1 rfl (.inr ⟨b25, 0, rfl, Cells.own (mem_a mem_z) rfl⟩) rfl (by omega) (by decide) rfl ?_)
   intro s26 hks26 hfs26
   rw [show m.length + 4 = (m ++ [(92 : UInt8), (120 : UInt8), e15, e16]).length from by first | (simp; done) | (simp; omega)]
   rw [show m.length + 4 = (m ++ [(92 : UInt8), (120 : UInt8), e15, e16]).length from by first | (simp; done) | (simp; omega)] at hks26
   have hls26 : (m ++ [(92 : UInt8), (120 : UInt8), e15, e16]).length = m.length + 4 := by first | (simp; done) | (simp; omega)
   refine ⟨fun hnd => (by cases hnd), ?_⟩
   refine aS 11 ?_
   refine SA_done (by kernel_rfl) (n_in (n_then ?_))
   refine SW_region ?_
   refine os 3 ?_
   refine kp [9, 8, 48, 10, 16, 0, 1, 2, 7] ?_
   refine nt ?_
   have hnq_ : needQ q e1 ((how.drop i).headD false) = true := needQ_is (by omega)
   have hqc_ := quoteC_hex hnq_ he15 he16
   rw [quote_step he1 hqc_] at hi3
   exact ⟨(i + 1, s26, (m ++ [(92 : UInt8), (120 : UInt8), e15, e16])), by simp only []; omega, ⟨fun _ => rfl, ow⟩, by simp only []; omega, hks26, ⟨by simp only []; omega, by simp⟩, hi3⟩
  replace hg24 : ¬ ((e1.toNat : Int) > 126) := hg24
  refine os 5 ?_
  refine kp [45, 10, 16, 0, 1, 2, 7, 8, 9] ?_
  refine tb 45 (fun hg27 => ?_) (fun hg27 => ?_)
  ·replace hg27 : ((e1.toNat : Int) == (q.toNat : Int)) = true := hg27
   simp only [beq_iff_eq, bne_iff_ne, ne_eq, beq_eq_false_iff_ne, bne_eq_false_iff_eq, Classical.not_not] at hg27
   refine os 3 ?_
   refine kp [48, 10, 16, 0, 1, 2, 7, 8, 9] ?_
   refine nt ?_
   refine ct ?_
   obtain ⟨hx1_, hx2_⟩ := hex_lt (c := e1)
   have hc256_ : e1.toNat < 256 := e1.toNat_lt
   obtain ⟨e17, he17⟩ : ∃ y_, hexL[(e1.toNat / 16)]? = some y_ := ⟨_, List.getElem?_eq_getElem (by exact hx1_)⟩
   obtain ⟨e18, he18⟩ : ∃ y_, hexL[(e1.toNat % 16)]? = some y_ := ⟨_, List.getElem?_eq_getElem (by exact hx2_)⟩
   refine SW_draw [] [] (by kernel_rfl) rd_nil ?_
   refine aS 0 ?_
   refine aS 1 ?_
   refine aS 2 ?_
   refine tk 3 (.int .u8 (IntKind.wrap .u8 (Int.tdiv (e1.toNat : Int) 16))) ?_
   rw [show IntKind.wrap .u8 (Int.tdiv (e1.toNat : Int) 16) = (e1.toNat : Int) / 16 from quo_u8 (by omega) (by omega) (by decide)]
   refine tk 4 (.int .u8 (e17.toNat : Int)) ?_ (hy := fun δ w => run_indexB ((e1.toNat : Int) / 16) hexL .u8 e17 Tryd.underlying9 rfl rfl (by omega) (by rw [show ((e1.toNat : Int) / 16).toNat = (e1.toNat / 16) from by omega]; exact he17))
   refine aS 5 ?_
   refine aS 6 ?_
   refine tk 7 (.int .u8 (Int.tmod (e1.toNat : Int) 16)) ?_
   rw [show Int.tmod (e1.toNat : Int) 16 = (e1.toNat : Int) % 16 from rem_nn (by omega)]
   refine tk 8 (.int .u8 (e18.toNat : Int)) ?_ (hy := fun δ w => run_indexB ((e1.toNat : Int) % 16) hexL .u8 e18 Tryd.underlying9 rfl rfl (by omega) (by rw [show ((e1.toNat : Int) % 16).toNat = (e1.toNat % 16) from by omega]; exact he18))
   refine sa1 false 9 (h := nws 5 4 4 [.int .u8 92, .int .u8 120, .int .u8 (e17.toNat : Int), .int .u8 (e18.toNat : Int)] ?_)
   intro b28
   refine ⟨fun hnd => (by cases hnd), ?_⟩
   refine kpA [58, 49, 48, 10, 16, 0, 1, 2, 7, 8, 9] ?_
   refine SA_perm _ (perm_cc perm_cz) ?_
   refine sa1 false 10 (h := O_append (size := 1) (bytes := 1) (z := .int .u8 0) g m.length 4 (some ⟨b28, 0, none⟩) 4 (m.map u8V) ([.int .u8 92, .int .u8 120, .int .u8 (e17.toNat : Int), .int .u8 (e18.toNat : Int)]) ((m ++ [(92 : UInt8), (120 : UInt8), e17, e18]).map u8V) (by simp [u8V]) (fun _ => rfl) (fun _ => rfl) Tryd.underlying31 (by kernel_rfl) rfl (by decide) hi1 rfl (.inr ⟨b28, 0, rfl, Cells.own (mem_a mem_z) rfl⟩) rfl (by omega) (by decide) rfl ?_)
   intro s29 hks29 hfs29
   rw [show m.length + 4 = (m ++ [(92 : UInt8), (120 : UInt8), e17, e18]).length from by first | (simp; done) | (simp; omega)]
   rw [show m.length + 4 = (m ++ [(92 : UInt8), (120 : UInt8), e17, e18]).length from by first | (simp; done) | (simp; omega)] at hks29
   have hls29 : (m ++ [(92 : UInt8), (120 : UInt8), e17, e18]).length = m.length + 4 := by first | (simp; done) | (simp; omega)
   refine ⟨fun hnd => (by cases hnd), ?_⟩
   refine aS 11 ?_
   refine SA_done (by kernel_rfl) (n_in (n_then ?_))
   refine SW_region ?_
   refine os 3 ?_
   refine kp [9, 8, 48, 10, 16, 0, 1, 2, 7] ?_
   refine nt ?_
   have hnq_ : needQ q e1 ((how.drop i).headD false) = true := needQ_is (by omega)
   have hqc_ := quoteC_hex hnq_ he17 he18
   rw [quote_step he1 hqc_] at hi3
   exact ⟨(i + 1, s29, (m ++ [(92 : UInt8), (120 : UInt8), e17, e18])), by simp only []; omega, ⟨fun _ => rfl, ow⟩, by simp only []; omega, hks29, ⟨by simp only []; omega, by simp⟩, hi3⟩
  replace hg27 : ((e1.toNat : Int) == (q.toNat : Int)) = false := hg27
  simp only [beq_iff_eq, bne_iff_ne, ne_eq, beq_eq_false_iff_ne, bne_eq_false_iff_eq, Classical.not_not] at hg27
  refine os 3 ?_
  refine kp [48, 10, 16, 0, 1, 2, 7, 8, 9] ?_
  refine nt ?_
  refine cd (fun hc30 : ((e1.toNat : Int) == 92) = true => ?_) (fun hc30 => ?_)
  ·simp only [beq_iff_eq, bne_iff_ne, ne_eq, beq_eq_false_iff_ne, bne_eq_false_iff_eq, Classical.not_not] at hc30
   obtain ⟨hx1_, hx2_⟩ := hex_lt (c := e1)
   have hc256_ : e1.toNat < 256 := e1.toNat_lt
   obtain ⟨e19, he19⟩ : ∃ y_, hexL[(e1.toNat / 16)]? = some y_ := ⟨_, List.getElem?_eq_getElem (by exact hx1_)⟩
   obtain ⟨e20, he20⟩ : ∃ y_, hexL[(e1.toNat % 16)]? = some y_ := ⟨_, List.getElem?_eq_getElem (by exact hx2_)⟩
   refine SW_draw [] [] (by kernel_rfl) rd_nil ?_
   refine aS 0 ?_
   refine aS 1 ?_
   refine aS 2 ?_
   refine tk 3 (.int .u8 (IntKind.wrap .u8 (Int.tdiv (e1.toNat : Int) 16))) ?_
   rw [show IntKind.wrap .u8 (Int.tdiv (e1.toNat : Int) 16) = (e1.toNat : Int) / 16 from quo_u8 (by omega) (by omega) (by decide)]
   refine tk 4 (.int .u8 (e19.toNat : Int)) ?_ (hy := fun δ w => run_indexB ((e1.toNat : Int) / 16) hexL .u8 e19 Tryd.underlying9 rfl rfl (by omega) (by rw [show ((e1.toNat : Int) / 16).toNat = (e1.toNat / 16) from by omega]; exact he19))
   refine aS 5 ?_
   refine aS 6 ?_
   refine tk 7 (.int .u8 (Int.tmod (e1.toNat : Int) 16)) ?_
   rw [show Int.tmod (e1.toNat : Int) 16 = (e1.toNat : Int) % 16 from rem_nn (by omega)]
   refine tk 8 (.int .u8 (e20.toNat : Int)) ?_ (hy := fun δ w => run_indexB ((e1.toNat : Int) % 16) hexL .u8 e20 Tryd.underlying9 rfl rfl (by omega) (by rw [show ((e1.toNat : Int) % 16).toNat = (e1.toNat % 16) from by omega]; exact he20))
   refine sa1 false 9 (h := nws 5 4 4 [.int .u8 92, .int .u8 120, .int .u8 (e19.toNat : Int), .int .u8 (e20.toNat : Int)] ?_)
   intro b31
   refine ⟨fun hnd => (by cases hnd), ?_⟩
   refine kpA [58, 49, 48, 10, 16, 0, 1, 2, 7, 8, 9] ?_
   refine SA_perm _ (perm_cc perm_cz) ?_
   refine sa1 false 10 (h := O_append (size := 1) (bytes := 1) (z := .int .u8 0) g m.length 4 (some ⟨b31, 0, none⟩) 4 (m.map u8V) ([.int .u8 92, .int .u8 120, .int .u8 (e19.toNat : Int), .int .u8 (e20.toNat : Int)]) ((m ++ [(92 : UInt8), (120 : UInt8), e19, e20]).map u8V) (by simp [u8V]) (fun _ => rfl) (fun _ => rfl) Tryd.underlying31 (by kernel_rfl) rfl (by decide) hi1 rfl (.inr ⟨b31, 0, rfl, Cells.own (mem_a mem_z) rfl⟩) rfl (by omega) (by decide) rfl ?_)
   intro s32 hks32 hfs32
   rw [show m.length + 4 = (m ++ [(92 : UInt8), (120 : UInt8), e19, e20]).length from by first | (simp; done) | (simp; omega)]
   rw [show m.length + 4 = (m ++ [(92 : UInt8), (120 : UInt8), e19, e20]).length from by first | (simp; done) | (simp; omega)] at hks32
   have hls32 : (m ++ [(92 : UInt8), (120 : UInt8), e19, e20]).length = m.length + 4 := by first | (simp; done) | (simp; omega)
   refine ⟨fun hnd => (by cases hnd), ?_⟩
   refine aS 11 ?_
   refine SA_done (by kernel_rfl) (n_in (n_then ?_))
   refine SW_region ?_
   refine os 3 ?_
   refine kp [9, 8, 48, 10, 16, 0, 1, 2, 7] ?_
   refine nt ?_
   have hnq_ : needQ q e1 ((how.drop i).headD false) = true := needQ_is (by omega)
   have hqc_ := quoteC_hex hnq_ he19 he20
   rw [quote_step he1 hqc_] at hi3
   exact ⟨(i + 1, s32, (m ++ [(92 : UInt8), (120 : UInt8), e19, e20])), by simp only []; omega, ⟨fun _ => rfl, ow⟩, by simp only []; omega, hks32, ⟨by simp only []; omega, by simp⟩, hi3⟩
  simp only [beq_iff_eq, bne_iff_ne, ne_eq, beq_eq_false_iff_ne, bne_eq_false_iff_eq, Classical.not_not] at hc30
  refine SW_region ?_
  refine os 2 ?_
  refine L (nws 5 1 1 [.int .u8 (e1.toNat : Int)] ?_)
  intro b33
  refine SL_perm _ (perm_cc perm_cz) ?_
  refine L (O_append (size := 1) (bytes := 1) (z := .int .u8 0) g m.length 1 (some ⟨b33, 0, none⟩) 1 (m.map u8V) ([.int .u8 (e1.toNat : Int)]) ((m ++ [e1]).map u8V) (map_snoc _ e1 rfl) (fun _ => rfl) (fun _ => rfl) Tryd.underlying31 (by kernel_rfl) rfl (by decide) hi1 rfl (.inr ⟨b33, 0, rfl, Cells.own (mem_a mem_z) rfl⟩) rfl (by omega) (by decide) rfl ?_)
  intro s34 hks34 hfs34
  rw [show m.length + 1 = (m ++ [e1]).length from by first | (simp; done) | (simp; omega)]
  rw [show m.length + 1 = (m ++ [e1]).length from by first | (simp; done) | (simp; omega)] at hks34
  have hls34 : (m ++ [e1]).length = m.length + 1 := by first | (simp; done) | (simp; omega)
  refine os 1 ?_
  refine kp [8, 48, 10, 16, 0, 1, 2, 7, 9] ?_
  refine SL_nil (n_in (n_then ?_))
  refine SW_region ?_
  refine os 3 ?_
  refine nt ?_
  have hnq_ : needQ q e1 ((how.drop i).headD false) = false := needQ_not (by rw [how_end (how := how) (i := i) (by omega)]) (by omega)
  have hqc_ := quoteC_one hnq_
  rw [quote_step he1 hqc_] at hi3
  exact ⟨(i + 1, s34, (m ++ [e1])), by simp only []; omega, ⟨fun _ => rfl, ow⟩, by simp only []; omega, hks34, ⟨by simp only []; omega, by simp⟩, hi3⟩
 refine SW_exit (x_then (x_then (x_in (n_then ?_))))
 refine sr ?_
 refine os 2 ?_
 refine L (nws 5 1 1 [.int .u8 (q.toNat : Int)] ?_)
 intro b35
 refine SL_perm _ (perm_cc perm_cz) ?_
 refine L (O_append (size := 1) (bytes := 1) (z := .int .u8 0) g m.length 1 (some ⟨b35, 0, none⟩) 1 (m.map u8V) ([.int .u8 (q.toNat : Int)]) ((m ++ [q]).map u8V) (map_snoc _ q rfl) (fun _ => rfl) (fun _ => rfl) Tryd.underlying31 (by kernel_rfl) rfl (by decide) hi1 rfl (.inr ⟨b35, 0, rfl, Cells.own (mem_a mem_z) rfl⟩) rfl (by omega) (by decide) rfl ?_)
 intro s36 hks36 hfs36
 rw [show m.length + 1 = (m ++ [q]).length from by first | (simp; done) | (simp; omega)]
 rw [show m.length + 1 = (m ++ [q]).length from by first | (simp; done) | (simp; omega)] at hks36
 have hls36 : (m ++ [q]).length = m.length + 1 := by first | (simp; done) | (simp; omega)
 refine L (O_bytesG s36 (m ++ [q]) hks36 (by simp) (fun z_ he => (mem_h he)) Tryd.underlying31 Tryd.underlying5 Tryd.underlying9 (fun _ => rfl) rfl ?_)
 refine os 1 ?_
 refine kp [6, 16, 0, 1, 2, 7, 8, 9] ?_
 refine nt ?_
 refine SW_ret ?_
 refine body_end (.string (bS (m ++ [q]))) (fun _ => rfl) ?_
 rw [show i = s.length from by omega, List.drop_length] at hi3
 have hfin_ : m ++ [q] = quotedP q s how := hi3
 rw [hfin_]
 exact ⟨(), ow, rfl⟩

theorem law_quoted_nil {W0 : World} {s : Bytes} {q : UInt8} {A : Option Addr} {how : List Bool} {c : Nat} (hs : s.length ≤ 5000) (hh : how = []) : SC Tryd.prog W0 13 #[.string (bS s), .int .u8 (q.toNat : Int), .slice A 0 c] [] (Ret (fun _ : Unit => []) (fun v _ => v = .string (bS (quotedP q s how)))) := by
 refine SC_body (fn := Tryd.f13) (n := 69) Tryd.func13 rfl (by kernel_rfl) (ρ := [(0, .string (bS s)), (1, .int .u8 (q.toNat : Int)), (2, .slice A 0 c)]) rfl ?_
 have hhl_ : how.length = 0 := by rw [hh]; rfl
 refine sr ?_
 refine os 1 ?_
 refine nsr ?_
 refine os 1 ?_
 refine nsr ?_
 refine os 1 ?_
 refine L (nws 5 1 1 [.int .u8 (q.toNat : Int)] ?_)
 intro b1
 refine os 1 ?_
 refine nq ?_
 refine sr ?_
 refine os 1 ?_
 refine nt ?_
 refine SW_block ?_
 refine SW_sig ((Gs.ent 5 1 (Gs.at b1 1) (([q]).map u8V)) ++ ([])) rfl ?_
 refine SW_loop (α := Nat × Gs × Bytes) (fun z_ ρ_ σ_ => Fits ρ_ σ_ [(0, .string (bS s)), (1, .int .u8 (q.toNat : Int)), (2, .slice A 0 c), (7, .string (bS hexL)), (8, Gs.val z_.2.1 z_.2.2.length), (9, .int .i64 (z_.1 : Int))] ((Gs.ent 5 1 z_.2.1 (z_.2.2.map u8V)) ++ ([])) ∧ z_.1 ≤ s.length ∧ Gs.ok 1 z_.2.2.length z_.2.1 (z_.2.2.map u8V) ∧ (z_.2.2.length ≤ 1 + 4 * z_.1 ∧ z_.2.2 ≠ []) ∧ z_.2.2 ++ (quoteB q (s.drop z_.1) (how.drop z_.1) ++ [q]) = quotedP q s how) (fun z_ => s.length - z_.1) (0, (Gs.at b1 1), [q]) ⟨⟨fun _ => rfl, ow⟩, Nat.zero_le _, ⟨Nat.le_refl _, by unfold maxLen; omega, rfl⟩, ⟨Nat.le_refl _, by simp⟩, rfl⟩ ?_
 rintro ⟨i, g, m⟩ ρ_ σ_ ⟨hfit, hi0, hi1, hi2, hi3⟩
 refine SW_fits hfit ?_
 clear hfit
 simp only [] at hi0 hi1 hi2 hi3 ⊢
 obtain ⟨hml_, hmn_⟩ := hi2
 refine SW_seq ?_
 refine sr ?_
 refine os 2 ?_
 refine oX (.int .i64 ((bS s).size : Int)) (.int .i64 (s.length : Int)) (congrArg (fun n_ : Nat => Value.int .i64 (n_ : Int)) (bS_size _)) ?_
 refine os 1 ?_
 refine kp [16, 0, 1, 2, 7, 8, 9] ?_
 refine nt ?_
 refine cdp (fun hc2 : (i : Int) < (s.length : Int) => ?_) (fun hc2 => ?_)
 ·refine SW_skip (n_then ?_)
  refine SW_seq ?_
  refine SW_block ?_
  refine sr ?_
  refine os 2 ?_
  obtain ⟨e1, he1⟩ : ∃ y_, s[i]? = some y_ := ⟨_, List.getElem?_eq_getElem (by omega)⟩
  refine ixb (i : Int) s .i64 e1 Tryd.underlying9 he1 ?_
  refine os 1 ?_
  refine kp [10, 16, 0, 1, 2, 7, 8, 9] ?_
  refine nsr ?_
  refine os 5 ?_
  refine pn 26 (show (decide ((i : Int) < 0)) = false from (decide_eq_false (by omega))) ?_
  refine os 10 ?_
  refine kp [36, 10, 16, 0, 1, 2, 7, 8, 9] ?_
  refine tbp 36 (fun hg4 => ?_) (fun hg4 => ?_)
  ·replace hg4 : (e1.toNat : Int) < 32 := hg4
   refine os 12 ?_
   refine kp [48, 10, 16, 0, 1, 2, 7, 8, 9] ?_
   refine nt ?_
   refine ct ?_
   obtain ⟨hx1_, hx2_⟩ := hex_lt (c := e1)
   have hc256_ : e1.toNat < 256 := e1.toNat_lt
   obtain ⟨e2, he2⟩ : ∃ y_, hexL[(e1.toNat / 16)]? = some y_ := ⟨_, List.getElem?_eq_getElem (by exact hx1_)⟩
   obtain ⟨e3, he3⟩ : ∃ y_, hexL[(e1.toNat % 16)]? = some y_ := ⟨_, List.getElem?_eq_getElem (by exact hx2_)⟩
   refine SW_draw [] [] (by kernel_rfl) rd_nil ?_
   refine aS 0 ?_
   refine aS 1 ?_
   refine aS 2 ?_
   refine tk 3 (.int .u8 (IntKind.wrap .u8 (Int.tdiv (e1.toNat : Int) 16))) ?_
   rw [show IntKind.wrap .u8 (Int.tdiv (e1.toNat : Int) 16) = (e1.toNat : Int) / 16 from quo_u8 (by omega) (by omega) (by decide)]
   refine tk 4 (.int .u8 (e2.toNat : Int)) ?_ (hy := fun δ w => run_indexB ((e1.toNat : Int) / 16) hexL .u8 e2 Tryd.underlying9 rfl rfl (by omega) (by rw [show ((e1.toNat : Int) / 16).toNat = (e1.toNat / 16) from by omega]; exact he2))
   refine aS 5 ?_
   refine aS 6 ?_
   refine tk 7 (.int .u8 (Int.tmod (e1.toNat : Int) 16)) ?_
   rw [show Int.tmod (e1.toNat : Int) 16 = (e1.toNat : Int) % 16 from rem_nn (by omega)]
   refine tk 8 (.int .u8 (e3.toNat : Int)) ?_ (hy := fun δ w => run_indexB ((e1.toNat : Int) % 16) hexL .u8 e3 Tryd.underlying9 rfl rfl (by omega) (by rw [show ((e1.toNat : Int) % 16).toNat = (e1.toNat % 16) from by omega]; exact he3))
   refine sa1 false 9 (h := nws 5 4 4 [.int .u8 92, .int .u8 120, .int .u8 (e2.toNat : Int), .int .u8 (e3.toNat : Int)] ?_)
   intro b5
   refine ⟨fun hnd => (by cases hnd), ?_⟩
   refine kpA [58, 49, 48, 10, 16, 0, 1, 2, 7, 8, 9] ?_
   refine SA_perm _ (perm_cc perm_cz) ?_
   refine sa1 false 10 (h := O_append (size := 1) (bytes := 1) (z := .int .u8 0) g m.length 4 (some ⟨b5, 0, none⟩) 4 (m.map u8V) ([.int .u8 92, .int .u8 120, .int .u8 (e2.toNat : Int), .int .u8 (e3.toNat : Int)]) ((m ++ [(92 : UInt8), (120 : UInt8), e2, e3]).map u8V) (by simp [u8V]) (fun _ => rfl) (fun _ => rfl) Tryd.underlying31 (by kernel_rfl) rfl (by decide) hi1 rfl (.inr ⟨b5, 0, rfl, Cells.own (mem_a mem_z) rfl⟩) rfl (by omega) (by decide) rfl ?_)
   intro s6 hks6 hfs6
   rw [show m.length + 4 = (m ++ [(92 : UInt8), (120 : UInt8), e2, e3]).length from by first | (simp; done) | (simp; omega)]
   rw [show m.length + 4 = (m ++ [(92 : UInt8), (120 : UInt8), e2, e3]).length from by first | (simp; done) | (simp; omega)] at hks6
   have hls6 : (m ++ [(92 : UInt8), (120 : UInt8), e2, e3]).length = m.length + 4 := by first | (simp; done) | (simp; omega)
   refine ⟨fun hnd => (by cases hnd), ?_⟩
   refine aS 11 ?_
   refine SA_done (by kernel_rfl) (n_in (n_then ?_))
   refine SW_region ?_
   refine os 3 ?_
   refine kp [9, 8, 48, 10, 16, 0, 1, 2, 7] ?_
   refine nt ?_
   have hnq_ : needQ q e1 ((how.drop i).headD false) = true := needQ_is (by omega)
   have hqc_ := quoteC_hex hnq_ he2 he3
   rw [quote_step he1 hqc_] at hi3
   exact ⟨(i + 1, s6, (m ++ [(92 : UInt8), (120 : UInt8), e2, e3])), by simp only []; omega, ⟨fun _ => rfl, ow⟩, by simp only []; omega, hks6, ⟨by simp only []; omega, by simp⟩, hi3⟩
  replace hg4 : ¬ ((e1.toNat : Int) < 32) := hg4
  refine os 4 ?_
  refine tbp 40 (fun hg7 => ?_) (fun hg7 => ?_)
  ·replace hg7 : (e1.toNat : Int) > 126 := hg7
   refine os 8 ?_
   refine kp [48, 10, 16, 0, 1, 2, 7, 8, 9] ?_
   refine nt ?_
   refine ct ?_
   obtain ⟨hx1_, hx2_⟩ := hex_lt (c := e1)
   have hc256_ : e1.toNat < 256 := e1.toNat_lt
   obtain ⟨e4, he4⟩ : ∃ y_, hexL[(e1.toNat / 16)]? = some y_ := ⟨_, List.getElem?_eq_getElem (by exact hx1_)⟩
   obtain ⟨e5, he5⟩ : ∃ y_, hexL[(e1.toNat % 16)]? = some y_ := ⟨_, List.getElem?_eq_getElem (by exact hx2_)⟩
   refine SW_draw [] [] (by kernel_rfl) rd_nil ?_
   refine aS 0 ?_
   refine aS 1 ?_
   refine aS 2 ?_
   refine tk 3 (.int .u8 (IntKind.wrap .u8 (Int.tdiv (e1.toNat : Int) 16))) ?_
   rw [show IntKind.wrap .u8 (Int.tdiv (e1.toNat : Int) 16) = (e1.toNat : Int) / 16 from quo_u8 (by omega) (by omega) (by decide)]
   refine tk 4 (.int .u8 (e4.toNat : Int)) ?_ (hy := fun δ w => run_indexB ((e1.toNat : Int) / 16) hexL .u8 e4 Tryd.underlying9 rfl rfl (by omega) (by rw [show ((e1.toNat : Int) / 16).toNat = (e1.toNat / 16) from by omega]; exact he4))
   refine aS 5 ?_
   refine aS 6 ?_
   refine tk 7 (.int .u8 (Int.tmod (e1.toNat : Int) 16)) ?_
   rw [show Int.tmod (e1.toNat : Int) 16 = (e1.toNat : Int) % 16 from rem_nn (by omega)]
   refine tk 8 (.int .u8 (e5.toNat : Int)) ?_ (hy := fun δ w => run_indexB ((e1.toNat : Int) % 16) hexL .u8 e5 Tryd.underlying9 rfl rfl (by omega) (by rw [show ((e1.toNat : Int) % 16).toNat = (e1.toNat % 16) from by omega]; exact he5))
   refine sa1 false 9 (h := nws 5 4 4 [.int .u8 92, .int .u8 120, .int .u8 (e4.toNat : Int), .int .u8 (e5.toNat : Int)] ?_)
   intro b8
   refine ⟨fun hnd => (by cases hnd), ?_⟩
   refine kpA [58, 49, 48, 10, 16, 0, 1, 2, 7, 8, 9] ?_
   refine SA_perm _ (perm_cc perm_cz) ?_
   refine sa1 false 10 (h := O_append (size := 1) (bytes := 1) (z := .int .u8 0) g m.length 4 (some ⟨b8, 0, none⟩) 4 (m.map u8V) ([.int .u8 92, .int .u8 120, .int .u8 (e4.toNat : Int), .int .u8 (e5.toNat : Int)]) ((m ++ [(92 : UInt8), (120 : UInt8), e4, e5]).map u8V) (by simp [u8V]) (fun _ => rfl) (fun _ => rfl) Tryd.underlying31 (by kernel_rfl) rfl (by decide) hi1 rfl (.inr ⟨b8, 0, rfl, Cells.own (mem_a mem_z) rfl⟩) rfl (by omega) (by decide) rfl ?_)
   intro s9 hks9 hfs9
   rw [show m.length + 4 = (m ++ [(92 : UInt8), (120 : UInt8), e4, e5]).length from by first | (simp; done) | (simp; omega)]
   rw [show m.length + 4 = (m ++ [(92 : UInt8), (120 : UInt8), e4, e5]).length from by first | (simp; done) | (simp; omega)] at hks9
   have hls9 : (m ++ [(92 : UInt8), (120 : UInt8), e4, e5]).length = m.length + 4 := by first | (simp; done) | (simp; omega)
   refine ⟨fun hnd => (by cases hnd), ?_⟩
   refine aS 11 ?_
   refine SA_done (by kernel_rfl) (n_in (n_then ?_))
   refine SW_region ?_
   refine os 3 ?_
   refine kp [9, 8, 48, 10, 16, 0, 1, 2, 7] ?_
   refine nt ?_
   have hnq_ : needQ q e1 ((how.drop i).headD false) = true := needQ_is (by omega)
   have hqc_ := quoteC_hex hnq_ he4 he5
   rw [quote_step he1 hqc_] at hi3
   exact ⟨(i + 1, s9, (m ++ [(92 : UInt8), (120 : UInt8), e4, e5])), by simp only []; omega, ⟨fun _ => rfl, ow⟩, by simp only []; omega, hks9, ⟨by simp only []; omega, by simp⟩, hi3⟩
  replace hg7 : ¬ ((e1.toNat : Int) > 126) := hg7
  refine os 5 ?_
  refine kp [45, 10, 16, 0, 1, 2, 7, 8, 9] ?_
  refine tb 45 (fun hg10 => ?_) (fun hg10 => ?_)
  ·replace hg10 : ((e1.toNat : Int) == (q.toNat : Int)) = true := hg10
   simp only [beq_iff_eq, bne_iff_ne, ne_eq, beq_eq_false_iff_ne, bne_eq_false_iff_eq, Classical.not_not] at hg10
   refine os 3 ?_
   refine kp [48, 10, 16, 0, 1, 2, 7, 8, 9] ?_
   refine nt ?_
   refine ct ?_
   obtain ⟨hx1_, hx2_⟩ := hex_lt (c := e1)
   have hc256_ : e1.toNat < 256 := e1.toNat_lt
   obtain ⟨e6, he6⟩ : ∃ y_, hexL[(e1.toNat / 16)]? = some y_ := ⟨_, List.getElem?_eq_getElem (by exact hx1_)⟩
   obtain ⟨e7, he7⟩ : ∃ y_, hexL[(e1.toNat % 16)]? = some y_ := ⟨_, List.getElem?_eq_getElem (by exact hx2_)⟩
   refine SW_draw [] [] (by kernel_rfl) rd_nil ?_
   refine aS 0 ?_
   refine aS 1 ?_
   refine aS 2 ?_
   refine tk 3 (.int .u8 (IntKind.wrap .u8 (Int.tdiv (e1.toNat : Int) 16))) ?_
   rw [show IntKind.wrap .u8 (Int.tdiv (e1.toNat : Int) 16) = (e1.toNat : Int) / 16 from quo_u8 (by omega) (by omega) (by decide)]
   refine tk 4 (.int .u8 (e6.toNat : Int)) ?_ (hy := fun δ w => run_indexB ((e1.toNat : Int) / 16) hexL .u8 e6 Tryd.underlying9 rfl rfl (by omega) (by rw [show ((e1.toNat : Int) / 16).toNat = (e1.toNat / 16) from by omega]; exact he6))
   refine aS 5 ?_
   refine aS 6 ?_
   refine tk 7 (.int .u8 (Int.tmod (e1.toNat : Int) 16)) ?_
   rw [show Int.tmod (e1.toNat : Int) 16 = (e1.toNat : Int) % 16 from rem_nn (by omega)]
   refine tk 8 (.int .u8 (e7.toNat : Int)) ?_ (hy := fun δ w => run_indexB ((e1.toNat : Int) % 16) hexL .u8 e7 Tryd.underlying9 rfl rfl (by omega) (by rw [show ((e1.toNat : Int) % 16).toNat = (e1.toNat % 16) from by omega]; exact he7))
   refine sa1 false 9 (h := nws 5 4 4 [.int .u8 92, .int .u8 120, .int .u8 (e6.toNat : Int), .int .u8 (e7.toNat : Int)] ?_)
   intro b11
   refine ⟨fun hnd => (by cases hnd), ?_⟩
   refine kpA [58, 49, 48, 10, 16, 0, 1, 2, 7, 8, 9] ?_
   refine SA_perm _ (perm_cc perm_cz) ?_
   refine sa1 false 10 (h := O_append (size := 1) (bytes := 1) (z := .int .u8 0) g m.length 4 (some ⟨b11, 0, none⟩) 4 (m.map u8V) ([.int .u8 92, .int .u8 120, .int .u8 (e6.toNat : Int), .int .u8 (e7.toNat : Int)]) ((m ++ [(92 : UInt8), (120 : UInt8), e6, e7]).map u8V) (by simp [u8V]) (fun _ => rfl) (fun _ => rfl) Tryd.underlying31 (by kernel_rfl) rfl (by decide) hi1 rfl (.inr ⟨b11, 0, rfl, Cells.own (mem_a mem_z) rfl⟩) rfl (by omega) (by decide) rfl ?_)
   intro s12 hks12 hfs12
   rw [show m.length + 4 = (m ++ [(92 : UInt8), (120 : UInt8), e6, e7]).length from by first | (simp; done) | (simp; omega)]
   rw [show m.length + 4 = (m ++ [(92 : UInt8), (120 : UInt8), e6, e7]).length from by first | (simp; done) | (simp; omega)] at hks12
   have hls12 : (m ++ [(92 : UInt8), (120 : UInt8), e6, e7]).length = m.length + 4 := by first | (simp; done) | (simp; omega)
   refine ⟨fun hnd => (by cases hnd), ?_⟩
   refine aS 11 ?_
   refine SA_done (by kernel_rfl) (n_in (n_then ?_))
   refine SW_region ?_
   refine os 3 ?_
   refine kp [9, 8, 48, 10, 16, 0, 1, 2, 7] ?_
   refine nt ?_
   have hnq_ : needQ q e1 ((how.drop i).headD false) = true := needQ_is (by omega)
   have hqc_ := quoteC_hex hnq_ he6 he7
   rw [quote_step he1 hqc_] at hi3
   exact ⟨(i + 1, s12, (m ++ [(92 : UInt8), (120 : UInt8), e6, e7])), by simp only []; omega, ⟨fun _ => rfl, ow⟩, by simp only []; omega, hks12, ⟨by simp only []; omega, by simp⟩, hi3⟩
  replace hg10 : ((e1.toNat : Int) == (q.toNat : Int)) = false := hg10
  simp only [beq_iff_eq, bne_iff_ne, ne_eq, beq_eq_false_iff_ne, bne_eq_false_iff_eq, Classical.not_not] at hg10
  refine os 3 ?_
  refine kp [48, 10, 16, 0, 1, 2, 7, 8, 9] ?_
  refine nt ?_
  refine cd (fun hc13 : ((e1.toNat : Int) == 92) = true => ?_) (fun hc13 => ?_)
  ·simp only [beq_iff_eq, bne_iff_ne, ne_eq, beq_eq_false_iff_ne, bne_eq_false_iff_eq, Classical.not_not] at hc13
   obtain ⟨hx1_, hx2_⟩ := hex_lt (c := e1)
   have hc256_ : e1.toNat < 256 := e1.toNat_lt
   obtain ⟨e8, he8⟩ : ∃ y_, hexL[(e1.toNat / 16)]? = some y_ := ⟨_, List.getElem?_eq_getElem (by exact hx1_)⟩
   obtain ⟨e9, he9⟩ : ∃ y_, hexL[(e1.toNat % 16)]? = some y_ := ⟨_, List.getElem?_eq_getElem (by exact hx2_)⟩
   refine SW_draw [] [] (by kernel_rfl) rd_nil ?_
   refine aS 0 ?_
   refine aS 1 ?_
   refine aS 2 ?_
   refine tk 3 (.int .u8 (IntKind.wrap .u8 (Int.tdiv (e1.toNat : Int) 16))) ?_
   rw [show IntKind.wrap .u8 (Int.tdiv (e1.toNat : Int) 16) = (e1.toNat : Int) / 16 from quo_u8 (by omega) (by omega) (by decide)]
   refine tk 4 (.int .u8 (e8.toNat : Int)) ?_ (hy := fun δ w => run_indexB ((e1.toNat : Int) / 16) hexL .u8 e8 Tryd.underlying9 rfl rfl (by omega) (by rw [show ((e1.toNat : Int) / 16).toNat = (e1.toNat / 16) from by omega]; exact he8))
   refine aS 5 ?_
   refine aS 6 ?_
   refine tk 7 (.int .u8 (Int.tmod (e1.toNat : Int) 16)) ?_
   rw [show Int.tmod (e1.toNat : Int) 16 = (e1.toNat : Int) % 16 from rem_nn (by omega)]
   refine tk 8 (.int .u8 (e9.toNat : Int)) ?_ (hy := fun δ w => run_indexB ((e1.toNat : Int) % 16) hexL .u8 e9 Tryd.underlying9 rfl rfl (by omega) (by rw [show ((e1.toNat : Int) % 16).toNat = (e1.toNat % 16) from by omega]; exact he9))
   refine sa1 false 9 (h := nws 5 4 4 [.int .u8 92, .int .u8 120, .int .u8 (e8.toNat : Int), .int .u8 (e9.toNat : Int)] ?_)
   intro b14
   refine ⟨fun hnd => (by cases hnd), ?_⟩
   refine kpA [58, 49, 48, 10, 16, 0, 1, 2, 7, 8, 9] ?_
   refine SA_perm _ (perm_cc perm_cz) ?_
   refine sa1 false 10 (h := O_append (size := 1) (bytes := 1) (z := .int .u8 0) g m.length 4 (some ⟨b14, 0, none⟩) 4 (m.map u8V) ([.int .u8 92, .int .u8 120, .int .u8 (e8.toNat : Int), .int .u8 (e9.toNat : Int)]) ((m ++ [(92 : UInt8), (120 : UInt8), e8, e9]).map u8V) (by simp [u8V]) (fun _ => rfl) (fun _ => rfl) Tryd.underlying31 (by kernel_rfl) rfl (by decide) hi1 rfl (.inr ⟨b14, 0, rfl, Cells.own (mem_a mem_z) rfl⟩) rfl (by omega) (by decide) rfl ?_)
   intro s15 hks15 hfs15
   rw [show m.length + 4 = (m ++ [(92 : UInt8), (120 : UInt8), e8, e9]).length from by first | (simp; done) | (simp; omega)]
   rw [show m.length + 4 = (m ++ [(92 : UInt8), (120 : UInt8), e8, e9]).length from by first | (simp; done) | (simp; omega)] at hks15
   have hls15 : (m ++ [(92 : UInt8), (120 : UInt8), e8, e9]).length = m.length + 4 := by first | (simp; done) | (simp; omega)
   refine ⟨fun hnd => (by cases hnd), ?_⟩
   refine aS 11 ?_
   refine SA_done (by kernel_rfl) (n_in (n_then ?_))
   refine SW_region ?_
   refine os 3 ?_
   refine kp [9, 8, 48, 10, 16, 0, 1, 2, 7] ?_
   refine nt ?_
   have hnq_ : needQ q e1 ((how.drop i).headD false) = true := needQ_is (by omega)
   have hqc_ := quoteC_hex hnq_ he8 he9
   rw [quote_step he1 hqc_] at hi3
   exact ⟨(i + 1, s15, (m ++ [(92 : UInt8), (120 : UInt8), e8, e9])), by simp only []; omega, ⟨fun _ => rfl, ow⟩, by simp only []; omega, hks15, ⟨by simp only []; omega, by simp⟩, hi3⟩
  simp only [beq_iff_eq, bne_iff_ne, ne_eq, beq_eq_false_iff_ne, bne_eq_false_iff_eq, Classical.not_not] at hc13
  refine SW_region ?_
  refine os 2 ?_
  refine L (nws 5 1 1 [.int .u8 (e1.toNat : Int)] ?_)
  intro b16
  refine SL_perm _ (perm_cc perm_cz) ?_
  refine L (O_append (size := 1) (bytes := 1) (z := .int .u8 0) g m.length 1 (some ⟨b16, 0, none⟩) 1 (m.map u8V) ([.int .u8 (e1.toNat : Int)]) ((m ++ [e1]).map u8V) (map_snoc _ e1 rfl) (fun _ => rfl) (fun _ => rfl) Tryd.underlying31 (by kernel_rfl) rfl (by decide) hi1 rfl (.inr ⟨b16, 0, rfl, Cells.own (mem_a mem_z) rfl⟩) rfl (by omega) (by decide) rfl ?_)
  intro s17 hks17 hfs17
  rw [show m.length + 1 = (m ++ [e1]).length from by first | (simp; done) | (simp; omega)]
  rw [show m.length + 1 = (m ++ [e1]).length from by first | (simp; done) | (simp; omega)] at hks17
  have hls17 : (m ++ [e1]).length = m.length + 1 := by first | (simp; done) | (simp; omega)
  refine os 1 ?_
  refine kp [8, 48, 10, 16, 0, 1, 2, 7, 9] ?_
  refine SL_nil (n_in (n_then ?_))
  refine SW_region ?_
  refine os 3 ?_
  refine nt ?_
  have hnq_ : needQ q e1 ((how.drop i).headD false) = false := needQ_not (by rw [how_end (how := how) (i := i) (by omega)]) (by omega)
  have hqc_ := quoteC_one hnq_
  rw [quote_step he1 hqc_] at hi3
  exact ⟨(i + 1, s17, (m ++ [e1])), by simp only []; omega, ⟨fun _ => rfl, ow⟩, by simp only []; omega, hks17, ⟨by simp only []; omega, by simp⟩, hi3⟩
 refine SW_exit (x_then (x_then (x_in (n_then ?_))))
 refine sr ?_
 refine os 2 ?_
 refine L (nws 5 1 1 [.int .u8 (q.toNat : Int)] ?_)
 intro b18
 refine SL_perm _ (perm_cc perm_cz) ?_
 refine L (O_append (size := 1) (bytes := 1) (z := .int .u8 0) g m.length 1 (some ⟨b18, 0, none⟩) 1 (m.map u8V) ([.int .u8 (q.toNat : Int)]) ((m ++ [q]).map u8V) (map_snoc _ q rfl) (fun _ => rfl) (fun _ => rfl) Tryd.underlying31 (by kernel_rfl) rfl (by decide) hi1 rfl (.inr ⟨b18, 0, rfl, Cells.own (mem_a mem_z) rfl⟩) rfl (by omega) (by decide) rfl ?_)
 intro s19 hks19 hfs19
 rw [show m.length + 1 = (m ++ [q]).length from by first | (simp; done) | (simp; omega)]
 rw [show m.length + 1 = (m ++ [q]).length from by first | (simp; done) | (simp; omega)] at hks19
 have hls19 : (m ++ [q]).length = m.length + 1 := by first | (simp; done) | (simp; omega)
 refine L (O_bytesG s19 (m ++ [q]) hks19 (by simp) (fun z_ he => (mem_h he)) Tryd.underlying31 Tryd.underlying5 Tryd.underlying9 (fun _ => rfl) rfl ?_)
 refine os 1 ?_
 refine kp [6, 16, 0, 1, 2, 7, 8, 9] ?_
 refine nt ?_
 refine SW_ret ?_
 refine body_end (.string (bS (m ++ [q]))) (fun _ => rfl) ?_
 rw [show i = s.length from by omega, List.drop_length] at hi3
 have hfin_ : m ++ [q] = quotedP q s how := hi3
 rw [hfin_]
 exact ⟨(), ow, rfl⟩

theorem law_quoted {W0 : World} {s : Bytes} {q : UInt8} {z : Int} {A : Option Addr} {how : List Bool} {c : Nat} (hz : z = (q.toNat : Int)) (hs : s.length ≤ 5000) (hh : how.length ≤ 1048576) (hq : ∀ σ, Src W0 σ A (how.map encB)) : SC Tryd.prog W0 13 #[.string (bS s), .int .u8 z, .slice A how.length c] [] (Ret (fun _ : Unit => []) (fun v _ => v = .string (bS (quotedP q s how)))) := by
 subst hz
 rcases hq [] with h | ⟨b, o, rfl, h⟩
 · have h0 : how = [] := by simpa using h
   have := law_quoted_nil (W0 := W0) (s := s) (q := q) (A := A) (how := how) (c := c) hs h0
   rw [show how.length = 0 by rw [h0]; rfl]
   exact this
 · exact law_quoted_at hs hh h

theorem law_LexStrings {W0 : World} (hL : LaidL W0) {X : Bytes} {dbl : Bool} {A : Option Addr} {how : List Bool} {c : Nat} (hh : how.length ≤ 1048576) (hq : ∀ σ, Src W0 σ A (how.map encB)) : SC Tryd.prog W0 6 #[.string (bS X), .bool dbl, .slice A how.length c] [] (Ret (fun _ : Unit => []) (fun v _ => v = .bool true)) := by
 refine SC_body (fn := Tryd.f6) (n := 55) Tryd.func6 rfl (by kernel_rfl) (ρ := [(0, .string (bS X)), (1, .bool dbl), (2, .slice A how.length c)]) rfl ?_
 refine sr ?_
 refine os 1 ?_
 refine nq ?_
 refine sr ?_
 refine os 1 ?_
 refine oX (.int .i64 ((bS X).size : Int)) (.int .i64 (X.length : Int)) (congrArg (fun n_ : Nat => Value.int .i64 (n_ : Int)) (bS_size _)) ?_
 refine os 1 ?_
 refine nt ?_
 refine cdp (fun hc1 : (X.length : Int) > 5000 => ?_) (fun hc1 => ?_)
 ·refine sr ?_
  refine L (cl (law_alive5 hL) ?_)
  rintro _ _ rfl
  refine un ?_
  refine os 1 ?_
  refine kp [6, 13, 0, 1, 2] ?_
  refine nt ?_
  refine SW_ret (r_then ?_)
  refine body_end (.bool true) (fun _ => rfl) ?_
  exact ⟨(), ow, rfl⟩
 refine SW_skip (n_then ?_)
 refine sr ?_
 refine os 1 ?_
 refine nq ?_
 refine sr ?_
 refine os 1 ?_
 refine nt ?_
 refine cd (fun hc2 : (dbl) = true => ?_) (fun hc2 => ?_)
 ·refine SW_region ?_
  refine os 1 ?_
  refine nsr ?_
  refine os 3 ?_
  refine L (cl (law_quoted (s := X) (q := (34 : UInt8)) (z := 34) (how := how) rfl (by omega) hh hq) ?_)
  rintro _ _ rfl
  refine un ?_
  by_cases hp1 : X.length > 4096
  ·have hqs_ := quoted_scan (q := (34 : UInt8)) (.inl rfl) (s := X) (by omega) how
   rw [if_pos hp1] at hqs_
   refine L (cl ((lex_scan_bad hL hqs_)) ?_)
   rintro _ g3 ⟨rfl, hkg3⟩
   refine os 7 ?_
   refine kp [10, 9, 8, 7, 15, 13, 6, 0, 1, 2] ?_
   refine nq ?_
   refine sr ?_
   refine os 1 ?_
   refine oX (.int .i64 ((bS X).size : Int)) (.int .i64 (X.length : Int)) (congrArg (fun n_ : Nat => Value.int .i64 (n_ : Int)) (bS_size _)) ?_
   refine os 1 ?_
   refine nt ?_
   refine SW_true (fun _ => (congrArg Value.bool (show (decide ((X.length : Int) > 4096)) = true from (decide_eq_true (by omega))))) ?_
   refine sr ?_
   refine L (cl (law_alive5 hL) ?_)
   rintro _ _ rfl
   refine un ?_
   refine os 2 ?_
   refine oV (.bool true) ?_
   refine os 6 ?_
   refine kp [6, 27, 10, 9, 8, 7, 15, 13, 0, 1, 2] ?_
   refine nt ?_
   refine SW_ret (r_then ?_)
   refine body_end (.bool (((0 : Nat) : Int) == 0)) (fun _ => rfl) ?_
   exact ⟨(), ow, congrArg Value.bool (by first | exact eqT_same .. | rfl)⟩
  have hqs_ := quoted_scan (q := (34 : UInt8)) (.inl rfl) (s := X) (by omega) how
  rw [if_neg hp1] at hqs_
  have hql_ : ([(⟨4, 0, X, 0⟩ : Tok), ⟨0, (quotedP (34 : UInt8) X how).length, [], 0⟩]).length = 2 := rfl
  refine L (cl ((lex_scan_good hL (l := [(⟨4, 0, X, 0⟩ : Tok), ⟨0, (quotedP (34 : UInt8) X how).length, [], 0⟩]) hqs_)) ?_)
  rintro _ g4 ⟨rfl, hkg4⟩
  refine os 7 ?_
  refine kp [10, 9, 8, 7, 15, 13, 6, 0, 1, 2] ?_
  refine nq ?_
  refine sr ?_
  refine os 1 ?_
  refine oX (.int .i64 ((bS X).size : Int)) (.int .i64 (X.length : Int)) (congrArg (fun n_ : Nat => Value.int .i64 (n_ : Int)) (bS_size _)) ?_
  refine os 1 ?_
  refine nt ?_
  refine SW_false (fun _ => (congrArg Value.bool (show (decide ((X.length : Int) > 4096)) = false from (decide_eq_false (by omega))))) ?_
  refine SW_skip (n_then ?_)
  refine sr ?_
  refine L (cl (law_alive5 hL) ?_)
  rintro _ _ rfl
  refine un ?_
  refine os 2 ?_
  refine oV (.bool true) ?_
  refine os 7 ?_
  refine kp [47, 27, 10, 9, 8, 7, 15, 13, 6, 0, 1, 2] ?_
  refine pn 47 (show (((([(⟨4, 0, X, 0⟩ : Tok), ⟨0, (quotedP (34 : UInt8) X how).length, [], 0⟩].length : Nat)) : Int) == 2) = true from (beq_iff_eq.2 (by omega))) ?_
  refine os 1 ?_
  refine L (ixg 0 (0) hkg4 Tryd.underlying23 ?_)
  refine L (ldr [.int .i64 4, .int .i64 0, .string (bS X), .int .u64 0] (cells_cons (Gs.cell hkg4 (fun e he => (mem_h he)) (flat_cell Tok.len (show ([(⟨4, 0, X, 0⟩ : Tok), ⟨0, (quotedP (34 : UInt8) X how).length, [], 0⟩])[0]? = some (⟨4, 0, X, 0⟩ : Tok) from rfl) (j := 0) (by decide) rfl)) (cells_cons (Gs.cell hkg4 (fun e he => (mem_h he)) (flat_cell Tok.len (show ([(⟨4, 0, X, 0⟩ : Tok), ⟨0, (quotedP (34 : UInt8) X how).length, [], 0⟩])[0]? = some (⟨4, 0, X, 0⟩ : Tok) from rfl) (j := 1) (by decide) rfl)) (cells_cons (Gs.cell hkg4 (fun e he => (mem_h he)) (flat_cell Tok.len (show ([(⟨4, 0, X, 0⟩ : Tok), ⟨0, (quotedP (34 : UInt8) X how).length, [], 0⟩])[0]? = some (⟨4, 0, X, 0⟩ : Tok) from rfl) (j := 2) (by decide) rfl)) (cells_cons (Gs.cell hkg4 (fun e he => (mem_h he)) (flat_cell Tok.len (show ([(⟨4, 0, X, 0⟩ : Tok), ⟨0, (quotedP (34 : UInt8) X how).length, [], 0⟩])[0]? = some (⟨4, 0, X, 0⟩ : Tok) from rfl) (j := 3) (by decide) rfl)) cells_nil)))) ?_)
  refine os 1 ?_
  refine oV (.agg #[.int .i64 4, .int .i64 0, .string (bS X), .int .u64 0]) ?_
  refine oV (.bool (eqT 4 4 0 0 X X 0 0)) ?_ (hs := eqlT)
  refine os 2 ?_
  refine kp [6, 27, 10, 9, 8, 7, 15, 13, 0, 1, 2] ?_
  refine nt ?_
  refine SW_ret ?_
  refine body_end (.bool (eqT 4 4 0 0 X X 0 0)) (fun _ => rfl) ?_
  exact ⟨(), ow, congrArg Value.bool (by first | exact eqT_same .. | rfl)⟩
 refine SW_skip (n_then ?_)
 refine sr ?_
 refine os 3 ?_
 refine L (cl (law_quoted (s := X) (q := (39 : UInt8)) (z := 39) (how := how) rfl (by omega) hh hq) ?_)
 rintro _ _ rfl
 refine un ?_
 by_cases hp2 : X.length > 4096
 ·have hqs_ := quoted_scan (q := (39 : UInt8)) (.inr rfl) (s := X) (by omega) how
  rw [if_pos hp2] at hqs_
  refine L (cl ((lex_scan_bad hL hqs_)) ?_)
  rintro _ g6 ⟨rfl, hkg6⟩
  refine os 7 ?_
  refine kp [10, 9, 8, 15, 7, 13, 6, 0, 1, 2] ?_
  refine nq ?_
  refine sr ?_
  refine os 1 ?_
  refine oX (.int .i64 ((bS X).size : Int)) (.int .i64 (X.length : Int)) (congrArg (fun n_ : Nat => Value.int .i64 (n_ : Int)) (bS_size _)) ?_
  refine os 1 ?_
  refine nt ?_
  refine SW_true (fun _ => (congrArg Value.bool (show (decide ((X.length : Int) > 4096)) = true from (decide_eq_true (by omega))))) ?_
  refine sr ?_
  refine L (cl (law_alive5 hL) ?_)
  rintro _ _ rfl
  refine un ?_
  refine os 2 ?_
  refine oV (.bool true) ?_
  refine os 6 ?_
  refine kp [6, 27, 10, 9, 8, 15, 7, 13, 0, 1, 2] ?_
  refine nt ?_
  refine SW_ret (r_then ?_)
  refine body_end (.bool (((0 : Nat) : Int) == 0)) (fun _ => rfl) ?_
  exact ⟨(), ow, congrArg Value.bool (by first | exact eqT_same .. | rfl)⟩
 have hqs_ := quoted_scan (q := (39 : UInt8)) (.inr rfl) (s := X) (by omega) how
 rw [if_neg hp2] at hqs_
 have hql_ : ([(⟨4, 0, X, 0⟩ : Tok), ⟨0, (quotedP (39 : UInt8) X how).length, [], 0⟩]).length = 2 := rfl
 refine L (cl ((lex_scan_good hL (l := [(⟨4, 0, X, 0⟩ : Tok), ⟨0, (quotedP (39 : UInt8) X how).length, [], 0⟩]) hqs_)) ?_)
 rintro _ g7 ⟨rfl, hkg7⟩
 refine os 7 ?_
 refine kp [10, 9, 8, 15, 7, 13, 6, 0, 1, 2] ?_
 refine nq ?_
 refine sr ?_
 refine os 1 ?_
 refine oX (.int .i64 ((bS X).size : Int)) (.int .i64 (X.length : Int)) (congrArg (fun n_ : Nat => Value.int .i64 (n_ : Int)) (bS_size _)) ?_
 refine os 1 ?_
 refine nt ?_
 refine SW_false (fun _ => (congrArg Value.bool (show (decide ((X.length : Int) > 4096)) = false from (decide_eq_false (by omega))))) ?_
 refine SW_skip (n_then ?_)
 refine sr ?_
 refine L (cl (law_alive5 hL) ?_)
 rintro _ _ rfl
 refine un ?_
 refine os 2 ?_
 refine oV (.bool true) ?_
 refine os 7 ?_
 refine kp [47, 27, 10, 9, 8, 15, 7, 13, 6, 0, 1, 2] ?_
 refine pn 47 (show (((([(⟨4, 0, X, 0⟩ : Tok), ⟨0, (quotedP (39 : UInt8) X how).length, [], 0⟩].length : Nat)) : Int) == 2) = true from (beq_iff_eq.2 (by omega))) ?_
 refine os 1 ?_
 refine L (ixg 0 (0) hkg7 Tryd.underlying23 ?_)
 refine L (ldr [.int .i64 4, .int .i64 0, .string (bS X), .int .u64 0] (cells_cons (Gs.cell hkg7 (fun e he => (mem_h he)) (flat_cell Tok.len (show ([(⟨4, 0, X, 0⟩ : Tok), ⟨0, (quotedP (39 : UInt8) X how).length, [], 0⟩])[0]? = some (⟨4, 0, X, 0⟩ : Tok) from rfl) (j := 0) (by decide) rfl)) (cells_cons (Gs.cell hkg7 (fun e he => (mem_h he)) (flat_cell Tok.len (show ([(⟨4, 0, X, 0⟩ : Tok), ⟨0, (quotedP (39 : UInt8) X how).length, [], 0⟩])[0]? = some (⟨4, 0, X, 0⟩ : Tok) from rfl) (j := 1) (by decide) rfl)) (cells_cons (Gs.cell hkg7 (fun e he => (mem_h he)) (flat_cell Tok.len (show ([(⟨4, 0, X, 0⟩ : Tok), ⟨0, (quotedP (39 : UInt8) X how).length, [], 0⟩])[0]? = some (⟨4, 0, X, 0⟩ : Tok) from rfl) (j := 2) (by decide) rfl)) (cells_cons (Gs.cell hkg7 (fun e he => (mem_h he)) (flat_cell Tok.len (show ([(⟨4, 0, X, 0⟩ : Tok), ⟨0, (quotedP (39 : UInt8) X how).length, [], 0⟩])[0]? = some (⟨4, 0, X, 0⟩ : Tok) from rfl) (j := 3) (by decide) rfl)) cells_nil)))) ?_)
 refine os 1 ?_
 refine oV (.agg #[.int .i64 4, .int .i64 0, .string (bS X), .int .u64 0]) ?_
 refine oV (.bool (eqT 4 4 0 0 X X 0 0)) ?_ (hs := eqlT)
 refine os 2 ?_
 refine kp [6, 27, 10, 9, 8, 15, 7, 13, 0, 1, 2] ?_
 refine nt ?_
 refine SW_ret ?_
 refine body_end (.bool (eqT 4 4 0 0 X X 0 0)) (fun _ => rfl) ?_
 exact ⟨(), ow, congrArg Value.bool (by first | exact eqT_same .. | rfl)⟩

end Go.Proofs.YtnhmmjogfkjceaaDoor
namespace Go.Proofs.YtnhmmjogfkjceaaDoor
open Go.Sl Go.ChangeShapes Go.WideShapes Go.ChangeAt Go.RowKit

theorem LexStrings_contract (H : Type) (enc : TypeId × Value → H) (W : World) (base : Nat) (args : Array Value) (ds gs : List (DataW H)) (before : List MemPlace)
   (hval : ∀ (j : Nat) t v, Tryd.f6.params[j]? = some t → args[j]? = some v → Value.okWide Tryd.prog W .any base t v)
   (hW : DataW.Whole enc Tryd.prog Tryd.f6.params.toList Rows.lexStringsSpec.vars false W args.toList ds gs before) (hk : Rows.uptoSmall H (ds ++ gs) = true) (hLd : laidMetH Tryd.prog Rows.lexStringsUptoRow.laid W) (hsh : W.ShapedOpen Tryd.prog) :
   Calls Tryd.prog 6 args W fun e W' => ∃ v, e = .returned v ∧ Rows.lexStringsSpec.post enc Tryd.prog Tryd.f6 false true false false W args v W' := by
 have hL := laid_lex hLd hsh
 have hW' := hW
 obtain ⟨p, q, hA0, hV, rfl, hfz, hnd⟩ := hW
 have hA : DataW.TrodAll enc Tryd.prog W 0 (fun _ => true) true Tryd.f6.params.toList args.toList ds p := hA0
 rw [Tryd.params6] at hA hval
 obtain ⟨v0, vs0, d0, ds0, p0, q0, hargs, rfl, rfl, h0, r0⟩ := trodAll_cons hA
 obtain ⟨v1, vs1, d1, ds1, p1, q1, rfl, rfl, rfl, h1, r1⟩ := trodAll_cons r0
 obtain ⟨v2, vs2, d2, ds2, p2, q2, rfl, rfl, rfl, h2, r2⟩ := trodAll_cons r1
 obtain ⟨rfl, rfl, rfl⟩ := trodAll_nil r2
 obtain rfl : args = #[v0, v1, v2] := by cases args; simp_all
 obtain ⟨rfl, rfl⟩ := trodVars_none hV
 obtain ⟨x0, rfl, hz0⟩ := arg_strB hk (by simp) (hval 0 9 v0 rfl rfl) h0
 obtain ⟨a1, rfl, rfl, rfl⟩ := open_bool Tryd.underlying4 (hval 1 4 v1 rfl rfl) h1
 obtain ⟨A2, c2, x2, rfl, hs2, hl2⟩ := arg_bools (hval 2 35 v2 rfl rfl) h2 hk (by simp)
 refine (calls_law (law_LexStrings hL hl2 hs2)).mono fun e W' ⟨he, hb⟩ => ?_
 subst he
 exact ⟨_, rfl, post_law (tb := 4) hW' (by rw [Tryd.params6]; decide) rfl rfl rfl rfl rfl Tryd.underlying4 hb⟩

theorem LexStrings_reads (os : Os) {H : Type} (enc : TypeId × Value → H) : ∃ places, DataW.whole enc Tryd.prog ((laidWorld os).forCall (fun _ _ => 0) ⟨#[], #[.string .empty, .bool false, .slice none 0 0], []⟩).memory Tryd.f6.params.toList Rows.lexStringsSpec.vars false #[.string .empty, .bool false, .slice none 0 0].toList 8 = some ([.lit (.string []), .lit (.bool false), .nil], [], places) :=
 ⟨[], by kernel_rfl⟩
theorem LexStrings_lifted (os : Os) (started : os.Started) (H : Type) (enc : TypeId × Value → H) (F : Stop.Interp) :
   ReturnsInHanded {} Tryd.checked os 6 .any ((Rows.OpenSpec.upto Rows.lexStringsSpec).preRow enc Tryd.prog Tryd.f6 Rows.lexStringsUptoRow.domain false Rows.lexStringsUptoRow.laid) (((Rows.OpenSpec.upto Rows.lexStringsSpec).at F).post enc Tryd.prog Tryd.f6 false true false false) := by
 obtain ⟨places, hx⟩ := LexStrings_reads os enc
 refine returnsInHanded_of_row (C := Tryd.checked) (s := Rows.OpenSpec.upto Rows.lexStringsSpec) rown started (by kernel_rfl) Tryd.func6
   (witness_row_atRef (enc := enc) (C := Tryd.checked) false (laidWorld os) #[.string .empty, .bool false, .slice none 0 0] rfl (by kernel_rfl) (by kernel_rfl) (by kernel_rfl)
     (OpenSpec.preRow_of_cond 8 hx (by kernel_rfl) (fun k hk => by cases hk; kernel_rfl) (by kernel_rfl) (laid_met os _))) ?_
 intro W base args ds gs before hval hW _ hcond _ hL hsh _
 exact LexStrings_contract H enc W base args ds gs before hval hW (hcond _ rfl) hL hsh

theorem LexStrings_row : Rows.LexStringsUptoSaid :=
 OpenClaim.holds_of_cond 6 Tryd.f6 rfl rfl rfl rfl rfl rfl rfl ⟨rfl, rfl, rfl, rfl, rfl⟩ rfl rfl rfl rfl rfl (by kernel_rfl) Tryd.func6 (by kernel_rfl)
   (of_decide_eq_true (by kernel_rfl)) (by unfold Func.isWrapper; first | (rw [if_pos (by decide +kernel)]; kernel_rfl) | (rw [if_neg (by decide +kernel)]; exact ⟨rfl, rfl⟩))
   (fun os started H enc _ F => by rw [OpenClaim.pre_eq_preRow]; exact LexStrings_lifted os started H enc F)
theorem LexStrings_plain (f : FuncId) (fn : Func) (hf : Tryd.pinned.checked.prog.funcNamed "brazier/brazierlaw05.LexStrings" = some f) (hfn : Tryd.pinned.checked.prog.funcs[f]? = some fn) :
   false = Tryd.pinned.checked.prog.looks [] ∧ ∀ (j : Nat) t, fn.params[j]? = some t → Tryd.pinned.checked.prog.wantsStandIn t = false := by
 obtain rfl : f = 6 := Option.some.inj ((show Tryd.prog.funcNamed "brazier/brazierlaw05.LexStrings" = some 6 by kernel_rfl).symm.trans hf) |>.symm
 obtain rfl : fn = Tryd.f6 := (Option.some.inj (Tryd.func6.symm.trans hfn)).symm
 refine ⟨by kernel_rfl, fun j t ht => ?_⟩
 rw [Tryd.params6] at ht
 have hm : t = 9 ∨ t = 4 ∨ t = 35 := by simpa using Array.mem_of_getElem? ht
 rcases hm with rfl | rfl | rfl
 · exact (show Tryd.prog.wantsStandIn 9 = false by kernel_rfl)
 · exact (show Tryd.prog.wantsStandIn 4 = false by kernel_rfl)
 · exact (show Tryd.prog.wantsStandIn 35 = false by kernel_rfl)
theorem LexStrings_proved : Rows.LexStringsUptoCardSaid :=
 Claim7.holds_tied_plain_at .later [] _ _ _ _ LexStrings_row (fun _ h => by cases h) (by kernel_rfl) (fun _ h => by cases h) lexStringsUpto_row_tie rfl ⟨rfl, rfl⟩ (by kernel_rfl) rfl LexStrings_plain (by kernel_rfl)
end Go.Proofs.YtnhmmjogfkjceaaDoor
