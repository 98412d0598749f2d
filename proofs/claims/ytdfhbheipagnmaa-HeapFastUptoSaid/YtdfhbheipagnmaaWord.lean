/-
  What functions of heap and word do to the memory they own, step by step: each theorem is one function's contract. Conditions: those that each theorem names.
-/
import Derived.Test.YtdfhbheipagnmaaHeapD
set_option linter.unusedVariables false
set_option linter.unusedSimpArgs false
set_option maxRecDepth 100000
set_option maxHeartbeats 4000000
namespace Go.Proofs.Ytdfhbheipagnmaa
open Go.Sl

theorem word_payload {W0 : World} {w tag : Int} (ht : 0 ≤ tag ∧ tag < 65536) : SC Try.prog W0 75 #[.int .u64 w, .int .u64 tag] [] (Ret (fun _ : Unit => []) (fun v _ => v = (match tagOf w tag with | some n => .tuple #[.int .u32 (n : Int), .bool true] | none => .tuple #[.int .u32 0, .bool false]))) := by
  refine SC_body (fn := Try.f75) (n := 13) Try.func75 rfl (by kernel_rfl) (ρ := [(0, .int .u64 w), (1, .int .u64 tag)]) rfl ?_
  refine SW_seq ?_
  refine SW_region ?_
  refine SL_s2 2 5 (.bool false) 4 (.int .u32 0) (by intro δ w; kernel_rfl) ?_
  refine SL_nil (n_then ?_)
  refine SW_seq ?_
  refine SW_seq ?_
  refine SW_region ?_
  refine SL_s2 2 7 (.int .u64 (Int.fdiv w 4294967296)) 6 (.int .u64 w) (by intro δ w; kernel_rfl) ?_
  rw [show Int.fdiv w 4294967296 = w / 4294967296 from Int.fdiv_eq_ediv_of_nonneg _ (by omega)]
  refine SL_segT 2 [(9, .int .u64 (IntKind.wrap .u64 (tag * 65536))), (7, .int .u64 (w / 4294967296)), (5, .bool false), (4, .int .u32 0), (0, .int .u64 w), (1, .int .u64 tag)] (by intro δ w; kernel_rfl) ?_
  rw [show IntKind.wrap .u64 (tag * 65536) = tag * 65536 from IntWalk.u64_in _ (by omega)]
  refine SL_segT 1 [(10, .bool ((w / 4294967296) != (tag * 65536))), (5, .bool false), (4, .int .u32 0), (0, .int .u64 w), (1, .int .u64 tag)] (by intro δ w; kernel_rfl) ?_
  refine SL_nil (n_then ?_)
  refine SW_cond ((w / 4294967296) != (tag * 65536)) (fun _ => rfl) (fun hc1 => ?_) (fun hc1 => ?_)
  · skip
    refine SW_seq ?_
    refine SW_region ?_
    refine SL_segT 2 [(5, .bool false), (4, .int .u32 0), (10, .bool ((w / 4294967296) != (tag * 65536))), (0, .int .u64 w), (1, .int .u64 tag)] (by intro δ w; kernel_rfl) ?_
    refine SL_nil (n_then ?_)
    refine SW_ret (r_then ?_)
    refine body_end (.tuple #[.int .u32 0, .bool false]) (fun _ => rfl) ?_
    exact ⟨(), Own.of_perm (List.Perm.refl _), by simp only [tagOf, if_neg (show ¬ (w / 4294967296 = tag * 65536) from by simp at hc1; omega)]⟩
  · skip
    refine SW_skip (n_then ?_)
    refine SW_seq ?_
    refine SW_region ?_
    refine SL_segT 4 [(5, .bool true), (4, .int .u32 (IntKind.wrap .u32 (w))), (10, .bool ((w / 4294967296) != (tag * 65536))), (0, .int .u64 w), (1, .int .u64 tag)] (by intro δ w; kernel_rfl) ?_
    refine SL_nil (n_then ?_)
    refine SW_ret ?_
    refine body_end (.tuple #[.int .u32 (IntKind.wrap .u32 (w)), .bool true]) (fun _ => rfl) ?_
    exact ⟨(), Own.of_perm (List.Perm.refl _), by simp only [tagOf, if_pos (show w / 4294967296 = tag * 65536 from by simp at hc1; omega)]; rw [Int.toNat_of_nonneg (by omega)]; simp [IntKind.wrap, IntKind.bits, IntKind.signed]⟩

theorem word_IsObject {W0 : World} {w : Int} : SC Try.prog W0 72 #[.int .u64 w] [] (Ret (fun _ : Unit => []) (fun v _ => v = (match tagOf w 65530 with | some n => .tuple #[.int .u32 (n : Int), .bool true] | none => .tuple #[.int .u32 0, .bool false]))) := by
  refine SC_body (fn := Try.f72) (n := 8) Try.func72 rfl (by kernel_rfl) (ρ := [(0, .int .u64 w)]) rfl ?_
  refine SW_seq ?_
  refine SW_region ?_
  refine SL_s2 2 3 (.bool false) 2 (.int .u32 0) (by intro δ w; kernel_rfl) ?_
  refine SL_nil (n_then ?_)
  refine SW_seq ?_
  refine SW_region ?_
  refine SL_s1 1 4 (.int .u64 w) (by intro δ w; kernel_rfl) ?_
  rcases hm1 : tagOf w 65530 with _ | m1
  · skip
    refine SL_sig ([] ++ ([])) rfl ?_
    refine SL_cons ⟨rfl, fun _ => rfl⟩ (O_call 75 #[.int .u64 w, .int .u64 65530] rfl (by intro δ w; kernel_rfl) ((word_payload (w := w) (tag := 65530) (by omega)).use _) ?_)
    rintro v1 σ1 ⟨_, hσ1, hv1⟩
    obtain rfl : v1 = .tuple #[.int .u32 0, .bool false] := hv1.trans (by rw [hm1])
    obtain rfl : σ1 = ([]) := hσ1.trans (rfl)
    refine SL_segT 4 [(3, .bool false), (2, .int .u32 0), (0, .int .u64 w)] (by intro δ w; kernel_rfl) ?_
    refine SL_nil (n_then ?_)
    refine SW_ret ?_
    refine body_end (.tuple #[.int .u32 0, .bool false]) (fun _ => rfl) ?_
    exact ⟨(), Own.of_perm (List.Perm.refl _), rfl⟩
  · skip
    refine SL_sig ([] ++ ([])) rfl ?_
    refine SL_cons ⟨rfl, fun _ => rfl⟩ (O_call 75 #[.int .u64 w, .int .u64 65530] rfl (by intro δ w; kernel_rfl) ((word_payload (w := w) (tag := 65530) (by omega)).use _) ?_)
    rintro v2 σ2 ⟨_, hσ2, hv2⟩
    obtain rfl : v2 = .tuple #[.int .u32 (m1 : Int), .bool true] := hv2.trans (by rw [hm1])
    obtain rfl : σ2 = ([]) := hσ2.trans (rfl)
    refine SL_segT 4 [(3, .bool true), (2, .int .u32 (m1 : Int)), (0, .int .u64 w)] (by intro δ w; kernel_rfl) ?_
    refine SL_nil (n_then ?_)
    refine SW_ret ?_
    refine body_end (.tuple #[.int .u32 (m1 : Int), .bool true]) (fun _ => rfl) ?_
    exact ⟨(), Own.of_perm (List.Perm.refl _), rfl⟩

theorem word_IsText {W0 : World} {w : Int} : SC Try.prog W0 43 #[.int .u64 w] [] (Ret (fun _ : Unit => []) (fun v _ => v = (match tagOf w 65532 with | some n => .tuple #[.int .u32 (n : Int), .bool true] | none => .tuple #[.int .u32 0, .bool false]))) := by
  refine SC_body (fn := Try.f43) (n := 8) Try.func43 rfl (by kernel_rfl) (ρ := [(0, .int .u64 w)]) rfl ?_
  refine SW_seq ?_
  refine SW_region ?_
  refine SL_s2 2 3 (.bool false) 2 (.int .u32 0) (by intro δ w; kernel_rfl) ?_
  refine SL_nil (n_then ?_)
  refine SW_seq ?_
  refine SW_region ?_
  refine SL_s1 1 4 (.int .u64 w) (by intro δ w; kernel_rfl) ?_
  rcases hm1 : tagOf w 65532 with _ | m1
  · skip
    refine SL_sig ([] ++ ([])) rfl ?_
    refine SL_cons ⟨rfl, fun _ => rfl⟩ (O_call 75 #[.int .u64 w, .int .u64 65532] rfl (by intro δ w; kernel_rfl) ((word_payload (w := w) (tag := 65532) (by omega)).use _) ?_)
    rintro v1 σ1 ⟨_, hσ1, hv1⟩
    obtain rfl : v1 = .tuple #[.int .u32 0, .bool false] := hv1.trans (by rw [hm1])
    obtain rfl : σ1 = ([]) := hσ1.trans (rfl)
    refine SL_segT 4 [(3, .bool false), (2, .int .u32 0), (0, .int .u64 w)] (by intro δ w; kernel_rfl) ?_
    refine SL_nil (n_then ?_)
    refine SW_ret ?_
    refine body_end (.tuple #[.int .u32 0, .bool false]) (fun _ => rfl) ?_
    exact ⟨(), Own.of_perm (List.Perm.refl _), rfl⟩
  · skip
    refine SL_sig ([] ++ ([])) rfl ?_
    refine SL_cons ⟨rfl, fun _ => rfl⟩ (O_call 75 #[.int .u64 w, .int .u64 65532] rfl (by intro δ w; kernel_rfl) ((word_payload (w := w) (tag := 65532) (by omega)).use _) ?_)
    rintro v2 σ2 ⟨_, hσ2, hv2⟩
    obtain rfl : v2 = .tuple #[.int .u32 (m1 : Int), .bool true] := hv2.trans (by rw [hm1])
    obtain rfl : σ2 = ([]) := hσ2.trans (rfl)
    refine SL_segT 4 [(3, .bool true), (2, .int .u32 (m1 : Int)), (0, .int .u64 w)] (by intro δ w; kernel_rfl) ?_
    refine SL_nil (n_then ?_)
    refine SW_ret ?_
    refine body_end (.tuple #[.int .u32 (m1 : Int), .bool true]) (fun _ => rfl) ?_
    exact ⟨(), Own.of_perm (List.Perm.refl _), rfl⟩

theorem word_tagged {W0 : World} {tag : Int} (ht : 0 ≤ tag ∧ tag < 65536) {n : Int} (hn : 0 ≤ n ∧ n < 4294967296) : SC Try.prog W0 74 #[.int .u64 tag, .int .u32 n] [] (Ret (fun _ : Unit => []) (fun v _ => v = .int .u64 (tag * 281474976710656 + n))) := by
  refine SC_body (fn := Try.f74) (n := 10) Try.func74 rfl (by kernel_rfl) (ρ := [(0, .int .u64 tag), (1, .int .u32 n)]) rfl ?_
  refine SW_seq ?_
  refine SW_region ?_
  refine SL_s1 1 4 (.int .u64 0) (by intro δ w; kernel_rfl) ?_
  refine SL_nil (n_then ?_)
  refine SW_seq ?_
  refine SW_region ?_
  refine SL_s2 2 6 (.int .u64 (IntKind.wrap .u64 (tag * 281474976710656))) 5 (.int .u64 tag) (by intro δ w; kernel_rfl) ?_
  rw [show IntKind.wrap .u64 (tag * 281474976710656) = tag * 281474976710656 from IntWalk.u64_in _ (by omega)]
  refine SL_segT 2 [(8, .int .u64 (IntKind.wrap .u64 (n))), (6, .int .u64 (tag * 281474976710656)), (4, .int .u64 0), (0, .int .u64 tag), (1, .int .u32 n)] (by intro δ w; kernel_rfl) ?_
  rw [show IntKind.wrap .u64 (n) = n from IntWalk.u64_in _ (by omega)]
  refine SL_segT 1 [(9, .int .u64 (IntKind.wrap .u64 ((BitVec.ofInt 64 (tag * 281474976710656) ||| BitVec.ofInt 64 n).toNat))), (4, .int .u64 0), (0, .int .u64 tag), (1, .int .u32 n)] (by intro δ w; kernel_rfl) ?_
  rw [show IntKind.wrap .u64 ((BitVec.ofInt 64 (tag * 281474976710656) ||| BitVec.ofInt 64 n).toNat) = tag * 281474976710656 + n from or_add ht hn]
  refine SL_segT 1 [(4, .int .u64 (tag * 281474976710656 + n)), (0, .int .u64 tag), (1, .int .u32 n)] (by intro δ w; kernel_rfl) ?_
  refine SL_nil (n_then ?_)
  refine SW_ret ?_
  refine body_end (.int .u64 (tag * 281474976710656 + n)) (fun _ => rfl) ?_
  exact ⟨(), Own.of_perm (List.Perm.refl _), rfl⟩

theorem word_Object {W0 : World} {n : Int} (hn : 0 ≤ n ∧ n < 4294967296) : SC Try.prog W0 40 #[.int .u32 n] [] (Ret (fun _ : Unit => []) (fun v _ => v = .int .u64 (65530 * 281474976710656 + n))) := by
  refine SC_body (fn := Try.f40) (n := 5) Try.func40 rfl (by kernel_rfl) (ρ := [(0, .int .u32 n)]) rfl ?_
  refine SW_seq ?_
  refine SW_region ?_
  refine SL_s1 1 2 (.int .u64 0) (by intro δ w; kernel_rfl) ?_
  refine SL_nil (n_then ?_)
  refine SW_seq ?_
  refine SW_region ?_
  refine SL_s1 1 3 (.int .u32 n) (by intro δ w; kernel_rfl) ?_
  refine SL_sig ([] ++ ([])) rfl ?_
  refine SL_cons ⟨rfl, fun _ => rfl⟩ (O_call 74 #[.int .u64 65530, .int .u32 n] rfl (by intro δ w; kernel_rfl) ((word_tagged (tag := 65530) (n := n) (by omega) hn).use _) ?_)
  rintro _ σ1 ⟨_, hσ1, rfl⟩
  obtain rfl : σ1 = ([]) := hσ1.trans (rfl)
  refine SL_segT 1 [(2, .int .u64 (65530 * 281474976710656 + n)), (0, .int .u32 n)] (by intro δ w; kernel_rfl) ?_
  refine SL_nil (n_then ?_)
  refine SW_ret ?_
  refine body_end (.int .u64 (65530 * 281474976710656 + n)) (fun _ => rfl) ?_
  exact ⟨(), Own.of_perm (List.Perm.refl _), rfl⟩

theorem word_Text {W0 : World} {n : Int} (hn : 0 ≤ n ∧ n < 4294967296) : SC Try.prog W0 42 #[.int .u32 n] [] (Ret (fun _ : Unit => []) (fun v _ => v = .int .u64 (65532 * 281474976710656 + n))) := by
  refine SC_body (fn := Try.f42) (n := 5) Try.func42 rfl (by kernel_rfl) (ρ := [(0, .int .u32 n)]) rfl ?_
  refine SW_seq ?_
  refine SW_region ?_
  refine SL_s1 1 2 (.int .u64 0) (by intro δ w; kernel_rfl) ?_
  refine SL_nil (n_then ?_)
  refine SW_seq ?_
  refine SW_region ?_
  refine SL_s1 1 3 (.int .u32 n) (by intro δ w; kernel_rfl) ?_
  refine SL_sig ([] ++ ([])) rfl ?_
  refine SL_cons ⟨rfl, fun _ => rfl⟩ (O_call 74 #[.int .u64 65532, .int .u32 n] rfl (by intro δ w; kernel_rfl) ((word_tagged (tag := 65532) (n := n) (by omega) hn).use _) ?_)
  rintro _ σ1 ⟨_, hσ1, rfl⟩
  obtain rfl : σ1 = ([]) := hσ1.trans (rfl)
  refine SL_segT 1 [(2, .int .u64 (65532 * 281474976710656 + n)), (0, .int .u32 n)] (by intro δ w; kernel_rfl) ?_
  refine SL_nil (n_then ?_)
  refine SW_ret ?_
  refine body_end (.int .u64 (65532 * 281474976710656 + n)) (fun _ => rfl) ?_
  exact ⟨(), Own.of_perm (List.Perm.refl _), rfl⟩

end Go.Proofs.Ytdfhbheipagnmaa
