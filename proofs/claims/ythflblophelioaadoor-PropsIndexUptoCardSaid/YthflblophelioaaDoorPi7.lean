/-
  PropsIndex, within the bound on what it reads, and tied to the program's text: it returns true whatever it is given, and leaves its arguments as they were. Conditions: the arguments' bulk is at most 1048576; the listed library variables stand as their text lays them, as the statement says.
-/
import Derived.Test.YthflblophelioaaDoorPi6
import Derived.Test.YthflblophelioaaDoorPi1
set_option linter.unusedVariables false
set_option linter.unusedSimpArgs false
set_option maxRecDepth 100000
set_option maxHeartbeats 4000000
namespace Go.Proofs.YthflblophelioaaDoor
open Go.Sl

theorem rf_Index {W0 : World} (key : ByteArray) : SC Tryd.prog W0 5 #[.string key] [] (Ret (fun _ : Unit => []) (fun v _ => v = two (idxV key))) := by
 refine SC_body (fn := Tryd.f5) (n := 50) Tryd.func5 rfl (by kernel_rfl) (ρ := [(0, .string key)]) rfl ?_
 refine sr ?_
 refine os 2 ?_
 refine nq ?_
 refine sr ?_
 refine os 1 ?_
 refine oX (.bool (key.toList == (ByteArray.mk (List.toArray List.nil)).toList)) (.bool (decide (key = (ByteArray.mk (List.toArray List.nil))))) (congrArg Value.bool (by rw [str_eq])) ?_
 refine os 1 ?_
 refine tbp 8 (fun hg1 => ?_) (fun hg1 => ?_)
 ·replace hg1 : key = (ByteArray.mk (List.toArray List.nil)) := hg1
  have hsz : key.size = 0 := by rw [hg1]; rfl
  refine os 14 ?_
  refine kp [22, 3, 2, 0] ?_
  refine nt ?_
  refine ct ?_
  refine sr ?_
  refine os 2 ?_
  refine nt ?_
  refine SW_ret (r_then ?_)
  refine body_end (.tuple #[.int .i64 0, .bool false]) (fun _ => rfl) ?_
  first
  | (exact ⟨(), ⟨_, List.Perm.refl _⟩, by rw [idxV_long (.inl hsz)]⟩)
  | (exact ⟨(), ⟨_, List.Perm.refl _⟩, by rw [idxV_long (.inr (by omega))]⟩)
  | (exact ⟨(), ⟨_, List.Perm.refl _⟩, by rw [idxV_zero (by assumption) (by omega)]⟩)
 replace hg1 : ¬ (key = (ByteArray.mk (List.toArray List.nil))) := hg1
 have hsz : key.size ≠ 0 := fun z_ => hg1 (ByteArray.ext (Array.eq_empty_of_size_eq_zero z_))
 refine os 5 ?_
 refine kp [13, 3, 2, 0] ?_
 refine tbp 13 (fun hg2 => ?_) (fun hg2 => ?_)
 ·replace hg2 : (key.size : Int) > 4 := hg2
  refine os 9 ?_
  refine kp [22, 3, 2, 0] ?_
  refine nt ?_
  refine ct ?_
  refine sr ?_
  refine os 2 ?_
  refine nt ?_
  refine SW_ret (r_then ?_)
  refine body_end (.tuple #[.int .i64 0, .bool false]) (fun _ => rfl) ?_
  first
  | (exact ⟨(), ⟨_, List.Perm.refl _⟩, by rw [idxV_long (.inl hsz)]⟩)
  | (exact ⟨(), ⟨_, List.Perm.refl _⟩, by rw [idxV_long (.inr (by omega))]⟩)
  | (exact ⟨(), ⟨_, List.Perm.refl _⟩, by rw [idxV_zero (by assumption) (by omega)]⟩)
 replace hg2 : ¬ ((key.size : Int) > 4) := hg2
 refine os 1 ?_
 refine ixs 0 key .i64 Tryd.underlying9 ?_
 refine os 2 ?_
 refine tb 17 (fun hg3 => ?_) (fun hg3 => ?_)
 ·replace hg3 : ((byteN key 0) == 48) = true := hg3
  simp only [beq_iff_eq, beq_eq_false_iff_ne, ne_eq] at hg3
  refine os 5 ?_
  refine kp [22, 3, 2, 0] ?_
  refine nt ?_
  refine cdp (fun hc4 : (key.size : Int) > 1 => ?_) (fun hc4 => ?_)
  ·refine sr ?_
   refine os 2 ?_
   refine nt ?_
   refine SW_ret (r_then ?_)
   refine body_end (.tuple #[.int .i64 0, .bool false]) (fun _ => rfl) ?_
   first
   | (exact ⟨(), ⟨_, List.Perm.refl _⟩, by rw [idxV_long (.inl hsz)]⟩)
   | (exact ⟨(), ⟨_, List.Perm.refl _⟩, by rw [idxV_long (.inr (by omega))]⟩)
   | (exact ⟨(), ⟨_, List.Perm.refl _⟩, by rw [idxV_zero (by assumption) (by omega)]⟩)
  refine SW_skip (n_then ?_)
  refine sr ?_
  refine os 1 ?_
  refine nq ?_
  refine sr ?_
  refine os 1 ?_
  refine nt ?_
  refine SW_block ?_
  have hz : byteN key 0 ≠ 48 ∨ key.size ≤ 1 := by first | exact .inl (by assumption) | (right; omega)
  refine SW_loop (α := Nat × Nat) (fun z_ ρ_ σ_ => Fits ρ_ σ_ [(0, .string key), (2, .int .i64 0), (3, .bool false), (4, .int .i64 (z_.2 : Int)), (5, .int .i64 (z_.1 : Int))] ([]) ∧ z_.1 ≤ key.size ∧ digL 0 (key.data.toList.take z_.1) = some z_.2 ∧ z_.2 < 10 ^ z_.1) (fun z_ => key.size - z_.1) (0, 0) ⟨⟨fun _ => rfl, ⟨_, List.Perm.refl _⟩⟩, Nat.zero_le _, rfl, by decide⟩ ?_
  rintro ⟨i, n⟩ ρ_ σ_ ⟨hfit, hi0, hi1, hi2⟩
  refine SW_fits hfit ?_
  clear hfit
  simp only [] at hi0 hi1 hi2 ⊢
  have hp10 : 10 ^ i ≤ 10000 := Nat.le_trans (Nat.pow_le_pow_right (by decide) (show i ≤ 4 by omega)) (by decide)
  have hbl := byteN_lt key (i : Int)
  refine SW_seq ?_
  refine sr ?_
  refine os 4 ?_
  refine kp [26, 0, 2, 3, 4, 5] ?_
  refine nt ?_
  refine cdp (fun hc5 : (i : Int) < (key.size : Int) => ?_) (fun hc5 => ?_)
  ·refine SW_skip (n_then ?_)
   refine SW_seq ?_
   refine SW_block ?_
   refine SW_seq ?_
   refine sr ?_
   refine os 2 ?_
   refine ixs (i : Int) key .i64 Tryd.underlying9 ?_
   refine os 2 ?_
   refine tbp 33 (fun hg6 => ?_) (fun hg6 => ?_)
   ·replace hg6 : (byteN key (i : Int)) < 48 := hg6
    refine os 5 ?_
    refine kp [38, 26, 0, 2, 3, 4, 5] ?_
    refine nt ?_
    refine ct ?_
    refine sr ?_
    refine os 2 ?_
    refine nt ?_
    refine SW_ret (r_then (r_in (r_then (r_then (r_in (r_then ?_))))))
    refine body_end (.tuple #[.int .i64 0, .bool false]) (fun _ => rfl) ?_
    exact ⟨(), ⟨_, List.Perm.refl _⟩, by rw [idxV_fail (i := i) (by omega) hi1 (by omega)]⟩
   replace hg6 : ¬ ((byteN key (i : Int)) < 48) := hg6
   refine os 2 ?_
   refine ixs (i : Int) key .i64 Tryd.underlying9 ?_
   refine os 2 ?_
   refine kp [38, 26, 0, 2, 3, 4, 5] ?_
   refine nt ?_
   refine cdp (fun hc7 : (byteN key (i : Int)) > 57 => ?_) (fun hc7 => ?_)
   ·refine sr ?_
    refine os 2 ?_
    refine nt ?_
    refine SW_ret (r_then (r_in (r_then (r_then (r_in (r_then ?_))))))
    refine body_end (.tuple #[.int .i64 0, .bool false]) (fun _ => rfl) ?_
    exact ⟨(), ⟨_, List.Perm.refl _⟩, by rw [idxV_fail (i := i) (by omega) hi1 (by omega)]⟩
   refine SW_skip (n_then ?_)
   refine SW_region ?_
   refine os 4 ?_
   refine ixs (i : Int) key .i64 Tryd.underlying9 ?_
   refine os 4 ?_
   refine kp [4, 38, 26, 0, 2, 3, 5] ?_
   refine SL_nil (n_in (n_then ?_))
   refine SW_region ?_
   refine os 3 ?_
   refine nt ?_
   have en := idxV_next (s := key) (i := i) (by omega) hi1 ⟨by omega, by omega⟩
   have ep : 10 ^ (i + 1) = 10 ^ i * 10 := Nat.pow_succ ..
   have ee : ((n * 10 + (byteN key (i : Int) - 48).toNat : Nat) : Int) = (n : Int) * 10 + (byteN key (i : Int) - 48) := by omega
   refine ⟨(i + 1, n * 10 + (byteN key (i : Int) - 48).toNat), by simp only []; omega, ?_⟩
   simp only []
   rw [ee]
   exact ⟨⟨fun _ => rfl, ⟨_, List.Perm.refl _⟩⟩, by omega, en, by omega⟩
  refine SW_exit (x_then (x_then (x_in (n_then ?_))))
  refine SW_seq ?_
  refine sr ?_
  refine os 2 ?_
  refine nt ?_
  refine cdp (fun hc8 : (n : Int) ≥ 4096 => ?_) (fun hc8 => ?_)
  ·refine sr ?_
   refine os 2 ?_
   refine nt ?_
   refine SW_ret (r_then ?_)
   refine body_end (.tuple #[.int .i64 0, .bool false]) (fun _ => rfl) ?_
   have hie : i = key.size := by omega
   rw [hie] at hi1
   exact ⟨(), ⟨_, List.Perm.refl _⟩, by rw [idxV_end hsz (by omega) hz hi1, if_neg (by omega)]⟩
  refine SW_skip (n_then ?_)
  refine sr ?_
  refine os 3 ?_
  refine nt ?_
  refine SW_ret ?_
  refine body_end (.tuple #[.int .i64 (n : Int), .bool true]) (fun _ => rfl) ?_
  have hie : i = key.size := by omega
  rw [hie] at hi1
  exact ⟨(), ⟨_, List.Perm.refl _⟩, by rw [idxV_end hsz (by omega) hz hi1, if_pos (by omega)]⟩
 replace hg3 : ((byteN key 0) == 48) = false := hg3
 simp only [beq_iff_eq, beq_eq_false_iff_ne, ne_eq] at hg3
 refine os 5 ?_
 refine kp [22, 3, 2, 0] ?_
 refine nt ?_
 refine cf ?_
 refine SW_skip (n_then ?_)
 refine sr ?_
 refine os 1 ?_
 refine nq ?_
 refine sr ?_
 refine os 1 ?_
 refine nt ?_
 refine SW_block ?_
 have hz : byteN key 0 ≠ 48 ∨ key.size ≤ 1 := by first | exact .inl (by assumption) | (right; omega)
 refine SW_loop (α := Nat × Nat) (fun z_ ρ_ σ_ => Fits ρ_ σ_ [(0, .string key), (2, .int .i64 0), (3, .bool false), (4, .int .i64 (z_.2 : Int)), (5, .int .i64 (z_.1 : Int))] ([]) ∧ z_.1 ≤ key.size ∧ digL 0 (key.data.toList.take z_.1) = some z_.2 ∧ z_.2 < 10 ^ z_.1) (fun z_ => key.size - z_.1) (0, 0) ⟨⟨fun _ => rfl, ⟨_, List.Perm.refl _⟩⟩, Nat.zero_le _, rfl, by decide⟩ ?_
 rintro ⟨i, n⟩ ρ_ σ_ ⟨hfit, hi0, hi1, hi2⟩
 refine SW_fits hfit ?_
 clear hfit
 simp only [] at hi0 hi1 hi2 ⊢
 have hp10 : 10 ^ i ≤ 10000 := Nat.le_trans (Nat.pow_le_pow_right (by decide) (show i ≤ 4 by omega)) (by decide)
 have hbl := byteN_lt key (i : Int)
 refine SW_seq ?_
 refine sr ?_
 refine os 4 ?_
 refine kp [26, 0, 2, 3, 4, 5] ?_
 refine nt ?_
 refine cdp (fun hc9 : (i : Int) < (key.size : Int) => ?_) (fun hc9 => ?_)
 ·refine SW_skip (n_then ?_)
  refine SW_seq ?_
  refine SW_block ?_
  refine SW_seq ?_
  refine sr ?_
  refine os 2 ?_
  refine ixs (i : Int) key .i64 Tryd.underlying9 ?_
  refine os 2 ?_
  refine tbp 33 (fun hg10 => ?_) (fun hg10 => ?_)
  ·replace hg10 : (byteN key (i : Int)) < 48 := hg10
   refine os 5 ?_
   refine kp [38, 26, 0, 2, 3, 4, 5] ?_
   refine nt ?_
   refine ct ?_
   refine sr ?_
   refine os 2 ?_
   refine nt ?_
   refine SW_ret (r_then (r_in (r_then (r_then (r_in (r_then ?_))))))
   refine body_end (.tuple #[.int .i64 0, .bool false]) (fun _ => rfl) ?_
   exact ⟨(), ⟨_, List.Perm.refl _⟩, by rw [idxV_fail (i := i) (by omega) hi1 (by omega)]⟩
  replace hg10 : ¬ ((byteN key (i : Int)) < 48) := hg10
  refine os 2 ?_
  refine ixs (i : Int) key .i64 Tryd.underlying9 ?_
  refine os 2 ?_
  refine kp [38, 26, 0, 2, 3, 4, 5] ?_
  refine nt ?_
  refine cdp (fun hc11 : (byteN key (i : Int)) > 57 => ?_) (fun hc11 => ?_)
  ·refine sr ?_
   refine os 2 ?_
   refine nt ?_
   refine SW_ret (r_then (r_in (r_then (r_then (r_in (r_then ?_))))))
   refine body_end (.tuple #[.int .i64 0, .bool false]) (fun _ => rfl) ?_
   exact ⟨(), ⟨_, List.Perm.refl _⟩, by rw [idxV_fail (i := i) (by omega) hi1 (by omega)]⟩
  refine SW_skip (n_then ?_)
  refine SW_region ?_
  refine os 4 ?_
  refine ixs (i : Int) key .i64 Tryd.underlying9 ?_
  refine os 4 ?_
  refine kp [4, 38, 26, 0, 2, 3, 5] ?_
  refine SL_nil (n_in (n_then ?_))
  refine SW_region ?_
  refine os 3 ?_
  refine nt ?_
  have en := idxV_next (s := key) (i := i) (by omega) hi1 ⟨by omega, by omega⟩
  have ep : 10 ^ (i + 1) = 10 ^ i * 10 := Nat.pow_succ ..
  have ee : ((n * 10 + (byteN key (i : Int) - 48).toNat : Nat) : Int) = (n : Int) * 10 + (byteN key (i : Int) - 48) := by omega
  refine ⟨(i + 1, n * 10 + (byteN key (i : Int) - 48).toNat), by simp only []; omega, ?_⟩
  simp only []
  rw [ee]
  exact ⟨⟨fun _ => rfl, ⟨_, List.Perm.refl _⟩⟩, by omega, en, by omega⟩
 refine SW_exit (x_then (x_then (x_in (n_then ?_))))
 refine SW_seq ?_
 refine sr ?_
 refine os 2 ?_
 refine nt ?_
 refine cdp (fun hc12 : (n : Int) ≥ 4096 => ?_) (fun hc12 => ?_)
 ·refine sr ?_
  refine os 2 ?_
  refine nt ?_
  refine SW_ret (r_then ?_)
  refine body_end (.tuple #[.int .i64 0, .bool false]) (fun _ => rfl) ?_
  have hie : i = key.size := by omega
  rw [hie] at hi1
  exact ⟨(), ⟨_, List.Perm.refl _⟩, by rw [idxV_end hsz (by omega) hz hi1, if_neg (by omega)]⟩
 refine SW_skip (n_then ?_)
 refine sr ?_
 refine os 3 ?_
 refine nt ?_
 refine SW_ret ?_
 refine body_end (.tuple #[.int .i64 (n : Int), .bool true]) (fun _ => rfl) ?_
 have hie : i = key.size := by omega
 rw [hie] at hi1
 exact ⟨(), ⟨_, List.Perm.refl _⟩, by rw [idxV_end hsz (by omega) hz hi1, if_pos (by omega)]⟩

end Go.Proofs.YthflblophelioaaDoor
namespace Go.Proofs.YthflblophelioaaDoor
open Go.Sl

theorem rf_Digits {W0 : World} : ∀ n : Nat, n < 10000 → SC Tryd.prog W0 7 #[.int .i64 (n : Int)] [] (Ret (fun _ : Unit => []) (fun v _ => v = .string (⟨(Lib.decDigits n).toArray⟩ : ByteArray))) := by
 intro n
 induction n using Nat.strongRecOn with
 | _ n ih =>
   intro hn
   refine SC_body (fn := Tryd.f7) (n := 20) Tryd.func7 rfl (by kernel_rfl) (ρ := [(0, .int .i64 (n : Int))]) rfl ?_
   refine sr ?_
   refine os 1 ?_
   refine nq ?_
   refine sr ?_
   refine os 2 ?_
   refine nt ?_
   refine cdp (fun hc1 : (n : Int) < 10 => ?_) (fun hc1 => ?_)
   ·refine sr ?_
    refine os 3 ?_
    refine L (nws 5 1 1 [.int .u8 (48 + (n : Int))] ?_)
    intro b2
    refine L (O_bytes [48 + (n : Int)] b2 0 1 Tryd.underlying44 Tryd.underlying5 Tryd.underlying9 (cells_cons (Cell.own mem_z rfl) cells_nil) (fun _ => rfl) rfl ?_)
    refine os 1 ?_
    refine kp [2, 4, 0] ?_
    refine nt ?_
    refine SW_ret (r_then ?_)
    refine body_end (.string (strOfNums [48 + (n : Int)])) (fun _ => rfl) ?_
    exact ⟨(), ⟨_, List.Perm.refl _⟩, by rw [dig_small (by omega)]⟩
   refine SW_skip (n_then ?_)
   refine SW_seq ?_
   have ih2 := ih (n / 10) (by omega) (by omega)
   rw [show ((n / 10 : Nat) : Int) = (n : Int) / 10 from by omega] at ih2
   refine SW_draw [] [] (by kernel_rfl) rd_nil ?_
   refine aS 0 ?_
   refine tk 1 (.int .i64 (IntKind.wrap .i64 (Int.tdiv (n : Int) 10))) ?_
   rw [show IntKind.wrap .i64 (Int.tdiv (n : Int) 10) = (n : Int) / 10 from IntWalk.i64_quo _ _ (by omega)]
   refine aS 3 ?_
   refine tk 4 (.int .i64 (Int.tmod (n : Int) 10)) ?_
   rw [show Int.tmod (n : Int) 10 = (n : Int) % 10 from rem_nn (by omega)]
   refine tk 5 (.int .i64 (IntKind.wrap .i64 (48 + ((n : Int) % 10)))) ?_
   rw [show IntKind.wrap .i64 (48 + ((n : Int) % 10)) = 48 + ((n : Int) % 10) from IntWalk.i64_in _ (by omega)]
   refine tk 6 (.int .u8 (IntKind.wrap .u8 (48 + ((n : Int) % 10)))) ?_
   rw [show IntKind.wrap .u8 (48 + ((n : Int) % 10)) = 48 + ((n : Int) % 10) from IntWalk.u8_in _ (by omega)]
   refine SA_two false false (li1 := #[true, true, true, true, true, true, true, false, false, false, false]) (li2 := #[true, true, false, true, true, true, true, true, false, false, false]) 2 7 _ _ rfl rfl rfl (by kernel_rfl) ⟨rfl, fun _ => rfl⟩ ⟨rfl, fun _ => rfl⟩ rfl rfl ?_ ?_
   ·refine cl (ih2) ?_
    rintro _ _ rfl
    try simp only [List.cons_append, List.append_assoc, List.nil_append]
    refine ⟨fun hnd => (by cases hnd), ?_⟩
    refine sa1 false 7 (h := nws 5 1 1 [.int .u8 (48 + ((n : Int) % 10))] ?_)
    intro b3
    refine ⟨fun hnd => (by cases hnd), ?_⟩
    refine sa1 false 8 (h := O_bytes [48 + ((n : Int) % 10)] b3 0 1 Tryd.underlying44 Tryd.underlying5 Tryd.underlying9 (cells_cons (Cell.own mem_z rfl) cells_nil) (fun _ => rfl) rfl ?_)
    refine ⟨fun hnd => (by cases hnd), ?_⟩
    refine kpA [18, 12, 4, 2, 0] ?_
    refine tk 9 (.string ((⟨(Lib.decDigits (n / 10)).toArray⟩ : ByteArray) ++ (strOfNums [48 + ((n : Int) % 10)]))) ?_ (hy := (fun δ w_ => run_cat (⟨(Lib.decDigits (n / 10)).toArray⟩ : ByteArray) (strOfNums [48 + ((n : Int) % 10)]) (dig_cat hn _) rfl rfl))
    refine aS 10 ?_
    refine SA_done (by kernel_rfl) (n_then ?_)
    refine SW_ret ?_
    refine body_end (.string ((⟨(Lib.decDigits (n / 10)).toArray⟩ : ByteArray) ++ (strOfNums [48 + ((n : Int) % 10)]))) (fun _ => rfl) ?_
    exact ⟨(), ⟨_, List.Perm.refl _⟩, by rw [dig_big (by omega)]⟩
   refine nws 5 1 1 [.int .u8 (48 + ((n : Int) % 10))] ?_
   intro b4
   refine ⟨fun hnd => (by cases hnd), ?_⟩
   refine SA_two false false (li1 := #[true, true, true, true, true, true, true, true, false, false, false]) (li2 := #[true, true, false, true, true, true, true, true, true, false, false]) 2 8 _ _ rfl rfl rfl (by kernel_rfl) ⟨rfl, fun _ => rfl⟩ ⟨rfl, fun _ => rfl⟩ rfl rfl ?_ ?_
   ·refine cl (ih2) ?_
    rintro _ _ rfl
    try simp only [List.cons_append, List.append_assoc, List.nil_append]
    refine ⟨fun hnd => (by cases hnd), ?_⟩
    refine sa1 false 8 (h := O_bytes [48 + ((n : Int) % 10)] b4 0 1 Tryd.underlying44 Tryd.underlying5 Tryd.underlying9 (cells_cons (Cell.own mem_z rfl) cells_nil) (fun _ => rfl) rfl ?_)
    refine ⟨fun hnd => (by cases hnd), ?_⟩
    refine kpA [18, 12, 4, 2, 0] ?_
    refine tk 9 (.string ((⟨(Lib.decDigits (n / 10)).toArray⟩ : ByteArray) ++ (strOfNums [48 + ((n : Int) % 10)]))) ?_ (hy := (fun δ w_ => run_cat (⟨(Lib.decDigits (n / 10)).toArray⟩ : ByteArray) (strOfNums [48 + ((n : Int) % 10)]) (dig_cat hn _) rfl rfl))
    refine aS 10 ?_
    refine SA_done (by kernel_rfl) (n_then ?_)
    refine SW_ret ?_
    refine body_end (.string ((⟨(Lib.decDigits (n / 10)).toArray⟩ : ByteArray) ++ (strOfNums [48 + ((n : Int) % 10)]))) (fun _ => rfl) ?_
    exact ⟨(), ⟨_, List.Perm.refl _⟩, by rw [dig_big (by omega)]⟩
   refine O_bytes [48 + ((n : Int) % 10)] b4 0 1 Tryd.underlying44 Tryd.underlying5 Tryd.underlying9 (cells_cons (Cell.own mem_z rfl) cells_nil) (fun _ => rfl) rfl ?_
   refine ⟨fun hnd => (by cases hnd), ?_⟩
   refine sa1 false 2 (h := cl (ih2) ?_)
   rintro _ _ rfl
   try simp only [List.cons_append, List.append_assoc, List.nil_append]
   refine ⟨fun hnd => (by cases hnd), ?_⟩
   refine kpA [12, 18, 4, 2, 0] ?_
   refine tk 9 (.string ((⟨(Lib.decDigits (n / 10)).toArray⟩ : ByteArray) ++ (strOfNums [48 + ((n : Int) % 10)]))) ?_ (hy := (fun δ w_ => run_cat (⟨(Lib.decDigits (n / 10)).toArray⟩ : ByteArray) (strOfNums [48 + ((n : Int) % 10)]) (dig_cat hn _) rfl rfl))
   refine aS 10 ?_
   refine SA_done (by kernel_rfl) (n_then ?_)
   refine SW_ret ?_
   refine body_end (.string ((⟨(Lib.decDigits (n / 10)).toArray⟩ : ByteArray) ++ (strOfNums [48 + ((n : Int) % 10)]))) (fun _ => rfl) ?_
   exact ⟨(), ⟨_, List.Perm.refl _⟩, by rw [dig_big (by omega)]⟩

end Go.Proofs.YthflblophelioaaDoor
namespace Go.Proofs.YthflblophelioaaDoor
open Go.Sl

theorem law_PropsIndex {W0 : World} (hL : Laid W0) {key : ByteArray} (hks : key.size ≤ 281474976710656) (n : Int) : SC Tryd.prog W0 3 #[.string key, .int .i64 n] [] (Ret (fun _ : Unit => []) (fun v _ => v = .bool true)) := by
 refine SC_body (fn := Tryd.f3) (n := 51) Tryd.func3 rfl (by kernel_rfl) (ρ := [(0, .string key), (1, .int .i64 n)]) rfl ?_
 refine sr ?_
 refine os 1 ?_
 refine nsr ?_
 refine os 1 ?_
 refine L (cl (prop_Index hL hks) ?_)
 rintro _ _ rfl
 refine un ?_
 refine os 5 ?_
 refine kp [6, 5, 4, 0, 1] ?_
 refine nsr ?_
 refine os 1 ?_
 refine L (cl (rf_Index key) ?_)
 rintro _ _ rfl
 refine un ?_
 refine os 5 ?_
 refine kp [8, 7, 6, 5, 4, 0, 1] ?_
 refine nq ?_
 refine sr ?_
 refine L (cl (law_alive14 hL) ?_)
 rintro _ _ rfl
 refine un ?_
 refine oV (.bool false) ?_
 refine os 6 ?_
 refine kp [28, 8, 7, 6, 5, 4, 0, 1] ?_
 refine pn 28 (show (((idxV key).1) != ((idxV key).1)) = false from (by simp)) ?_
 refine os 4 ?_
 refine kp [32, 8, 7, 6, 5, 4, 0, 1] ?_
 refine nt ?_
 refine SW_false (fun _ => (congrArg Value.bool (show (!(((idxV key).2) == ((idxV key).2))) = false from (by simp)))) ?_
 refine SW_skip (n_then ?_)
 refine SW_seq ?_
 refine sr ?_
 refine os 3 ?_
 refine tbp 35 (fun hg2 => ?_) (fun hg2 => ?_)
 ·replace hg2 : n < 0 := hg2
  refine os 3 ?_
  refine kp [38, 32, 8, 7, 6, 5, 4, 0, 1] ?_
  refine nt ?_
  refine ct ?_
  refine sr ?_
  refine os 1 ?_
  refine nt ?_
  refine SW_ret (r_then ?_)
  refine body_end (.bool true) (fun _ => rfl) ?_
  exact ⟨(), ⟨_, List.Perm.refl _⟩, rfl⟩
 replace hg2 : ¬ (n < 0) := hg2
 refine os 3 ?_
 refine kp [38, 32, 8, 7, 6, 5, 4, 0, 1] ?_
 refine nt ?_
 refine cdp (fun hc3 : n ≥ 4096 => ?_) (fun hc3 => ?_)
 ·refine sr ?_
  refine os 1 ?_
  refine nt ?_
  refine SW_ret (r_then ?_)
  refine body_end (.bool true) (fun _ => rfl) ?_
  exact ⟨(), ⟨_, List.Perm.refl _⟩, rfl⟩
 refine SW_skip (n_then ?_)
 refine sr ?_
 refine os 1 ?_
 obtain ⟨m_, hm_⟩ := Int.eq_ofNat_of_zero_le (show 0 ≤ n from by omega)
 have hdg_ := rf_Digits (W0 := W0) m_ (by omega)
 rw [show ((m_ : Nat) : Int) = n from hm_.symm] at hdg_
 refine L (cl (hdg_) ?_)
 rintro v4 _ hv4
 obtain rfl : v4 = .string (digB n) := hv4.trans (congrArg Value.string (by rw [hm_]; rfl))
 refine un ?_
 have hdi_ := idx_digits n (by omega)
 refine L (cl (prop_Index hL (key := (digB n)) hdi_.2) ?_)
 rintro v5 _ hv5
 obtain rfl : v5 = .tuple #[.int .i64 n, .bool true] := hv5.trans (by rw [hdi_.1])
 refine un ?_
 refine os 5 ?_
 refine kp [10, 9, 38, 32, 8, 7, 6, 5, 4, 0, 1] ?_
 refine nsr ?_
 refine os 7 ?_
 refine kp [4, 10, 9, 38, 32, 8, 7, 6, 5, 0, 1] ?_
 refine nt ?_
 refine SW_ret ?_
 refine body_end (.bool (n == n)) (fun _ => rfl) ?_
 exact ⟨(), ⟨_, List.Perm.refl _⟩, congrArg Value.bool (by simp)⟩

end Go.Proofs.YthflblophelioaaDoor
namespace Go.Proofs.YthflblophelioaaDoor
open Go.Sl Go.ChangeShapes Go.WideShapes Go.ChangeAt Go.RowKit

theorem PropsIndex_contract (H : Type) (enc : TypeId × Value → H) (W : World) (base : Nat) (args : Array Value) (ds gs : List (DataW H)) (before : List MemPlace)
   (hval : ∀ (j : Nat) t v, Tryd.f3.params[j]? = some t → args[j]? = some v → Value.okWide Tryd.prog W .any base t v)
   (hW : DataW.Whole enc Tryd.prog Tryd.f3.params.toList Rows.propsIndexSpec.vars false W args.toList ds gs before) (hk : Rows.uptoSmall H (ds ++ gs) = true) (hLd : laidMetH Tryd.prog Rows.propsIndexUptoRow.laid W) :
   Calls Tryd.prog 3 args W fun e W' => ∃ v, e = .returned v ∧ Rows.propsIndexSpec.post enc Tryd.prog Tryd.f3 false true false false W args v W' := by
 have hL : Laid W := laid_here hLd
 have hW' := hW
 obtain ⟨p, q, hA0, hV, rfl, hfz, hnd⟩ := hW
 have hA : DataW.TrodAll enc Tryd.prog W 0 (fun _ => true) true Tryd.f3.params.toList args.toList ds p := hA0
 rw [Tryd.params3] at hA hval
 obtain ⟨v0, vs0, d0, ds0, p0, q0, hargs, rfl, rfl, h0, r0⟩ := trodAll_cons hA
 obtain ⟨v1, vs1, d1, ds1, p1, q1, rfl, rfl, rfl, h1, r1⟩ := trodAll_cons r0
 obtain ⟨rfl, rfl, rfl⟩ := trodAll_nil r1
 obtain rfl : args = #[v0, v1] := by cases args; simp_all
 obtain ⟨rfl, rfl⟩ := trodVars_none hV
 obtain ⟨x0, rfl, hz0⟩ := arg_str hk (by simp) (hval 0 9 v0 rfl rfl) h0
 obtain ⟨a1, rfl, rfl, rfl, w1⟩ := open_int Tryd.underlying3 (hval 1 3 v1 rfl rfl) h1
 refine (calls_law (law_PropsIndex hL hz0 a1)).mono fun e W' ⟨he, hb⟩ => ?_
 subst he
 exact ⟨_, rfl, post_law (tb := 4) hW' (by rw [Tryd.params3]; decide) rfl rfl rfl rfl rfl Tryd.underlying4 hb⟩

theorem PropsIndex_reads (os : Os) {H : Type} (enc : TypeId × Value → H) : ∃ places, DataW.whole enc Tryd.prog ((laidWorld os).forCall (fun _ _ => 0) ⟨#[], #[.string .empty, .int .i64 0], []⟩).memory Tryd.f3.params.toList Rows.propsIndexSpec.vars false #[.string .empty, .int .i64 0].toList 8 = some ([.lit (.string []), .lit (.int .i64 0)], [], places) :=
 ⟨[], by kernel_rfl⟩
theorem PropsIndex_lifted (os : Os) (started : os.Started) (H : Type) (enc : TypeId × Value → H) (F : Stop.Interp) :
   ReturnsInHanded {} Tryd.checked os 3 .any ((Rows.OpenSpec.upto Rows.propsIndexSpec).preRow enc Tryd.prog Tryd.f3 Rows.propsIndexUptoRow.domain false Rows.propsIndexUptoRow.laid) (((Rows.OpenSpec.upto Rows.propsIndexSpec).at F).post enc Tryd.prog Tryd.f3 false true false false) := by
 obtain ⟨places, hx⟩ := PropsIndex_reads os enc
 refine returnsInHanded_of_row (C := Tryd.checked) (s := Rows.OpenSpec.upto Rows.propsIndexSpec) rown started (by kernel_rfl) Tryd.func3
   (witness_row_atRef (enc := enc) (C := Tryd.checked) false (laidWorld os) #[.string .empty, .int .i64 0] rfl (by kernel_rfl) (by kernel_rfl) (by kernel_rfl)
     (OpenSpec.preRow_of_cond 8 hx (by kernel_rfl) (fun k hk => by cases hk; kernel_rfl) (by kernel_rfl) (laid_met os _))) ?_
 intro W base args ds gs before hval hW _ hcond _ hL _ _
 exact PropsIndex_contract H enc W base args ds gs before hval hW (hcond _ rfl) hL

theorem PropsIndex_row : Rows.PropsIndexUptoSaid :=
 OpenClaim.holds_of_cond 3 Tryd.f3 rfl rfl rfl rfl rfl rfl rfl ⟨rfl, rfl, rfl, rfl, rfl⟩ rfl rfl rfl rfl rfl (by kernel_rfl) Tryd.func3 (by kernel_rfl)
   (of_decide_eq_true (by kernel_rfl)) (by unfold Func.isWrapper; first | (rw [if_pos (by decide +kernel)]; kernel_rfl) | (rw [if_neg (by decide +kernel)]; exact ⟨rfl, rfl⟩))
   (fun os started H enc _ F => by rw [OpenClaim.pre_eq_preRow]; exact PropsIndex_lifted os started H enc F)
theorem PropsIndex_plain (f : FuncId) (fn : Func) (hf : Tryd.pinned.checked.prog.funcNamed "brazier/brazierlaw14.PropsIndex" = some f) (hfn : Tryd.pinned.checked.prog.funcs[f]? = some fn) :
   true = Tryd.pinned.checked.prog.looks [] ∧ ∀ (j : Nat) t, fn.params[j]? = some t → Tryd.pinned.checked.prog.wantsStandIn t = false := by
 obtain rfl : f = 3 := Option.some.inj ((show Tryd.prog.funcNamed "brazier/brazierlaw14.PropsIndex" = some 3 by kernel_rfl).symm.trans hf) |>.symm
 obtain rfl : fn = Tryd.f3 := (Option.some.inj (Tryd.func3.symm.trans hfn)).symm
 refine ⟨by kernel_rfl, fun j t ht => ?_⟩
 rw [Tryd.params3] at ht
 have hm : t = 9 ∨ t = 3 := by simpa using Array.mem_of_getElem? ht
 rcases hm with rfl | rfl
 · exact (show Tryd.prog.wantsStandIn 9 = false by kernel_rfl)
 · exact (show Tryd.prog.wantsStandIn 3 = false by kernel_rfl)
theorem PropsIndex_proved : Rows.PropsIndexUptoCardSaid :=
 Claim7.holds_tied_plain_at .later [] _ _ _ _ PropsIndex_row (fun _ h => by cases h) (by kernel_rfl) (fun _ h => by cases h) propsIndexUpto_row_tie rfl ⟨rfl, rfl⟩ (by kernel_rfl) rfl PropsIndex_plain (by kernel_rfl)
end Go.Proofs.YthflblophelioaaDoor
