/-
  What functions of the laws of layer 13 do to the memory they own, step by step: each theorem is one function's contract. Conditions: those that each theorem names.
-/
import Derived.Test.YtdfhbheipagnmaaAliveD
set_option linter.unusedVariables false
set_option linter.unusedSimpArgs false
set_option maxRecDepth 100000
set_option maxHeartbeats 4000000
namespace Go.Proofs.Ytdfhbheipagnmaa
open Go.Sl

theorem ref_Int {W0 : World} {n : Int} : SC Try.prog W0 18 #[.int .i32 n] [] (Ret (fun _ : Unit => []) (fun v _ => v = .int .u64 (refInt n))) := by
  refine SC_body (fn := Try.f18) (n := 7) Try.func18 rfl (by kernel_rfl) (ρ := [(0, .int .i32 n)]) rfl ?_
  refine SW_seq ?_
  refine SW_region ?_
  refine SL_s1 1 2 (.int .u64 0) (by intro δ w; kernel_rfl) ?_
  refine SL_nil (n_then ?_)
  refine SW_seq ?_
  refine SW_region ?_
  refine SL_segT 5 [(2, .int .u64 (IntKind.wrap .u64 (18444773748872577024 + (IntKind.wrap .u64 (IntKind.wrap .u32 (n)))))), (0, .int .i32 n)] (by intro δ w; kernel_rfl) ?_
  refine SL_nil (n_then ?_)
  refine SW_ret ?_
  refine body_end (.int .u64 (IntKind.wrap .u64 (18444773748872577024 + (IntKind.wrap .u64 (IntKind.wrap .u32 (n)))))) (fun _ => rfl) ?_
  exact ⟨(), Own.of_perm (List.Perm.refl _), rfl⟩

theorem law_alive {W0 : World}  : SC Try.prog W0 10 #[] [] (Ret (fun _ : Unit => []) (fun v _ => v = .bool true)) := by
  refine SC_body (fn := Try.f10) (n := 72) Try.func10 rfl (by kernel_rfl) (ρ := []) rfl ?_
  refine SW_seq ?_
  refine SW_region ?_
  refine SL_s1 1 0 (.bool false) (by intro δ w; kernel_rfl) ?_
  refine SL_nil (n_then ?_)
  refine SW_seq ?_
  refine SW_region ?_
  refine SL_sig ([] ++ ([])) rfl ?_
  refine SL_cons ⟨rfl, fun _ => rfl⟩ (O_call 9 #[.int .i64 5] rfl (by intro δ w; kernel_rfl) ((al_New).use _) ?_)
  rintro _ σ1 ⟨⟨H0, F⟩, hσ1, rfl, hA0⟩
  obtain rfl : σ1 = ((HeapV.ent H0 F) ++ ([])) := hσ1.trans (rfl)
  refine SL_s1 1 1 (pt F.p 0) (by intro δ w; kernel_rfl) ?_
  refine SL_nil (n_then ?_)
  refine SW_seq ?_
  refine SW_seq ?_
  refine SW_region ?_
  refine SL_s2 2 13 (.bool false) 12 (pt F.p 0) (by intro δ w; kernel_rfl) ?_
  refine SL_nil (n_then ?_)
  refine SW_false (fun _ => rfl) ?_
  refine SW_skip (n_then ?_)
  refine SW_seq ?_
  refine SW_region ?_
  refine SL_s1 1 15 (pt F.p 0) (by intro δ w; kernel_rfl) ?_
  refine SL_cons ⟨rfl, fun _ => rfl⟩ (O_call 11 #[pt F.p 0, .int .i64 0, .int .u64 18445336698825998337] rfl (by intro δ w; kernel_rfl) ((al_Make hA0).use _) ?_)
  rintro _ σ2 ⟨H1, hσ2, rfl, hA1⟩
  obtain rfl : σ2 = ((HeapV.ent H1 F) ++ ([])) := hσ2.trans (rfl)
  refine SL_s5 5 3 (.bool true) 2 (.int .u64 (65530 * 281474976710656 + ((0 : Nat) : Int))) 18 (.bool true) 17 (.int .u64 (65530 * 281474976710656 + ((0 : Nat) : Int))) 14 (.tuple #[.int .u64 (65530 * 281474976710656 + ((0 : Nat) : Int)), .bool true]) (by intro δ w; kernel_rfl) ?_
  refine SL_nil (n_then ?_)
  refine SW_seq ?_
  refine SW_region ?_
  refine SL_s2 2 20 (.int .u64 (65530 * 281474976710656 + ((0 : Nat) : Int))) 19 (pt F.p 0) (by intro δ w; kernel_rfl) ?_
  refine SL_sig ([] ++ ((HeapV.ent H1 F) ++ ([]))) rfl ?_
  refine SL_cons ⟨rfl, fun _ => rfl⟩ (O_call 18 #[.int .i32 7] rfl (by intro δ w; kernel_rfl) ((ref_Int (n := 7)).use _) ?_)
  rintro v3 σ3 ⟨_, hσ3, hv3⟩
  obtain rfl : v3 = .int .u64 18444773748872577031 := hv3.trans (congrArg (Value.int .u64) refInt7)
  obtain rfl : σ3 = ((HeapV.ent H1 F) ++ ([])) := hσ3.trans (rfl)
  refine SL_s1 1 22 (.agg #[.int .u64 18444773748872577031, .int .u64 0, .int .i64 7]) (by intro δ w; kernel_rfl) ?_
  refine SL_cons ⟨rfl, fun _ => rfl⟩ (O_call 17 #[pt F.p 0, .int .u64 (65530 * 281474976710656 + ((0 : Nat) : Int)), .string (ByteArray.mk (List.toArray (List.cons 97 List.nil))), .agg #[.int .u64 18444773748872577031, .int .u64 0, .int .i64 7]] rfl (by intro δ w; kernel_rfl) ((al_Put hA1).use _) ?_)
  rintro _ σ4 ⟨H2, hσ4, rfl, hA2⟩
  obtain rfl : σ4 = ((HeapV.ent H2 F) ++ ([])) := hσ4.trans (rfl)
  refine SL_nil (n_then ?_)
  refine SW_seq ?_
  refine SW_region ?_
  refine SL_s2 2 26 (.int .u64 (65530 * 281474976710656 + ((0 : Nat) : Int))) 25 (pt F.p 0) (by intro δ w; kernel_rfl) ?_
  refine SL_cons ⟨rfl, fun _ => rfl⟩ (O_call 22 #[pt F.p 0, .int .u64 (65530 * 281474976710656 + ((0 : Nat) : Int)), .string (ByteArray.mk (List.toArray (List.cons 97 List.nil)))] rfl (by intro δ w; kernel_rfl) ((al_Get hA2).use _) ?_)
  rintro _ σ5 ⟨_, hσ5, rfl⟩
  obtain rfl : σ5 = ((HeapV.ent H2 F) ++ ([])) := hσ5.trans (rfl)
  refine SL_segT 3 [(29, .bool true), (28, .agg #[.int .u64 18444773748872577031, .int .u64 0, .int .i64 7]), (3, .bool true), (2, .int .u64 (65530 * 281474976710656 + ((0 : Nat) : Int))), (13, .bool false), (1, pt F.p 0), (0, .bool false)] (by intro δ w; kernel_rfl) ?_
  refine SL_cons ⟨rfl, fun _ => rfl⟩ (O_new (fun b => .pointer (some ⟨b, 0, none⟩)) (.cells #[.int .u64 0, .int .u64 0, .int .i64 0] 42 (0, 0)) (.cells 42 3 [.int .u64 0, .int .u64 0, .int .i64 0]) rfl (by intro δ w; kernel_rfl) ⟨rfl, rfl, rfl, rfl⟩ ?_)
  intro b1 hlb1 hnb1
  refine SL_cons ⟨rfl, fun _ => rfl⟩ (O_store b1 0 (.agg #[.int .u64 18444773748872577031, .int .u64 0, .int .i64 7]) [.int .u64 18444773748872577031, .int .u64 0, .int .i64 7] (fun _ => rfl) (fun _ => rfl) rfl (by kernel_rfl) rfl (by simp only [List.length_cons, List.length_nil]; omega) rfl ?_)
  refine SL_sig ((b1, .cells 42 3 [.int .u64 18444773748872577031, .int .u64 0, .int .i64 7]) :: ((HeapV.ent H2 F) ++ ([]))) rfl ?_
  refine SL_s1 1 5 (.bool true) (by intro δ w; kernel_rfl) ?_
  refine SL_nil (n_then ?_)
  refine SW_seq ?_
  refine SW_region ?_
  refine SL_s2 2 32 (.int .u64 (65530 * 281474976710656 + ((0 : Nat) : Int))) 31 (pt F.p 0) (by intro δ w; kernel_rfl) ?_
  refine SL_perm _ (perm_cc perm_cz) ?_
  refine SL_cons ⟨rfl, fun _ => rfl⟩ (O_call 19 #[pt F.p 0, .int .u64 (65530 * 281474976710656 + ((0 : Nat) : Int))] rfl (by intro δ w; kernel_rfl) ((al_Shape hA2).use _) ?_)
  rintro _ σ6 ⟨_, hσ6, rfl⟩
  obtain rfl : σ6 = ((HeapV.ent H2 F) ++ ((b1, .cells 42 3 [.int .u64 18444773748872577031, .int .u64 0, .int .i64 7]) :: ([]))) := hσ6.trans (rfl)
  refine SL_s5 5 7 (.bool true) 6 (.int .i64 1) 35 (.bool true) 34 (.int .i64 1) 30 (.tuple #[.int .i64 1, .bool true]) (by intro δ w; kernel_rfl) ?_
  refine SL_nil (n_then ?_)
  refine SW_seq ?_
  refine SW_region ?_
  refine SL_s2 2 38 (.int .i64 1) 37 (pt F.p 0) (by intro δ w; kernel_rfl) ?_
  refine SL_cons ⟨rfl, fun _ => rfl⟩ (O_call 28 #[pt F.p 0, .int .i64 1, .string (ByteArray.mk (List.toArray (List.cons 97 List.nil)))] rfl (by intro δ w; kernel_rfl) ((al_Find hA2).use _) ?_)
  rintro _ σ7 ⟨_, hσ7, rfl⟩
  obtain rfl : σ7 = ((HeapV.ent H2 F) ++ ((b1, .cells 42 3 [.int .u64 18444773748872577031, .int .u64 0, .int .i64 7]) :: ([]))) := hσ7.trans (rfl)
  refine SL_segT 7 [(10, .bool true), (9, .int .i64 7), (8, .int .i64 0), (7, .bool true), (6, .int .i64 1), (5, .bool true), (4, pt b1 0), (3, .bool true), (2, .int .u64 (65530 * 281474976710656 + ((0 : Nat) : Int))), (13, .bool false), (1, pt F.p 0), (0, .bool false)] (by intro δ w; kernel_rfl) ?_
  refine SL_nil (n_then ?_)
  refine SW_seq ?_
  refine SW_draw [(b1, 0, .int .u64 18444773748872577031)] [0, 1, 2, 3, 4, 5, 7] (by kernel_rfl) (rd_cons (Cell.own (mem_a mem_z) rfl) rd_nil) ?_
  refine SA_take (li' := #[true, false, false, false, false, false, false, false, false, false, false, false, false, false, false, false, false, false, false, false, false, false, false, false, false, false, false, false, false, false]) 0 _ (.bool true) (fun _ _ _ h => h) rfl (by kernel_rfl) rfl (Or.inl ⟨fun _ => rfl, by intro δ w; kernel_rfl⟩) ?_
  refine SA_take (li' := #[true, true, false, false, false, false, false, false, false, false, false, false, false, false, false, false, false, false, false, false, false, false, false, false, false, false, false, false, false, false]) 1 _ (.bool true) (fun _ _ _ h => h) rfl (by kernel_rfl) rfl (Or.inl ⟨fun _ => rfl, by intro δ w; kernel_rfl⟩) ?_
  refine SA_take (li' := #[true, true, true, false, false, false, false, false, false, false, false, false, false, false, false, false, false, false, false, false, false, false, false, false, false, false, false, false, false, false]) 2 _ (.bool true) (fun _ _ _ h => h) rfl (by kernel_rfl) rfl (Or.inl ⟨fun _ => rfl, by intro δ w; kernel_rfl⟩) ?_
  refine SA_take (li' := #[true, true, true, true, false, false, false, false, false, false, false, false, false, false, false, false, false, false, false, false, false, false, false, false, false, false, false, false, false, false]) 3 _ (.bool true) (fun _ _ _ h => h) rfl (by kernel_rfl) rfl (Or.inl ⟨fun _ => rfl, by intro δ w; kernel_rfl⟩) ?_
  refine SA_take (li' := #[true, true, true, true, true, false, false, false, false, false, false, false, false, false, false, false, false, false, false, false, false, false, false, false, false, false, false, false, false, false]) 4 _ (.bool true) (fun _ _ _ h => h) rfl (by kernel_rfl) rfl (Or.inl ⟨fun _ => rfl, by intro δ w; kernel_rfl⟩) ?_
  refine SA_take (li' := #[true, true, true, true, true, true, false, false, false, false, false, false, false, false, false, false, false, false, false, false, false, false, false, false, false, false, false, false, false, false]) 5 _ (pt b1 0) (fun _ _ _ h => h) rfl (by kernel_rfl) rfl (Or.inl ⟨fun _ => rfl, by intro δ w; kernel_rfl⟩) ?_
  refine SA_read (li' := #[true, true, true, true, true, true, true, false, false, false, false, false, false, false, false, false, false, false, false, false, false, false, false, false, false, false, false, false, false, false]) 6 _ (.int .u64 18444773748872577031) (fun _ _ _ h => h) rfl (by kernel_rfl) rfl (fun _ => rfl) (fun δ w hr => Rd_load b1 0 (.int .u64 18444773748872577031) rfl (by kernel_rfl) List.mem_cons_self hr) ?_
  refine SA_sig ([] ++ ((HeapV.ent H2 F) ++ ((b1, .cells 42 3 [.int .u64 18444773748872577031, .int .u64 0, .int .i64 7]) :: ([])))) rfl ?_
  refine SA_one true (li' := #[true, true, true, true, true, true, true, true, false, false, false, false, false, false, false, false, false, false, false, false, false, false, false, false, false, false, false, false, false, false]) 7 _ rfl rfl (by kernel_rfl) ⟨rfl, fun _ => rfl⟩ rfl (O_call 18 #[.int .i32 7] rfl (by intro δ w; kernel_rfl) ((ref_Int (n := 7)).use _) ?_)
  rintro v10 σ10 ⟨_, hσ10, hv10⟩
  obtain rfl : v10 = .int .u64 18444773748872577031 := hv10.trans (congrArg (Value.int .u64) refInt7)
  obtain rfl : σ10 = ((HeapV.ent H2 F) ++ ((b1, .cells 42 3 [.int .u64 18444773748872577031, .int .u64 0, .int .i64 7]) :: ([]))) := hσ10.trans (rfl)
  refine ⟨fun hnd => (rd_cons (Cell.own (mem_a mem_z) rfl) rd_nil), ?_⟩
  refine SA_take (li' := #[true, true, true, true, true, true, true, true, true, false, false, false, false, false, false, false, false, false, false, false, false, false, false, false, false, false, false, false, false, false]) 8 _ (.bool true) (fun _ _ _ h => h) rfl (by kernel_rfl) rfl (Or.inl ⟨fun _ => rfl, by intro δ w; kernel_rfl⟩) ?_
  refine SA_take (li' := #[true, true, true, true, true, true, true, true, true, true, false, false, false, false, false, false, false, false, false, false, false, false, false, false, false, false, false, false, false, false]) 9 _ (.bool true) (fun _ _ _ h => h) rfl (by kernel_rfl) rfl (Or.inl ⟨fun _ => rfl, by intro δ w; kernel_rfl⟩) ?_
  refine SA_trim [(52, .bool true), (10, .bool true), (9, .int .i64 7), (8, .int .i64 0), (7, .bool true), (6, .int .i64 1), (5, .bool true), (4, pt b1 0), (3, .bool true), (2, .int .u64 (65530 * 281474976710656 + ((0 : Nat) : Int))), (13, .bool false), (1, pt F.p 0), (0, .bool false)] (fun _ => rfl) ?_
  refine SA_take (li' := #[true, true, true, true, true, true, true, true, true, true, true, false, false, false, false, false, false, false, false, false, false, false, false, false, false, false, false, false, false, false]) 10 _ (.bool true) (fun _ _ _ h => h) rfl (by kernel_rfl) rfl (Or.inl ⟨fun _ => rfl, by intro δ w; kernel_rfl⟩) ?_
  refine SA_take (li' := #[true, true, true, true, true, true, true, true, true, true, true, true, false, false, false, false, false, false, false, false, false, false, false, false, false, false, false, false, false, false]) 11 _ (.bool true) (fun _ _ _ h => h) rfl (by kernel_rfl) rfl (Or.inl ⟨fun _ => rfl, by intro δ w; kernel_rfl⟩) ?_
  refine SA_take (li' := #[true, true, true, true, true, true, true, true, true, true, true, true, true, false, false, false, false, false, false, false, false, false, false, false, false, false, false, false, false, false]) 12 _ (.bool true) (fun _ _ _ h => h) rfl (by kernel_rfl) rfl (Or.inl ⟨fun _ => rfl, by intro δ w; kernel_rfl⟩) ?_
  refine SA_take (li' := #[true, true, true, true, true, true, true, true, true, true, true, true, true, true, false, false, false, false, false, false, false, false, false, false, false, false, false, false, false, false]) 13 _ (.bool true) (fun _ _ _ h => h) rfl (by kernel_rfl) rfl (Or.inl ⟨fun _ => rfl, by intro δ w; kernel_rfl⟩) ?_
  refine SA_take (li' := #[true, true, true, true, true, true, true, true, true, true, true, true, true, true, true, false, false, false, false, false, false, false, false, false, false, false, false, false, false, false]) 14 _ (.bool true) (fun _ _ _ h => h) rfl (by kernel_rfl) rfl (Or.inl ⟨fun _ => rfl, by intro δ w; kernel_rfl⟩) ?_
  refine SA_take (li' := #[true, true, true, true, true, true, true, true, true, true, true, true, true, true, true, true, false, false, false, false, false, false, false, false, false, false, false, false, false, false]) 15 _ (.bool true) (fun _ _ _ h => h) rfl (by kernel_rfl) rfl (Or.inl ⟨fun _ => rfl, by intro δ w; kernel_rfl⟩) ?_
  refine SA_take (li' := #[true, true, true, true, true, true, true, true, true, true, true, true, true, true, true, true, true, false, false, false, false, false, false, false, false, false, false, false, false, false]) 16 _ (.bool true) (fun _ _ _ h => h) rfl (by kernel_rfl) rfl (Or.inl ⟨fun _ => rfl, by intro δ w; kernel_rfl⟩) ?_
  refine SA_take (li' := #[true, true, true, true, true, true, true, true, true, true, true, true, true, true, true, true, true, true, false, false, false, false, false, false, false, false, false, false, false, false]) 17 _ (.int .i64 0) (fun _ _ _ h => h) rfl (by kernel_rfl) rfl (Or.inl ⟨fun _ => rfl, by intro δ w; kernel_rfl⟩) ?_
  refine SA_take (li' := #[true, true, true, true, true, true, true, true, true, true, true, true, true, true, true, true, true, true, true, false, false, false, false, false, false, false, false, false, false, false]) 18 _ (.bool true) (fun _ _ _ h => h) rfl (by kernel_rfl) rfl (Or.inl ⟨fun _ => rfl, by intro δ w; kernel_rfl⟩) ?_
  refine SA_trim [(61, .bool true), (59, .bool true), (10, .bool true), (9, .int .i64 7), (8, .int .i64 0), (7, .bool true), (6, .int .i64 1), (5, .bool true), (4, pt b1 0), (3, .bool true), (2, .int .u64 (65530 * 281474976710656 + ((0 : Nat) : Int))), (13, .bool false), (1, pt F.p 0), (0, .bool false)] (fun _ => rfl) ?_
  refine SA_take (li' := #[true, true, true, true, true, true, true, true, true, true, true, true, true, true, true, true, true, true, true, true, false, false, false, false, false, false, false, false, false, false]) 19 _ (.bool true) (fun _ _ _ h => h) rfl (by kernel_rfl) rfl (Or.inl ⟨fun _ => rfl, by intro δ w; kernel_rfl⟩) ?_
  refine SA_take (li' := #[true, true, true, true, true, true, true, true, true, true, true, true, true, true, true, true, true, true, true, true, true, false, false, false, false, false, false, false, false, false]) 20 _ (.bool true) (fun _ _ _ h => h) rfl (by kernel_rfl) rfl (Or.inl ⟨fun _ => rfl, by intro δ w; kernel_rfl⟩) ?_
  refine SA_take (li' := #[true, true, true, true, true, true, true, true, true, true, true, true, true, true, true, true, true, true, true, true, true, true, false, false, false, false, false, false, false, false]) 21 _ (.int .i64 7) (fun _ _ _ h => h) rfl (by kernel_rfl) rfl (Or.inl ⟨fun _ => rfl, by intro δ w; kernel_rfl⟩) ?_
  refine SA_take (li' := #[true, true, true, true, true, true, true, true, true, true, true, true, true, true, true, true, true, true, true, true, true, true, true, false, false, false, false, false, false, false]) 22 _ (.bool true) (fun _ _ _ h => h) rfl (by kernel_rfl) rfl (Or.inl ⟨fun _ => rfl, by intro δ w; kernel_rfl⟩) ?_
  refine SA_take (li' := #[true, true, true, true, true, true, true, true, true, true, true, true, true, true, true, true, true, true, true, true, true, true, true, true, false, false, false, false, false, false]) 23 _ (.bool true) (fun _ _ _ h => h) rfl (by kernel_rfl) rfl (Or.inl ⟨fun _ => rfl, by intro δ w; kernel_rfl⟩) ?_
  refine SA_take (li' := #[true, true, true, true, true, true, true, true, true, true, true, true, true, true, true, true, true, true, true, true, true, true, true, true, true, false, false, false, false, false]) 24 _ (.bool true) (fun _ _ _ h => h) rfl (by kernel_rfl) rfl (Or.inl ⟨fun _ => rfl, by intro δ w; kernel_rfl⟩) ?_
  refine SA_take (li' := #[true, true, true, true, true, true, true, true, true, true, true, true, true, true, true, true, true, true, true, true, true, true, true, true, true, true, false, false, false, false]) 25 _ (pt F.p 0) (fun _ _ _ h => h) rfl (by kernel_rfl) rfl (Or.inl ⟨fun _ => rfl, by intro δ w; kernel_rfl⟩) ?_
  refine SA_one false (li' := #[true, true, true, true, true, true, true, true, true, true, true, true, true, true, true, true, true, true, true, true, true, true, true, true, true, true, true, false, false, false]) 26 _ rfl rfl (by kernel_rfl) ⟨rfl, fun _ => rfl⟩ rfl (O_call 37 #[pt F.p 0] rfl (by intro δ w; kernel_rfl) ((al_Objects hA2).use _) ?_)
  rintro _ σ11 ⟨_, hσ11, rfl⟩
  obtain rfl : σ11 = ((HeapV.ent H2 F) ++ ((b1, .cells 42 3 [.int .u64 18444773748872577031, .int .u64 0, .int .i64 7]) :: ([]))) := hσ11.trans (rfl)
  refine ⟨fun hnd => (by cases hnd), ?_⟩
  refine SA_trim [(69, .int .i64 1), (67, .bool true), (10, .bool true), (9, .int .i64 7), (8, .int .i64 0), (7, .bool true), (6, .int .i64 1), (5, .bool true), (4, pt b1 0), (3, .bool true), (2, .int .u64 (65530 * 281474976710656 + ((0 : Nat) : Int))), (13, .bool false), (1, pt F.p 0), (0, .bool false)] (fun _ => rfl) ?_
  refine SA_take (li' := #[true, true, true, true, true, true, true, true, true, true, true, true, true, true, true, true, true, true, true, true, true, true, true, true, true, true, true, true, false, false]) 27 _ (.bool true) (fun _ _ _ h => h) rfl (by kernel_rfl) rfl (Or.inl ⟨fun _ => rfl, by intro δ w; kernel_rfl⟩) ?_
  refine SA_take (li' := #[true, true, true, true, true, true, true, true, true, true, true, true, true, true, true, true, true, true, true, true, true, true, true, true, true, true, true, true, true, false]) 28 _ (.bool true) (fun _ _ _ h => h) rfl (by kernel_rfl) rfl (Or.inl ⟨fun _ => rfl, by intro δ w; kernel_rfl⟩) ?_
  refine SA_take (li' := #[true, true, true, true, true, true, true, true, true, true, true, true, true, true, true, true, true, true, true, true, true, true, true, true, true, true, true, true, true, true]) 29 _ (.bool true) (fun _ _ _ h => h) rfl (by kernel_rfl) rfl (Or.inl ⟨fun _ => rfl, by intro δ w; kernel_rfl⟩) ?_
  refine SA_trim [(0, .bool true), (10, .bool true), (9, .int .i64 7), (8, .int .i64 0), (7, .bool true), (6, .int .i64 1), (5, .bool true), (4, pt b1 0), (3, .bool true), (2, .int .u64 (65530 * 281474976710656 + ((0 : Nat) : Int))), (13, .bool false), (1, pt F.p 0)] (fun _ => rfl) ?_
  refine SA_done (by kernel_rfl) (n_then ?_)
  refine SW_ret ?_
  refine body_end (.bool true) (fun _ => rfl) ?_
  exact ⟨(), ⟨_, List.Perm.refl _⟩, rfl⟩

end Go.Proofs.Ytdfhbheipagnmaa
