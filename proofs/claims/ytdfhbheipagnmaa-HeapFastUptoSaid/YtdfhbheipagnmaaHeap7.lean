/-
  What functions of heap and word do to the memory they own, step by step: each theorem is one function's contract. Conditions: those that each theorem names.
-/
import Derived.Test.YtdfhbheipagnmaaHeap4
import Derived.Test.YtdfhbheipagnmaaHeap6
set_option linter.unusedVariables false
set_option linter.unusedSimpArgs false
set_option maxRecDepth 100000
set_option maxHeartbeats 4000000
namespace Go.Proofs.Ytdfhbheipagnmaa
open Go.Sl

theorem heap_Text_old {W0 : World} {F : HeapF} {H : HeapV} (hH : H.ok F) {key : ByteArray} {w : Int} (hm : mget H.known key = some w) : SC Try.prog W0 15 #[.pointer (some ⟨F.p, 0, none⟩), .string key] (HeapV.ent H F) (Ret (fun _ : Unit => H.ent F) (fun v _ => v = .tuple #[.int .u64 w, .bool true])) := by
  refine SC_body (fn := Try.f15) (n := 54) Try.func15 rfl (by kernel_rfl) (ρ := [(0, pt F.p 0), (1, .string key)]) rfl ?_
  refine SW_sig ((F.p, .cells 83 6 [Gs.val H.s H.objs.length, Gs.val H.ts H.texts.length, .map (some F.kb), pt F.T.p 0, pt F.cp 0, .int .i64 H.br]) :: ((Gs.ent 89 9 H.s (H.objs.flatMap ObjL.cells)) ++ ((H.objs.flatMap ObjL.ent) ++ ((Gs.ent 9 1 H.ts (H.texts.map encS)) ++ ((F.kb, .map (kvs encS encU H.known)) :: ((TreeV.ent H.V F.T) ++ ((CellsL.ent (CellsL.mk F.cp H.cs H.cl)) ++ ([])))))))) rfl ?_
  have htx := hH.texts
  refine SW_seq ?_
  refine SW_region ?_
  refine SL_s2 2 5 (.bool false) 4 (.int .u64 0) (by intro δ w; kernel_rfl) ?_
  refine SL_nil (n_then ?_)
  refine SW_seq ?_
  refine SW_region ?_
  refine SL_s3 3 11 (pt F.p 2) 10 (pt F.p 0) 9 (pt F.p 0) (by intro δ w; kernel_rfl) ?_
  refine SL_cons ⟨rfl, fun _ => rfl⟩ (O_load F.p 2 (.map (some F.kb)) (fun _ => rfl) (by kernel_rfl) (Cell.own mem_z rfl) rfl ?_)
  refine SL_s1 1 13 (.string key) (by intro δ w; kernel_rfl) ?_
  refine SL_cons ⟨rfl, fun _ => rfl⟩ (O_lookup2 lawK (e := 24) (m := H.known) key (z := .int .u64 0) (by kernel_rfl) (by kernel_rfl) (mem_c (mem_a (mem_a (mem_a mem_z)))) (fun _ => rfl) (fun _ => rfl) (.int .u64 w) true (by rw [hm]) (by rw [hm]; rfl) rfl ?_)
  refine SL_s5 5 7 (.bool true) 6 (.int .u64 w) 16 (.bool true) 15 (.int .u64 w) 8 (.tuple #[.int .u64 w, .bool true]) (by intro δ w; kernel_rfl) ?_
  refine SL_nil (n_then ?_)
  refine SW_seq ?_
  refine SW_seq ?_
  refine SW_region ?_
  refine SL_s1 1 17 (.bool true) (by intro δ w; kernel_rfl) ?_
  refine SL_nil (n_then ?_)
  refine SW_true (fun _ => rfl) ?_
  refine SW_seq ?_
  refine SW_region ?_
  refine SL_segT 3 [(5, .bool true), (4, .int .u64 w), (17, .bool true), (7, .bool true), (6, .int .u64 w), (0, pt F.p 0), (1, .string key)] (by intro δ w; kernel_rfl) ?_
  refine SL_nil (n_then ?_)
  refine SW_ret (r_then ?_)
  refine body_end (.tuple #[.int .u64 w, .bool true]) (fun _ => rfl) ?_
  exact ⟨(), (Own.of_perm (S := ((F.p, .cells 83 6 [Gs.val H.s H.objs.length, Gs.val H.ts H.texts.length, .map (some F.kb), pt F.T.p 0, pt F.cp 0, .int .i64 H.br]) :: ((Gs.ent 89 9 H.s (H.objs.flatMap ObjL.cells)) ++ ((H.objs.flatMap ObjL.ent) ++ ((Gs.ent 9 1 H.ts (H.texts.map encS)) ++ ((F.kb, .map (kvs encS encU H.known)) :: ((TreeV.ent H.V F.T) ++ ((CellsL.ent (CellsL.mk F.cp H.cs H.cl)) ++ ([]))))))))) (List.Perm.refl _)), rfl⟩

theorem heap_Text_no {W0 : World} {F : HeapF} {H : HeapV} (hH : H.ok F) {key : ByteArray} (hm : mget H.known key = none) (hbig : 4096 < key.size ∨ 16384 ≤ H.texts.length) : SC Try.prog W0 15 #[.pointer (some ⟨F.p, 0, none⟩), .string key] (HeapV.ent H F) (Ret (fun _ : Unit => H.ent F) (fun v _ => v = .tuple #[.int .u64 18445336698825998336, .bool false])) := by
  refine SC_body (fn := Try.f15) (n := 54) Try.func15 rfl (by kernel_rfl) (ρ := [(0, pt F.p 0), (1, .string key)]) rfl ?_
  refine SW_sig ((F.p, .cells 83 6 [Gs.val H.s H.objs.length, Gs.val H.ts H.texts.length, .map (some F.kb), pt F.T.p 0, pt F.cp 0, .int .i64 H.br]) :: ((Gs.ent 89 9 H.s (H.objs.flatMap ObjL.cells)) ++ ((H.objs.flatMap ObjL.ent) ++ ((Gs.ent 9 1 H.ts (H.texts.map encS)) ++ ((F.kb, .map (kvs encS encU H.known)) :: ((TreeV.ent H.V F.T) ++ ((CellsL.ent (CellsL.mk F.cp H.cs H.cl)) ++ ([])))))))) rfl ?_
  have htx := hH.texts
  refine SW_seq ?_
  refine SW_region ?_
  refine SL_s2 2 5 (.bool false) 4 (.int .u64 0) (by intro δ w; kernel_rfl) ?_
  refine SL_nil (n_then ?_)
  refine SW_seq ?_
  refine SW_region ?_
  refine SL_s3 3 11 (pt F.p 2) 10 (pt F.p 0) 9 (pt F.p 0) (by intro δ w; kernel_rfl) ?_
  refine SL_cons ⟨rfl, fun _ => rfl⟩ (O_load F.p 2 (.map (some F.kb)) (fun _ => rfl) (by kernel_rfl) (Cell.own mem_z rfl) rfl ?_)
  refine SL_s1 1 13 (.string key) (by intro δ w; kernel_rfl) ?_
  refine SL_cons ⟨rfl, fun _ => rfl⟩ (O_lookup2 lawK (e := 24) (m := H.known) key (z := .int .u64 0) (by kernel_rfl) (by kernel_rfl) (mem_c (mem_a (mem_a (mem_a mem_z)))) (fun _ => rfl) (fun _ => rfl) (.int .u64 0) false (by rw [hm]) (by rw [hm]; rfl) rfl ?_)
  refine SL_s5 5 7 (.bool false) 6 (.int .u64 0) 16 (.bool false) 15 (.int .u64 0) 8 (.tuple #[.int .u64 0, .bool false]) (by intro δ w; kernel_rfl) ?_
  refine SL_nil (n_then ?_)
  refine SW_seq ?_
  refine SW_seq ?_
  refine SW_region ?_
  refine SL_s1 1 17 (.bool false) (by intro δ w; kernel_rfl) ?_
  refine SL_nil (n_then ?_)
  refine SW_false (fun _ => rfl) ?_
  refine SW_skip (n_then ?_)
  refine SW_seq ?_
  refine SW_seq ?_
  refine SW_region ?_
  refine SL_s4 4 22 (.bool (decide ((key.size : Int) > 4096))) 21 (.bool (decide ((key.size : Int) > 4096))) 20 (.int .i64 (key.size : Int)) 19 (.string key) (by intro δ w; kernel_rfl) ?_
  refine SL_tb (decide ((key.size : Int) > 4096)) (fun tb_ => [(22, .bool tb_), (21, .bool tb_), (20, .int .i64 (key.size : Int)), (19, .string key), (17, .bool false), (7, .bool false), (6, .int .u64 0), (16, .bool false), (15, .int .u64 0), (8, .tuple #[.int .u64 0, .bool false]), (14, .tuple #[.int .u64 0, .bool false]), (13, .string key), (12, .map (some F.kb)), (11, pt F.p 2), (10, pt F.p 0), (9, pt F.p 0), (5, .bool false), (4, .int .u64 0), (0, pt F.p 0), (1, .string key)]) (fun hg1 => ?_) (fun hg1 => ?_)
  · skip
    replace hg1 := of_decide_eq_true hg1
    refine SL_segT 7 [(29, .bool true), (17, .bool false), (7, .bool false), (6, .int .u64 0), (5, .bool false), (4, .int .u64 0), (0, pt F.p 0), (1, .string key)] (by intro δ w; kernel_rfl) ?_
    refine SL_nil (n_then ?_)
    refine SW_true (fun _ => rfl) ?_
    refine SW_seq ?_
    refine SW_region ?_
    refine SL_segT 2 [(5, .bool false), (4, .int .u64 18445336698825998336), (29, .bool true), (17, .bool false), (7, .bool false), (6, .int .u64 0), (0, pt F.p 0), (1, .string key)] (by intro δ w; kernel_rfl) ?_
    refine SL_nil (n_then ?_)
    refine SW_ret (r_then ?_)
    refine body_end (.tuple #[.int .u64 18445336698825998336, .bool false]) (fun _ => rfl) ?_
    exact ⟨(), (Own.of_perm (S := ((F.p, .cells 83 6 [Gs.val H.s H.objs.length, Gs.val H.ts H.texts.length, .map (some F.kb), pt F.T.p 0, pt F.cp 0, .int .i64 H.br]) :: ((Gs.ent 89 9 H.s (H.objs.flatMap ObjL.cells)) ++ ((H.objs.flatMap ObjL.ent) ++ ((Gs.ent 9 1 H.ts (H.texts.map encS)) ++ ((F.kb, .map (kvs encS encU H.known)) :: ((TreeV.ent H.V F.T) ++ ((CellsL.ent (CellsL.mk F.cp H.cs H.cl)) ++ ([]))))))))) (List.Perm.refl _)), rfl⟩
  · skip
    replace hg1 := of_decide_eq_false hg1
    refine SL_segT 3 [(25, pt F.p 1), (22, .bool false), (17, .bool false), (7, .bool false), (6, .int .u64 0), (5, .bool false), (4, .int .u64 0), (0, pt F.p 0), (1, .string key)] (by intro δ w; kernel_rfl) ?_
    refine SL_cons ⟨rfl, fun _ => rfl⟩ (O_load F.p 1 (Gs.val H.ts H.texts.length) (fun _ => rfl) (by kernel_rfl) (Cell.own mem_z rfl) rfl ?_)
    refine SL_s3 3 29 (.bool (decide ((H.texts.length : Int) ≥ 16384))) 28 (.bool (decide ((H.texts.length : Int) ≥ 16384))) 27 (.int .i64 (H.texts.length : Int)) (by intro δ w; kernel_rfl) ?_
    refine SL_nil (n_then ?_)
    refine SW_cond (decide ((H.texts.length : Int) ≥ 16384)) (fun _ => rfl) (fun hc2 => ?_) (fun hc2 => ?_)
    · skip
      replace hc2 := of_decide_eq_true hc2
      refine SW_seq ?_
      refine SW_region ?_
      refine SL_segT 2 [(5, .bool false), (4, .int .u64 18445336698825998336), (29, .bool (decide ((H.texts.length : Int) ≥ 16384))), (17, .bool false), (7, .bool false), (6, .int .u64 0), (0, pt F.p 0), (1, .string key)] (by intro δ w; kernel_rfl) ?_
      refine SL_nil (n_then ?_)
      refine SW_ret (r_then ?_)
      refine body_end (.tuple #[.int .u64 18445336698825998336, .bool false]) (fun _ => rfl) ?_
      exact ⟨(), (Own.of_perm (S := ((F.p, .cells 83 6 [Gs.val H.s H.objs.length, Gs.val H.ts H.texts.length, .map (some F.kb), pt F.T.p 0, pt F.cp 0, .int .i64 H.br]) :: ((Gs.ent 89 9 H.s (H.objs.flatMap ObjL.cells)) ++ ((H.objs.flatMap ObjL.ent) ++ ((Gs.ent 9 1 H.ts (H.texts.map encS)) ++ ((F.kb, .map (kvs encS encU H.known)) :: ((TreeV.ent H.V F.T) ++ ((CellsL.ent (CellsL.mk F.cp H.cs H.cl)) ++ ([]))))))))) (List.Perm.refl _)), rfl⟩
    · skip
      replace hc2 := of_decide_eq_false hc2
      exact absurd hbig (by omega)

theorem heap_Text_new {W0 : World} {F : HeapF} {H : HeapV} (hH : H.ok F) {key : ByteArray} (hm : mget H.known key = none) (hsm : key.size ≤ 4096 ∧ H.texts.length < 16384) : SC Try.prog W0 15 #[.pointer (some ⟨F.p, 0, none⟩), .string key] (HeapV.ent H F) (Ret (fun g : Gs => (H.text g key).ent F) (fun v g => v = .tuple #[.int .u64 (65532 * 281474976710656 + (H.texts.length : Int)), .bool true] ∧ g.ok 1 (H.texts ++ [key]).length ((H.texts ++ [key]).map encS))) := by
  refine SC_body (fn := Try.f15) (n := 54) Try.func15 rfl (by kernel_rfl) (ρ := [(0, pt F.p 0), (1, .string key)]) rfl ?_
  refine SW_sig ((F.p, .cells 83 6 [Gs.val H.s H.objs.length, Gs.val H.ts H.texts.length, .map (some F.kb), pt F.T.p 0, pt F.cp 0, .int .i64 H.br]) :: ((Gs.ent 89 9 H.s (H.objs.flatMap ObjL.cells)) ++ ((H.objs.flatMap ObjL.ent) ++ ((Gs.ent 9 1 H.ts (H.texts.map encS)) ++ ((F.kb, .map (kvs encS encU H.known)) :: ((TreeV.ent H.V F.T) ++ ((CellsL.ent (CellsL.mk F.cp H.cs H.cl)) ++ ([])))))))) rfl ?_
  have htx := hH.texts
  refine SW_seq ?_
  refine SW_region ?_
  refine SL_s2 2 5 (.bool false) 4 (.int .u64 0) (by intro δ w; kernel_rfl) ?_
  refine SL_nil (n_then ?_)
  refine SW_seq ?_
  refine SW_region ?_
  refine SL_s3 3 11 (pt F.p 2) 10 (pt F.p 0) 9 (pt F.p 0) (by intro δ w; kernel_rfl) ?_
  refine SL_cons ⟨rfl, fun _ => rfl⟩ (O_load F.p 2 (.map (some F.kb)) (fun _ => rfl) (by kernel_rfl) (Cell.own mem_z rfl) rfl ?_)
  refine SL_s1 1 13 (.string key) (by intro δ w; kernel_rfl) ?_
  refine SL_cons ⟨rfl, fun _ => rfl⟩ (O_lookup2 lawK (e := 24) (m := H.known) key (z := .int .u64 0) (by kernel_rfl) (by kernel_rfl) (mem_c (mem_a (mem_a (mem_a mem_z)))) (fun _ => rfl) (fun _ => rfl) (.int .u64 0) false (by rw [hm]) (by rw [hm]; rfl) rfl ?_)
  refine SL_s5 5 7 (.bool false) 6 (.int .u64 0) 16 (.bool false) 15 (.int .u64 0) 8 (.tuple #[.int .u64 0, .bool false]) (by intro δ w; kernel_rfl) ?_
  refine SL_nil (n_then ?_)
  refine SW_seq ?_
  refine SW_seq ?_
  refine SW_region ?_
  refine SL_s1 1 17 (.bool false) (by intro δ w; kernel_rfl) ?_
  refine SL_nil (n_then ?_)
  refine SW_false (fun _ => rfl) ?_
  refine SW_skip (n_then ?_)
  refine SW_seq ?_
  refine SW_seq ?_
  refine SW_region ?_
  refine SL_s4 4 22 (.bool (decide ((key.size : Int) > 4096))) 21 (.bool (decide ((key.size : Int) > 4096))) 20 (.int .i64 (key.size : Int)) 19 (.string key) (by intro δ w; kernel_rfl) ?_
  refine SL_tb (decide ((key.size : Int) > 4096)) (fun tb_ => [(22, .bool tb_), (21, .bool tb_), (20, .int .i64 (key.size : Int)), (19, .string key), (17, .bool false), (7, .bool false), (6, .int .u64 0), (16, .bool false), (15, .int .u64 0), (8, .tuple #[.int .u64 0, .bool false]), (14, .tuple #[.int .u64 0, .bool false]), (13, .string key), (12, .map (some F.kb)), (11, pt F.p 2), (10, pt F.p 0), (9, pt F.p 0), (5, .bool false), (4, .int .u64 0), (0, pt F.p 0), (1, .string key)]) (fun hg1 => ?_) (fun hg1 => ?_)
  · skip
    replace hg1 := of_decide_eq_true hg1
    refine SL_segT 7 [(29, .bool true), (17, .bool false), (7, .bool false), (6, .int .u64 0), (5, .bool false), (4, .int .u64 0), (0, pt F.p 0), (1, .string key)] (by intro δ w; kernel_rfl) ?_
    refine SL_nil (n_then ?_)
    refine SW_true (fun _ => rfl) ?_
    refine SW_seq ?_
    refine SW_region ?_
    refine SL_segT 2 [(5, .bool false), (4, .int .u64 18445336698825998336), (29, .bool true), (17, .bool false), (7, .bool false), (6, .int .u64 0), (0, pt F.p 0), (1, .string key)] (by intro δ w; kernel_rfl) ?_
    refine SL_nil (n_then ?_)
    refine SW_ret (r_then ?_)
    refine body_end (.tuple #[.int .u64 18445336698825998336, .bool false]) (fun _ => rfl) ?_
    exact absurd hsm (by omega)
  · skip
    replace hg1 := of_decide_eq_false hg1
    refine SL_segT 3 [(25, pt F.p 1), (22, .bool false), (17, .bool false), (7, .bool false), (6, .int .u64 0), (5, .bool false), (4, .int .u64 0), (0, pt F.p 0), (1, .string key)] (by intro δ w; kernel_rfl) ?_
    refine SL_cons ⟨rfl, fun _ => rfl⟩ (O_load F.p 1 (Gs.val H.ts H.texts.length) (fun _ => rfl) (by kernel_rfl) (Cell.own mem_z rfl) rfl ?_)
    refine SL_s3 3 29 (.bool (decide ((H.texts.length : Int) ≥ 16384))) 28 (.bool (decide ((H.texts.length : Int) ≥ 16384))) 27 (.int .i64 (H.texts.length : Int)) (by intro δ w; kernel_rfl) ?_
    refine SL_nil (n_then ?_)
    refine SW_cond (decide ((H.texts.length : Int) ≥ 16384)) (fun _ => rfl) (fun hc2 => ?_) (fun hc2 => ?_)
    · skip
      replace hc2 := of_decide_eq_true hc2
      exact absurd hsm (by omega)
    · skip
      replace hc2 := of_decide_eq_false hc2
      refine SW_skip (n_then ?_)
      refine SW_seq ?_
      refine SW_region ?_
      refine SL_s3 3 32 (pt F.p 1) 31 (pt F.p 0) 30 (pt F.p 0) (by intro δ w; kernel_rfl) ?_
      refine SL_cons ⟨rfl, fun _ => rfl⟩ (O_load F.p 1 (Gs.val H.ts H.texts.length) (fun _ => rfl) (by kernel_rfl) (Cell.own mem_z rfl) rfl ?_)
      refine SL_s2 2 35 (.int .u32 (IntKind.wrap .u32 ((H.texts.length : Int)))) 34 (.int .i64 (H.texts.length : Int)) (by intro δ w; kernel_rfl) ?_
      rw [show IntKind.wrap .u32 ((H.texts.length : Int)) = (H.texts.length : Int) from IntWalk.u32_in _ (by omega)]
      refine SL_sig ([] ++ ((F.p, .cells 83 6 [Gs.val H.s H.objs.length, Gs.val H.ts H.texts.length, .map (some F.kb), pt F.T.p 0, pt F.cp 0, .int .i64 H.br]) :: ((Gs.ent 89 9 H.s (H.objs.flatMap ObjL.cells)) ++ ((H.objs.flatMap ObjL.ent) ++ ((Gs.ent 9 1 H.ts (H.texts.map encS)) ++ ((F.kb, .map (kvs encS encU H.known)) :: ((TreeV.ent H.V F.T) ++ ((CellsL.ent (CellsL.mk F.cp H.cs H.cl)) ++ ([]))))))))) rfl ?_
      refine SL_cons ⟨rfl, fun _ => rfl⟩ (O_call 42 #[.int .u32 (H.texts.length : Int)] rfl (by intro δ w; kernel_rfl) ((word_Text (n := (H.texts.length : Int)) (by omega)).use _) ?_)
      rintro _ σ1 ⟨_, hσ1, rfl⟩
      obtain rfl : σ1 = ((F.p, .cells 83 6 [Gs.val H.s H.objs.length, Gs.val H.ts H.texts.length, .map (some F.kb), pt F.T.p 0, pt F.cp 0, .int .i64 H.br]) :: ((Gs.ent 89 9 H.s (H.objs.flatMap ObjL.cells)) ++ ((H.objs.flatMap ObjL.ent) ++ ((Gs.ent 9 1 H.ts (H.texts.map encS)) ++ ((F.kb, .map (kvs encS encU H.known)) :: ((TreeV.ent H.V F.T) ++ ((CellsL.ent (CellsL.mk F.cp H.cs H.cl)) ++ ([])))))))) := hσ1.trans (rfl)
      refine SL_segT 1 [(6, .int .u64 (65532 * 281474976710656 + (H.texts.length : Int))), (29, .bool (decide ((H.texts.length : Int) ≥ 16384))), (17, .bool false), (7, .bool false), (5, .bool false), (4, .int .u64 0), (0, pt F.p 0), (1, .string key)] (by intro δ w; kernel_rfl) ?_
      refine SL_nil (n_then ?_)
      refine SW_seq ?_
      refine SW_region ?_
      refine SL_s4 4 40 (pt F.p 1) 39 (pt F.p 0) 38 (pt F.p 0) 37 (pt F.p 0) (by intro δ w; kernel_rfl) ?_
      refine SL_cons ⟨rfl, fun _ => rfl⟩ (O_load F.p 1 (Gs.val H.ts H.texts.length) (fun _ => rfl) (by kernel_rfl) (Cell.own mem_z rfl) rfl ?_)
      refine SL_s1 1 42 (.string key) (by intro δ w; kernel_rfl) ?_
      refine SL_cons ⟨rfl, fun _ => rfl⟩ (O_new (fun b => .slice (some ⟨b, 0, none⟩) 1 1) (.cells #[.string key] 9 (0, 0)) (.cells 9 1 [.string key]) rfl (by intro δ w; kernel_rfl) ⟨rfl, rfl, rfl, rfl⟩ ?_)
      intro b3 hlb3 hnb3
      refine SL_perm _ (perm_cc (perm_cc (perm_ca (perm_ca perm_cz)))) ?_
      refine SL_cons ⟨rfl, fun _ => rfl⟩ (O_append (size := 1) (bytes := 16) (z := .string ByteArray.empty) H.ts H.texts.length 1 (some ⟨b3, 0, none⟩) 1 (H.texts.map encS) ([.string key]) ((H.texts ++ [key]).map encS) (map_snoc _ key rfl) (fun _ => rfl) (fun _ => rfl) Try.underlying34 (by kernel_rfl) rfl (by decide) hH.ts rfl (.inr ⟨b3, 0, rfl, Cells.own (mem_a mem_z) rfl⟩) rfl (by omega) (by decide) rfl ?_)
      intro s4 hks4 hfs4
      rw [show H.texts.length + 1 = (H.texts ++ [key]).length from by simp]
      rw [show H.texts.length + 1 = (H.texts ++ [key]).length from by simp] at hks4
      have hls4 : (H.texts ++ [key]).length = H.texts.length + 1 := by simp
      refine SL_s2 2 46 (pt F.p 1) 45 (pt F.p 0) (by intro δ w; kernel_rfl) ?_
      refine SL_perm _ (perm_a (perm_c perm_z)) ?_
      refine SL_cons ⟨rfl, fun _ => rfl⟩ (O_store F.p 1 (Gs.val s4 ((H.texts ++ [key]).length)) [Gs.val s4 ((H.texts ++ [key]).length)] (fun _ => rfl) (fun _ => rfl) rfl (by kernel_rfl) rfl (by simp only [List.length_cons, List.length_nil]; omega) rfl ?_)
      refine SL_sig ((F.p, .cells 83 6 [Gs.val H.s H.objs.length, Gs.val s4 ((H.texts ++ [key]).length), .map (some F.kb), pt F.T.p 0, pt F.cp 0, .int .i64 H.br]) :: ((Gs.ent 9 1 s4 ((H.texts ++ [key]).map encS)) ++ ((b3, .cells 9 1 [.string key]) :: ((Gs.ent 89 9 H.s (H.objs.flatMap ObjL.cells)) ++ ((H.objs.flatMap ObjL.ent) ++ ((F.kb, .map (kvs encS encU H.known)) :: ((TreeV.ent H.V F.T) ++ ((CellsL.ent (CellsL.mk F.cp H.cs H.cl)) ++ ([]))))))))) rfl ?_
      refine SL_nil (n_then ?_)
      refine SW_seq ?_
      refine SW_region ?_
      refine SL_s3 3 49 (pt F.p 2) 48 (pt F.p 0) 47 (pt F.p 0) (by intro δ w; kernel_rfl) ?_
      refine SL_cons ⟨rfl, fun _ => rfl⟩ (O_load F.p 2 (.map (some F.kb)) (fun _ => rfl) (by kernel_rfl) (Cell.own mem_z rfl) rfl ?_)
      refine SL_segT 2 [(52, .int .u64 (65532 * 281474976710656 + (H.texts.length : Int))), (51, .string key), (50, .map (some F.kb)), (6, .int .u64 (65532 * 281474976710656 + (H.texts.length : Int))), (29, .bool (decide ((H.texts.length : Int) ≥ 16384))), (17, .bool false), (7, .bool false), (5, .bool false), (4, .int .u64 0), (0, pt F.p 0), (1, .string key)] (by intro δ w; kernel_rfl) ?_
      refine SL_perm _ (perm_c (perm_a (perm_c (perm_a (perm_a perm_z))))) ?_
      refine SL_cons ⟨rfl, fun _ => rfl⟩ (O_mapUpdate lawK (e := 24) (m := H.known) key (65532 * 281474976710656 + (H.texts.length : Int)) (by kernel_rfl) (fun _ => rfl) (fun _ => rfl) (fun _ => rfl) rfl ?_)
      refine SL_nil (n_then ?_)
      refine SW_seq ?_
      refine SW_region ?_
      refine SL_segT 3 [(5, .bool true), (4, .int .u64 (65532 * 281474976710656 + (H.texts.length : Int))), (6, .int .u64 (65532 * 281474976710656 + (H.texts.length : Int))), (29, .bool (decide ((H.texts.length : Int) ≥ 16384))), (17, .bool false), (7, .bool false), (0, pt F.p 0), (1, .string key)] (by intro δ w; kernel_rfl) ?_
      refine SL_nil (n_then ?_)
      refine SW_ret ?_
      refine body_end (.tuple #[.int .u64 (65532 * 281474976710656 + (H.texts.length : Int)), .bool true]) (fun _ => rfl) ?_
      exact ⟨s4, (own_mk (S := ((F.p, .cells 83 6 [Gs.val H.s H.objs.length, Gs.val s4 ((H.texts ++ [key]).length), .map (some F.kb), pt F.T.p 0, pt F.cp 0, .int .i64 H.br]) :: ((Gs.ent 89 9 H.s (H.objs.flatMap ObjL.cells)) ++ ((H.objs.flatMap ObjL.ent) ++ ((Gs.ent 9 1 s4 ((H.texts ++ [key]).map encS)) ++ ((F.kb, .map (kvs encS encU (mset H.known key (65532 * 281474976710656 + (H.texts.length : Int))))) :: ((TreeV.ent H.V F.T) ++ ((CellsL.ent (CellsL.mk F.cp H.cs H.cl)) ++ ([]))))))))) (J := ((b3, .cells 9 1 [.string key]) :: ([]))) (List.Perm.trans (perm_c perm_z) (List.Perm.cons _ (List.Perm.trans (perm_cc (perm_ca (perm_cc perm_cz))) (List.Perm.append_left _ (List.Perm.trans (perm_cc (perm_ca (perm_cc perm_cz))) (List.Perm.append_left _ (List.Perm.trans (perm_cc perm_cz) (List.Perm.append_left _ (List.Perm.trans perm_z (List.Perm.cons _ (List.Perm.trans (perm_cc perm_cz) (List.Perm.append_left _ (List.Perm.trans (perm_cc perm_cz) (List.Perm.append_left _ (List.Perm.refl _))))))))))))))) (by simp only [List.cons_append, List.append_assoc, List.nil_append, List.append_nil])), rfl, hks4⟩

theorem heap_TextOf {W0 : World} {F : HeapF} {H : HeapV} (hH : H.ok F) (w : Int) : SC Try.prog W0 16 #[.pointer (some ⟨F.p, 0, none⟩), .int .u64 w] (HeapV.ent H F) (Ret (fun _ : Unit => H.ent F) (fun v _ => v = textR (textO H.texts w))) := by
  refine SC_body (fn := Try.f16) (n := 32) Try.func16 rfl (by kernel_rfl) (ρ := [(0, pt F.p 0), (1, .int .u64 w)]) rfl ?_
  refine SW_sig ((F.p, .cells 83 6 [Gs.val H.s H.objs.length, Gs.val H.ts H.texts.length, .map (some F.kb), pt F.T.p 0, pt F.cp 0, .int .i64 H.br]) :: ((Gs.ent 89 9 H.s (H.objs.flatMap ObjL.cells)) ++ ((H.objs.flatMap ObjL.ent) ++ ((Gs.ent 9 1 H.ts (H.texts.map encS)) ++ ((F.kb, .map (kvs encS encU H.known)) :: ((TreeV.ent H.V F.T) ++ ((CellsL.ent (CellsL.mk F.cp H.cs H.cl)) ++ ([])))))))) rfl ?_
  have htx := hH.texts
  refine SW_seq ?_
  refine SW_region ?_
  refine SL_s2 2 5 (.bool false) 4 (.string (ByteArray.mk (List.toArray List.nil))) (by intro δ w; kernel_rfl) ?_
  refine SL_nil (n_then ?_)
  refine SW_seq ?_
  refine SW_region ?_
  refine SL_s1 1 9 (.int .u64 w) (by intro δ w; kernel_rfl) ?_
  rcases hm1 : tagOf w 65532 with _ | m1
  · skip
    refine SL_sig ([] ++ ((F.p, .cells 83 6 [Gs.val H.s H.objs.length, Gs.val H.ts H.texts.length, .map (some F.kb), pt F.T.p 0, pt F.cp 0, .int .i64 H.br]) :: ((Gs.ent 89 9 H.s (H.objs.flatMap ObjL.cells)) ++ ((H.objs.flatMap ObjL.ent) ++ ((Gs.ent 9 1 H.ts (H.texts.map encS)) ++ ((F.kb, .map (kvs encS encU H.known)) :: ((TreeV.ent H.V F.T) ++ ((CellsL.ent (CellsL.mk F.cp H.cs H.cl)) ++ ([]))))))))) rfl ?_
    refine SL_cons ⟨rfl, fun _ => rfl⟩ (O_call 43 #[.int .u64 w] rfl (by intro δ w; kernel_rfl) ((word_IsText (w := w)).use _) ?_)
    rintro v1 σ1 ⟨_, hσ1, hv1⟩
    obtain rfl : v1 = .tuple #[.int .u32 0, .bool false] := hv1.trans (by rw [hm1])
    obtain rfl : σ1 = ((F.p, .cells 83 6 [Gs.val H.s H.objs.length, Gs.val H.ts H.texts.length, .map (some F.kb), pt F.T.p 0, pt F.cp 0, .int .i64 H.br]) :: ((Gs.ent 89 9 H.s (H.objs.flatMap ObjL.cells)) ++ ((H.objs.flatMap ObjL.ent) ++ ((Gs.ent 9 1 H.ts (H.texts.map encS)) ++ ((F.kb, .map (kvs encS encU H.known)) :: ((TreeV.ent H.V F.T) ++ ((CellsL.ent (CellsL.mk F.cp H.cs H.cl)) ++ ([])))))))) := hσ1.trans (rfl)
    refine SL_s5 5 7 (.bool false) 6 (.int .u32 0) 12 (.bool false) 11 (.int .u32 0) 8 (.tuple #[.int .u32 0, .bool false]) (by intro δ w; kernel_rfl) ?_
    refine SL_nil (n_then ?_)
    refine SW_seq ?_
    refine SW_seq ?_
    refine SW_region ?_
    refine SL_segT 12 [(24, .bool true), (7, .bool false), (6, .int .u32 0), (5, .bool false), (4, .string (ByteArray.mk (List.toArray List.nil))), (0, pt F.p 0), (1, .int .u64 w)] (by intro δ w; kernel_rfl) ?_
    refine SL_nil (n_then ?_)
    refine SW_true (fun _ => rfl) ?_
    refine SW_seq ?_
    refine SW_region ?_
    refine SL_segT 2 [(5, .bool false), (4, .string (ByteArray.mk (List.toArray List.nil))), (24, .bool true), (7, .bool false), (6, .int .u32 0), (0, pt F.p 0), (1, .int .u64 w)] (by intro δ w; kernel_rfl) ?_
    refine SL_nil (n_then ?_)
    refine SW_ret (r_then ?_)
    refine body_end (.tuple #[.string (ByteArray.mk (List.toArray List.nil)), .bool false]) (fun _ => rfl) ?_
    exact ⟨(), (Own.of_perm (S := ((F.p, .cells 83 6 [Gs.val H.s H.objs.length, Gs.val H.ts H.texts.length, .map (some F.kb), pt F.T.p 0, pt F.cp 0, .int .i64 H.br]) :: ((Gs.ent 89 9 H.s (H.objs.flatMap ObjL.cells)) ++ ((H.objs.flatMap ObjL.ent) ++ ((Gs.ent 9 1 H.ts (H.texts.map encS)) ++ ((F.kb, .map (kvs encS encU H.known)) :: ((TreeV.ent H.V F.T) ++ ((CellsL.ent (CellsL.mk F.cp H.cs H.cl)) ++ ([]))))))))) (List.Perm.refl _)), by simp only [textO, hm1]; rfl⟩
  · skip
    have hlt := tagOf_lt hm1
    refine SL_sig ([] ++ ((F.p, .cells 83 6 [Gs.val H.s H.objs.length, Gs.val H.ts H.texts.length, .map (some F.kb), pt F.T.p 0, pt F.cp 0, .int .i64 H.br]) :: ((Gs.ent 89 9 H.s (H.objs.flatMap ObjL.cells)) ++ ((H.objs.flatMap ObjL.ent) ++ ((Gs.ent 9 1 H.ts (H.texts.map encS)) ++ ((F.kb, .map (kvs encS encU H.known)) :: ((TreeV.ent H.V F.T) ++ ((CellsL.ent (CellsL.mk F.cp H.cs H.cl)) ++ ([]))))))))) rfl ?_
    refine SL_cons ⟨rfl, fun _ => rfl⟩ (O_call 43 #[.int .u64 w] rfl (by intro δ w; kernel_rfl) ((word_IsText (w := w)).use _) ?_)
    rintro v2 σ2 ⟨_, hσ2, hv2⟩
    obtain rfl : v2 = .tuple #[.int .u32 (m1 : Int), .bool true] := hv2.trans (by rw [hm1])
    obtain rfl : σ2 = ((F.p, .cells 83 6 [Gs.val H.s H.objs.length, Gs.val H.ts H.texts.length, .map (some F.kb), pt F.T.p 0, pt F.cp 0, .int .i64 H.br]) :: ((Gs.ent 89 9 H.s (H.objs.flatMap ObjL.cells)) ++ ((H.objs.flatMap ObjL.ent) ++ ((Gs.ent 9 1 H.ts (H.texts.map encS)) ++ ((F.kb, .map (kvs encS encU H.known)) :: ((TreeV.ent H.V F.T) ++ ((CellsL.ent (CellsL.mk F.cp H.cs H.cl)) ++ ([])))))))) := hσ2.trans (rfl)
    refine SL_s5 5 7 (.bool true) 6 (.int .u32 (m1 : Int)) 12 (.bool true) 11 (.int .u32 (m1 : Int)) 8 (.tuple #[.int .u32 (m1 : Int), .bool true]) (by intro δ w; kernel_rfl) ?_
    refine SL_nil (n_then ?_)
    refine SW_seq ?_
    refine SW_seq ?_
    refine SW_region ?_
    refine SL_s5 5 17 (.int .i64 (IntKind.wrap .i64 ((m1 : Int)))) 16 (.int .u32 (m1 : Int)) 15 (.bool false) 14 (.bool false) 13 (.bool true) (by intro δ w; kernel_rfl) ?_
    rw [show IntKind.wrap .i64 ((m1 : Int)) = (m1 : Int) from IntWalk.i64_in _ (by omega)]
    refine SL_segT 3 [(20, pt F.p 1), (17, .int .i64 (m1 : Int)), (15, .bool false), (7, .bool true), (6, .int .u32 (m1 : Int)), (5, .bool false), (4, .string (ByteArray.mk (List.toArray List.nil))), (0, pt F.p 0), (1, .int .u64 w)] (by intro δ w; kernel_rfl) ?_
    refine SL_cons ⟨rfl, fun _ => rfl⟩ (O_load F.p 1 (Gs.val H.ts H.texts.length) (fun _ => rfl) (by kernel_rfl) (Cell.own mem_z rfl) rfl ?_)
    refine SL_s3 3 24 (.bool (decide ((m1 : Int) ≥ (H.texts.length : Int)))) 23 (.bool (decide ((m1 : Int) ≥ (H.texts.length : Int)))) 22 (.int .i64 (H.texts.length : Int)) (by intro δ w; kernel_rfl) ?_
    refine SL_nil (n_then ?_)
    refine SW_cond (decide ((m1 : Int) ≥ (H.texts.length : Int))) (fun _ => rfl) (fun hc1 => ?_) (fun hc1 => ?_)
    · skip
      replace hc1 := of_decide_eq_true hc1
      refine SW_seq ?_
      refine SW_region ?_
      refine SL_segT 2 [(5, .bool false), (4, .string (ByteArray.mk (List.toArray List.nil))), (24, .bool (decide ((m1 : Int) ≥ (H.texts.length : Int)))), (7, .bool true), (6, .int .u32 (m1 : Int)), (0, pt F.p 0), (1, .int .u64 w)] (by intro δ w; kernel_rfl) ?_
      refine SL_nil (n_then ?_)
      refine SW_ret (r_then ?_)
      refine body_end (.tuple #[.string (ByteArray.mk (List.toArray List.nil)), .bool false]) (fun _ => rfl) ?_
      exact ⟨(), (Own.of_perm (S := ((F.p, .cells 83 6 [Gs.val H.s H.objs.length, Gs.val H.ts H.texts.length, .map (some F.kb), pt F.T.p 0, pt F.cp 0, .int .i64 H.br]) :: ((Gs.ent 89 9 H.s (H.objs.flatMap ObjL.cells)) ++ ((H.objs.flatMap ObjL.ent) ++ ((Gs.ent 9 1 H.ts (H.texts.map encS)) ++ ((F.kb, .map (kvs encS encU H.known)) :: ((TreeV.ent H.V F.T) ++ ((CellsL.ent (CellsL.mk F.cp H.cs H.cl)) ++ ([]))))))))) (List.Perm.refl _)), by simp only [textO, hm1]; rw [List.getElem?_eq_none (by omega)]; rfl⟩
    · skip
      replace hc1 := of_decide_eq_false hc1
      refine SW_skip (n_then ?_)
      refine SW_seq ?_
      refine SW_region ?_
      refine SL_s3 3 27 (pt F.p 1) 26 (pt F.p 0) 25 (pt F.p 0) (by intro δ w; kernel_rfl) ?_
      refine SL_cons ⟨rfl, fun _ => rfl⟩ (O_load F.p 1 (Gs.val H.ts H.texts.length) (fun _ => rfl) (by kernel_rfl) (Cell.own mem_z rfl) rfl ?_)
      refine SL_s1 1 29 (.int .u32 (m1 : Int)) (by intro δ w; kernel_rfl) ?_
      refine SL_cons ⟨rfl, fun _ => rfl⟩ (O_indexAddr' (m1 : Int) (m1) (Gs.blk H.ts) 0 H.texts.length (Gs.cap H.ts) .u32 1 Try.underlying34 (by kernel_rfl) (fun _ => gs_slice (Gs.ok.ne hH.ts (by first | omega | (simp; omega)))) (fun _ => rfl) (by omega) (by omega) (by omega) rfl ?_)
      obtain ⟨e2, he2⟩ : ∃ y_, H.texts[m1]? = some y_ := ⟨_, List.getElem?_eq_getElem (by omega)⟩
      refine SL_cons ⟨rfl, fun _ => rfl⟩ (O_load (Gs.blk H.ts) m1 (.string e2) (fun _ => rfl) (by kernel_rfl) (Gs.cell hH.ts (fun e he => (mem_c (mem_a (mem_a (mem_h he))))) (map_cell he2 rfl)) rfl ?_)
      refine SL_segT 2 [(5, .bool true), (4, .string e2), (24, .bool (decide ((m1 : Int) ≥ (H.texts.length : Int)))), (7, .bool true), (6, .int .u32 (m1 : Int)), (0, pt F.p 0), (1, .int .u64 w)] (by intro δ w; kernel_rfl) ?_
      refine SL_nil (n_then ?_)
      refine SW_ret ?_
      refine body_end (.tuple #[.string e2, .bool true]) (fun _ => rfl) ?_
      exact ⟨(), (Own.of_perm (S := ((F.p, .cells 83 6 [Gs.val H.s H.objs.length, Gs.val H.ts H.texts.length, .map (some F.kb), pt F.T.p 0, pt F.cp 0, .int .i64 H.br]) :: ((Gs.ent 89 9 H.s (H.objs.flatMap ObjL.cells)) ++ ((H.objs.flatMap ObjL.ent) ++ ((Gs.ent 9 1 H.ts (H.texts.map encS)) ++ ((F.kb, .map (kvs encS encU H.known)) :: ((TreeV.ent H.V F.T) ++ ((CellsL.ent (CellsL.mk F.cp H.cs H.cl)) ++ ([]))))))))) (List.Perm.refl _)), by simp only [textO, hm1]; rw [he2]; rfl⟩

theorem heap_Elem_none {W0 : World} {F : HeapF} {H : HeapV} (hH : H.ok F) {w : Int} (h0 : objAt w H.objs.length = none) (n_ : Int) : SC Try.prog W0 26 #[.pointer (some ⟨F.p, 0, none⟩), .int .u64 w, .int .i64 n_] (HeapV.ent H F) (Ret (fun _ : Unit => H.ent F) (fun v _ => v = .tuple #[.int .u64 18445336698825998336, .bool false])) := by
  refine SC_body (fn := Try.f26) (n := 44) Try.func26 rfl (by kernel_rfl) (ρ := [(0, pt F.p 0), (1, .int .u64 w), (2, .int .i64 n_)]) rfl ?_
  refine SW_sig ((F.p, .cells 83 6 [Gs.val H.s H.objs.length, Gs.val H.ts H.texts.length, .map (some F.kb), pt F.T.p 0, pt F.cp 0, .int .i64 H.br]) :: ((Gs.ent 89 9 H.s (H.objs.flatMap ObjL.cells)) ++ ((H.objs.flatMap ObjL.ent) ++ ((Gs.ent 9 1 H.ts (H.texts.map encS)) ++ ((F.kb, .map (kvs encS encU H.known)) :: ((TreeV.ent H.V F.T) ++ ((CellsL.ent (CellsL.mk F.cp H.cs H.cl)) ++ ([])))))))) rfl ?_
  refine SW_seq ?_
  refine SW_region ?_
  refine SL_s2 2 7 (.bool false) 6 (.int .u64 0) (by intro δ w; kernel_rfl) ?_
  refine SL_nil (n_then ?_)
  refine SW_seq ?_
  refine SW_region ?_
  refine SL_s2 2 10 (.int .u64 w) 9 (pt F.p 0) (by intro δ w; kernel_rfl) ?_
  refine SL_perm _ (perm_cc (perm_ca (perm_ca (perm_ca (perm_cc (perm_ca perm_cz)))))) ?_
  refine SL_perm _ (perm_ca (perm_cc (perm_ca (perm_ca (perm_ca (perm_cc perm_cz)))))) ?_
  refine SL_perm _ (perm_a (perm_a (perm_c (perm_a (perm_a (perm_a perm_z)))))) ?_
  refine SL_perm _ (perm_cc (perm_ca (perm_ca (perm_cc (perm_ca (perm_ca perm_cz)))))) ?_
  refine SL_perm _ (perm_ca (perm_cc (perm_ca (perm_ca (perm_cc (perm_ca perm_cz)))))) ?_
  refine SL_perm _ (perm_ca (perm_ca (perm_cc (perm_ca (perm_ca (perm_cc perm_cz)))))) ?_
  refine SL_perm _ (perm_a (perm_a (perm_a (perm_c (perm_a (perm_a perm_z)))))) ?_
  refine SL_sig (((F.p, .cells 83 6 [Gs.val H.s H.objs.length, Gs.val H.ts H.texts.length, .map (some F.kb), pt F.T.p 0, pt F.cp 0, .int .i64 H.br]) :: ((Gs.ent 89 9 H.s (H.objs.flatMap ObjL.cells)) ++ ((H.objs.flatMap ObjL.ent) ++ ((Gs.ent 9 1 H.ts (H.texts.map encS)) ++ ((F.kb, .map (kvs encS encU H.known)) :: ((TreeV.ent H.V F.T) ++ ((CellsL.ent (CellsL.mk F.cp H.cs H.cl)) ++ ([])))))))) ++ ([])) (by simp only [List.cons_append, List.append_assoc, List.nil_append, List.append_nil]) ?_
  refine SL_cons ⟨rfl, fun _ => rfl⟩ (O_call 38 #[pt F.p 0, .int .u64 w] rfl (by intro δ w; kernel_rfl) ((heap_at hH w).use _) ?_)
  rintro v1 σ1 ⟨_, hσ1, hv1⟩
  obtain rfl : v1 = .pointer none := hv1.trans (by rw [h0])
  obtain rfl : σ1 = ((F.p, .cells 83 6 [Gs.val H.s H.objs.length, Gs.val H.ts H.texts.length, .map (some F.kb), pt F.T.p 0, pt F.cp 0, .int .i64 H.br]) :: ((Gs.ent 89 9 H.s (H.objs.flatMap ObjL.cells)) ++ ((H.objs.flatMap ObjL.ent) ++ ((Gs.ent 9 1 H.ts (H.texts.map encS)) ++ ((F.kb, .map (kvs encS encU H.known)) :: ((TreeV.ent H.V F.T) ++ ((CellsL.ent (CellsL.mk F.cp H.cs H.cl)) ++ ([])))))))) := hσ1.trans (by simp only [HeapV.ent, List.cons_append, List.append_assoc, List.nil_append, List.append_nil])
  refine SL_s1 1 8 (.pointer none) (by intro δ w; kernel_rfl) ?_
  refine SL_nil (n_then ?_)
  refine SW_seq ?_
  refine SW_seq ?_
  refine SW_region ?_
  refine SL_segT 25 [(36, .bool true), (8, .pointer none), (7, .bool false), (6, .int .u64 0), (0, pt F.p 0), (1, .int .u64 w), (2, .int .i64 n_)] (by intro δ w; kernel_rfl) ?_
  refine SL_nil (n_then ?_)
  refine SW_true (fun _ => rfl) ?_
  refine SW_seq ?_
  refine SW_region ?_
  refine SL_segT 2 [(7, .bool false), (6, .int .u64 18445336698825998336), (36, .bool true), (8, .pointer none), (0, pt F.p 0), (1, .int .u64 w), (2, .int .i64 n_)] (by intro δ w; kernel_rfl) ?_
  refine SL_nil (n_then ?_)
  refine SW_ret (r_then ?_)
  refine body_end (.tuple #[.int .u64 18445336698825998336, .bool false]) (fun _ => rfl) ?_
  exact ⟨(), (Own.of_perm (S := ((F.p, .cells 83 6 [Gs.val H.s H.objs.length, Gs.val H.ts H.texts.length, .map (some F.kb), pt F.T.p 0, pt F.cp 0, .int .i64 H.br]) :: ((Gs.ent 89 9 H.s (H.objs.flatMap ObjL.cells)) ++ ((H.objs.flatMap ObjL.ent) ++ ((Gs.ent 9 1 H.ts (H.texts.map encS)) ++ ((F.kb, .map (kvs encS encU H.known)) :: ((TreeV.ent H.V F.T) ++ ((CellsL.ent (CellsL.mk F.cp H.cs H.cl)) ++ ([]))))))))) (List.Perm.refl _)), rfl⟩

theorem heap_Elem_some {W0 : World} {F : HeapF} {H : HeapV} (hH : H.ok F) {w : Int} {n : Nat} {x : ObjL} (h0 : objAt w H.objs.length = some n) (hx : H.objs[n]? = some x) (n_ : Int) : SC Try.prog W0 26 #[.pointer (some ⟨F.p, 0, none⟩), .int .u64 w, .int .i64 n_] (HeapV.ent H F) (Ret (fun _ : Unit => H.ent F) (fun v _ => v = .tuple #[.int .u64 (elemO x.elems n_).1, .bool (elemO x.elems n_).2])) := by
  refine SC_body (fn := Try.f26) (n := 44) Try.func26 rfl (by kernel_rfl) (ρ := [(0, pt F.p 0), (1, .int .u64 w), (2, .int .i64 n_)]) rfl ?_
  refine SW_sig ((F.p, .cells 83 6 [Gs.val H.s H.objs.length, Gs.val H.ts H.texts.length, .map (some F.kb), pt F.T.p 0, pt F.cp 0, .int .i64 H.br]) :: ((Gs.ent 89 9 H.s (H.objs.flatMap ObjL.cells)) ++ ((H.objs.flatMap ObjL.ent) ++ ((Gs.ent 9 1 H.ts (H.texts.map encS)) ++ ((F.kb, .map (kvs encS encU H.known)) :: ((TreeV.ent H.V F.T) ++ ((CellsL.ent (CellsL.mk F.cp H.cs H.cl)) ++ ([])))))))) rfl ?_
  refine SW_seq ?_
  refine SW_region ?_
  refine SL_s2 2 7 (.bool false) 6 (.int .u64 0) (by intro δ w; kernel_rfl) ?_
  refine SL_nil (n_then ?_)
  refine SW_seq ?_
  refine SW_region ?_
  refine SL_s2 2 10 (.int .u64 w) 9 (pt F.p 0) (by intro δ w; kernel_rfl) ?_
  refine SL_perm _ (perm_cc (perm_ca (perm_ca (perm_ca (perm_cc (perm_ca perm_cz)))))) ?_
  refine SL_perm _ (perm_ca (perm_cc (perm_ca (perm_ca (perm_ca (perm_cc perm_cz)))))) ?_
  refine SL_perm _ (perm_a (perm_a (perm_c (perm_a (perm_a (perm_a perm_z)))))) ?_
  refine SL_perm _ (perm_cc (perm_ca (perm_ca (perm_cc (perm_ca (perm_ca perm_cz)))))) ?_
  refine SL_perm _ (perm_ca (perm_cc (perm_ca (perm_ca (perm_cc (perm_ca perm_cz)))))) ?_
  refine SL_perm _ (perm_ca (perm_ca (perm_cc (perm_ca (perm_ca (perm_cc perm_cz)))))) ?_
  refine SL_perm _ (perm_a (perm_a (perm_a (perm_c (perm_a (perm_a perm_z)))))) ?_
  refine SL_sig (((F.p, .cells 83 6 [Gs.val H.s H.objs.length, Gs.val H.ts H.texts.length, .map (some F.kb), pt F.T.p 0, pt F.cp 0, .int .i64 H.br]) :: ((Gs.ent 89 9 H.s (H.objs.flatMap ObjL.cells)) ++ ((H.objs.flatMap ObjL.ent) ++ ((Gs.ent 9 1 H.ts (H.texts.map encS)) ++ ((F.kb, .map (kvs encS encU H.known)) :: ((TreeV.ent H.V F.T) ++ ((CellsL.ent (CellsL.mk F.cp H.cs H.cl)) ++ ([])))))))) ++ ([])) (by simp only [List.cons_append, List.append_assoc, List.nil_append, List.append_nil]) ?_
  refine SL_cons ⟨rfl, fun _ => rfl⟩ (O_call 38 #[pt F.p 0, .int .u64 w] rfl (by intro δ w; kernel_rfl) ((heap_at hH w).use _) ?_)
  rintro v1 σ1 ⟨_, hσ1, hv1⟩
  obtain rfl : v1 = pt (Gs.blk H.s) (n * 9) := hv1.trans (by rw [h0])
  obtain rfl : σ1 = ((F.p, .cells 83 6 [Gs.val H.s H.objs.length, Gs.val H.ts H.texts.length, .map (some F.kb), pt F.T.p 0, pt F.cp 0, .int .i64 H.br]) :: ((Gs.ent 89 9 H.s (H.objs.flatMap ObjL.cells)) ++ ((H.objs.flatMap ObjL.ent) ++ ((Gs.ent 9 1 H.ts (H.texts.map encS)) ++ ((F.kb, .map (kvs encS encU H.known)) :: ((TreeV.ent H.V F.T) ++ ((CellsL.ent (CellsL.mk F.cp H.cs H.cl)) ++ ([])))))))) := hσ1.trans (by simp only [HeapV.ent, List.cons_append, List.append_assoc, List.nil_append, List.append_nil])
  refine SL_s1 1 8 (pt (Gs.blk H.s) (n * 9)) (by intro δ w; kernel_rfl) ?_
  refine SL_nil (n_then ?_)
  refine SW_seq ?_
  refine SW_seq ?_
  refine SW_region ?_
  refine SL_s7 7 18 (.bool (decide (n_ < 0))) 17 (.bool (decide (n_ < 0))) 16 (.bool (decide (n_ < 0))) 15 (.int .i64 n_) 14 (.bool false) 13 (.bool false) 12 (pt (Gs.blk H.s) (n * 9)) (by intro δ w; kernel_rfl) ?_
  refine SL_tb (decide (n_ < 0)) (fun tb_ => [(18, .bool tb_), (17, .bool tb_), (16, .bool tb_), (15, .int .i64 n_), (14, .bool false), (13, .bool false), (12, pt (Gs.blk H.s) (n * 9)), (8, pt (Gs.blk H.s) (n * 9)), (11, pt (Gs.blk H.s) (n * 9)), (10, .int .u64 w), (9, pt F.p 0), (7, .bool false), (6, .int .u64 0), (0, pt F.p 0), (1, .int .u64 w), (2, .int .i64 n_)]) (fun hg1 => ?_) (fun hg1 => ?_)
  · skip
    replace hg1 := of_decide_eq_true hg1
    refine SL_segT 18 [(36, .bool true), (8, pt (Gs.blk H.s) (n * 9)), (7, .bool false), (6, .int .u64 0), (0, pt F.p 0), (1, .int .u64 w), (2, .int .i64 n_)] (by intro δ w; kernel_rfl) ?_
    refine SL_nil (n_then ?_)
    refine SW_true (fun _ => rfl) ?_
    refine SW_seq ?_
    refine SW_region ?_
    refine SL_segT 2 [(7, .bool false), (6, .int .u64 18445336698825998336), (36, .bool true), (8, pt (Gs.blk H.s) (n * 9)), (0, pt F.p 0), (1, .int .u64 w), (2, .int .i64 n_)] (by intro δ w; kernel_rfl) ?_
    refine SL_nil (n_then ?_)
    refine SW_ret (r_then ?_)
    refine body_end (.tuple #[.int .u64 18445336698825998336, .bool false]) (fun _ => rfl) ?_
    exact ⟨(), (Own.of_perm (S := ((F.p, .cells 83 6 [Gs.val H.s H.objs.length, Gs.val H.ts H.texts.length, .map (some F.kb), pt F.T.p 0, pt F.cp 0, .int .i64 H.br]) :: ((Gs.ent 89 9 H.s (H.objs.flatMap ObjL.cells)) ++ ((H.objs.flatMap ObjL.ent) ++ ((Gs.ent 9 1 H.ts (H.texts.map encS)) ++ ((F.kb, .map (kvs encS encU H.known)) :: ((TreeV.ent H.V F.T) ++ ((CellsL.ent (CellsL.mk F.cp H.cs H.cl)) ++ ([]))))))))) (List.Perm.refl _)), by unfold elemO; rw [if_neg (by omega)]⟩
  · skip
    replace hg1 := of_decide_eq_false hg1
    refine SL_s4 4 22 (pt (Gs.blk H.s) (n * 9 + 6)) 21 (pt (Gs.blk H.s) (n * 9)) 20 (pt (Gs.blk H.s) (n * 9)) 19 (.int .i64 n_) (by intro δ w; kernel_rfl) ?_
    refine SL_cons ⟨rfl, fun _ => rfl⟩ (O_load (Gs.blk H.s) (n * 9 + 6) (Gs.val x.es x.elems.length) (fun _ => rfl) (by kernel_rfl) (Gs.cell hH.row (fun e he => (mem_c (mem_h he))) (flat_cell ObjL.len hx (j := 6) (by decide) rfl)) rfl ?_)
    refine SL_segT 4 [(27, .bool (decide (n_ ≥ (x.elems.length : Int)))), (8, pt (Gs.blk H.s) (n * 9)), (7, .bool false), (6, .int .u64 0), (0, pt F.p 0), (1, .int .u64 w), (2, .int .i64 n_)] (by intro δ w; kernel_rfl) ?_
    refine SL_tb (decide (n_ ≥ (x.elems.length : Int))) (fun tb_ => [(27, .bool tb_), (8, pt (Gs.blk H.s) (n * 9)), (7, .bool false), (6, .int .u64 0), (0, pt F.p 0), (1, .int .u64 w), (2, .int .i64 n_)]) (fun hg2 => ?_) (fun hg2 => ?_)
    · skip
      replace hg2 := of_decide_eq_true hg2
      refine SL_segT 9 [(36, .bool true), (8, pt (Gs.blk H.s) (n * 9)), (7, .bool false), (6, .int .u64 0), (0, pt F.p 0), (1, .int .u64 w), (2, .int .i64 n_)] (by intro δ w; kernel_rfl) ?_
      refine SL_nil (n_then ?_)
      refine SW_true (fun _ => rfl) ?_
      refine SW_seq ?_
      refine SW_region ?_
      refine SL_segT 2 [(7, .bool false), (6, .int .u64 18445336698825998336), (36, .bool true), (8, pt (Gs.blk H.s) (n * 9)), (0, pt F.p 0), (1, .int .u64 w), (2, .int .i64 n_)] (by intro δ w; kernel_rfl) ?_
      refine SL_nil (n_then ?_)
      refine SW_ret (r_then ?_)
      refine body_end (.tuple #[.int .u64 18445336698825998336, .bool false]) (fun _ => rfl) ?_
      exact ⟨(), (Own.of_perm (S := ((F.p, .cells 83 6 [Gs.val H.s H.objs.length, Gs.val H.ts H.texts.length, .map (some F.kb), pt F.T.p 0, pt F.cp 0, .int .i64 H.br]) :: ((Gs.ent 89 9 H.s (H.objs.flatMap ObjL.cells)) ++ ((H.objs.flatMap ObjL.ent) ++ ((Gs.ent 9 1 H.ts (H.texts.map encS)) ++ ((F.kb, .map (kvs encS encU H.known)) :: ((TreeV.ent H.V F.T) ++ ((CellsL.ent (CellsL.mk F.cp H.cs H.cl)) ++ ([]))))))))) (List.Perm.refl _)), by unfold elemO; rw [if_neg (by omega)]⟩
    · skip
      replace hg2 := of_decide_eq_false hg2
      refine SL_s3 3 30 (pt (Gs.blk H.s) (n * 9 + 6)) 29 (pt (Gs.blk H.s) (n * 9)) 28 (pt (Gs.blk H.s) (n * 9)) (by intro δ w; kernel_rfl) ?_
      refine SL_cons ⟨rfl, fun _ => rfl⟩ (O_load (Gs.blk H.s) (n * 9 + 6) (Gs.val x.es x.elems.length) (fun _ => rfl) (by kernel_rfl) (Gs.cell hH.row (fun e he => (mem_c (mem_h he))) (flat_cell ObjL.len hx (j := 6) (by decide) rfl)) rfl ?_)
      refine SL_s1 1 32 (.int .i64 n_) (by intro δ w; kernel_rfl) ?_
      refine SL_cons ⟨rfl, fun _ => rfl⟩ (O_indexAddr' n_ (n_.toNat) (Gs.blk x.es) 0 x.elems.length (Gs.cap x.es) .i64 1 Try.underlying22 (by kernel_rfl) (fun _ => gs_slice (Gs.ok.ne (HeapV.ok.at hH hx).es (by first | omega | (simp; omega)))) (fun _ => rfl) (by omega) (by omega) (by omega) rfl ?_)
      obtain ⟨e1, he1⟩ : ∃ y_, x.elems[n_.toNat]? = some y_ := ⟨_, List.getElem?_eq_getElem (by omega)⟩
      refine SL_cons ⟨rfl, fun _ => rfl⟩ (O_load (Gs.blk x.es) n_.toNat (.int .u64 e1) (fun _ => rfl) (by kernel_rfl) (Gs.cell (HeapV.ok.at hH hx).es (fun e he => (mem_c (mem_a (mem_h ((ObjL.mes hx) _ he))))) (map_cell he1 rfl)) rfl ?_)
      refine SL_s2 2 36 (.bool (e1 == 18445336698825998340)) 35 (.bool (e1 == 18445336698825998340)) (by intro δ w; kernel_rfl) ?_
      refine SL_nil (n_then ?_)
      refine SW_cond (e1 == 18445336698825998340) (fun _ => rfl) (fun hc3 => ?_) (fun hc3 => ?_)
      · skip
        refine SW_seq ?_
        refine SW_region ?_
        refine SL_segT 2 [(7, .bool false), (6, .int .u64 18445336698825998336), (36, .bool (e1 == 18445336698825998340)), (8, pt (Gs.blk H.s) (n * 9)), (0, pt F.p 0), (1, .int .u64 w), (2, .int .i64 n_)] (by intro δ w; kernel_rfl) ?_
        refine SL_nil (n_then ?_)
        refine SW_ret (r_then ?_)
        refine body_end (.tuple #[.int .u64 18445336698825998336, .bool false]) (fun _ => rfl) ?_
        exact ⟨(), (Own.of_perm (S := ((F.p, .cells 83 6 [Gs.val H.s H.objs.length, Gs.val H.ts H.texts.length, .map (some F.kb), pt F.T.p 0, pt F.cp 0, .int .i64 H.br]) :: ((Gs.ent 89 9 H.s (H.objs.flatMap ObjL.cells)) ++ ((H.objs.flatMap ObjL.ent) ++ ((Gs.ent 9 1 H.ts (H.texts.map encS)) ++ ((F.kb, .map (kvs encS encU H.known)) :: ((TreeV.ent H.V F.T) ++ ((CellsL.ent (CellsL.mk F.cp H.cs H.cl)) ++ ([]))))))))) (List.Perm.refl _)), by unfold elemO; rw [if_pos (by omega), he1]; simp_all⟩
      · skip
        refine SW_skip (n_then ?_)
        refine SW_seq ?_
        refine SW_region ?_
        refine SL_s3 3 39 (pt (Gs.blk H.s) (n * 9 + 6)) 38 (pt (Gs.blk H.s) (n * 9)) 37 (pt (Gs.blk H.s) (n * 9)) (by intro δ w; kernel_rfl) ?_
        refine SL_cons ⟨rfl, fun _ => rfl⟩ (O_load (Gs.blk H.s) (n * 9 + 6) (Gs.val x.es x.elems.length) (fun _ => rfl) (by kernel_rfl) (Gs.cell hH.row (fun e he => (mem_c (mem_h he))) (flat_cell ObjL.len hx (j := 6) (by decide) rfl)) rfl ?_)
        refine SL_s1 1 41 (.int .i64 n_) (by intro δ w; kernel_rfl) ?_
        refine SL_cons ⟨rfl, fun _ => rfl⟩ (O_indexAddr' n_ (n_.toNat) (Gs.blk x.es) 0 x.elems.length (Gs.cap x.es) .i64 1 Try.underlying22 (by kernel_rfl) (fun _ => gs_slice (Gs.ok.ne (HeapV.ok.at hH hx).es (by first | omega | (simp; omega)))) (fun _ => rfl) (by omega) (by omega) (by omega) rfl ?_)
        refine SL_cons ⟨rfl, fun _ => rfl⟩ (O_load (Gs.blk x.es) n_.toNat (.int .u64 e1) (fun _ => rfl) (by kernel_rfl) (Gs.cell (HeapV.ok.at hH hx).es (fun e he => (mem_c (mem_a (mem_h ((ObjL.mes hx) _ he))))) (map_cell he1 rfl)) rfl ?_)
        refine SL_segT 2 [(7, .bool true), (6, .int .u64 e1), (36, .bool (e1 == 18445336698825998340)), (8, pt (Gs.blk H.s) (n * 9)), (0, pt F.p 0), (1, .int .u64 w), (2, .int .i64 n_)] (by intro δ w; kernel_rfl) ?_
        refine SL_nil (n_then ?_)
        refine SW_ret ?_
        refine body_end (.tuple #[.int .u64 e1, .bool true]) (fun _ => rfl) ?_
        exact ⟨(), (Own.of_perm (S := ((F.p, .cells 83 6 [Gs.val H.s H.objs.length, Gs.val H.ts H.texts.length, .map (some F.kb), pt F.T.p 0, pt F.cp 0, .int .i64 H.br]) :: ((Gs.ent 89 9 H.s (H.objs.flatMap ObjL.cells)) ++ ((H.objs.flatMap ObjL.ent) ++ ((Gs.ent 9 1 H.ts (H.texts.map encS)) ++ ((F.kb, .map (kvs encS encU H.known)) :: ((TreeV.ent H.V F.T) ++ ((CellsL.ent (CellsL.mk F.cp H.cs H.cl)) ++ ([]))))))))) (List.Perm.refl _)), by unfold elemO; rw [if_pos (by omega), he1]; simp_all⟩

theorem heap_SetLen_none {W0 : World} {F : HeapF} {H : HeapV} (hH : H.ok F) {w : Int} (h0 : objAt w H.objs.length = none) (m : Int) : SC Try.prog W0 25 #[.pointer (some ⟨F.p, 0, none⟩), .int .u64 w, .int .i64 m] (HeapV.ent H F) (Ret (fun _ : Unit => H.ent F) (fun v _ => v = .bool false)) := by
  refine SC_body (fn := Try.f25) (n := 57) Try.func25 rfl (by kernel_rfl) (ρ := [(0, pt F.p 0), (1, .int .u64 w), (2, .int .i64 m)]) rfl ?_
  refine SW_sig ((F.p, .cells 83 6 [Gs.val H.s H.objs.length, Gs.val H.ts H.texts.length, .map (some F.kb), pt F.T.p 0, pt F.cp 0, .int .i64 H.br]) :: ((Gs.ent 89 9 H.s (H.objs.flatMap ObjL.cells)) ++ ((H.objs.flatMap ObjL.ent) ++ ((Gs.ent 9 1 H.ts (H.texts.map encS)) ++ ((F.kb, .map (kvs encS encU H.known)) :: ((TreeV.ent H.V F.T) ++ ((CellsL.ent (CellsL.mk F.cp H.cs H.cl)) ++ ([])))))))) rfl ?_
  refine SW_seq ?_
  refine SW_region ?_
  refine SL_s1 1 6 (.bool false) (by intro δ w; kernel_rfl) ?_
  refine SL_nil (n_then ?_)
  refine SW_seq ?_
  refine SW_region ?_
  refine SL_s2 2 9 (.int .u64 w) 8 (pt F.p 0) (by intro δ w; kernel_rfl) ?_
  refine SL_perm _ (perm_cc (perm_ca (perm_ca (perm_ca (perm_cc (perm_ca perm_cz)))))) ?_
  refine SL_perm _ (perm_ca (perm_cc (perm_ca (perm_ca (perm_ca (perm_cc perm_cz)))))) ?_
  refine SL_perm _ (perm_a (perm_a (perm_c (perm_a (perm_a (perm_a perm_z)))))) ?_
  refine SL_perm _ (perm_cc (perm_ca (perm_ca (perm_cc (perm_ca (perm_ca perm_cz)))))) ?_
  refine SL_perm _ (perm_ca (perm_cc (perm_ca (perm_ca (perm_cc (perm_ca perm_cz)))))) ?_
  refine SL_perm _ (perm_ca (perm_ca (perm_cc (perm_ca (perm_ca (perm_cc perm_cz)))))) ?_
  refine SL_perm _ (perm_a (perm_a (perm_a (perm_c (perm_a (perm_a perm_z)))))) ?_
  refine SL_sig (((F.p, .cells 83 6 [Gs.val H.s H.objs.length, Gs.val H.ts H.texts.length, .map (some F.kb), pt F.T.p 0, pt F.cp 0, .int .i64 H.br]) :: ((Gs.ent 89 9 H.s (H.objs.flatMap ObjL.cells)) ++ ((H.objs.flatMap ObjL.ent) ++ ((Gs.ent 9 1 H.ts (H.texts.map encS)) ++ ((F.kb, .map (kvs encS encU H.known)) :: ((TreeV.ent H.V F.T) ++ ((CellsL.ent (CellsL.mk F.cp H.cs H.cl)) ++ ([])))))))) ++ ([])) (by simp only [List.cons_append, List.append_assoc, List.nil_append, List.append_nil]) ?_
  refine SL_cons ⟨rfl, fun _ => rfl⟩ (O_call 38 #[pt F.p 0, .int .u64 w] rfl (by intro δ w; kernel_rfl) ((heap_at hH w).use _) ?_)
  rintro v1 σ1 ⟨_, hσ1, hv1⟩
  obtain rfl : v1 = .pointer none := hv1.trans (by rw [h0])
  obtain rfl : σ1 = ((F.p, .cells 83 6 [Gs.val H.s H.objs.length, Gs.val H.ts H.texts.length, .map (some F.kb), pt F.T.p 0, pt F.cp 0, .int .i64 H.br]) :: ((Gs.ent 89 9 H.s (H.objs.flatMap ObjL.cells)) ++ ((H.objs.flatMap ObjL.ent) ++ ((Gs.ent 9 1 H.ts (H.texts.map encS)) ++ ((F.kb, .map (kvs encS encU H.known)) :: ((TreeV.ent H.V F.T) ++ ((CellsL.ent (CellsL.mk F.cp H.cs H.cl)) ++ ([])))))))) := hσ1.trans (by simp only [HeapV.ent, List.cons_append, List.append_assoc, List.nil_append, List.append_nil])
  refine SL_s1 1 7 (.pointer none) (by intro δ w; kernel_rfl) ?_
  refine SL_nil (n_then ?_)
  refine SW_seq ?_
  refine SW_seq ?_
  refine SW_region ?_
  refine SL_segT 10 [(20, .bool true), (7, .pointer none), (6, .bool false), (0, pt F.p 0), (1, .int .u64 w), (2, .int .i64 m)] (by intro δ w; kernel_rfl) ?_
  refine SL_nil (n_then ?_)
  refine SW_true (fun _ => rfl) ?_
  refine SW_seq ?_
  refine SW_region ?_
  refine SL_segT 1 [(6, .bool false), (20, .bool true), (7, .pointer none), (0, pt F.p 0), (1, .int .u64 w), (2, .int .i64 m)] (by intro δ w; kernel_rfl) ?_
  refine SL_nil (n_then ?_)
  refine SW_ret (r_then ?_)
  refine body_end (.bool false) (fun _ => rfl) ?_
  exact ⟨(), (Own.of_perm (S := ((F.p, .cells 83 6 [Gs.val H.s H.objs.length, Gs.val H.ts H.texts.length, .map (some F.kb), pt F.T.p 0, pt F.cp 0, .int .i64 H.br]) :: ((Gs.ent 89 9 H.s (H.objs.flatMap ObjL.cells)) ++ ((H.objs.flatMap ObjL.ent) ++ ((Gs.ent 9 1 H.ts (H.texts.map encS)) ++ ((F.kb, .map (kvs encS encU H.known)) :: ((TreeV.ent H.V F.T) ++ ((CellsL.ent (CellsL.mk F.cp H.cs H.cl)) ++ ([]))))))))) (List.Perm.refl _)), rfl⟩

theorem heap_SetLen_bad {W0 : World} {F : HeapF} {H : HeapV} (hH : H.ok F) {w : Int} {n : Nat} {x : ObjL} (h0 : objAt w H.objs.length = some n) (hx : H.objs[n]? = some x) {m : Int} (hbad : ¬ (0 ≤ m ∧ m ≤ 4096)) : SC Try.prog W0 25 #[.pointer (some ⟨F.p, 0, none⟩), .int .u64 w, .int .i64 m] (HeapV.ent H F) (Ret (fun _ : Unit => H.ent F) (fun v _ => v = .bool false)) := by
  have hnl := (List.getElem?_eq_some_iff.1 hx).1
  have hec : x.elems.length ≤ x.es.cap := Gs.ok.cap_le (HeapV.ok.at hH hx).es
  refine SC_body (fn := Try.f25) (n := 57) Try.func25 rfl (by kernel_rfl) (ρ := [(0, pt F.p 0), (1, .int .u64 w), (2, .int .i64 m)]) rfl ?_
  refine SW_sig ((F.p, .cells 83 6 [Gs.val H.s H.objs.length, Gs.val H.ts H.texts.length, .map (some F.kb), pt F.T.p 0, pt F.cp 0, .int .i64 H.br]) :: ((Gs.ent 89 9 H.s (H.objs.flatMap ObjL.cells)) ++ ((H.objs.flatMap ObjL.ent) ++ ((Gs.ent 9 1 H.ts (H.texts.map encS)) ++ ((F.kb, .map (kvs encS encU H.known)) :: ((TreeV.ent H.V F.T) ++ ((CellsL.ent (CellsL.mk F.cp H.cs H.cl)) ++ ([])))))))) rfl ?_
  refine SW_seq ?_
  refine SW_region ?_
  refine SL_s1 1 6 (.bool false) (by intro δ w; kernel_rfl) ?_
  refine SL_nil (n_then ?_)
  refine SW_seq ?_
  refine SW_region ?_
  refine SL_s2 2 9 (.int .u64 w) 8 (pt F.p 0) (by intro δ w; kernel_rfl) ?_
  refine SL_perm _ (perm_cc (perm_ca (perm_ca (perm_ca (perm_cc (perm_ca perm_cz)))))) ?_
  refine SL_perm _ (perm_ca (perm_cc (perm_ca (perm_ca (perm_ca (perm_cc perm_cz)))))) ?_
  refine SL_perm _ (perm_a (perm_a (perm_c (perm_a (perm_a (perm_a perm_z)))))) ?_
  refine SL_perm _ (perm_cc (perm_ca (perm_ca (perm_cc (perm_ca (perm_ca perm_cz)))))) ?_
  refine SL_perm _ (perm_ca (perm_cc (perm_ca (perm_ca (perm_cc (perm_ca perm_cz)))))) ?_
  refine SL_perm _ (perm_ca (perm_ca (perm_cc (perm_ca (perm_ca (perm_cc perm_cz)))))) ?_
  refine SL_perm _ (perm_a (perm_a (perm_a (perm_c (perm_a (perm_a perm_z)))))) ?_
  refine SL_sig (((F.p, .cells 83 6 [Gs.val H.s H.objs.length, Gs.val H.ts H.texts.length, .map (some F.kb), pt F.T.p 0, pt F.cp 0, .int .i64 H.br]) :: ((Gs.ent 89 9 H.s (H.objs.flatMap ObjL.cells)) ++ ((H.objs.flatMap ObjL.ent) ++ ((Gs.ent 9 1 H.ts (H.texts.map encS)) ++ ((F.kb, .map (kvs encS encU H.known)) :: ((TreeV.ent H.V F.T) ++ ((CellsL.ent (CellsL.mk F.cp H.cs H.cl)) ++ ([])))))))) ++ ([])) (by simp only [List.cons_append, List.append_assoc, List.nil_append, List.append_nil]) ?_
  refine SL_cons ⟨rfl, fun _ => rfl⟩ (O_call 38 #[pt F.p 0, .int .u64 w] rfl (by intro δ w; kernel_rfl) ((heap_at hH w).use _) ?_)
  rintro v1 σ1 ⟨_, hσ1, hv1⟩
  obtain rfl : v1 = pt (Gs.blk H.s) (n * 9) := hv1.trans (by rw [h0])
  obtain rfl : σ1 = ((F.p, .cells 83 6 [Gs.val H.s H.objs.length, Gs.val H.ts H.texts.length, .map (some F.kb), pt F.T.p 0, pt F.cp 0, .int .i64 H.br]) :: ((Gs.ent 89 9 H.s (H.objs.flatMap ObjL.cells)) ++ ((H.objs.flatMap ObjL.ent) ++ ((Gs.ent 9 1 H.ts (H.texts.map encS)) ++ ((F.kb, .map (kvs encS encU H.known)) :: ((TreeV.ent H.V F.T) ++ ((CellsL.ent (CellsL.mk F.cp H.cs H.cl)) ++ ([])))))))) := hσ1.trans (by simp only [HeapV.ent, List.cons_append, List.append_assoc, List.nil_append, List.append_nil])
  refine SL_s1 1 7 (pt (Gs.blk H.s) (n * 9)) (by intro δ w; kernel_rfl) ?_
  refine SL_nil (n_then ?_)
  refine SW_seq ?_
  refine SW_seq ?_
  refine SW_region ?_
  refine SL_s7 7 17 (.bool (decide (m < 0))) 16 (.bool (decide (m < 0))) 15 (.bool (decide (m < 0))) 14 (.int .i64 m) 13 (.bool false) 12 (.bool false) 11 (pt (Gs.blk H.s) (n * 9)) (by intro δ w; kernel_rfl) ?_
  refine SL_tb (decide (m < 0)) (fun tb_ => [(17, .bool tb_), (16, .bool tb_), (15, .bool tb_), (14, .int .i64 m), (13, .bool false), (12, .bool false), (11, pt (Gs.blk H.s) (n * 9)), (7, pt (Gs.blk H.s) (n * 9)), (10, pt (Gs.blk H.s) (n * 9)), (9, .int .u64 w), (8, pt F.p 0), (6, .bool false), (0, pt F.p 0), (1, .int .u64 w), (2, .int .i64 m)]) (fun hg1 => ?_) (fun hg1 => ?_)
  · skip
    replace hg1 := of_decide_eq_true hg1
    refine SL_s3 3 20 (.bool true) 19 (undef) 18 (undef) (by intro δ w; kernel_rfl) ?_
    refine SL_nil (n_then ?_)
    refine SW_true (fun _ => rfl) ?_
    refine SW_seq ?_
    refine SW_region ?_
    refine SL_segT 1 [(6, .bool false), (20, .bool true), (7, pt (Gs.blk H.s) (n * 9)), (0, pt F.p 0), (1, .int .u64 w), (2, .int .i64 m)] (by intro δ w; kernel_rfl) ?_
    refine SL_nil (n_then ?_)
    refine SW_ret (r_then ?_)
    refine body_end (.bool false) (fun _ => rfl) ?_
    exact ⟨(), (Own.of_perm (S := ((F.p, .cells 83 6 [Gs.val H.s H.objs.length, Gs.val H.ts H.texts.length, .map (some F.kb), pt F.T.p 0, pt F.cp 0, .int .i64 H.br]) :: ((Gs.ent 89 9 H.s (H.objs.flatMap ObjL.cells)) ++ ((H.objs.flatMap ObjL.ent) ++ ((Gs.ent 9 1 H.ts (H.texts.map encS)) ++ ((F.kb, .map (kvs encS encU H.known)) :: ((TreeV.ent H.V F.T) ++ ((CellsL.ent (CellsL.mk F.cp H.cs H.cl)) ++ ([]))))))))) (List.Perm.refl _)), rfl⟩
  · skip
    replace hg1 := of_decide_eq_false hg1
    refine SL_s3 3 20 (.bool (decide (m > 4096))) 19 (.bool (decide (m > 4096))) 18 (.int .i64 m) (by intro δ w; kernel_rfl) ?_
    refine SL_nil (n_then ?_)
    refine SW_cond (decide (m > 4096)) (fun _ => rfl) (fun hc2 => ?_) (fun hc2 => ?_)
    · skip
      replace hc2 := of_decide_eq_true hc2
      refine SW_seq ?_
      refine SW_region ?_
      refine SL_segT 1 [(6, .bool false), (20, .bool (decide (m > 4096))), (7, pt (Gs.blk H.s) (n * 9)), (0, pt F.p 0), (1, .int .u64 w), (2, .int .i64 m)] (by intro δ w; kernel_rfl) ?_
      refine SL_nil (n_then ?_)
      refine SW_ret (r_then ?_)
      refine body_end (.bool false) (fun _ => rfl) ?_
      exact ⟨(), (Own.of_perm (S := ((F.p, .cells 83 6 [Gs.val H.s H.objs.length, Gs.val H.ts H.texts.length, .map (some F.kb), pt F.T.p 0, pt F.cp 0, .int .i64 H.br]) :: ((Gs.ent 89 9 H.s (H.objs.flatMap ObjL.cells)) ++ ((H.objs.flatMap ObjL.ent) ++ ((Gs.ent 9 1 H.ts (H.texts.map encS)) ++ ((F.kb, .map (kvs encS encU H.known)) :: ((TreeV.ent H.V F.T) ++ ((CellsL.ent (CellsL.mk F.cp H.cs H.cl)) ++ ([]))))))))) (List.Perm.refl _)), rfl⟩
    · skip
      replace hc2 := of_decide_eq_false hc2
      exact absurd (by omega) hbad

theorem heap_SetLen_short {W0 : World} {F : HeapF} {H : HeapV} (hH : H.ok F) {w : Int} {n : Nat} {x : ObjL} (h0 : objAt w H.objs.length = some n) (hx : H.objs[n]? = some x) {k : Nat} (hB : H.bud k) (hk : k ≤ 8000000) {m : Nat} (hm4 : m ≤ 4096) (hmx : m ≤ x.elems.length) : SC Try.prog W0 25 #[.pointer (some ⟨F.p, 0, none⟩), .int .u64 w, .int .i64 (m : Int)] (HeapV.ent H F) (Ret (fun r : Gs × List CellL × Int => (H.upd n ((ObjL.chg x).withElems r.1 (setLenL x.elems m)) H.V r.2.1 r.2.2).ent F) (fun v r => v = .bool true ∧ (H.upd n ((ObjL.chg x).withElems r.1 (setLenL x.elems m)) H.V r.2.1 r.2.2).ok F ∧ Chg x.cell H.cl r.2.1)) := by
  have hnl := (List.getElem?_eq_some_iff.1 hx).1
  have hec : x.elems.length ≤ x.es.cap := Gs.ok.cap_le (HeapV.ok.at hH hx).es
  refine SC_body (fn := Try.f25) (n := 57) Try.func25 rfl (by kernel_rfl) (ρ := [(0, pt F.p 0), (1, .int .u64 w), (2, .int .i64 (m : Int))]) rfl ?_
  refine SW_sig ((F.p, .cells 83 6 [Gs.val H.s H.objs.length, Gs.val H.ts H.texts.length, .map (some F.kb), pt F.T.p 0, pt F.cp 0, .int .i64 H.br]) :: ((Gs.ent 89 9 H.s (H.objs.flatMap ObjL.cells)) ++ ((H.objs.flatMap ObjL.ent) ++ ((Gs.ent 9 1 H.ts (H.texts.map encS)) ++ ((F.kb, .map (kvs encS encU H.known)) :: ((TreeV.ent H.V F.T) ++ ((CellsL.ent (CellsL.mk F.cp H.cs H.cl)) ++ ([])))))))) rfl ?_
  refine SW_seq ?_
  refine SW_region ?_
  refine SL_s1 1 6 (.bool false) (by intro δ w; kernel_rfl) ?_
  refine SL_nil (n_then ?_)
  refine SW_seq ?_
  refine SW_region ?_
  refine SL_s2 2 9 (.int .u64 w) 8 (pt F.p 0) (by intro δ w; kernel_rfl) ?_
  refine SL_perm _ (perm_cc (perm_ca (perm_ca (perm_ca (perm_cc (perm_ca perm_cz)))))) ?_
  refine SL_perm _ (perm_ca (perm_cc (perm_ca (perm_ca (perm_ca (perm_cc perm_cz)))))) ?_
  refine SL_perm _ (perm_a (perm_a (perm_c (perm_a (perm_a (perm_a perm_z)))))) ?_
  refine SL_perm _ (perm_cc (perm_ca (perm_ca (perm_cc (perm_ca (perm_ca perm_cz)))))) ?_
  refine SL_perm _ (perm_ca (perm_cc (perm_ca (perm_ca (perm_cc (perm_ca perm_cz)))))) ?_
  refine SL_perm _ (perm_ca (perm_ca (perm_cc (perm_ca (perm_ca (perm_cc perm_cz)))))) ?_
  refine SL_perm _ (perm_a (perm_a (perm_a (perm_c (perm_a (perm_a perm_z)))))) ?_
  refine SL_sig (((F.p, .cells 83 6 [Gs.val H.s H.objs.length, Gs.val H.ts H.texts.length, .map (some F.kb), pt F.T.p 0, pt F.cp 0, .int .i64 H.br]) :: ((Gs.ent 89 9 H.s (H.objs.flatMap ObjL.cells)) ++ ((H.objs.flatMap ObjL.ent) ++ ((Gs.ent 9 1 H.ts (H.texts.map encS)) ++ ((F.kb, .map (kvs encS encU H.known)) :: ((TreeV.ent H.V F.T) ++ ((CellsL.ent (CellsL.mk F.cp H.cs H.cl)) ++ ([])))))))) ++ ([])) (by simp only [List.cons_append, List.append_assoc, List.nil_append, List.append_nil]) ?_
  refine SL_cons ⟨rfl, fun _ => rfl⟩ (O_call 38 #[pt F.p 0, .int .u64 w] rfl (by intro δ w; kernel_rfl) ((heap_at hH w).use _) ?_)
  rintro v1 σ1 ⟨_, hσ1, hv1⟩
  obtain rfl : v1 = pt (Gs.blk H.s) (n * 9) := hv1.trans (by rw [h0])
  obtain rfl : σ1 = ((F.p, .cells 83 6 [Gs.val H.s H.objs.length, Gs.val H.ts H.texts.length, .map (some F.kb), pt F.T.p 0, pt F.cp 0, .int .i64 H.br]) :: ((Gs.ent 89 9 H.s (H.objs.flatMap ObjL.cells)) ++ ((H.objs.flatMap ObjL.ent) ++ ((Gs.ent 9 1 H.ts (H.texts.map encS)) ++ ((F.kb, .map (kvs encS encU H.known)) :: ((TreeV.ent H.V F.T) ++ ((CellsL.ent (CellsL.mk F.cp H.cs H.cl)) ++ ([])))))))) := hσ1.trans (by simp only [HeapV.ent, List.cons_append, List.append_assoc, List.nil_append, List.append_nil])
  refine SL_s1 1 7 (pt (Gs.blk H.s) (n * 9)) (by intro δ w; kernel_rfl) ?_
  refine SL_nil (n_then ?_)
  refine SW_seq ?_
  refine SW_seq ?_
  refine SW_region ?_
  refine SL_s7 7 17 (.bool (decide ((m : Int) < 0))) 16 (.bool (decide ((m : Int) < 0))) 15 (.bool (decide ((m : Int) < 0))) 14 (.int .i64 (m : Int)) 13 (.bool false) 12 (.bool false) 11 (pt (Gs.blk H.s) (n * 9)) (by intro δ w; kernel_rfl) ?_
  refine SL_tb (decide ((m : Int) < 0)) (fun tb_ => [(17, .bool tb_), (16, .bool tb_), (15, .bool tb_), (14, .int .i64 (m : Int)), (13, .bool false), (12, .bool false), (11, pt (Gs.blk H.s) (n * 9)), (7, pt (Gs.blk H.s) (n * 9)), (10, pt (Gs.blk H.s) (n * 9)), (9, .int .u64 w), (8, pt F.p 0), (6, .bool false), (0, pt F.p 0), (1, .int .u64 w), (2, .int .i64 (m : Int))]) (fun hg1 => ?_) (fun hg1 => ?_)
  · skip
    replace hg1 := of_decide_eq_true hg1
    refine SL_s3 3 20 (.bool true) 19 (undef) 18 (undef) (by intro δ w; kernel_rfl) ?_
    refine SL_nil (n_then ?_)
    refine SW_true (fun _ => rfl) ?_
    refine SW_seq ?_
    refine SW_region ?_
    refine SL_segT 1 [(6, .bool false), (20, .bool true), (7, pt (Gs.blk H.s) (n * 9)), (0, pt F.p 0), (1, .int .u64 w), (2, .int .i64 (m : Int))] (by intro δ w; kernel_rfl) ?_
    refine SL_nil (n_then ?_)
    refine SW_ret (r_then ?_)
    refine body_end (.bool false) (fun _ => rfl) ?_
    exact absurd hm4 (by omega)
  · skip
    replace hg1 := of_decide_eq_false hg1
    refine SL_s3 3 20 (.bool (decide ((m : Int) > 4096))) 19 (.bool (decide ((m : Int) > 4096))) 18 (.int .i64 (m : Int)) (by intro δ w; kernel_rfl) ?_
    refine SL_nil (n_then ?_)
    refine SW_cond (decide ((m : Int) > 4096)) (fun _ => rfl) (fun hc2 => ?_) (fun hc2 => ?_)
    · skip
      replace hc2 := of_decide_eq_true hc2
      exact absurd hm4 (by omega)
    · skip
      replace hc2 := of_decide_eq_false hc2
      refine SW_skip (n_then ?_)
      refine SW_seq ?_
      refine SW_region ?_
      refine SL_s2 2 22 (pt (Gs.blk H.s) (n * 9)) 21 (pt F.p 0) (by intro δ w; kernel_rfl) ?_
      refine SL_perm _ (perm_cc (perm_ca (perm_ca (perm_ca (perm_cc (perm_ca perm_cz)))))) ?_
      refine SL_perm _ (perm_ca (perm_cc (perm_ca (perm_ca (perm_ca (perm_cc perm_cz)))))) ?_
      refine SL_perm _ (perm_a (perm_a (perm_c (perm_a (perm_a (perm_a perm_z)))))) ?_
      refine SL_perm _ (perm_cc (perm_ca (perm_ca (perm_cc (perm_ca (perm_ca perm_cz)))))) ?_
      refine SL_perm _ (perm_ca (perm_cc (perm_ca (perm_ca (perm_cc (perm_ca perm_cz)))))) ?_
      refine SL_perm _ (perm_ca (perm_ca (perm_cc (perm_ca (perm_ca (perm_cc perm_cz)))))) ?_
      refine SL_perm _ (perm_a (perm_a (perm_a (perm_c (perm_a (perm_a perm_z)))))) ?_
      refine SL_sig (((F.p, .cells 83 6 [Gs.val H.s H.objs.length, Gs.val H.ts H.texts.length, .map (some F.kb), pt F.T.p 0, pt F.cp 0, .int .i64 H.br]) :: ((Gs.ent 89 9 H.s (H.objs.flatMap ObjL.cells)) ++ ((H.objs.flatMap ObjL.ent) ++ ((Gs.ent 9 1 H.ts (H.texts.map encS)) ++ ((F.kb, .map (kvs encS encU H.known)) :: ((TreeV.ent H.V F.T) ++ ((CellsL.ent (CellsL.mk F.cp H.cs H.cl)) ++ ([])))))))) ++ ([])) (by simp only [List.cons_append, List.append_assoc, List.nil_append, List.append_nil]) ?_
      refine SL_cons ⟨rfl, fun _ => rfl⟩ (O_call 44 #[pt F.p 0, pt (Gs.blk H.s) (n * 9)] rfl (by intro δ w; kernel_rfl) ((heap_changed hH (n := n) hx hB hk).use _) ?_)
      rintro _ σ2 ⟨⟨cl1, br1⟩, hσ2, rfl, hccl1, hchcl1⟩
      obtain rfl : σ2 = ((F.p, .cells 83 6 [Gs.val H.s ((H.objs.set n (ObjL.chg x)).length), Gs.val H.ts H.texts.length, .map (some F.kb), pt F.T.p 0, pt F.cp 0, .int .i64 br1]) :: ((Gs.ent 89 9 H.s ((H.objs.set n (ObjL.chg x)).flatMap ObjL.cells)) ++ (((H.objs.set n (ObjL.chg x)).flatMap ObjL.ent) ++ ((Gs.ent 9 1 H.ts (H.texts.map encS)) ++ ((F.kb, .map (kvs encS encU H.known)) :: ((TreeV.ent H.V F.T) ++ ((CellsL.ent (CellsL.mk F.cp H.cs cl1)) ++ ([])))))))) := hσ2.trans (by simp only [HeapV.ent, List.cons_append, List.append_assoc, List.nil_append, List.append_nil])
      have hH1 : HeapV.ok (HeapV.mk H.s (H.objs.set n (ObjL.chg x)) H.ts H.texts H.known H.V H.cs cl1 br1) F := hH.chg hx hccl1 br1
      refine SL_nil (n_then ?_)
      refine SW_seq ?_
      refine SW_seq ?_
      refine SW_region ?_
      refine SL_segT 4 [(27, pt (Gs.blk H.s) (n * 9 + 6)), (24, .int .i64 (m : Int)), (20, .bool (decide ((m : Int) > 4096))), (7, pt (Gs.blk H.s) (n * 9)), (6, .bool false), (0, pt F.p 0), (1, .int .u64 w), (2, .int .i64 (m : Int))] (by intro δ w; kernel_rfl) ?_
      refine SL_cons ⟨rfl, fun _ => rfl⟩ (O_load (Gs.blk H.s) (n * 9 + 6) (Gs.val x.es x.elems.length) (fun _ => rfl) (by kernel_rfl) (Gs.cell hH1.row (fun e he => (mem_c (mem_h he))) (flat_cell ObjL.len (get_set hx) (j := 6) (by decide) rfl)) rfl ?_)
      refine SL_s2 2 30 (.bool (decide ((m : Int) ≤ (x.elems.length : Int)))) 29 (.int .i64 (x.elems.length : Int)) (by intro δ w; kernel_rfl) ?_
      refine SL_nil (n_then ?_)
      refine SW_cond (decide ((m : Int) ≤ (x.elems.length : Int))) (fun _ => rfl) (fun hc3 => ?_) (fun hc3 => ?_)
      · skip
        replace hc3 := of_decide_eq_true hc3
        refine SW_seq ?_
        refine SW_perm _ (perm_cc (perm_ca perm_cz)) ?_
        refine SW_perm ((Gs.ent 9 1 x.ns (x.names.map encS)) ++ ((Gs.ent 42 3 x.vs (x.vals.flatMap descCells)) ++ ((Gs.ent 24 1 x.es (x.elems.map encU)) ++ ((Gs.ent 24 1 x.is (x.inner.map encU)) ++ (((List.eraseIdx (H.objs.set n (ObjL.chg x)) n).flatMap ObjL.ent) ++ ((F.p, .cells 83 6 [Gs.val H.s ((H.objs.set n (ObjL.chg x)).length), Gs.val H.ts H.texts.length, .map (some F.kb), pt F.T.p 0, pt F.cp 0, .int .i64 br1]) :: ((Gs.ent 89 9 H.s ((H.objs.set n (ObjL.chg x)).flatMap ObjL.cells)) ++ ((Gs.ent 9 1 H.ts (H.texts.map encS)) ++ ((F.kb, .map (kvs encS encU H.known)) :: ((TreeV.ent H.V F.T) ++ ((CellsL.ent (CellsL.mk F.cp H.cs cl1)) ++ ([])))))))))))) (obj_focus (get_set hx) _) ?_
        refine SW_region ?_
        refine SL_s4 4 34 (pt (Gs.blk H.s) (n * 9 + 6)) 33 (pt (Gs.blk H.s) (n * 9)) 32 (pt (Gs.blk H.s) (n * 9)) 31 (pt (Gs.blk H.s) (n * 9)) (by intro δ w; kernel_rfl) ?_
        refine SL_cons ⟨rfl, fun _ => rfl⟩ (O_load (Gs.blk H.s) (n * 9 + 6) (Gs.val x.es x.elems.length) (fun _ => rfl) (by kernel_rfl) (Gs.cell hH1.row (fun e he => (mem_a (mem_a (mem_a (mem_a (mem_a (mem_c (mem_h he)))))))) (flat_cell ObjL.len (get_set hx) (j := 6) (by decide) rfl)) rfl ?_)
        refine SL_s1 1 36 (.int .i64 (m : Int)) (by intro δ w; kernel_rfl) ?_
        refine SL_cons ⟨rfl, fun _ => rfl⟩ (O_val (.slice (Gs.addr x.es) ((m : Int)).toNat (Gs.cap x.es)) rfl (fun δ w _ => run_slice_to (m : Int) (Gs.addr x.es) x.elems.length (Gs.cap x.es) .i64 Try.underlying22 (by kernel_rfl) rfl rfl (by omega) (by omega)) ?_)
        rw [show Value.slice (Gs.addr x.es) ((m : Int)).toNat (Gs.cap x.es) = Gs.val x.es ((x.elems.take m).length) from congrArg (fun q_ => Value.slice (Gs.addr x.es) q_ (Gs.cap x.es)) (show ((m : Int)).toNat = (x.elems.take m).length from by simp; omega)]
        refine SL_sig (((Gs.ent 9 1 x.ns (x.names.map encS)) ++ ((Gs.ent 42 3 x.vs (x.vals.flatMap descCells)) ++ ((Gs.ent 24 1 x.es (x.elems.map encU)) ++ ((Gs.ent 24 1 x.is (x.inner.map encU)) ++ (((List.eraseIdx (H.objs.set n (ObjL.chg x)) n).flatMap ObjL.ent) ++ ((F.p, .cells 83 6 [Gs.val H.s ((H.objs.set n (ObjL.chg x)).length), Gs.val H.ts H.texts.length, .map (some F.kb), pt F.T.p 0, pt F.cp 0, .int .i64 br1]) :: ((Gs.ent 89 9 H.s ((H.objs.set n (ObjL.chg x)).flatMap ObjL.cells)) ++ ((Gs.ent 9 1 H.ts (H.texts.map encS)) ++ ((F.kb, .map (kvs encS encU H.known)) :: ((TreeV.ent H.V F.T) ++ ((CellsL.ent (CellsL.mk F.cp H.cs cl1)) ++ ([])))))))))))) ++ []) (by simp only [List.append_nil]) ?_
        refine SL_cons ⟨rfl, fun _ => rfl⟩ (O_call 41 #[Gs.val x.es ((x.elems.take m).length)] rfl (by intro δ w; kernel_rfl) ((words_Clone (σ := ((Gs.ent 9 1 x.ns (x.names.map encS)) ++ ((Gs.ent 42 3 x.vs (x.vals.flatMap descCells)) ++ ((Gs.ent 24 1 x.es (x.elems.map encU)) ++ ((Gs.ent 24 1 x.is (x.inner.map encU)) ++ (((List.eraseIdx (H.objs.set n (ObjL.chg x)) n).flatMap ObjL.ent) ++ ((F.p, .cells 83 6 [Gs.val H.s ((H.objs.set n (ObjL.chg x)).length), Gs.val H.ts H.texts.length, .map (some F.kb), pt F.T.p 0, pt F.cp 0, .int .i64 br1]) :: ((Gs.ent 89 9 H.s ((H.objs.set n (ObjL.chg x)).flatMap ObjL.cells)) ++ ((Gs.ent 9 1 H.ts (H.texts.map encS)) ++ ((F.kb, .map (kvs encS encU H.known)) :: ((TreeV.ent H.V F.T) ++ ((CellsL.ent (CellsL.mk F.cp H.cs cl1)) ++ ([]))))))))))))) (l := x.elems.take m) (Src.take (Gs.src0 (show Gs.ok 1 (x.elems).length x.es (x.elems.map encU) from (HeapV.ok.at (x := (ObjL.chg x)) hH1 (get_set hx)).es) (fun e he => (mem_a (mem_a (mem_h he))))) m) (by simp; omega)).use _) ?_)
        rintro _ σ3 ⟨cg1, hσ3, rfl, hcg1⟩
        obtain rfl : σ3 = ((Gs.ent 24 1 cg1 ((x.elems.take m).map encU)) ++ ((Gs.ent 9 1 x.ns (x.names.map encS)) ++ ((Gs.ent 42 3 x.vs (x.vals.flatMap descCells)) ++ ((Gs.ent 24 1 x.es (x.elems.map encU)) ++ ((Gs.ent 24 1 x.is (x.inner.map encU)) ++ (((List.eraseIdx (H.objs.set n (ObjL.chg x)) n).flatMap ObjL.ent) ++ ((F.p, .cells 83 6 [Gs.val H.s ((H.objs.set n (ObjL.chg x)).length), Gs.val H.ts H.texts.length, .map (some F.kb), pt F.T.p 0, pt F.cp 0, .int .i64 br1]) :: ((Gs.ent 89 9 H.s ((H.objs.set n (ObjL.chg x)).flatMap ObjL.cells)) ++ ((Gs.ent 9 1 H.ts (H.texts.map encS)) ++ ((F.kb, .map (kvs encS encU H.known)) :: ((TreeV.ent H.V F.T) ++ ((CellsL.ent (CellsL.mk F.cp H.cs cl1)) ++ ([]))))))))))))) := hσ3.trans (by simp only [List.cons_append, List.append_assoc, List.nil_append, List.append_nil])
        refine SL_s2 2 40 (pt (Gs.blk H.s) (n * 9 + 6)) 39 (pt (Gs.blk H.s) (n * 9)) (by intro δ w; kernel_rfl) ?_
        have hok1 := Gs.ok.relen (ys := ((H.objs.set n (ObjL.mk x.kind x.proto x.shut x.shape x.ns x.names x.vs x.vals cg1 (x.elems.take m) x.is x.inner (if 0 ≤ x.cell then -1 else x.cell))).flatMap ObjL.cells)) hH1.row (by simp [flat_len ObjL.len])
        refine SL_perm _ (perm_ca (perm_ca (perm_ca (perm_ca (perm_ca (perm_ca (perm_cc perm_cz))))))) ?_
        refine SL_cons ⟨rfl, fun _ => rfl⟩ (O_storeG (ys := ((H.objs.set n (ObjL.mk x.kind x.proto x.shut x.shape x.ns x.names x.vs x.vals cg1 (x.elems.take m) x.is x.inner (if 0 ≤ x.cell then -1 else x.cell))).flatMap ObjL.cells)) H.s (n * 9 + 6) (Gs.val cg1 ((x.elems.take m).length)) [Gs.val cg1 ((x.elems.take m).length)] (Gs.ok.ne hH1.row (by first | omega | (simp; omega))) (fun _ => rfl) (fun _ => rfl) rfl (by kernel_rfl) rfl (by rw [flat_len ObjL.len]; simp; omega) ((row_lay (j := 6) ObjL.len (ObjL.mk x.kind x.proto x.shut x.shape x.ns x.names x.vs x.vals cg1 (x.elems.take m) x.is x.inner (if 0 ≤ x.cell then -1 else x.cell)) (get_set hx) (Nat.le_of_ble_eq_true rfl) rfl).trans (by rw [List.set_set])) rfl ?_)
        refine SL_nil (n_then ?_)
        refine SW_seq ?_
        refine SW_region ?_
        refine SL_segT 1 [(6, .bool true), (30, .bool (decide ((m : Int) ≤ (x.elems.length : Int)))), (20, .bool (decide ((m : Int) > 4096))), (7, pt (Gs.blk H.s) (n * 9)), (0, pt F.p 0), (1, .int .u64 w), (2, .int .i64 (m : Int))] (by intro δ w; kernel_rfl) ?_
        refine SL_nil (n_then ?_)
        refine SW_ret (r_then ?_)
        refine body_end (.bool true) (fun _ => rfl) ?_
        rw [show setLenL x.elems m = x.elems.take m from setLenL_le (by omega)]
        refine ⟨(cg1, cl1, br1), ?_, rfl, ?_, hchcl1⟩
        · refine Own.trans (own_mk (S := ((F.p, .cells 83 6 [Gs.val H.s ((H.objs.set n (ObjL.chg x)).length), Gs.val H.ts H.texts.length, .map (some F.kb), pt F.T.p 0, pt F.cp 0, .int .i64 br1]) :: ((Gs.ent 89 9 H.s ((H.objs.set n (ObjL.mk x.kind x.proto x.shut x.shape x.ns x.names x.vs x.vals cg1 (x.elems.take m) x.is x.inner (if 0 ≤ x.cell then -1 else x.cell))).flatMap ObjL.cells)) ++ ((Gs.ent 9 1 x.ns (x.names.map encS)) ++ ((Gs.ent 42 3 x.vs (x.vals.flatMap descCells)) ++ ((Gs.ent 24 1 cg1 ((x.elems.take m).map encU)) ++ ((Gs.ent 24 1 x.is (x.inner.map encU)) ++ (((List.eraseIdx (H.objs.set n (ObjL.chg x)) n).flatMap ObjL.ent) ++ ((Gs.ent 9 1 H.ts (H.texts.map encS)) ++ ((F.kb, .map (kvs encS encU H.known)) :: ((TreeV.ent H.V F.T) ++ ((CellsL.ent (CellsL.mk F.cp H.cs cl1)) ++ ([]))))))))))))) (J := ((Gs.ent 24 1 x.es (x.elems.map encU)) ++ ([]))) (List.Perm.trans (perm_a (perm_a (perm_a (perm_a (perm_a (perm_a (perm_a perm_z))))))) (List.Perm.cons _ (List.Perm.trans perm_cz (List.Perm.append_left _ (List.Perm.trans (perm_ca perm_cz) (List.Perm.append_left _ (List.Perm.trans (perm_ca perm_cz) (List.Perm.append_left _ (List.Perm.trans perm_cz (List.Perm.append_left _ (List.Perm.trans (perm_ca perm_cz) (List.Perm.append_left _ (List.Perm.trans (perm_ca perm_cz) (List.Perm.append_left _ (List.Perm.trans (perm_ca perm_cz) (List.Perm.append_left _ (List.Perm.trans (perm_a perm_z) (List.Perm.cons _ (List.Perm.trans (perm_ca perm_cz) (List.Perm.append_left _ (List.Perm.trans (perm_ca perm_cz) (List.Perm.append_left _ (List.Perm.refl _))))))))))))))))))))))) (by simp only [List.cons_append, List.append_assoc, List.nil_append, List.append_nil])) (Own.of_perm ?_)
          have hb_ := HeapV.back (H := (HeapV.mk H.s (H.objs.set n (ObjL.chg x)) H.ts H.texts H.known H.V H.cs cl1 br1)) F (get_set hx) (ObjL.mk x.kind x.proto x.shut x.shape x.ns x.names x.vs x.vals cg1 (x.elems.take m) x.is x.inner (if 0 ≤ x.cell then -1 else x.cell))
          simp only [HeapV.head, HeapV.put, List.set_set, List.length_set] at hb_ ⊢
          exact hb_
        · simpa only [HeapV.put, List.set_set, List.length_set] using HeapV.ok.put hH1 (get_set hx) (x' := (ObjL.mk x.kind x.proto x.shut x.shape x.ns x.names x.vs x.vals cg1 (x.elems.take m) x.is x.inner (if 0 ≤ x.cell then -1 else x.cell))) ⟨(by first | exact (show Gs.ok 1 (x.names).length x.ns (x.names.map encS) from (HeapV.ok.at (x := (ObjL.chg x)) hH1 (get_set hx)).ns) | (simp only [List.length_set]; exact (show Gs.ok 1 (x.names).length x.ns (x.names.map encS) from (HeapV.ok.at (x := (ObjL.chg x)) hH1 (get_set hx)).ns))), (by first | exact (show Gs.ok 3 (x.vals).length x.vs (x.vals.flatMap descCells) from (HeapV.ok.at (x := (ObjL.chg x)) hH1 (get_set hx)).vs) | (simp only [List.length_set]; exact (show Gs.ok 3 (x.vals).length x.vs (x.vals.flatMap descCells) from (HeapV.ok.at (x := (ObjL.chg x)) hH1 (get_set hx)).vs))), (by first | exact hcg1 | (simp only [List.length_set]; exact hcg1)), (by first | exact (show Gs.ok 1 (x.inner).length x.is (x.inner.map encU) from (HeapV.ok.at (x := (ObjL.chg x)) hH1 (get_set hx)).is) | (simp only [List.length_set]; exact (show Gs.ok 1 (x.inner).length x.is (x.inner.map encU) from (HeapV.ok.at (x := (ObjL.chg x)) hH1 (get_set hx)).is)))⟩ (by simp [setLenL_len]; omega)
      · skip
        replace hc3 := of_decide_eq_false hc3
        omega

theorem heap_SetLen_long {W0 : World} {F : HeapF} {H : HeapV} (hH : H.ok F) {w : Int} {n : Nat} {x : ObjL} (h0 : objAt w H.objs.length = some n) (hx : H.objs[n]? = some x) {k : Nat} (hB : H.bud k) (hk : k ≤ 8000000) {m : Nat} (hm4 : m ≤ 4096) (hmx : x.elems.length < m) : SC Try.prog W0 25 #[.pointer (some ⟨F.p, 0, none⟩), .int .u64 w, .int .i64 (m : Int)] (HeapV.ent H F) (Ret (fun r : Gs × List CellL × Int => (H.upd n ((ObjL.chg x).withElems r.1 (setLenL x.elems m)) H.V r.2.1 r.2.2).ent F) (fun v r => v = .bool true ∧ (H.upd n ((ObjL.chg x).withElems r.1 (setLenL x.elems m)) H.V r.2.1 r.2.2).ok F ∧ Chg x.cell H.cl r.2.1)) := by
  have hnl := (List.getElem?_eq_some_iff.1 hx).1
  have hec : x.elems.length ≤ x.es.cap := Gs.ok.cap_le (HeapV.ok.at hH hx).es
  refine SC_body (fn := Try.f25) (n := 57) Try.func25 rfl (by kernel_rfl) (ρ := [(0, pt F.p 0), (1, .int .u64 w), (2, .int .i64 (m : Int))]) rfl ?_
  refine SW_sig ((F.p, .cells 83 6 [Gs.val H.s H.objs.length, Gs.val H.ts H.texts.length, .map (some F.kb), pt F.T.p 0, pt F.cp 0, .int .i64 H.br]) :: ((Gs.ent 89 9 H.s (H.objs.flatMap ObjL.cells)) ++ ((H.objs.flatMap ObjL.ent) ++ ((Gs.ent 9 1 H.ts (H.texts.map encS)) ++ ((F.kb, .map (kvs encS encU H.known)) :: ((TreeV.ent H.V F.T) ++ ((CellsL.ent (CellsL.mk F.cp H.cs H.cl)) ++ ([])))))))) rfl ?_
  refine SW_seq ?_
  refine SW_region ?_
  refine SL_s1 1 6 (.bool false) (by intro δ w; kernel_rfl) ?_
  refine SL_nil (n_then ?_)
  refine SW_seq ?_
  refine SW_region ?_
  refine SL_s2 2 9 (.int .u64 w) 8 (pt F.p 0) (by intro δ w; kernel_rfl) ?_
  refine SL_perm _ (perm_cc (perm_ca (perm_ca (perm_ca (perm_cc (perm_ca perm_cz)))))) ?_
  refine SL_perm _ (perm_ca (perm_cc (perm_ca (perm_ca (perm_ca (perm_cc perm_cz)))))) ?_
  refine SL_perm _ (perm_a (perm_a (perm_c (perm_a (perm_a (perm_a perm_z)))))) ?_
  refine SL_perm _ (perm_cc (perm_ca (perm_ca (perm_cc (perm_ca (perm_ca perm_cz)))))) ?_
  refine SL_perm _ (perm_ca (perm_cc (perm_ca (perm_ca (perm_cc (perm_ca perm_cz)))))) ?_
  refine SL_perm _ (perm_ca (perm_ca (perm_cc (perm_ca (perm_ca (perm_cc perm_cz)))))) ?_
  refine SL_perm _ (perm_a (perm_a (perm_a (perm_c (perm_a (perm_a perm_z)))))) ?_
  refine SL_sig (((F.p, .cells 83 6 [Gs.val H.s H.objs.length, Gs.val H.ts H.texts.length, .map (some F.kb), pt F.T.p 0, pt F.cp 0, .int .i64 H.br]) :: ((Gs.ent 89 9 H.s (H.objs.flatMap ObjL.cells)) ++ ((H.objs.flatMap ObjL.ent) ++ ((Gs.ent 9 1 H.ts (H.texts.map encS)) ++ ((F.kb, .map (kvs encS encU H.known)) :: ((TreeV.ent H.V F.T) ++ ((CellsL.ent (CellsL.mk F.cp H.cs H.cl)) ++ ([])))))))) ++ ([])) (by simp only [List.cons_append, List.append_assoc, List.nil_append, List.append_nil]) ?_
  refine SL_cons ⟨rfl, fun _ => rfl⟩ (O_call 38 #[pt F.p 0, .int .u64 w] rfl (by intro δ w; kernel_rfl) ((heap_at hH w).use _) ?_)
  rintro v1 σ1 ⟨_, hσ1, hv1⟩
  obtain rfl : v1 = pt (Gs.blk H.s) (n * 9) := hv1.trans (by rw [h0])
  obtain rfl : σ1 = ((F.p, .cells 83 6 [Gs.val H.s H.objs.length, Gs.val H.ts H.texts.length, .map (some F.kb), pt F.T.p 0, pt F.cp 0, .int .i64 H.br]) :: ((Gs.ent 89 9 H.s (H.objs.flatMap ObjL.cells)) ++ ((H.objs.flatMap ObjL.ent) ++ ((Gs.ent 9 1 H.ts (H.texts.map encS)) ++ ((F.kb, .map (kvs encS encU H.known)) :: ((TreeV.ent H.V F.T) ++ ((CellsL.ent (CellsL.mk F.cp H.cs H.cl)) ++ ([])))))))) := hσ1.trans (by simp only [HeapV.ent, List.cons_append, List.append_assoc, List.nil_append, List.append_nil])
  refine SL_s1 1 7 (pt (Gs.blk H.s) (n * 9)) (by intro δ w; kernel_rfl) ?_
  refine SL_nil (n_then ?_)
  refine SW_seq ?_
  refine SW_seq ?_
  refine SW_region ?_
  refine SL_s7 7 17 (.bool (decide ((m : Int) < 0))) 16 (.bool (decide ((m : Int) < 0))) 15 (.bool (decide ((m : Int) < 0))) 14 (.int .i64 (m : Int)) 13 (.bool false) 12 (.bool false) 11 (pt (Gs.blk H.s) (n * 9)) (by intro δ w; kernel_rfl) ?_
  refine SL_tb (decide ((m : Int) < 0)) (fun tb_ => [(17, .bool tb_), (16, .bool tb_), (15, .bool tb_), (14, .int .i64 (m : Int)), (13, .bool false), (12, .bool false), (11, pt (Gs.blk H.s) (n * 9)), (7, pt (Gs.blk H.s) (n * 9)), (10, pt (Gs.blk H.s) (n * 9)), (9, .int .u64 w), (8, pt F.p 0), (6, .bool false), (0, pt F.p 0), (1, .int .u64 w), (2, .int .i64 (m : Int))]) (fun hg1 => ?_) (fun hg1 => ?_)
  · skip
    replace hg1 := of_decide_eq_true hg1
    refine SL_s3 3 20 (.bool true) 19 (undef) 18 (undef) (by intro δ w; kernel_rfl) ?_
    refine SL_nil (n_then ?_)
    refine SW_true (fun _ => rfl) ?_
    refine SW_seq ?_
    refine SW_region ?_
    refine SL_segT 1 [(6, .bool false), (20, .bool true), (7, pt (Gs.blk H.s) (n * 9)), (0, pt F.p 0), (1, .int .u64 w), (2, .int .i64 (m : Int))] (by intro δ w; kernel_rfl) ?_
    refine SL_nil (n_then ?_)
    refine SW_ret (r_then ?_)
    refine body_end (.bool false) (fun _ => rfl) ?_
    exact absurd hm4 (by omega)
  · skip
    replace hg1 := of_decide_eq_false hg1
    refine SL_s3 3 20 (.bool (decide ((m : Int) > 4096))) 19 (.bool (decide ((m : Int) > 4096))) 18 (.int .i64 (m : Int)) (by intro δ w; kernel_rfl) ?_
    refine SL_nil (n_then ?_)
    refine SW_cond (decide ((m : Int) > 4096)) (fun _ => rfl) (fun hc2 => ?_) (fun hc2 => ?_)
    · skip
      replace hc2 := of_decide_eq_true hc2
      exact absurd hm4 (by omega)
    · skip
      replace hc2 := of_decide_eq_false hc2
      refine SW_skip (n_then ?_)
      refine SW_seq ?_
      refine SW_region ?_
      refine SL_s2 2 22 (pt (Gs.blk H.s) (n * 9)) 21 (pt F.p 0) (by intro δ w; kernel_rfl) ?_
      refine SL_perm _ (perm_cc (perm_ca (perm_ca (perm_ca (perm_cc (perm_ca perm_cz)))))) ?_
      refine SL_perm _ (perm_ca (perm_cc (perm_ca (perm_ca (perm_ca (perm_cc perm_cz)))))) ?_
      refine SL_perm _ (perm_a (perm_a (perm_c (perm_a (perm_a (perm_a perm_z)))))) ?_
      refine SL_perm _ (perm_cc (perm_ca (perm_ca (perm_cc (perm_ca (perm_ca perm_cz)))))) ?_
      refine SL_perm _ (perm_ca (perm_cc (perm_ca (perm_ca (perm_cc (perm_ca perm_cz)))))) ?_
      refine SL_perm _ (perm_ca (perm_ca (perm_cc (perm_ca (perm_ca (perm_cc perm_cz)))))) ?_
      refine SL_perm _ (perm_a (perm_a (perm_a (perm_c (perm_a (perm_a perm_z)))))) ?_
      refine SL_sig (((F.p, .cells 83 6 [Gs.val H.s H.objs.length, Gs.val H.ts H.texts.length, .map (some F.kb), pt F.T.p 0, pt F.cp 0, .int .i64 H.br]) :: ((Gs.ent 89 9 H.s (H.objs.flatMap ObjL.cells)) ++ ((H.objs.flatMap ObjL.ent) ++ ((Gs.ent 9 1 H.ts (H.texts.map encS)) ++ ((F.kb, .map (kvs encS encU H.known)) :: ((TreeV.ent H.V F.T) ++ ((CellsL.ent (CellsL.mk F.cp H.cs H.cl)) ++ ([])))))))) ++ ([])) (by simp only [List.cons_append, List.append_assoc, List.nil_append, List.append_nil]) ?_
      refine SL_cons ⟨rfl, fun _ => rfl⟩ (O_call 44 #[pt F.p 0, pt (Gs.blk H.s) (n * 9)] rfl (by intro δ w; kernel_rfl) ((heap_changed hH (n := n) hx hB hk).use _) ?_)
      rintro _ σ2 ⟨⟨cl1, br1⟩, hσ2, rfl, hccl1, hchcl1⟩
      obtain rfl : σ2 = ((F.p, .cells 83 6 [Gs.val H.s ((H.objs.set n (ObjL.chg x)).length), Gs.val H.ts H.texts.length, .map (some F.kb), pt F.T.p 0, pt F.cp 0, .int .i64 br1]) :: ((Gs.ent 89 9 H.s ((H.objs.set n (ObjL.chg x)).flatMap ObjL.cells)) ++ (((H.objs.set n (ObjL.chg x)).flatMap ObjL.ent) ++ ((Gs.ent 9 1 H.ts (H.texts.map encS)) ++ ((F.kb, .map (kvs encS encU H.known)) :: ((TreeV.ent H.V F.T) ++ ((CellsL.ent (CellsL.mk F.cp H.cs cl1)) ++ ([])))))))) := hσ2.trans (by simp only [HeapV.ent, List.cons_append, List.append_assoc, List.nil_append, List.append_nil])
      have hH1 : HeapV.ok (HeapV.mk H.s (H.objs.set n (ObjL.chg x)) H.ts H.texts H.known H.V H.cs cl1 br1) F := hH.chg hx hccl1 br1
      refine SL_nil (n_then ?_)
      refine SW_seq ?_
      refine SW_seq ?_
      refine SW_region ?_
      refine SL_segT 4 [(27, pt (Gs.blk H.s) (n * 9 + 6)), (24, .int .i64 (m : Int)), (20, .bool (decide ((m : Int) > 4096))), (7, pt (Gs.blk H.s) (n * 9)), (6, .bool false), (0, pt F.p 0), (1, .int .u64 w), (2, .int .i64 (m : Int))] (by intro δ w; kernel_rfl) ?_
      refine SL_cons ⟨rfl, fun _ => rfl⟩ (O_load (Gs.blk H.s) (n * 9 + 6) (Gs.val x.es x.elems.length) (fun _ => rfl) (by kernel_rfl) (Gs.cell hH1.row (fun e he => (mem_c (mem_h he))) (flat_cell ObjL.len (get_set hx) (j := 6) (by decide) rfl)) rfl ?_)
      refine SL_s2 2 30 (.bool (decide ((m : Int) ≤ (x.elems.length : Int)))) 29 (.int .i64 (x.elems.length : Int)) (by intro δ w; kernel_rfl) ?_
      refine SL_nil (n_then ?_)
      refine SW_cond (decide ((m : Int) ≤ (x.elems.length : Int))) (fun _ => rfl) (fun hc3 => ?_) (fun hc3 => ?_)
      · skip
        replace hc3 := of_decide_eq_true hc3
        omega
      · skip
        replace hc3 := of_decide_eq_false hc3
        refine SW_skip (n_then ?_)
        refine SW_seq ?_
        refine SW_block ?_
        refine SW_perm _ (perm_cc (perm_ca perm_cz)) ?_
        refine SW_perm ((Gs.ent 9 1 x.ns (x.names.map encS)) ++ ((Gs.ent 42 3 x.vs (x.vals.flatMap descCells)) ++ ((Gs.ent 24 1 x.es (x.elems.map encU)) ++ ((Gs.ent 24 1 x.is (x.inner.map encU)) ++ (((List.eraseIdx (H.objs.set n (ObjL.chg x)) n).flatMap ObjL.ent) ++ ((F.p, .cells 83 6 [Gs.val H.s ((H.objs.set n (ObjL.chg x)).length), Gs.val H.ts H.texts.length, .map (some F.kb), pt F.T.p 0, pt F.cp 0, .int .i64 br1]) :: ((Gs.ent 89 9 H.s ((H.objs.set n (ObjL.chg x)).flatMap ObjL.cells)) ++ ((Gs.ent 9 1 H.ts (H.texts.map encS)) ++ ((F.kb, .map (kvs encS encU H.known)) :: ((TreeV.ent H.V F.T) ++ ((CellsL.ent (CellsL.mk F.cp H.cs cl1)) ++ ([])))))))))))) (obj_focus (get_set hx) _) ?_
        have e9 : setLenL x.elems x.elems.length = x.elems := setLenL_self _
        refine SW_loop (α := Nat × Gs) (fun z_ ρ_ σ_ => Fits ρ_ σ_ [(0, pt F.p 0), (7, pt (Gs.blk H.s) (n * 9)), (2, .int .i64 (m : Int))] ((Gs.ent 9 1 x.ns (x.names.map encS)) ++ ((Gs.ent 42 3 x.vs (x.vals.flatMap descCells)) ++ ((Gs.ent 24 1 z_.2 ((setLenL x.elems z_.1).map encU)) ++ ((Gs.ent 24 1 x.is (x.inner.map encU)) ++ (((List.eraseIdx (H.objs.set n (ObjL.chg x)) n).flatMap ObjL.ent) ++ ((F.p, .cells 83 6 [Gs.val H.s H.objs.length, Gs.val H.ts H.texts.length, .map (some F.kb), pt F.T.p 0, pt F.cp 0, .int .i64 br1]) :: ((Gs.ent 89 9 H.s ((H.objs.set n (ObjL.mk x.kind x.proto x.shut x.shape x.ns x.names x.vs x.vals z_.2 (setLenL x.elems z_.1) x.is x.inner (if 0 ≤ x.cell then -1 else x.cell))).flatMap ObjL.cells)) ++ ((Gs.ent 9 1 H.ts (H.texts.map encS)) ++ ((F.kb, .map (kvs encS encU H.known)) :: ((TreeV.ent H.V F.T) ++ ((CellsL.ent (CellsL.mk F.cp H.cs cl1)) ++ ([])))))))))))) ∧ (x.elems.length ≤ z_.1 ∧ z_.1 ≤ m) ∧ Gs.ok 9 H.objs.length H.s ((H.objs.set n (ObjL.mk x.kind x.proto x.shut x.shape x.ns x.names x.vs x.vals z_.2 (setLenL x.elems z_.1) x.is x.inner (if 0 ≤ x.cell then -1 else x.cell))).flatMap ObjL.cells) ∧ Gs.ok 1 (setLenL x.elems z_.1).length z_.2 ((setLenL x.elems z_.1).map encU)) (fun z_ => m - z_.1) (x.elems.length, x.es) ⟨⟨fun _ => rfl, (by simp only []; rw [e9]; exact Own.of_perm (List.Perm.of_eq (by simp only [List.set_set, List.length_set])))⟩, ⟨Nat.le_refl _, by omega⟩, (by simp only []; rw [e9]; have q_ := hH1.row; rw [List.length_set] at q_; exact q_), (by simp only []; rw [e9]; exact (show Gs.ok 1 (x.elems).length x.es (x.elems.map encU) from (HeapV.ok.at (x := (ObjL.chg x)) hH1 (get_set hx)).es))⟩ ?_
        rintro ⟨m_, g⟩ ρ_ σ_ ⟨hfit, hi0, hi1, hi2⟩
        refine SW_fits hfit ?_
        clear hfit
        simp only [] at hi0 hi1 hi2 ⊢
        have hll := setLenL_len x.elems m_
        refine SW_seq ?_
        refine SW_seq ?_
        refine SW_region ?_
        refine SL_s3 3 43 (pt (Gs.blk H.s) (n * 9 + 6)) 42 (pt (Gs.blk H.s) (n * 9)) 41 (pt (Gs.blk H.s) (n * 9)) (by intro δ w; kernel_rfl) ?_
        refine SL_cons ⟨rfl, fun _ => rfl⟩ (O_load (Gs.blk H.s) (n * 9 + 6) (Gs.val g ((setLenL x.elems m_).length)) (fun _ => rfl) (by kernel_rfl) (Gs.cell hi1 (fun e he => (mem_a (mem_a (mem_a (mem_a (mem_a (mem_c (mem_h he)))))))) (flat_cell ObjL.len (get_set hx) (j := 6) (by decide) rfl)) rfl ?_)
        refine SL_s3 3 47 (.bool (decide (((((setLenL x.elems m_).length : Nat)) : Int) < (m : Int)))) 46 (.int .i64 (m : Int)) 45 (.int .i64 ((((setLenL x.elems m_).length : Nat)) : Int)) (by intro δ w; kernel_rfl) ?_
        refine SL_nil (n_then ?_)
        refine SW_cond (decide (((((setLenL x.elems m_).length : Nat)) : Int) < (m : Int))) (fun _ => rfl) (fun hc4 => ?_) (fun hc4 => ?_)
        · skip
          replace hc4 := of_decide_eq_true hc4
          refine SW_skip (n_then ?_)
          refine SW_block ?_
          refine SW_region ?_
          refine SL_s4 4 51 (pt (Gs.blk H.s) (n * 9 + 6)) 50 (pt (Gs.blk H.s) (n * 9)) 49 (pt (Gs.blk H.s) (n * 9)) 48 (pt (Gs.blk H.s) (n * 9)) (by intro δ w; kernel_rfl) ?_
          refine SL_cons ⟨rfl, fun _ => rfl⟩ (O_load (Gs.blk H.s) (n * 9 + 6) (Gs.val g ((setLenL x.elems m_).length)) (fun _ => rfl) (by kernel_rfl) (Gs.cell hi1 (fun e he => (mem_a (mem_a (mem_a (mem_a (mem_a (mem_c (mem_h he)))))))) (flat_cell ObjL.len (get_set hx) (j := 6) (by decide) rfl)) rfl ?_)
          refine SL_cons ⟨rfl, fun _ => rfl⟩ (O_new (fun b => .slice (some ⟨b, 0, none⟩) 1 1) (.cells #[.int .u64 18445336698825998340] 24 (0, 0)) (.cells 24 1 [.int .u64 18445336698825998340]) rfl (by intro δ w; kernel_rfl) ⟨rfl, rfl, rfl, rfl⟩ ?_)
          intro b5 hlb5 hnb5
          refine SL_perm _ (perm_cc (perm_ca (perm_ca perm_cz))) ?_
          refine SL_cons ⟨rfl, fun _ => rfl⟩ (O_append (size := 1) (bytes := 8) (z := .int .u64 0) g ((setLenL x.elems m_).length) 1 (some ⟨b5, 0, none⟩) 1 ((setLenL x.elems m_).map encU) ([.int .u64 18445336698825998340]) (((setLenL x.elems m_) ++ [18445336698825998340]).map encU) (map_snoc _ 18445336698825998340 rfl) (fun _ => rfl) (fun _ => rfl) Try.underlying22 (by kernel_rfl) rfl (by decide) hi2 rfl (.inr ⟨b5, 0, rfl, Cells.own (mem_a mem_z) rfl⟩) rfl (by omega) (by decide) rfl ?_)
          intro s6 hks6 hfs6
          rw [show (setLenL x.elems m_).length + 1 = ((setLenL x.elems m_) ++ [18445336698825998340]).length from by simp]
          rw [show (setLenL x.elems m_).length + 1 = ((setLenL x.elems m_) ++ [18445336698825998340]).length from by simp] at hks6
          have hls6 : ((setLenL x.elems m_) ++ [18445336698825998340]).length = (setLenL x.elems m_).length + 1 := by simp
          refine SL_segT 2 [(56, pt (Gs.blk H.s) (n * 9 + 6)), (54, Gs.val s6 (((setLenL x.elems m_) ++ [18445336698825998340]).length)), (47, .bool (decide (((((setLenL x.elems m_).length : Nat)) : Int) < (m : Int)))), (0, pt F.p 0), (7, pt (Gs.blk H.s) (n * 9)), (2, .int .i64 (m : Int))] (by intro δ w; kernel_rfl) ?_
          have hok1 := Gs.ok.relen (ys := ((H.objs.set n (ObjL.mk x.kind x.proto x.shut x.shape x.ns x.names x.vs x.vals s6 ((setLenL x.elems m_) ++ [18445336698825998340]) x.is x.inner (if 0 ≤ x.cell then -1 else x.cell))).flatMap ObjL.cells)) hi1 (by simp [flat_len ObjL.len])
          refine SL_perm _ (perm_ca (perm_cc (perm_ca (perm_ca (perm_ca (perm_ca (perm_cc perm_cz))))))) ?_
          refine SL_cons ⟨rfl, fun _ => rfl⟩ (O_storeG (ys := ((H.objs.set n (ObjL.mk x.kind x.proto x.shut x.shape x.ns x.names x.vs x.vals s6 ((setLenL x.elems m_) ++ [18445336698825998340]) x.is x.inner (if 0 ≤ x.cell then -1 else x.cell))).flatMap ObjL.cells)) H.s (n * 9 + 6) (Gs.val s6 (((setLenL x.elems m_) ++ [18445336698825998340]).length)) [Gs.val s6 (((setLenL x.elems m_) ++ [18445336698825998340]).length)] (Gs.ok.ne hi1 (by first | omega | (simp; omega))) (fun _ => rfl) (fun _ => rfl) rfl (by kernel_rfl) rfl (by rw [flat_len ObjL.len]; simp; omega) ((row_lay (j := 6) ObjL.len (ObjL.mk x.kind x.proto x.shut x.shape x.ns x.names x.vs x.vals s6 ((setLenL x.elems m_) ++ [18445336698825998340]) x.is x.inner (if 0 ≤ x.cell then -1 else x.cell)) (get_set hx) (Nat.le_of_ble_eq_true rfl) rfl).trans (by rw [List.set_set])) rfl ?_)
          refine SL_nil (n_in (n_then ?_))
          have hsn := setLenL_snoc (l := x.elems) (n := m_) (by omega)
          refine ⟨(m_ + 1, s6), by simp only []; omega, ?_⟩
          simp only []
          rw [← hsn]
          exact ⟨⟨fun _ => rfl, (own_mk (S := ((Gs.ent 9 1 x.ns (x.names.map encS)) ++ ((Gs.ent 42 3 x.vs (x.vals.flatMap descCells)) ++ ((Gs.ent 24 1 s6 (((setLenL x.elems m_) ++ [18445336698825998340]).map encU)) ++ ((Gs.ent 24 1 x.is (x.inner.map encU)) ++ (((List.eraseIdx (H.objs.set n (ObjL.chg x)) n).flatMap ObjL.ent) ++ ((F.p, .cells 83 6 [Gs.val H.s H.objs.length, Gs.val H.ts H.texts.length, .map (some F.kb), pt F.T.p 0, pt F.cp 0, .int .i64 br1]) :: ((Gs.ent 89 9 H.s ((H.objs.set n (ObjL.mk x.kind x.proto x.shut x.shape x.ns x.names x.vs x.vals s6 ((setLenL x.elems m_) ++ [18445336698825998340]) x.is x.inner (if 0 ≤ x.cell then -1 else x.cell))).flatMap ObjL.cells)) ++ ((Gs.ent 9 1 H.ts (H.texts.map encS)) ++ ((F.kb, .map (kvs encS encU H.known)) :: ((TreeV.ent H.V F.T) ++ ((CellsL.ent (CellsL.mk F.cp H.cs cl1)) ++ ([]))))))))))))) (J := ((b5, .cells 24 1 [.int .u64 18445336698825998340]) :: ([]))) (List.Perm.trans (perm_ca (perm_ca (perm_cc perm_cz))) (List.Perm.append_left _ (List.Perm.trans (perm_ca (perm_ca (perm_cc perm_cz))) (List.Perm.append_left _ (List.Perm.trans (perm_ca perm_cz) (List.Perm.append_left _ (List.Perm.trans (perm_ca (perm_cc perm_cz)) (List.Perm.append_left _ (List.Perm.trans (perm_ca (perm_cc perm_cz)) (List.Perm.append_left _ (List.Perm.trans (perm_a (perm_c perm_z)) (List.Perm.cons _ (List.Perm.trans perm_cz (List.Perm.append_left _ (List.Perm.trans (perm_cc perm_cz) (List.Perm.append_left _ (List.Perm.trans (perm_c perm_z) (List.Perm.cons _ (List.Perm.trans (perm_cc perm_cz) (List.Perm.append_left _ (List.Perm.trans (perm_cc perm_cz) (List.Perm.append_left _ (List.Perm.refl _))))))))))))))))))))))) (by simp only [List.cons_append, List.append_assoc, List.nil_append, List.append_nil]))⟩, by omega, hok1, hks6⟩
        · skip
          replace hc4 := of_decide_eq_false hc4
          refine SW_exit (x_then (x_then (x_in (n_then ?_))))
          refine SW_seq ?_
          refine SW_region ?_
          refine SL_s1 1 6 (.bool true) (by intro δ w; kernel_rfl) ?_
          refine SL_nil (n_then ?_)
          refine SW_ret ?_
          refine body_end (.bool true) (fun _ => rfl) ?_
          obtain rfl : m_ = m := by omega
          refine ⟨(g, cl1, br1), ?_, rfl, ?_, hchcl1⟩
          · refine Own.trans (Own.of_perm (S := ((F.p, .cells 83 6 [Gs.val H.s H.objs.length, Gs.val H.ts H.texts.length, .map (some F.kb), pt F.T.p 0, pt F.cp 0, .int .i64 br1]) :: ((Gs.ent 89 9 H.s ((H.objs.set n (ObjL.mk x.kind x.proto x.shut x.shape x.ns x.names x.vs x.vals g (setLenL x.elems m_) x.is x.inner (if 0 ≤ x.cell then -1 else x.cell))).flatMap ObjL.cells)) ++ ((Gs.ent 9 1 x.ns (x.names.map encS)) ++ ((Gs.ent 42 3 x.vs (x.vals.flatMap descCells)) ++ ((Gs.ent 24 1 g ((setLenL x.elems m_).map encU)) ++ ((Gs.ent 24 1 x.is (x.inner.map encU)) ++ (((List.eraseIdx (H.objs.set n (ObjL.chg x)) n).flatMap ObjL.ent) ++ ((Gs.ent 9 1 H.ts (H.texts.map encS)) ++ ((F.kb, .map (kvs encS encU H.known)) :: ((TreeV.ent H.V F.T) ++ ((CellsL.ent (CellsL.mk F.cp H.cs cl1)) ++ ([]))))))))))))) (List.Perm.trans (perm_a (perm_a (perm_a (perm_a (perm_a perm_z))))) (List.Perm.cons _ (List.Perm.trans (perm_ca (perm_ca (perm_ca (perm_ca (perm_ca perm_cz))))) (List.Perm.append_left _ (List.Perm.refl _)))))) (Own.of_perm ?_)
            have hb_ := HeapV.back (H := (HeapV.mk H.s (H.objs.set n (ObjL.chg x)) H.ts H.texts H.known H.V H.cs cl1 br1)) F (get_set hx) (ObjL.mk x.kind x.proto x.shut x.shape x.ns x.names x.vs x.vals g (setLenL x.elems m_) x.is x.inner (if 0 ≤ x.cell then -1 else x.cell))
            simp only [HeapV.head, HeapV.put, List.set_set, List.length_set] at hb_ ⊢
            exact hb_
          · simpa only [HeapV.put, List.set_set, List.length_set] using HeapV.ok.put hH1 (get_set hx) (x' := (ObjL.mk x.kind x.proto x.shut x.shape x.ns x.names x.vs x.vals g (setLenL x.elems m_) x.is x.inner (if 0 ≤ x.cell then -1 else x.cell))) ⟨(by first | exact (show Gs.ok 1 (x.names).length x.ns (x.names.map encS) from (HeapV.ok.at (x := (ObjL.chg x)) hH1 (get_set hx)).ns) | (simp only [List.length_set]; exact (show Gs.ok 1 (x.names).length x.ns (x.names.map encS) from (HeapV.ok.at (x := (ObjL.chg x)) hH1 (get_set hx)).ns))), (by first | exact (show Gs.ok 3 (x.vals).length x.vs (x.vals.flatMap descCells) from (HeapV.ok.at (x := (ObjL.chg x)) hH1 (get_set hx)).vs) | (simp only [List.length_set]; exact (show Gs.ok 3 (x.vals).length x.vs (x.vals.flatMap descCells) from (HeapV.ok.at (x := (ObjL.chg x)) hH1 (get_set hx)).vs))), (by first | exact hi2 | (simp only [List.length_set]; exact hi2)), (by first | exact (show Gs.ok 1 (x.inner).length x.is (x.inner.map encU) from (HeapV.ok.at (x := (ObjL.chg x)) hH1 (get_set hx)).is) | (simp only [List.length_set]; exact (show Gs.ok 1 (x.inner).length x.is (x.inner.map encU) from (HeapV.ok.at (x := (ObjL.chg x)) hH1 (get_set hx)).is)))⟩ (by simp [setLenL_len]; omega)

end Go.Proofs.Ytdfhbheipagnmaa
