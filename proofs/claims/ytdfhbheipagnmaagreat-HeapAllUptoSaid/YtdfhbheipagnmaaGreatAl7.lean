/-
  What functions of heap and word do to the memory they own, step by step: each theorem is one function's contract. Conditions: those that each theorem names.
-/
import Derived.Test.YtdfhbheipagnmaaGreatAl4
import Derived.Test.YtdfhbheipagnmaaGreatAl6
import Derived.Test.YtdfhbheipagnmaaGreatAl5
set_option linter.unusedVariables false
set_option linter.unusedSimpArgs false
set_option maxRecDepth 100000
set_option maxHeartbeats 4000000
namespace Go.Proofs.YtdfhbheipagnmaaGreat
open Go.Sl

theorem oneS (a : ByteArray) : ((fun a => [encS a]) a : List Value).length = 1 := rfl
theorem delete_texts0 {W0 : World} {l : List ByteArray} {i : Nat} {s : Gs} (hs : s.ok 1 l.length (l.flatMap (fun a => [encS a]))) (hi : i < l.length) : SC Tryz.prog W0 62 #[s.val l.length, .int .i64 i, .int .i64 ((i : Int) + 1)] (s.ent 9 1 (l.flatMap (fun a => [encS a]))) (Ret (fun _ : Unit => s.ent 9 1 ((l.eraseIdx i).flatMap (fun a => [encS a]))) (fun v _ => v = s.val (l.eraseIdx i).length ∧ s.ok 1 (l.eraseIdx i).length ((l.eraseIdx i).flatMap (fun a => [encS a])))) := by
  cases s with
  | nil => exact absurd hs.1 (by omega)
  | «at» g c =>
    have hcap : l.length ≤ c := hs.1
    have hcm := hs.2.1
    unfold maxLen at hcm
    refine SC_body (fn := Tryz.f62) (n := 33) Tryz.func62 rfl (by kernel_rfl) (ρ := [(0, .slice (some ⟨g, 0, none⟩) l.length c), (1, .int .i64 (i : Int)), (2, .int .i64 ((i : Int) + 1))]) rfl ?_
    obtain ⟨tl, htl, hlay⟩ := lay_erase oneS hi
    refine sr ?_
    refine os 1 ?_
    refine nsr ?_
    refine os 5 ?_
    refine L (O_val (.slice (tailA g l.length i 1) ((i + 1) - i) (l.length - i)) rfl (fun δ w _ => run_slice_three g l.length c i (i + 1) l.length 1 .i64 .i64 .i64 Tryz.underlying26 (by kernel_rfl) rfl rfl rfl rfl (by omega) (by omega) hcap) ?_)
    refine nq ?_
    refine sr ?_
    refine os 3 ?_
    refine kp [16, 6, 0, 1, 2] ?_
    refine nt ?_
    refine SW_false (fun _ => (congrArg Value.bool (show ((i : Int) == ((i : Int) + 1)) = false from (by simp; omega)))) ?_
    refine SW_skip (n_then ?_)
    refine sr ?_
    refine os 3 ?_
    refine nq ?_
    refine SW_draw [] [] (by kernel_rfl) rd_nil ?_
    refine aS 0 ?_
    refine aS 1 ?_
    refine tk 2 (.slice (some ⟨g, 0, none⟩) ((i : Int)).toNat c) ?_ (hy := fun δ w => run_slice_to (i : Int) (some ⟨g, 0, none⟩) l.length c .i64 Tryz.underlying26 (by kernel_rfl) rfl rfl (by omega) (by omega))
    rw [show ((i : Int)).toNat = i from by omega]
    refine aS 3 ?_
    refine aS 4 ?_
    refine tk 5 (.slice (tailA g c (i + 1) 1) (l.length - (i + 1)) (c - (i + 1))) ?_ (hy := fun δ w => run_slice_from g l.length c (i + 1) 1 .i64 Tryz.underlying26 (by kernel_rfl) rfl rfl (by omega))
    refine sa1 false 6 (h := O_append_in g c i (l.length - (i + 1)) (tailA g c (i + 1) 1) (c - (i + 1)) (l.flatMap (fun a => [encS a])) ((l.drop (i + 1)).flatMap (fun a => [encS a])) (((l.eraseIdx i).flatMap (fun a => [encS a])) ++ tl) (fun _ => rfl) (fun _ => rfl) Tryz.underlying26 (by kernel_rfl) (by rw [flat_len oneS, List.length_drop]) (del_src oneS hi hcap) (flat_one (fun _ => rfl) _) (by omega) (del_fit oneS hi) hlay rfl ?_)
    rw [show i + (l.length - (i + 1)) = l.length - 1 from by omega]
    refine ⟨fun hnd => (by cases hnd), ?_⟩
    refine kpA [26, 7, 16, 6, 0, 1, 2] ?_
    refine aS 7 ?_
    refine SA_done (by kernel_rfl) (n_then ?_)
    refine sr ?_
    refine os 4 ?_
    refine L (O_val (.slice (tailA g c (l.length - 1) 1) (l.length - (l.length - 1)) (c - (l.length - 1))) rfl (fun δ w _ => run_slice_mid g (l.length - 1) c (l.length - 1) l.length 1 .i64 .i64 Tryz.underlying26 (by kernel_rfl) rfl rfl rfl (by omega) hcap) ?_)
    rw [show Value.slice (tailA g c (l.length - 1) 1) (l.length - (l.length - 1)) (c - (l.length - 1)) = Value.slice (some ⟨g, (l.length - 1) * 1, none⟩) (0 + 1) (c - (l.length - 1)) from by unfold tailA; rw [if_neg (by omega), show l.length - (l.length - 1) = 0 + 1 from by omega]]
    refine L (O_clear g (c * 1) ((l.length - 1) * 1) 0 (c - (l.length - 1)) (.string ByteArray.empty) (((l.eraseIdx i).flatMap (fun a => [encS a])) ++ tl) [.string ByteArray.empty] (((l.eraseIdx i).flatMap (fun a => [encS a])) ++ [.string ByteArray.empty]) (fun _ => rfl) Tryz.underlying26 (by kernel_rfl) (by kernel_rfl) (by kernel_rfl) (by simp only [List.length_append, erase_len oneS hi, htl]; exact Nat.le_refl _) (lay_tail (zs := [.string ByteArray.empty]) (erase_len oneS hi) htl.symm) rfl ?_)
    refine nq ?_
    refine SW_weakG (s := Gs.at g c) (e := 9) (size := 1) (cs := ((l.eraseIdx i).flatMap (fun a => [encS a]))) (ds := [.string ByteArray.empty]) (τ := []) ?_
    refine SW_region ?_
    refine os 2 ?_
    refine kp [6, 0, 7, 16, 1, 2] ?_
    refine nt ?_
    refine SW_ret ?_
    refine body_end (.slice (some ⟨g, 0, none⟩) (l.length - 1) c) (fun _ => rfl) ?_
    refine ⟨(), Own.of_perm (List.Perm.refl _), ?_, ?_⟩
    · rw [List.length_eraseIdx, if_pos hi]; rfl
    · refine ⟨by rw [List.length_eraseIdx, if_pos hi]; omega, hs.2.1, ?_⟩
      rw [erase_len oneS hi, List.length_eraseIdx, if_pos hi]

theorem delete_texts {W0 : World} {l : List ByteArray} {i : Nat} {s : Gs} (hs : s.ok 1 l.length (l.map encS)) (hi : i < l.length) : SC Tryz.prog W0 62 #[s.val l.length, .int .i64 i, .int .i64 ((i : Int) + 1)] (s.ent 9 1 (l.map encS)) (Ret (fun _ : Unit => s.ent 9 1 ((l.eraseIdx i).map encS)) (fun v _ => v = s.val (l.eraseIdx i).length ∧ s.ok 1 (l.eraseIdx i).length ((l.eraseIdx i).map encS))) := by
  rw [List.map_eq_flatMap, List.map_eq_flatMap]
  rw [List.map_eq_flatMap] at hs
  exact delete_texts0 hs hi

theorem delete_descs {W0 : World} {l : List DescP} {i : Nat} {s : Gs} (hs : s.ok 3 l.length (l.flatMap descCells)) (hi : i < l.length) : SC Tryz.prog W0 63 #[s.val l.length, .int .i64 i, .int .i64 ((i : Int) + 1)] (s.ent 35 3 (l.flatMap descCells)) (Ret (fun _ : Unit => s.ent 35 3 ((l.eraseIdx i).flatMap descCells)) (fun v _ => v = s.val (l.eraseIdx i).length ∧ s.ok 3 (l.eraseIdx i).length ((l.eraseIdx i).flatMap descCells))) := by
  cases s with
  | nil => exact absurd hs.1 (by omega)
  | «at» g c =>
    have hcap : l.length ≤ c := hs.1
    have hcm := hs.2.1
    unfold maxLen at hcm
    refine SC_body (fn := Tryz.f63) (n := 33) Tryz.func63 rfl (by kernel_rfl) (ρ := [(0, .slice (some ⟨g, 0, none⟩) l.length c), (1, .int .i64 (i : Int)), (2, .int .i64 ((i : Int) + 1))]) rfl ?_
    obtain ⟨tl, htl, hlay⟩ := lay_erase descCells_len hi
    refine sr ?_
    refine os 1 ?_
    refine nsr ?_
    refine os 5 ?_
    refine L (O_val (.slice (tailA g l.length i 3) ((i + 1) - i) (l.length - i)) rfl (fun δ w _ => run_slice_three g l.length c i (i + 1) l.length 3 .i64 .i64 .i64 Tryz.underlying81 (by kernel_rfl) rfl rfl rfl rfl (by omega) (by omega) hcap) ?_)
    refine nq ?_
    refine sr ?_
    refine os 3 ?_
    refine kp [16, 6, 0, 1, 2] ?_
    refine nt ?_
    refine SW_false (fun _ => (congrArg Value.bool (show ((i : Int) == ((i : Int) + 1)) = false from (by simp; omega)))) ?_
    refine SW_skip (n_then ?_)
    refine sr ?_
    refine os 3 ?_
    refine nq ?_
    refine SW_draw [] [] (by kernel_rfl) rd_nil ?_
    refine aS 0 ?_
    refine aS 1 ?_
    refine tk 2 (.slice (some ⟨g, 0, none⟩) ((i : Int)).toNat c) ?_ (hy := fun δ w => run_slice_to (i : Int) (some ⟨g, 0, none⟩) l.length c .i64 Tryz.underlying81 (by kernel_rfl) rfl rfl (by omega) (by omega))
    rw [show ((i : Int)).toNat = i from by omega]
    refine aS 3 ?_
    refine aS 4 ?_
    refine tk 5 (.slice (tailA g c (i + 1) 3) (l.length - (i + 1)) (c - (i + 1))) ?_ (hy := fun δ w => run_slice_from g l.length c (i + 1) 3 .i64 Tryz.underlying81 (by kernel_rfl) rfl rfl (by omega))
    refine sa1 false 6 (h := O_append_in g c i (l.length - (i + 1)) (tailA g c (i + 1) 3) (c - (i + 1)) (l.flatMap descCells) ((l.drop (i + 1)).flatMap descCells) (((l.eraseIdx i).flatMap descCells) ++ tl) (fun _ => rfl) (fun _ => rfl) Tryz.underlying81 (by kernel_rfl) (by rw [flat_len descCells_len, List.length_drop]) (del_src descCells_len hi hcap) (flat_one (fun _ => rfl) _) (by omega) (del_fit descCells_len hi) hlay rfl ?_)
    rw [show i + (l.length - (i + 1)) = l.length - 1 from by omega]
    refine ⟨fun hnd => (by cases hnd), ?_⟩
    refine kpA [26, 7, 16, 6, 0, 1, 2] ?_
    refine aS 7 ?_
    refine SA_done (by kernel_rfl) (n_then ?_)
    refine sr ?_
    refine os 4 ?_
    refine L (O_val (.slice (tailA g c (l.length - 1) 3) (l.length - (l.length - 1)) (c - (l.length - 1))) rfl (fun δ w _ => run_slice_mid g (l.length - 1) c (l.length - 1) l.length 3 .i64 .i64 Tryz.underlying81 (by kernel_rfl) rfl rfl rfl (by omega) hcap) ?_)
    rw [show Value.slice (tailA g c (l.length - 1) 3) (l.length - (l.length - 1)) (c - (l.length - 1)) = Value.slice (some ⟨g, (l.length - 1) * 3, none⟩) (0 + 1) (c - (l.length - 1)) from by unfold tailA; rw [if_neg (by omega), show l.length - (l.length - 1) = 0 + 1 from by omega]]
    refine L (O_clear g (c * 3) ((l.length - 1) * 3) 0 (c - (l.length - 1)) (.agg #[.int .u64 0, .int .u64 0, .int .i64 0]) (((l.eraseIdx i).flatMap descCells) ++ tl) [.int .u64 0, .int .u64 0, .int .i64 0] (((l.eraseIdx i).flatMap descCells) ++ [.int .u64 0, .int .u64 0, .int .i64 0]) (fun _ => rfl) Tryz.underlying81 (by kernel_rfl) (by kernel_rfl) (by kernel_rfl) (by simp only [List.length_append, erase_len descCells_len hi, htl]; exact Nat.le_refl _) (lay_tail (zs := [.int .u64 0, .int .u64 0, .int .i64 0]) (erase_len descCells_len hi) htl.symm) rfl ?_)
    refine nq ?_
    refine SW_weakG (s := Gs.at g c) (e := 35) (size := 3) (cs := ((l.eraseIdx i).flatMap descCells)) (ds := [.int .u64 0, .int .u64 0, .int .i64 0]) (τ := []) ?_
    refine SW_region ?_
    refine os 2 ?_
    refine kp [6, 0, 7, 16, 1, 2] ?_
    refine nt ?_
    refine SW_ret ?_
    refine body_end (.slice (some ⟨g, 0, none⟩) (l.length - 1) c) (fun _ => rfl) ?_
    refine ⟨(), Own.of_perm (List.Perm.refl _), ?_, ?_⟩
    · rw [List.length_eraseIdx, if_pos hi]; rfl
    · refine ⟨by rw [List.length_eraseIdx, if_pos hi]; omega, hs.2.1, ?_⟩
      rw [erase_len descCells_len hi, List.length_eraseIdx, if_pos hi]

theorem heap_Drop_no {W0 : World} {F : HeapF} {H : HeapV} (hH : H.ok F) {w : Int} {n : Nat} {x : ObjL} (h0 : objAt w H.objs.length = some n) (hx : H.objs[n]? = some x) {key : ByteArray} (hno : placeO (H.V.abs F.T) x.shape x.names key < 0) : SC Tryz.prog W0 19 #[.pointer (some ⟨F.p, 0, none⟩), .int .u64 w, .string key] (HeapV.ent H F) (Ret (fun _ : Unit => H.ent F) (fun v _ => v = .bool false)) := by
 refine SC_body (fn := Tryz.f19) (n := 48) Tryz.func19 rfl (by kernel_rfl) (ρ := [(0, pt F.p 0), (1, .int .u64 w), (2, .string key)]) rfl ?_
 refine SW_sig _ HeapV.eq0 ?_
 refine sr ?_
 refine os 1 ?_
 refine nsr ?_
 refine os 2 ?_
 refine L (cl (heap_at hH w) ?_ (hp := HeapV.pm))
 rintro v1 _ hv1
 obtain rfl : v1 = pt (Gs.blk H.s) (n * 9) := hv1.trans (by rw [h0])
 refine SL_sig _ HeapV.eq ?_
 refine os 1 ?_
 refine kp [7, 6, 0, 1, 2] ?_
 refine nq ?_
 refine sr ?_
 refine os 1 ?_
 refine oV (.bool false) ?_
 refine nt ?_
 refine cf ?_
 refine SW_skip (n_then ?_)
 refine sr ?_
 refine os 3 ?_
 refine L (cl (heap_place hH (n := n) hx key) ?_ (hp := HeapV.pm))
 rintro _ _ rfl
 refine SL_sig _ HeapV.eq ?_
 refine os 1 ?_
 refine kp [8, 13, 7, 6, 0, 1, 2] ?_
 refine nq ?_
 refine sr ?_
 refine os 2 ?_
 refine nt ?_
 refine SW_true (fun _ => (congrArg Value.bool (show (decide ((placeO (TreeV.abs H.V F.T) x.shape x.names key) < 0)) = true from (by simp; omega)))) ?_
 refine sr ?_
 refine os 1 ?_
 refine nt ?_
 refine SW_ret (r_then ?_)
 refine body_end (.bool false) (fun _ => rfl) ?_
 exact ⟨(), HeapV.own, rfl⟩

theorem heap_Drop_yes {W0 : World} {F : HeapF} {H : HeapV} (hH : H.ok F) {w : Int} {n : Nat} {x : ObjL} (h0 : objAt w H.objs.length = some n) (hx : H.objs[n]? = some x) (hI : OInv (H.V.abs F.T) x) {k : Nat} (hB : H.bud k) (hk : k ≤ 8000000) {key : ByteArray} {q_ : Nat} (hq : placeO (H.V.abs F.T) x.shape x.names key = q_) : SC Tryz.prog W0 19 #[.pointer (some ⟨F.p, 0, none⟩), .int .u64 w, .string key] (HeapV.ent H F) (Ret (fun r : ObjL × List CellL × Int => (H.upd n r.1 H.V r.2.1 r.2.2).ent F) (fun v r => v = .bool true ∧ (H.upd n r.1 H.V r.2.1 r.2.2).ok F ∧ Same x r.1 ∧ r.1.ps = ⟨if 0 ≤ x.shape then -1 else x.shape, (keysOf (H.V.abs F.T) x).eraseIdx q_, x.vals.eraseIdx q_⟩ ∧ Chg x.cell H.cl r.2.1)) := by
 have hnl := (List.getElem?_eq_some_iff.1 hx).1
 refine SC_body (fn := Tryz.f19) (n := 48) Tryz.func19 rfl (by kernel_rfl) (ρ := [(0, pt F.p 0), (1, .int .u64 w), (2, .string key)]) rfl ?_
 refine SW_sig _ HeapV.eq0 ?_
 have hvl := hB.vals x (List.mem_of_getElem? hx)
 have hqv : q_ < x.vals.length := by have q1 := placeO_lt hI (key := key) (by omega); omega
 refine sr ?_
 refine os 1 ?_
 refine nsr ?_
 refine os 2 ?_
 refine L (cl (heap_at hH w) ?_ (hp := HeapV.pm))
 rintro v1 _ hv1
 obtain rfl : v1 = pt (Gs.blk H.s) (n * 9) := hv1.trans (by rw [h0])
 refine SL_sig _ HeapV.eq ?_
 refine os 1 ?_
 refine kp [7, 6, 0, 1, 2] ?_
 refine nq ?_
 refine sr ?_
 refine os 1 ?_
 refine oV (.bool false) ?_
 refine nt ?_
 refine cf ?_
 refine SW_skip (n_then ?_)
 refine sr ?_
 refine os 3 ?_
 refine L (cl (heap_place hH (n := n) hx key) ?_ (hp := HeapV.pm))
 rintro v2 _ hv2
 obtain rfl : v2 = .int .i64 (q_ : Int) := hv2.trans (congrArg (Value.int .i64) hq)
 refine SL_sig _ HeapV.eq ?_
 refine os 1 ?_
 refine kp [8, 13, 7, 6, 0, 1, 2] ?_
 refine nq ?_
 refine sr ?_
 refine os 2 ?_
 refine nt ?_
 refine SW_false (fun _ => (congrArg Value.bool (show (decide ((q_ : Int) < 0)) = false from (by simp)))) ?_
 refine SW_skip (n_then ?_)
 refine sr ?_
 refine os 2 ?_
 refine L (cl (heap_changed hH (n := n) hx hB hk) ?_ (hp := HeapV.pm))
 rintro _ ⟨cl1, br1⟩ ⟨rfl, hccl1, hchcl1⟩
 refine SL_sig _ HeapV.eq ?_
 have hH1 : HeapV.ok (HeapV.mk H.s (H.objs.set n (ObjL.chg x)) H.ts H.texts H.known H.V H.cs cl1 br1) F := hH.chg hx hccl1 br1
 refine nsr ?_
 refine os 2 ?_
 by_cases hp1 : 0 ≤ x.shape
 ·skip
  refine L (cl (heap_loose_yes hH1 (n := n) (get_set hx) hp1) ?_ (hp := HeapV.pm))
  rintro _ kg1 ⟨rfl, hkg1⟩
  refine SL_sig _ (by simp only [HeapV.ent, HeapV.put, List.set_set, List.cons_append, List.append_assoc, List.nil_append]; rfl) ?_
  have hH2 : HeapV.ok (HeapV.mk H.s (H.objs.set n (ObjL.loosed (ObjL.chg x) kg1 (keysP (TreeV.abs H.V F.T) x.shape))) H.ts H.texts H.known H.V H.cs cl1 br1) F := by simpa only [HeapV.put, List.set_set] using HeapV.ok.put hH1 (get_set hx) (x' := (ObjL.loosed (ObjL.chg x) kg1 (keysP (TreeV.abs H.V F.T) x.shape))) ⟨hkg1, (HeapV.ok.at hH1 (get_set hx)).vs, (HeapV.ok.at hH1 (get_set hx)).es, (HeapV.ok.at hH1 (get_set hx)).is⟩ (HeapV.ok.small hH1 (ObjL.chg x) (List.mem_of_getElem? (get_set hx)))
  refine nq ?_
  have hqn : q_ < (keysP (TreeV.abs H.V F.T) x.shape).length := by have q1 := hI.len; have q2 := hqv; unfold keysOf at q1; rw [if_neg (by omega)] at q1; omega
  refine SW_perm _ (perm_cc (perm_ca perm_cz)) ?_
  refine SW_perm ((Gs.ent 9 1 kg1 ((keysP (TreeV.abs H.V F.T) x.shape).map encS)) ++ ((Gs.ent 35 3 x.vs (x.vals.flatMap descCells)) ++ ((Gs.ent 33 1 x.es (x.elems.map encU)) ++ ((Gs.ent 33 1 x.is (x.inner.map encU)) ++ (((List.eraseIdx (H.objs.set n (ObjL.loosed (ObjL.chg x) kg1 (keysP (TreeV.abs H.V F.T) x.shape))) n).flatMap ObjL.ent) ++ ((F.p, .cells 48 6 [Gs.val H.s ((H.objs.set n (ObjL.loosed (ObjL.chg x) kg1 (keysP (TreeV.abs H.V F.T) x.shape))).length), Gs.val H.ts H.texts.length, .map (some F.kb), pt F.T.p 0, pt F.cp 0, .int .i64 br1]) :: ((Gs.ent 105 9 H.s ((H.objs.set n (ObjL.loosed (ObjL.chg x) kg1 (keysP (TreeV.abs H.V F.T) x.shape))).flatMap ObjL.cells)) ++ ((Gs.ent 9 1 H.ts (H.texts.map encS)) ++ ((F.kb, .map (kvs encS encU H.known)) :: ((TreeV.ent H.V F.T) ++ ((CellsL.ent (CellsL.mk F.cp H.cs cl1)) ++ ([])))))))))))) (obj_focus (get_set hx) _) ?_
  refine SW_draw [((Gs.blk H.s), n * 9 + 4, Gs.val kg1 ((keysP (TreeV.abs H.V F.T) x.shape).length)), ((Gs.blk H.s), n * 9 + 5, Gs.val x.vs x.vals.length)] [0, 1, 2, 3, 4, 5, 6, 7, 8, 9, 10, 11, 12, 13, 14, 15, 16] (by kernel_rfl) (rd_cons (Gs.cell hH2.row (fun e he => (mem_a (mem_a (mem_a (mem_a (mem_a (mem_c (mem_h he)))))))) (flat_cell ObjL.len (get_set hx) (j := 4) (by decide) rfl)) (rd_cons (Gs.cell hH2.row (fun e he => (mem_a (mem_a (mem_a (mem_a (mem_a (mem_c (mem_h he)))))))) (flat_cell ObjL.len (get_set hx) (j := 5) (by decide) rfl)) rd_nil)) ?_
  refine aS 0 ?_
  refine aS 1 ?_
  refine aS 2 ?_
  refine aS 3 ?_
  refine kpA [29, 27, 26, 19, 8, 13, 7, 6, 0, 1, 2] ?_
  refine aF 4 ?_
  refine aL 5 ?_
  refine aS 6 ?_
  refine aS 7 ?_
  refine tk 8 (.int .i64 (IntKind.wrap .i64 ((q_ : Int) + 1))) ?_
  rw [show IntKind.wrap .i64 ((q_ : Int) + 1) = (q_ : Int) + 1 from IntWalk.i64_in _ (by omega)]
  refine aS 10 ?_
  refine aS 11 ?_
  refine aF 12 ?_
  refine aL 13 ?_
  refine aS 14 ?_
  refine aS 15 ?_
  refine tk 16 (.int .i64 (IntKind.wrap .i64 ((q_ : Int) + 1))) ?_
  rw [show IntKind.wrap .i64 ((q_ : Int) + 1) = (q_ : Int) + 1 from IntWalk.i64_in _ (by omega)]
  refine sa1 true 9 (h := cl (delete_texts (i := q_) (show Gs.ok 1 ((keysP (TreeV.abs H.V F.T) x.shape)).length kg1 ((keysP (TreeV.abs H.V F.T) x.shape).map encS) from (HeapV.ok.at (x := (ObjL.loosed (ObjL.chg x) kg1 (keysP (TreeV.abs H.V F.T) x.shape))) hH2 (get_set hx)).ns) hqn) ?_)
  rintro _ _ ⟨rfl, hdl1⟩
  refine ⟨fun hnd => (rd_cons (Gs.cell hH2.row (fun e he => (mem_a (mem_a (mem_a (mem_a (mem_a (mem_c (mem_h he)))))))) (flat_cell ObjL.len (get_set hx) (j := 4) (by decide) rfl)) (rd_cons (Gs.cell hH2.row (fun e he => (mem_a (mem_a (mem_a (mem_a (mem_a (mem_c (mem_h he)))))))) (flat_cell ObjL.len (get_set hx) (j := 5) (by decide) rfl)) rd_nil)), ?_⟩
  refine kpA [35, 42, 40, 39, 27, 26, 19, 8, 13, 7, 6, 0, 1, 2] ?_
  refine sa1 false 17 (h := cl (delete_descs (i := q_) (show Gs.ok 3 (x.vals).length x.vs (x.vals.flatMap descCells) from (HeapV.ok.at (x := (ObjL.loosed (ObjL.chg x) kg1 (keysP (TreeV.abs H.V F.T) x.shape))) hH2 (get_set hx)).vs) hqv) ?_)
  rintro _ _ ⟨rfl, hdl2⟩
  refine ⟨fun hnd => (by cases hnd), ?_⟩
  refine aS 18 ?_
  refine aF 19 ?_
  have hok3 := Gs.ok.relen (ys := ((H.objs.set n (ObjL.mk x.kind x.proto x.shut (-1) kg1 ((keysP (TreeV.abs H.V F.T) x.shape).eraseIdx q_) x.vs x.vals x.es x.elems x.is x.inner (if 0 ≤ x.cell then -1 else x.cell))).flatMap ObjL.cells)) hH2.row (by simp [flat_len ObjL.len])
  refine SA_perm _ (perm_ca (perm_ca (perm_ca (perm_ca (perm_ca (perm_cc perm_cz)))))) ?_
  refine sa1 false 20 (h := O_storeG (ys := ((H.objs.set n (ObjL.mk x.kind x.proto x.shut (-1) kg1 ((keysP (TreeV.abs H.V F.T) x.shape).eraseIdx q_) x.vs x.vals x.es x.elems x.is x.inner (if 0 ≤ x.cell then -1 else x.cell))).flatMap ObjL.cells)) H.s (n * 9 + 4) (Gs.val kg1 (((keysP (TreeV.abs H.V F.T) x.shape).eraseIdx q_).length)) [Gs.val kg1 (((keysP (TreeV.abs H.V F.T) x.shape).eraseIdx q_).length)] (Gs.ok.ne hH2.row (by first | omega | (simp; omega))) (fun _ => rfl) (fun _ => rfl) rfl (by kernel_rfl) rfl (by rw [flat_len ObjL.len]; simp; omega) ((row_lay (j := 4) ObjL.len (ObjL.mk x.kind x.proto x.shut (-1) kg1 ((keysP (TreeV.abs H.V F.T) x.shape).eraseIdx q_) x.vs x.vals x.es x.elems x.is x.inner (if 0 ≤ x.cell then -1 else x.cell)) (get_set hx) (Nat.le_of_ble_eq_true rfl) rfl).trans (by rw [List.set_set])) rfl ?_)
  refine ⟨fun hnd => (by cases hnd), ?_⟩
  refine aS 21 ?_
  refine kpA [46, 43, 19, 8, 13, 7, 6, 0, 1, 2] ?_
  refine aF 22 ?_
  have hok4 := Gs.ok.relen (ys := ((H.objs.set n (ObjL.mk x.kind x.proto x.shut (-1) kg1 ((keysP (TreeV.abs H.V F.T) x.shape).eraseIdx q_) x.vs (x.vals.eraseIdx q_) x.es x.elems x.is x.inner (if 0 ≤ x.cell then -1 else x.cell))).flatMap ObjL.cells)) hok3 (by simp [flat_len ObjL.len])
  refine sa1 false 23 (h := O_storeG (ys := ((H.objs.set n (ObjL.mk x.kind x.proto x.shut (-1) kg1 ((keysP (TreeV.abs H.V F.T) x.shape).eraseIdx q_) x.vs (x.vals.eraseIdx q_) x.es x.elems x.is x.inner (if 0 ≤ x.cell then -1 else x.cell))).flatMap ObjL.cells)) H.s (n * 9 + 5) (Gs.val x.vs ((x.vals.eraseIdx q_).length)) [Gs.val x.vs ((x.vals.eraseIdx q_).length)] (Gs.ok.ne hok3 (by first | omega | (simp; omega))) (fun _ => rfl) (fun _ => rfl) rfl (by kernel_rfl) rfl (by rw [flat_len ObjL.len]; simp; omega) ((row_lay (j := 5) ObjL.len (ObjL.mk x.kind x.proto x.shut (-1) kg1 ((keysP (TreeV.abs H.V F.T) x.shape).eraseIdx q_) x.vs (x.vals.eraseIdx q_) x.es x.elems x.is x.inner (if 0 ≤ x.cell then -1 else x.cell)) (get_set hx) (Nat.le_of_ble_eq_true rfl) rfl).trans (by rw [List.set_set])) rfl ?_)
  refine ⟨fun hnd => (by cases hnd), ?_⟩
  refine SA_done (by kernel_rfl) (n_then ?_)
  refine sr ?_
  refine os 1 ?_
  refine kp [6, 19, 8, 13, 7, 0, 1, 2] ?_
  refine nt ?_
  refine SW_ret ?_
  refine body_end (.bool true) (fun _ => rfl) ?_
  refine ⟨((ObjL.mk x.kind x.proto x.shut (-1) kg1 ((keysP (TreeV.abs H.V F.T) x.shape).eraseIdx q_) x.vs (x.vals.eraseIdx q_) x.es x.elems x.is x.inner (if 0 ≤ x.cell then -1 else x.cell)), cl1, br1), ?_, rfl, ?_, ⟨rfl, rfl, rfl, rfl, rfl, rfl, rfl, rfl⟩, ?_, hchcl1⟩
  · refine Own.trans (ow (S := ((F.p, .cells 48 6 [Gs.val H.s ((H.objs.set n (ObjL.loosed (ObjL.chg x) kg1 (keysP (TreeV.abs H.V F.T) x.shape))).length), Gs.val H.ts H.texts.length, .map (some F.kb), pt F.T.p 0, pt F.cp 0, .int .i64 br1]) :: ((Gs.ent 105 9 H.s ((H.objs.set n (ObjL.mk x.kind x.proto x.shut (-1) kg1 ((keysP (TreeV.abs H.V F.T) x.shape).eraseIdx q_) x.vs (x.vals.eraseIdx q_) x.es x.elems x.is x.inner (if 0 ≤ x.cell then -1 else x.cell))).flatMap ObjL.cells)) ++ ((Gs.ent 9 1 kg1 (((keysP (TreeV.abs H.V F.T) x.shape).eraseIdx q_).map encS)) ++ ((Gs.ent 35 3 x.vs ((x.vals.eraseIdx q_).flatMap descCells)) ++ ((Gs.ent 33 1 x.es (x.elems.map encU)) ++ ((Gs.ent 33 1 x.is (x.inner.map encU)) ++ (((List.eraseIdx (H.objs.set n (ObjL.loosed (ObjL.chg x) kg1 (keysP (TreeV.abs H.V F.T) x.shape))) n).flatMap ObjL.ent) ++ ((Gs.ent 9 1 H.ts (H.texts.map encS)) ++ ((F.kb, .map (kvs encS encU H.known)) :: ((TreeV.ent H.V F.T) ++ ((CellsL.ent (CellsL.mk F.cp H.cs cl1)) ++ ([])))))))))))))) (Own.of_perm ?_)
    have hb_ := HeapV.back (H := (HeapV.mk H.s (H.objs.set n (ObjL.loosed (ObjL.chg x) kg1 (keysP (TreeV.abs H.V F.T) x.shape))) H.ts H.texts H.known H.V H.cs cl1 br1)) F (get_set hx) (ObjL.mk x.kind x.proto x.shut (-1) kg1 ((keysP (TreeV.abs H.V F.T) x.shape).eraseIdx q_) x.vs (x.vals.eraseIdx q_) x.es x.elems x.is x.inner (if 0 ≤ x.cell then -1 else x.cell))
    simp only [HeapV.head, HeapV.put, List.set_set, List.length_set] at hb_ ⊢
    exact hb_
  · simpa only [HeapV.put, List.set_set, List.length_set] using HeapV.ok.put hH2 (get_set hx) (x' := (ObjL.mk x.kind x.proto x.shut (-1) kg1 ((keysP (TreeV.abs H.V F.T) x.shape).eraseIdx q_) x.vs (x.vals.eraseIdx q_) x.es x.elems x.is x.inner (if 0 ≤ x.cell then -1 else x.cell))) ⟨(by first | exact hdl1 | (simp only [List.length_set]; exact hdl1)), (by first | exact hdl2 | (simp only [List.length_set]; exact hdl2)), (by first | exact (show Gs.ok 1 (x.elems).length x.es (x.elems.map encU) from (HeapV.ok.at (x := (ObjL.loosed (ObjL.chg x) kg1 (keysP (TreeV.abs H.V F.T) x.shape))) hH2 (get_set hx)).es) | (simp only [List.length_set]; exact (show Gs.ok 1 (x.elems).length x.es (x.elems.map encU) from (HeapV.ok.at (x := (ObjL.loosed (ObjL.chg x) kg1 (keysP (TreeV.abs H.V F.T) x.shape))) hH2 (get_set hx)).es))), (by first | exact (show Gs.ok 1 (x.inner).length x.is (x.inner.map encU) from (HeapV.ok.at (x := (ObjL.loosed (ObjL.chg x) kg1 (keysP (TreeV.abs H.V F.T) x.shape))) hH2 (get_set hx)).is) | (simp only [List.length_set]; exact (show Gs.ok 1 (x.inner).length x.is (x.inner.map encU) from (HeapV.ok.at (x := (ObjL.loosed (ObjL.chg x) kg1 (keysP (TreeV.abs H.V F.T) x.shape))) hH2 (get_set hx)).is)))⟩ (by first | omega | exact hH.small x (List.mem_of_getElem? hx))
  · show PS.mk _ _ _ = PS.mk _ _ _
    unfold keysOf; rw [if_pos hp1, if_neg (show ¬ x.shape < 0 from by omega)]
 ·skip
  refine L (cl (heap_loose_no hH1 (n := n) (get_set hx) (by simpa using hp1)) ?_ (hp := HeapV.pm))
  rintro v9 _ hv9
  obtain rfl : v9 = .tuple #[] := hv9.trans (rfl)
  refine SL_sig _ HeapV.eq ?_
  refine nq ?_
  have hqn : q_ < x.names.length := by have q1 := hI.len; have q2 := hqv; unfold keysOf at q1; rw [if_pos (by omega)] at q1; omega
  refine SW_perm _ (perm_cc (perm_ca perm_cz)) ?_
  refine SW_perm ((Gs.ent 9 1 x.ns (x.names.map encS)) ++ ((Gs.ent 35 3 x.vs (x.vals.flatMap descCells)) ++ ((Gs.ent 33 1 x.es (x.elems.map encU)) ++ ((Gs.ent 33 1 x.is (x.inner.map encU)) ++ (((List.eraseIdx (H.objs.set n (ObjL.chg x)) n).flatMap ObjL.ent) ++ ((F.p, .cells 48 6 [Gs.val H.s ((H.objs.set n (ObjL.chg x)).length), Gs.val H.ts H.texts.length, .map (some F.kb), pt F.T.p 0, pt F.cp 0, .int .i64 br1]) :: ((Gs.ent 105 9 H.s ((H.objs.set n (ObjL.chg x)).flatMap ObjL.cells)) ++ ((Gs.ent 9 1 H.ts (H.texts.map encS)) ++ ((F.kb, .map (kvs encS encU H.known)) :: ((TreeV.ent H.V F.T) ++ ((CellsL.ent (CellsL.mk F.cp H.cs cl1)) ++ ([])))))))))))) (obj_focus (get_set hx) _) ?_
  refine SW_draw [((Gs.blk H.s), n * 9 + 4, Gs.val x.ns x.names.length), ((Gs.blk H.s), n * 9 + 5, Gs.val x.vs x.vals.length)] [0, 1, 2, 3, 4, 5, 6, 7, 8, 9, 10, 11, 12, 13, 14, 15, 16] (by kernel_rfl) (rd_cons (Gs.cell hH1.row (fun e he => (mem_a (mem_a (mem_a (mem_a (mem_a (mem_c (mem_h he)))))))) (flat_cell ObjL.len (get_set hx) (j := 4) (by decide) rfl)) (rd_cons (Gs.cell hH1.row (fun e he => (mem_a (mem_a (mem_a (mem_a (mem_a (mem_c (mem_h he)))))))) (flat_cell ObjL.len (get_set hx) (j := 5) (by decide) rfl)) rd_nil)) ?_
  refine aS 0 ?_
  refine aS 1 ?_
  refine aS 2 ?_
  refine aS 3 ?_
  refine kpA [29, 27, 26, 19, 8, 13, 7, 6, 0, 1, 2] ?_
  refine aF 4 ?_
  refine aL 5 ?_
  refine aS 6 ?_
  refine aS 7 ?_
  refine tk 8 (.int .i64 (IntKind.wrap .i64 ((q_ : Int) + 1))) ?_
  rw [show IntKind.wrap .i64 ((q_ : Int) + 1) = (q_ : Int) + 1 from IntWalk.i64_in _ (by omega)]
  refine aS 10 ?_
  refine aS 11 ?_
  refine aF 12 ?_
  refine aL 13 ?_
  refine aS 14 ?_
  refine aS 15 ?_
  refine tk 16 (.int .i64 (IntKind.wrap .i64 ((q_ : Int) + 1))) ?_
  rw [show IntKind.wrap .i64 ((q_ : Int) + 1) = (q_ : Int) + 1 from IntWalk.i64_in _ (by omega)]
  refine sa1 true 9 (h := cl (delete_texts (i := q_) (show Gs.ok 1 (x.names).length x.ns (x.names.map encS) from (HeapV.ok.at (x := (ObjL.chg x)) hH1 (get_set hx)).ns) hqn) ?_)
  rintro _ _ ⟨rfl, hdl1⟩
  refine ⟨fun hnd => (rd_cons (Gs.cell hH1.row (fun e he => (mem_a (mem_a (mem_a (mem_a (mem_a (mem_c (mem_h he)))))))) (flat_cell ObjL.len (get_set hx) (j := 4) (by decide) rfl)) (rd_cons (Gs.cell hH1.row (fun e he => (mem_a (mem_a (mem_a (mem_a (mem_a (mem_c (mem_h he)))))))) (flat_cell ObjL.len (get_set hx) (j := 5) (by decide) rfl)) rd_nil)), ?_⟩
  refine kpA [35, 42, 40, 39, 27, 26, 19, 8, 13, 7, 6, 0, 1, 2] ?_
  refine sa1 false 17 (h := cl (delete_descs (i := q_) (show Gs.ok 3 (x.vals).length x.vs (x.vals.flatMap descCells) from (HeapV.ok.at (x := (ObjL.chg x)) hH1 (get_set hx)).vs) hqv) ?_)
  rintro _ _ ⟨rfl, hdl2⟩
  refine ⟨fun hnd => (by cases hnd), ?_⟩
  refine aS 18 ?_
  refine aF 19 ?_
  have hok7 := Gs.ok.relen (ys := ((H.objs.set n (ObjL.mk x.kind x.proto x.shut x.shape x.ns (x.names.eraseIdx q_) x.vs x.vals x.es x.elems x.is x.inner (if 0 ≤ x.cell then -1 else x.cell))).flatMap ObjL.cells)) hH1.row (by simp [flat_len ObjL.len])
  refine SA_perm _ (perm_ca (perm_ca (perm_ca (perm_ca (perm_ca (perm_cc perm_cz)))))) ?_
  refine sa1 false 20 (h := O_storeG (ys := ((H.objs.set n (ObjL.mk x.kind x.proto x.shut x.shape x.ns (x.names.eraseIdx q_) x.vs x.vals x.es x.elems x.is x.inner (if 0 ≤ x.cell then -1 else x.cell))).flatMap ObjL.cells)) H.s (n * 9 + 4) (Gs.val x.ns ((x.names.eraseIdx q_).length)) [Gs.val x.ns ((x.names.eraseIdx q_).length)] (Gs.ok.ne hH1.row (by first | omega | (simp; omega))) (fun _ => rfl) (fun _ => rfl) rfl (by kernel_rfl) rfl (by rw [flat_len ObjL.len]; simp; omega) ((row_lay (j := 4) ObjL.len (ObjL.mk x.kind x.proto x.shut x.shape x.ns (x.names.eraseIdx q_) x.vs x.vals x.es x.elems x.is x.inner (if 0 ≤ x.cell then -1 else x.cell)) (get_set hx) (Nat.le_of_ble_eq_true rfl) rfl).trans (by rw [List.set_set])) rfl ?_)
  refine ⟨fun hnd => (by cases hnd), ?_⟩
  refine aS 21 ?_
  refine kpA [46, 43, 19, 8, 13, 7, 6, 0, 1, 2] ?_
  refine aF 22 ?_
  have hok8 := Gs.ok.relen (ys := ((H.objs.set n (ObjL.mk x.kind x.proto x.shut x.shape x.ns (x.names.eraseIdx q_) x.vs (x.vals.eraseIdx q_) x.es x.elems x.is x.inner (if 0 ≤ x.cell then -1 else x.cell))).flatMap ObjL.cells)) hok7 (by simp [flat_len ObjL.len])
  refine sa1 false 23 (h := O_storeG (ys := ((H.objs.set n (ObjL.mk x.kind x.proto x.shut x.shape x.ns (x.names.eraseIdx q_) x.vs (x.vals.eraseIdx q_) x.es x.elems x.is x.inner (if 0 ≤ x.cell then -1 else x.cell))).flatMap ObjL.cells)) H.s (n * 9 + 5) (Gs.val x.vs ((x.vals.eraseIdx q_).length)) [Gs.val x.vs ((x.vals.eraseIdx q_).length)] (Gs.ok.ne hok7 (by first | omega | (simp; omega))) (fun _ => rfl) (fun _ => rfl) rfl (by kernel_rfl) rfl (by rw [flat_len ObjL.len]; simp; omega) ((row_lay (j := 5) ObjL.len (ObjL.mk x.kind x.proto x.shut x.shape x.ns (x.names.eraseIdx q_) x.vs (x.vals.eraseIdx q_) x.es x.elems x.is x.inner (if 0 ≤ x.cell then -1 else x.cell)) (get_set hx) (Nat.le_of_ble_eq_true rfl) rfl).trans (by rw [List.set_set])) rfl ?_)
  refine ⟨fun hnd => (by cases hnd), ?_⟩
  refine SA_done (by kernel_rfl) (n_then ?_)
  refine sr ?_
  refine os 1 ?_
  refine kp [6, 19, 8, 13, 7, 0, 1, 2] ?_
  refine nt ?_
  refine SW_ret ?_
  refine body_end (.bool true) (fun _ => rfl) ?_
  refine ⟨((ObjL.mk x.kind x.proto x.shut x.shape x.ns (x.names.eraseIdx q_) x.vs (x.vals.eraseIdx q_) x.es x.elems x.is x.inner (if 0 ≤ x.cell then -1 else x.cell)), cl1, br1), ?_, rfl, ?_, ⟨rfl, rfl, rfl, rfl, rfl, rfl, rfl, rfl⟩, ?_, hchcl1⟩
  · refine Own.trans (ow (S := ((F.p, .cells 48 6 [Gs.val H.s ((H.objs.set n (ObjL.chg x)).length), Gs.val H.ts H.texts.length, .map (some F.kb), pt F.T.p 0, pt F.cp 0, .int .i64 br1]) :: ((Gs.ent 105 9 H.s ((H.objs.set n (ObjL.mk x.kind x.proto x.shut x.shape x.ns (x.names.eraseIdx q_) x.vs (x.vals.eraseIdx q_) x.es x.elems x.is x.inner (if 0 ≤ x.cell then -1 else x.cell))).flatMap ObjL.cells)) ++ ((Gs.ent 9 1 x.ns ((x.names.eraseIdx q_).map encS)) ++ ((Gs.ent 35 3 x.vs ((x.vals.eraseIdx q_).flatMap descCells)) ++ ((Gs.ent 33 1 x.es (x.elems.map encU)) ++ ((Gs.ent 33 1 x.is (x.inner.map encU)) ++ (((List.eraseIdx (H.objs.set n (ObjL.chg x)) n).flatMap ObjL.ent) ++ ((Gs.ent 9 1 H.ts (H.texts.map encS)) ++ ((F.kb, .map (kvs encS encU H.known)) :: ((TreeV.ent H.V F.T) ++ ((CellsL.ent (CellsL.mk F.cp H.cs cl1)) ++ ([])))))))))))))) (Own.of_perm ?_)
    have hb_ := HeapV.back (H := (HeapV.mk H.s (H.objs.set n (ObjL.chg x)) H.ts H.texts H.known H.V H.cs cl1 br1)) F (get_set hx) (ObjL.mk x.kind x.proto x.shut x.shape x.ns (x.names.eraseIdx q_) x.vs (x.vals.eraseIdx q_) x.es x.elems x.is x.inner (if 0 ≤ x.cell then -1 else x.cell))
    simp only [HeapV.head, HeapV.put, List.set_set, List.length_set] at hb_ ⊢
    exact hb_
  · simpa only [HeapV.put, List.set_set, List.length_set] using HeapV.ok.put hH1 (get_set hx) (x' := (ObjL.mk x.kind x.proto x.shut x.shape x.ns (x.names.eraseIdx q_) x.vs (x.vals.eraseIdx q_) x.es x.elems x.is x.inner (if 0 ≤ x.cell then -1 else x.cell))) ⟨(by first | exact hdl1 | (simp only [List.length_set]; exact hdl1)), (by first | exact hdl2 | (simp only [List.length_set]; exact hdl2)), (by first | exact (show Gs.ok 1 (x.elems).length x.es (x.elems.map encU) from (HeapV.ok.at (x := (ObjL.chg x)) hH1 (get_set hx)).es) | (simp only [List.length_set]; exact (show Gs.ok 1 (x.elems).length x.es (x.elems.map encU) from (HeapV.ok.at (x := (ObjL.chg x)) hH1 (get_set hx)).es))), (by first | exact (show Gs.ok 1 (x.inner).length x.is (x.inner.map encU) from (HeapV.ok.at (x := (ObjL.chg x)) hH1 (get_set hx)).is) | (simp only [List.length_set]; exact (show Gs.ok 1 (x.inner).length x.is (x.inner.map encU) from (HeapV.ok.at (x := (ObjL.chg x)) hH1 (get_set hx)).is)))⟩ (by first | omega | exact hH.small x (List.mem_of_getElem? hx))
  · show PS.mk _ _ _ = PS.mk _ _ _
    unfold keysOf; rw [if_neg hp1, if_pos (show x.shape < 0 from by omega)]

theorem texts_Clone {W0 : World} {σ : Heaplet} {l : List ByteArray} {A : Option Addr} {c : Nat} (hs : Src W0 σ A (l.map encS)) (hr : l.length ≤ 1099511627776) : SC Tryz.prog W0 75 #[.slice A l.length c] σ (Ret (fun s : Gs => s.ent 9 1 (l.map encS) ++ (σ ++ [])) (fun v s => v = s.val l.length ∧ s.ok 1 l.length (l.map encS))) := by
  cases A with
  | none =>
    obtain rfl : l = [] := by
      rcases hs with h | ⟨b, o, e, _⟩
      · exact List.eq_nil_of_length_eq_zero (by simpa using h)
      · cases e
    refine SC_body (fn := Tryz.f75) (n := 8) Tryz.func75 rfl (by kernel_rfl) (ρ := [(0, .slice none (([] : List ByteArray).length) c)]) rfl ?_
    refine SW_sig (σ ++ ([])) (by simp only [List.append_nil, List.append_assoc]) ?_
    refine sr ?_
    refine os 1 ?_
    refine nq ?_
    refine sr ?_
    refine os 1 ?_
    refine oV (.bool true) ?_
    refine nt ?_
    refine ct ?_
    refine sr ?_
    refine os 1 ?_
    refine nt ?_
    refine SW_ret (r_then ?_)
    refine body_end (.slice none 0 0) (fun _ => rfl) ?_
    exact ⟨.nil, Own.of_perm (by simp [Gs.ent]), rfl, ⟨rfl, rfl⟩⟩
  | some a =>
    refine SC_body (fn := Tryz.f75) (n := 8) Tryz.func75 rfl (by kernel_rfl) (ρ := [(0, .slice (some a) l.length c)]) rfl ?_
    refine SW_sig (σ ++ ([])) (by simp only [List.append_nil, List.append_assoc]) ?_
    refine sr ?_
    refine os 1 ?_
    refine nq ?_
    refine sr ?_
    refine os 1 ?_
    refine oV (.bool false) ?_
    refine nt ?_
    refine cf ?_
    refine SW_skip (n_then ?_)
    refine sr ?_
    refine L (nws 9 0 0 [] ?_)
    intro b1
    refine os 1 ?_
    refine SL_sig ((Gs.ent 9 1 (Gs.at b1 0) (([] : List ByteArray).map encS)) ++ (σ ++ ([]))) rfl ?_
    refine L (O_append (size := 1) (bytes := 16) (z := .string ByteArray.empty) (Gs.at b1 0) 0 l.length (some a) c (([] : List ByteArray).map encS) (l.map encS) ((([] : List ByteArray) ++ l).map encS) (map_app _ _) (fun _ => rfl) (fun _ => rfl) Tryz.underlying26 (by kernel_rfl) rfl (by decide) ⟨Nat.le_refl _, by unfold maxLen; omega, rfl⟩ (by simp) (Src.elems (hs.mono (fun e he => (mem_a (mem_h he)))) (by simp)) (map_one (fun _ => rfl) _) (by omega) (by decide) rfl ?_)
    intro s2 hks2 hfs2
    rw [show 0 + l.length = (([] : List ByteArray) ++ l).length from by simp]
    rw [show 0 + l.length = (([] : List ByteArray) ++ l).length from by simp] at hks2
    have hls2 : (([] : List ByteArray) ++ l).length = ([] : List ByteArray).length + l.length := by simp
    refine os 1 ?_
    refine kp [2, 4, 0] ?_
    refine nt ?_
    refine SW_ret ?_
    refine body_end (Gs.val s2 ((([] : List ByteArray) ++ l).length)) (fun _ => rfl) ?_
    exact ⟨s2, (ow (S := ((Gs.ent 9 1 s2 ((([] : List ByteArray) ++ l).map encS)) ++ (σ ++ ([]))))), rfl, hks2⟩

theorem heap_Keys_slow {W0 : World} {F : HeapF} {H : HeapV} (hH : H.ok F) {w : Int} {n : Nat} {x : ObjL} (h0 : objAt w H.objs.length = some n) (hx : H.objs[n]? = some x) (hsh : x.shape < 0) (hnm : x.names.length ≤ 1099511627776) : SC Tryz.prog W0 40 #[.pointer (some ⟨F.p, 0, none⟩), .int .u64 w] (HeapV.ent H F) (Ret (fun g : Gs => g.ent 9 1 ((keysOf (H.V.abs F.T) x).map encS) ++ H.ent F) (fun v g => v = g.val (keysOf (H.V.abs F.T) x).length ∧ g.ok 1 (keysOf (H.V.abs F.T) x).length ((keysOf (H.V.abs F.T) x).map encS))) := by
 refine SC_body (fn := Tryz.f40) (n := 32) Tryz.func40 rfl (by kernel_rfl) (ρ := [(0, pt F.p 0), (1, .int .u64 w)]) rfl ?_
 refine SW_sig _ HeapV.eq0 ?_
 refine sr ?_
 refine os 1 ?_
 refine nsr ?_
 refine os 2 ?_
 refine L (cl (heap_at hH w) ?_ (hp := HeapV.pm))
 rintro v1 _ hv1
 obtain rfl : v1 = pt (Gs.blk H.s) (n * 9) := hv1.trans (by rw [h0])
 refine SL_sig _ HeapV.eq ?_
 refine os 1 ?_
 refine kp [5, 4, 0, 1] ?_
 refine nq ?_
 refine SW_block ?_
 refine sr ?_
 refine os 1 ?_
 refine oV (.bool false) ?_
 refine os 1 ?_
 refine nt ?_
 refine cf ?_
 refine sr ?_
 refine os 3 ?_
 refine L (ld ?_ (hc := Gs.cell hH.row (fun e he => (mem_c (mem_h he))) (flat_cell ObjL.len hx (j := 3) (by decide) rfl)))
 refine os 2 ?_
 refine kp [12, 9, 5, 4, 0, 1] ?_
 refine nt ?_
 refine SW_true (fun _ => (congrArg Value.bool (show (decide (x.shape < 0)) = true from (by simp; omega)))) ?_
 refine sr ?_
 refine os 3 ?_
 refine L (ld ?_ (hc := Gs.cell hH.row (fun e he => (mem_c (mem_h he))) (flat_cell ObjL.len hx (j := 4) (by decide) rfl)))
 refine L (clA (texts_Clone (σ := _) (l := x.names) (Gs.src0 (HeapV.ok.at hH hx).ns (fun e he => (mem_c (mem_a (mem_h ((ObjL.mns hx) _ he)))))) (by omega)) ?_)
 rintro _ cg1 ⟨rfl, hcg1⟩
 refine un ?_
 refine os 1 ?_
 refine kp [4, 12, 9, 5, 0, 1] ?_
 refine nt ?_
 refine SW_ret (r_in (r_then ?_))
 refine body_end (Gs.val cg1 x.names.length) (fun _ => rfl) ?_
 rw [show keysOf (H.V.abs F.T) x = x.names from by unfold keysOf; rw [if_pos hsh]]
 exact ⟨cg1, (by rw [HeapV.eq0]; exact ow), rfl, hcg1⟩

theorem heap_Keys_fast {W0 : World} {F : HeapF} {H : HeapV} (hH : H.ok F) {w : Int} {n : Nat} {x : ObjL} (h0 : objAt w H.objs.length = some n) (hx : H.objs[n]? = some x) (hsh : ¬ x.shape < 0) : SC Tryz.prog W0 40 #[.pointer (some ⟨F.p, 0, none⟩), .int .u64 w] (HeapV.ent H F) (Ret (fun g : Gs => g.ent 9 1 ((keysOf (H.V.abs F.T) x).map encS) ++ H.ent F) (fun v g => v = g.val (keysOf (H.V.abs F.T) x).length ∧ g.ok 1 (keysOf (H.V.abs F.T) x).length ((keysOf (H.V.abs F.T) x).map encS))) := by
 refine SC_body (fn := Tryz.f40) (n := 32) Tryz.func40 rfl (by kernel_rfl) (ρ := [(0, pt F.p 0), (1, .int .u64 w)]) rfl ?_
 refine SW_sig _ HeapV.eq0 ?_
 refine sr ?_
 refine os 1 ?_
 refine nsr ?_
 refine os 2 ?_
 refine L (cl (heap_at hH w) ?_ (hp := HeapV.pm))
 rintro v1 _ hv1
 obtain rfl : v1 = pt (Gs.blk H.s) (n * 9) := hv1.trans (by rw [h0])
 refine SL_sig _ HeapV.eq ?_
 refine os 1 ?_
 refine kp [5, 4, 0, 1] ?_
 refine nq ?_
 refine SW_block ?_
 refine sr ?_
 refine os 1 ?_
 refine oV (.bool false) ?_
 refine os 1 ?_
 refine nt ?_
 refine cf ?_
 refine sr ?_
 refine os 3 ?_
 refine L (ld ?_ (hc := Gs.cell hH.row (fun e he => (mem_c (mem_h he))) (flat_cell ObjL.len hx (j := 3) (by decide) rfl)))
 refine os 2 ?_
 refine kp [12, 9, 5, 4, 0, 1] ?_
 refine nt ?_
 refine SW_false (fun _ => (congrArg Value.bool (show (decide (x.shape < 0)) = false from (by simp; omega)))) ?_
 refine SW_skip (n_in (n_then ?_))
 refine SW_seq ?_
 refine SW_draw [(F.p, 3, pt F.T.p 0), ((Gs.blk H.s), n * 9 + 3, .int .i64 x.shape)] [0, 1, 2, 3, 4, 5, 6, 7] (by kernel_rfl) (rd_cons (Cell.own mem_z rfl) (rd_cons (Gs.cell hH.row (fun e he => (mem_c (mem_h he))) (flat_cell ObjL.len hx (j := 3) (by decide) rfl)) rd_nil)) ?_
 refine aS 0 ?_
 refine aS 1 ?_
 refine aF 2 ?_
 refine aL 3 ?_
 refine aS 4 ?_
 refine aS 5 ?_
 refine aF 6 ?_
 refine aL 7 ?_
 refine sa1 false 8 (h := cl (shapes_Keys hH.tree x.shape) ?_)
 rintro _ kg1 ⟨rfl, hkg1⟩
 try simp only [List.cons_append, List.append_assoc, List.nil_append]
 refine ⟨fun hnd => (by cases hnd), ?_⟩
 refine kpA [31, 12, 9, 5, 4, 0, 1] ?_
 refine aS 9 ?_
 refine SA_done (by kernel_rfl) (n_then ?_)
 refine SW_ret ?_
 refine body_end (Gs.val kg1 ((keysP (TreeV.abs H.V F.T) x.shape).length)) (fun _ => rfl) ?_
 rw [show keysOf (H.V.abs F.T) x = (keysP (TreeV.abs H.V F.T) x.shape) from by unfold keysOf; rw [if_neg hsh]]
 exact ⟨kg1, (by rw [HeapV.eq0]; exact ow), rfl, hkg1⟩

end Go.Proofs.YtdfhbheipagnmaaGreat
namespace Go.Proofs.YtdfhbheipagnmaaGreat
open Go.Sl
variable {k : Nat} {H : HeapV} {F : HeapF} {n : Nat} {x : ObjL} {W0 : World}
def putNm (names : List ByteArray) (key : ByteArray) : List ByteArray := if ixS names key < 0 then names ++ [key] else names
def putDs (names : List ByteArray) (descs : List DescP) (key : ByteArray) (d : DescP) : List DescP := if ixS names key < 0 then descs ++ [d] else descs.set (ixS names key).toNat d
def normD (d : DescP) : DescP := (d.1, d.2.1, normF d.2.2)
def getP (names : List ByteArray) (descs : List DescP) (key : ByteArray) : Option DescP := if ixS names key < 0 then none else descs[(ixS names key).toNat]?
theorem putDs_len (names : List ByteArray) (descs : List DescP) (key : ByteArray) (d : DescP) : (putDs names descs key d).length ≤ descs.length + 1 := by unfold putDs; split <;> simp
theorem getO_pub {t : TreeP} (h : OInv t x) (key : ByteArray) : getO t x key = getP (keysOf t x) x.vals key := by
  have e : placeO t x.shape x.names key = if ixS (keysOf t x) key < 0 then -1 else ixS (keysOf t x) key := placePS h.ps key
  unfold getO getP
  rw [e]
  by_cases hk : ixS (keysOf t x) key < 0
  · rw [if_pos hk, if_pos hk, if_pos (by decide)]
  · rw [if_neg hk, if_neg hk]
theorem Same.pub {t : TreeP} {x x' : ObjL} (h : Same x x') : pubO t x' = ⟨x.kind, x.proto, x.shut, keysOf t x', x'.vals, x.elems, x.inner⟩ := by
  unfold pubO
  rw [h.kind, h.proto, h.shut, h.elems, h.inner]
/-- How a put turns an object, and the tree. -/
structure PutR (H H' : HeapV) (F : HeapF) (n : Nat) (key : ByteArray) (d : DescP) (x x' : ObjL) : Prop where
  was : H.objs[n]? = some x
  now : H'.objs = H.objs.set n x'
  put : putS (H.V.abs F.T) x.ps key (normD d) = (H'.V.abs F.T, x'.ps)
  same : Same x x'
theorem hp_Put (hk : k ≤ 8000000) (h : HInv k H F) {w : Int} {o : ObjS} (h0 : objAt w (H.pub F).length = some n) (ho : (H.pub F)[n]? = some o) (key : ByteArray) (d : DescP) :
    SC Tryz.prog W0 11 #[.pointer (some ⟨F.p, 0, none⟩), .int .u64 w, .string key, descV d] (H.ent F)
    (Ret (fun H' : HeapV => H'.ent F) (fun v H' => v = .tuple #[] ∧ HInv (k + 1) H' F ∧ H'.pub F = (H.pub F).set n ⟨o.kind, o.proto, o.shut, putNm o.names key, putDs o.names o.descs key (normD d), o.elems, o.inner⟩ ∧ H'.texts = H.texts ∧ ∃ x x', PutR H H' F n key d x x')) := by
  rw [HeapV.pub_len] at h0
  obtain ⟨x, hx, rfl⟩ := pub_obj ho
  have ho' := h.obj hx
  refine SC.ret (heap_Put_some h.ok h0 hx ho' h.bud hk key d) fun v r ⟨h1, h2, h3, h4, h5⟩ => ⟨_, rfl, h1, ?_⟩
  have p := putS_put h.tree ho'.ps key (normD d)
  rw [show putS (H.V.abs F.T) x.ps key (normD d) = _ from h4] at p
  simp only [] at p
  have hi : OInv (r.2.1.abs F.T) r.1 := PInv.obj (by rw [h3.proto, h3.kind]; exact p.obj)
  have hvl : r.1.vals = putDs (keysOf (H.V.abs F.T) x) x.vals key (normD d) := p.vals
  have hkl : keysOf (r.2.1.abs F.T) r.1 = putNm (keysOf (H.V.abs F.T) x) key := p.keys
  obtain ⟨a, b⟩ := h.upd hx (Nat.le_succ k) h2 p.inv p.ext hi (by rw [hvl]; have := putDs_len (keysOf (H.V.abs F.T) x) x.vals key (normD d); have := h.bud.vals x (List.mem_of_getElem? hx); omega) (by rw [h3.inner]; exact h.in' hx) h5
  exact ⟨a, by rw [b, h3.pub, hkl, hvl]; rfl, rfl, x, r.1, hx, rfl, h4, h3⟩
theorem hp_Get (h : HInv k H F) {w : Int} {o : ObjS} (h0 : objAt w (H.pub F).length = some n) (ho : (H.pub F)[n]? = some o) (key : ByteArray) :
    SC Tryz.prog W0 13 #[.pointer (some ⟨F.p, 0, none⟩), .int .u64 w, .string key] (H.ent F) (Ret (fun _ : Unit => H.ent F) (fun v _ => v = descR (getP o.names o.descs key))) := by
  rw [HeapV.pub_len] at h0
  obtain ⟨x, hx, rfl⟩ := pub_obj ho
  have := heap_Get_some (W0 := W0) h.ok h0 hx (h.obj hx) key
  rw [getO_pub (h.obj hx)] at this
  exact this
def dropNm (names : List ByteArray) (key : ByteArray) : List ByteArray := if ixS names key < 0 then names else names.eraseIdx (ixS names key).toNat
def dropDs (names : List ByteArray) (descs : List DescP) (key : ByteArray) : List DescP := if ixS names key < 0 then descs else descs.eraseIdx (ixS names key).toNat
theorem drop_inv {t : TreeP} {x x' : ObjL} {q : Nat} (ho : OInv t x) (hs : Same x x') (hq : q < x.vals.length) (hp : x'.ps = ⟨if 0 ≤ x.shape then -1 else x.shape, (keysOf t x).eraseIdx q, x.vals.eraseIdx q⟩) : OInv t x' ∧ keysOf t x' = (keysOf t x).eraseIdx q ∧ x'.shape < 0 := by
  have e1 : x'.shape = if 0 ≤ x.shape then -1 else x.shape := congrArg PS.shape hp
  have e2 : x'.names = (keysOf t x).eraseIdx q := congrArg PS.names hp
  have e3 : x'.vals = x.vals.eraseIdx q := congrArg PS.vals hp
  have hneg : x'.shape < 0 := by rw [e1]; split <;> omega
  have hk : keysOf t x' = (keysOf t x).eraseIdx q := by unfold keysOf at e2 ⊢; rw [if_pos hneg]; exact e2
  have hl := ho.len
  refine ⟨⟨fun h => by omega, ?_, ?_, fun h => by omega⟩, hk, hneg⟩
  · rw [hk, e3, List.length_eraseIdx, List.length_eraseIdx, hl]
  · rw [hk]; exact ho.nodup.sublist (List.eraseIdx_sublist _ _)
theorem hp_Drop (hk : k ≤ 8000000) (h : HInv k H F) {w : Int} {o : ObjS} (h0 : objAt w (H.pub F).length = some n) (ho : (H.pub F)[n]? = some o) (key : ByteArray) :
    SC Tryz.prog W0 19 #[.pointer (some ⟨F.p, 0, none⟩), .int .u64 w, .string key] (H.ent F)
    (Ret (fun H' : HeapV => H'.ent F) (fun v H' => v = .bool (decide (0 ≤ ixS o.names key)) ∧ HInv k H' F ∧ H'.pub F = (H.pub F).set n ⟨o.kind, o.proto, o.shut, dropNm o.names key, dropDs o.names o.descs key, o.elems, o.inner⟩ ∧ H'.texts = H.texts ∧ H'.V = H.V ∧
      ∃ x x', H.objs[n]? = some x ∧ H'.objs = H.objs.set n x' ∧ (0 ≤ ixS o.names key → x'.shape < 0))) := by
  rw [HeapV.pub_len] at h0
  obtain ⟨x, hx, rfl⟩ := pub_obj ho
  have ho' := h.obj hx
  have e := placePS ho'.ps key
  by_cases hn : ixS (keysOf (H.V.abs F.T) x) key < 0
  · have hno : placeO (H.V.abs F.T) x.shape x.names key < 0 := by
      rw [show placeO (H.V.abs F.T) x.shape x.names key = _ from e]
      show (if ixS (keysOf (H.V.abs F.T) x) key < 0 then (-1 : Int) else _) < 0
      rw [if_pos hn]; decide
    refine SC.ret (heap_Drop_no h.ok h0 hx hno) fun v _ hv => ⟨H, rfl, ?_, h, ?_, rfl, rfl, x, x, hx, (set_same hx).symm, fun q => absurd q (by simp only [pubO]; omega)⟩
    · rw [hv, decide_eq_false]
      simp only [pubO]; omega
    · have d1 : dropNm (pubO (H.V.abs F.T) x).names key = keysOf (H.V.abs F.T) x := if_pos hn
      have d2 : dropDs (pubO (H.V.abs F.T) x).names (pubO (H.V.abs F.T) x).descs key = x.vals := if_pos hn
      rw [d1, d2]
      exact (set_same ho).symm
  · obtain ⟨q, hq⟩ := Int.eq_ofNat_of_zero_le (show 0 ≤ ixS (keysOf (H.V.abs F.T) x) key by omega)
    have hyes : placeO (H.V.abs F.T) x.shape x.names key = q := by
      rw [show placeO (H.V.abs F.T) x.shape x.names key = _ from e]
      show (if ixS (keysOf (H.V.abs F.T) x) key < 0 then (-1 : Int) else ixS (keysOf (H.V.abs F.T) x) key) = q
      rw [if_neg hn]; exact hq
    have hql : q < x.vals.length := by
      have := (List.getElem?_eq_some_iff.1 (ixS_some (show 0 ≤ ixS (keysOf (H.V.abs F.T) x) key by omega))).1
      rw [ho'.len, hq] at this
      simpa using this
    refine SC.ret (heap_Drop_yes h.ok h0 hx ho' h.bud hk hyes) fun v r ⟨h1, h2, h3, h4, h5⟩ => ⟨_, rfl, ?_, ?_⟩
    · rw [h1, decide_eq_true]
      simp only [pubO]; omega
    · obtain ⟨i1, i2, i3⟩ := drop_inv ho' h3 hql h4
      have e3 : r.1.vals = x.vals.eraseIdx q := congrArg PS.vals h4
      obtain ⟨a, b⟩ := h.upd hx (Nat.le_refl k) h2 h.tree (Ext.refl _) i1 (by rw [e3, List.length_eraseIdx]; have := h.bud.vals x (List.mem_of_getElem? hx); split <;> omega) (by rw [h3.inner]; exact h.in' hx) h5
      refine ⟨a, ?_, rfl, rfl, x, r.1, hx, rfl, fun _ => i3⟩
      have d1 : dropNm (pubO (H.V.abs F.T) x).names key = (keysOf (H.V.abs F.T) x).eraseIdx q := (if_neg hn).trans (by show _ = _; rw [show ixS (pubO (H.V.abs F.T) x).names key = (q : Int) from hq]; rfl)
      have d2 : dropDs (pubO (H.V.abs F.T) x).names (pubO (H.V.abs F.T) x).descs key = x.vals.eraseIdx q := (if_neg hn).trans (by show _ = _; rw [show ixS (pubO (H.V.abs F.T) x).names key = (q : Int) from hq]; rfl)
      rw [b, h3.pub, i2, e3, d1, d2]; rfl
theorem hp_Keys (hk : k ≤ 8000000) (h : HInv k H F) {w : Int} {o : ObjS} (h0 : objAt w (H.pub F).length = some n) (ho : (H.pub F)[n]? = some o) :
    SC Tryz.prog W0 40 #[.pointer (some ⟨F.p, 0, none⟩), .int .u64 w] (H.ent F)
    (Ret (fun g : Gs => g.ent 9 1 (o.names.map encS) ++ H.ent F) (fun v g => v = g.val o.names.length ∧ g.ok 1 o.names.length (o.names.map encS))) := by
  rw [HeapV.pub_len] at h0
  obtain ⟨x, hx, rfl⟩ := pub_obj ho
  by_cases hs : x.shape < 0
  · have := (h.obj hx).names hs
    have := h.bud.vals x (List.mem_of_getElem? hx)
    exact heap_Keys_slow h.ok h0 hx hs (by omega)
  · exact heap_Keys_fast h.ok h0 hx hs
/-- Has it a shape afterwards, where there is room for one more? -/
theorem putS_shape {t : TreeP} (hT : TInv t) {rk : Int} {p : PS} (h : PInv t rk p) (hroom : (t.l.length : Int) < t.most) (key : ByteArray) (d : DescP) :
    0 ≤ (putS t p key d).2.shape ↔ (0 ≤ p.shape ∧ (ixS (keysPS t p) key < 0 → p.vals.length < 16)) := by
  unfold putS
  rw [placePS h]
  by_cases hk : ixS (keysPS t p) key < 0
  · rw [if_pos hk, if_neg (by decide)]
    have hkn := ixS_none.1 hk
    unfold putNew
    by_cases h16 : 16 ≤ p.vals.length
    · rw [if_pos h16]
      obtain ⟨l1, l2, l3, l4⟩ := h.loose
      have e : putFast t (looseS t p) key d = (t, looseS t p) := by unfold putFast; rw [if_neg (by omega)]
      rw [e]
      have e2 : (putName (looseS t p) key).shape = (looseS t p).shape := by unfold putName; split <;> rfl
      simp only [e2]
      refine ⟨fun q => by omega, fun q => absurd (q.2 hk) (by omega)⟩
    · rw [if_neg h16]
      by_cases hs : 0 ≤ p.shape
      · obtain ⟨s, g1, g2, g3, g4⟩ := h.shape_l hs
        have g := addP_got hT g1 (key := key) d.2.2 (by rw [← g4]; exact hkn)
        have hok := g.full hroom
        obtain ⟨s', a1, a2, a3⟩ := g.it hok
        have h0 := (shapeAt_iff.1 a1).1
        have e : putFast t p key d = ((addP t p.shape key d.2.2).1, ⟨(addP t p.shape key d.2.2).2.1, p.names, p.vals⟩) := by
          unfold putFast stepS; rw [if_pos hs, if_pos hok]
        rw [e]
        have e2 : ∀ y : PS, (putName y key).shape = y.shape := fun y => by unfold putName; split <;> rfl
        simp only [e2]
        exact ⟨fun _ => ⟨hs, fun _ => by omega⟩, fun _ => h0⟩
      · have e : putFast t p key d = (t, p) := by unfold putFast; rw [if_neg hs]
        rw [e]
        have e2 : (putName p key).shape = p.shape := by unfold putName; split <;> rfl
        simp only [e2]
        exact ⟨fun q => absurd q hs, fun q => absurd q.1 hs⟩
  · rw [if_neg hk, if_pos (by omega)]
    have hlt : (ixS (keysPS t p) key).toNat < p.vals.length := by
      have := (List.getElem?_eq_some_iff.1 (ixS_some (ixS_nn hk))).1
      rw [h.len] at this; exact this
    obtain ⟨o, ho⟩ : ∃ o, p.vals[(ixS (keysPS t p) key).toNat]? = some o := ⟨_, List.getElem?_eq_getElem hlt⟩
    rw [ho]
    simp only []
    have hkm : key ∈ keysPS t p := List.mem_of_getElem? (ixS_some (ixS_nn hk))
    unfold putOld
    by_cases hc : 0 ≤ p.shape ∧ (o.2.2 != d.2.2) = true
    · rw [if_pos hc]
      obtain ⟨s, g1, g2, g3, g4⟩ := h.shape_l hc.1
      have g := changeP_got hT g1 (key := key) d.2.2 (by rw [← g4]; exact hkm)
      have hok := g.full hroom
      obtain ⟨s', a1, a2, a3⟩ := g.it hok
      have h0 := (shapeAt_iff.1 a1).1
      unfold stepS
      rw [if_pos hok]
      exact ⟨fun _ => ⟨hc.1, fun q => absurd q hk⟩, fun _ => h0⟩
    · rw [if_neg hc]
      exact ⟨fun q => ⟨q, fun r => absurd r hk⟩, fun q => q.1⟩
end Go.Proofs.YtdfhbheipagnmaaGreat
namespace Go.Proofs.YtdfhbheipagnmaaGreat
open Go.Sl

theorem rf_Proto_none {W0 : World} {R : RSt} (hR : R.ok) {w : Int} (hw : wordOk w) (h0 : objAt w R.objs.length = none)  : SC Tryz.prog W0 66 #[R.val, .int .u64 w] R.ent (Ret (fun _ : Unit => R.ent) (fun v _ => v = .int .u64 18445336698825998337)) := by
 refine SC_body (fn := Tryz.f66) (n := 17) Tryz.func66 rfl (by kernel_rfl) (ρ := [(0, .agg #[Gs.val R.s R.objs.length, Gs.val R.ts R.texts.length]), (1, .int .u64 w)]) rfl ?_
 refine SW_sig _ RSt.eq0 ?_
 refine sr ?_
 refine L (nw 28 2 [Gs.val R.s R.objs.length, Gs.val R.ts R.texts.length] ?_)
 intro b1
 refine os 1 ?_
 refine nsr ?_
 refine L (lds 2 ?_)
 refine os 1 ?_
 refine L (cl (rf_At (R := RSt.mk R.s R.objs R.ts R.texts) hw (w := w)) ?_)
 rintro v1 _ hv1
 obtain rfl : v1 = .int .i64 (-1) := hv1.trans (by simp only []; unfold atI; rw [h0])
 refine un ?_
 refine os 1 ?_
 refine kp [5, 4, 2, 0, 1] ?_
 refine nq ?_
 refine sr ?_
 refine os 1 ?_
 refine oV (.bool true) ?_
 refine nt ?_
 refine ct ?_
 refine sr ?_
 refine os 1 ?_
 refine nt ?_
 refine SW_ret (r_then ?_)
 refine body_end (.int .u64 18445336698825998337) (fun _ => rfl) ?_
 exact ⟨(), RSt.own, rfl⟩

theorem rf_Proto_some {W0 : World} {R : RSt} (hR : R.ok) {w : Int} (hw : wordOk w) {n : Nat} {x : RObj} (h0 : objAt w R.objs.length = some n) (hx : R.objs[n]? = some x)  : SC Tryz.prog W0 66 #[R.val, .int .u64 w] R.ent (Ret (fun _ : Unit => R.ent) (fun v _ => v = .int .u64 x.proto)) := by
 have hnl := (List.getElem?_eq_some_iff.1 hx).1
 refine SC_body (fn := Tryz.f66) (n := 17) Tryz.func66 rfl (by kernel_rfl) (ρ := [(0, .agg #[Gs.val R.s R.objs.length, Gs.val R.ts R.texts.length]), (1, .int .u64 w)]) rfl ?_
 refine SW_sig _ RSt.eq0 ?_
 refine sr ?_
 refine L (nw 28 2 [Gs.val R.s R.objs.length, Gs.val R.ts R.texts.length] ?_)
 intro b1
 refine os 1 ?_
 refine nsr ?_
 refine L (lds 2 ?_)
 refine os 1 ?_
 refine L (cl (rf_At (R := RSt.mk R.s R.objs R.ts R.texts) hw (w := w)) ?_)
 rintro v1 _ hv1
 obtain rfl : v1 = .int .i64 (n : Int) := hv1.trans (by simp only []; unfold atI; rw [h0])
 refine un ?_
 refine os 1 ?_
 refine kp [5, 4, 2, 0, 1] ?_
 refine nq ?_
 refine sr ?_
 refine os 2 ?_
 refine nt ?_
 refine SW_false (fun _ => (congrArg Value.bool (show (decide ((n : Int) < 0)) = false from (by simp)))) ?_
 refine SW_skip (n_then ?_)
 refine sr ?_
 refine os 1 ?_
 refine L (ld ?_)
 refine os 1 ?_
 refine L (ixg (n : Int) (n * 7) hR.row Tryz.underlying25 ?_)
 refine os 1 ?_
 refine L (ld ?_ (hc := Gs.cell hR.row (fun e he => (mem_c (mem_h he))) (flat_cell RObj.len hx (j := 1) (by decide) rfl)))
 refine os 1 ?_
 refine kp [4, 10, 5, 2, 0, 1] ?_
 refine nt ?_
 refine SW_ret ?_
 refine body_end (.int .u64 x.proto) (fun _ => rfl) ?_
 exact ⟨(), RSt.own, rfl⟩

theorem rf_Len_none {W0 : World} {R : RSt} (hR : R.ok) {w : Int} (hw : wordOk w) (h0 : objAt w R.objs.length = none)  : SC Tryz.prog W0 67 #[R.val, .int .u64 w] R.ent (Ret (fun _ : Unit => R.ent) (fun v _ => v = .int .i64 0)) := by
 refine SC_body (fn := Tryz.f67) (n := 18) Tryz.func67 rfl (by kernel_rfl) (ρ := [(0, .agg #[Gs.val R.s R.objs.length, Gs.val R.ts R.texts.length]), (1, .int .u64 w)]) rfl ?_
 refine SW_sig _ RSt.eq0 ?_
 refine sr ?_
 refine L (nw 28 2 [Gs.val R.s R.objs.length, Gs.val R.ts R.texts.length] ?_)
 intro b1
 refine os 1 ?_
 refine nsr ?_
 refine L (lds 2 ?_)
 refine os 1 ?_
 refine L (cl (rf_At (R := RSt.mk R.s R.objs R.ts R.texts) hw (w := w)) ?_)
 rintro v1 _ hv1
 obtain rfl : v1 = .int .i64 (-1) := hv1.trans (by simp only []; unfold atI; rw [h0])
 refine un ?_
 refine os 1 ?_
 refine kp [5, 4, 2, 0, 1] ?_
 refine nq ?_
 refine sr ?_
 refine os 1 ?_
 refine oV (.bool true) ?_
 refine nt ?_
 refine ct ?_
 refine sr ?_
 refine os 1 ?_
 refine nt ?_
 refine SW_ret (r_then ?_)
 refine body_end (.int .i64 0) (fun _ => rfl) ?_
 exact ⟨(), RSt.own, rfl⟩

theorem rf_Len_some {W0 : World} {R : RSt} (hR : R.ok) {w : Int} (hw : wordOk w) {n : Nat} {x : RObj} (h0 : objAt w R.objs.length = some n) (hx : R.objs[n]? = some x)  : SC Tryz.prog W0 67 #[R.val, .int .u64 w] R.ent (Ret (fun _ : Unit => R.ent) (fun v _ => v = .int .i64 x.elems.length)) := by
 have hnl := (List.getElem?_eq_some_iff.1 hx).1
 refine SC_body (fn := Tryz.f67) (n := 18) Tryz.func67 rfl (by kernel_rfl) (ρ := [(0, .agg #[Gs.val R.s R.objs.length, Gs.val R.ts R.texts.length]), (1, .int .u64 w)]) rfl ?_
 refine SW_sig _ RSt.eq0 ?_
 refine sr ?_
 refine L (nw 28 2 [Gs.val R.s R.objs.length, Gs.val R.ts R.texts.length] ?_)
 intro b1
 refine os 1 ?_
 refine nsr ?_
 refine L (lds 2 ?_)
 refine os 1 ?_
 refine L (cl (rf_At (R := RSt.mk R.s R.objs R.ts R.texts) hw (w := w)) ?_)
 rintro v1 _ hv1
 obtain rfl : v1 = .int .i64 (n : Int) := hv1.trans (by simp only []; unfold atI; rw [h0])
 refine un ?_
 refine os 1 ?_
 refine kp [5, 4, 2, 0, 1] ?_
 refine nq ?_
 refine sr ?_
 refine os 2 ?_
 refine nt ?_
 refine SW_false (fun _ => (congrArg Value.bool (show (decide ((n : Int) < 0)) = false from (by simp)))) ?_
 refine SW_skip (n_then ?_)
 refine sr ?_
 refine os 1 ?_
 refine L (ld ?_)
 refine os 1 ?_
 refine L (ixg (n : Int) (n * 7) hR.row Tryz.underlying25 ?_)
 refine os 1 ?_
 refine L (ld ?_ (hc := Gs.cell hR.row (fun e he => (mem_c (mem_h he))) (flat_cell RObj.len hx (j := 5) (by decide) rfl)))
 refine os 2 ?_
 refine kp [4, 10, 5, 2, 0, 1] ?_
 refine nt ?_
 refine SW_ret ?_
 refine body_end (.int .i64 (x.elems.length : Int)) (fun _ => rfl) ?_
 exact ⟨(), RSt.own, rfl⟩

theorem rf_Shut_none {W0 : World} {R : RSt} (hR : R.ok) {w : Int} (hw : wordOk w) (h0 : objAt w R.objs.length = none)  : SC Tryz.prog W0 29 #[R.val, .int .u64 w] R.ent (Ret (fun _ : Unit => R.ent) (fun v _ => v = R.val)) := by
 refine SC_body (fn := Tryz.f29) (n := 23) Tryz.func29 rfl (by kernel_rfl) (ρ := [(0, .agg #[Gs.val R.s R.objs.length, Gs.val R.ts R.texts.length]), (1, .int .u64 w)]) rfl ?_
 refine SW_sig _ RSt.eq0 ?_
 refine sr ?_
 refine L (nw 28 2 [Gs.val R.s R.objs.length, Gs.val R.ts R.texts.length] ?_)
 intro b1
 refine L (nw 28 2 [.slice none 0 0, .slice none 0 0] ?_)
 intro b2
 refine nsr ?_
 refine L (lds 2 ?_)
 refine os 1 ?_
 refine L (cl (rf_At (R := RSt.mk R.s R.objs R.ts R.texts) hw (w := w)) ?_)
 rintro v1 _ hv1
 obtain rfl : v1 = .int .i64 (-1) := hv1.trans (by simp only []; unfold atI; rw [h0])
 refine un ?_
 refine os 1 ?_
 refine kp [5, 4, 2, 0, 1] ?_
 refine nq ?_
 refine sr ?_
 refine os 1 ?_
 refine oV (.bool true) ?_
 refine nt ?_
 refine ct ?_
 refine sr ?_
 refine L (lds 2 ?_)
 refine L (st [Gs.val R.s R.objs.length, Gs.val R.ts R.texts.length] ?_)
 refine nt ?_
 refine SW_ret (r_then ?_)
 refine body_endC [.agg #[Gs.val R.s R.objs.length, Gs.val R.ts R.texts.length]] (fun _ => (.cons ⟨b2, 0, rfl, .inl ⟨[Gs.val R.s R.objs.length, Gs.val R.ts R.texts.length], by kernel_rfl, (cells_cons (Cell.own mem_z rfl) (cells_cons (Cell.own mem_z rfl) cells_nil)), rfl⟩⟩ .nil)) ?_
 exact ⟨(), RSt.own, rfl⟩

theorem rf_Shut_some {W0 : World} {R : RSt} (hR : R.ok) {w : Int} (hw : wordOk w) {n : Nat} {x : RObj} (h0 : objAt w R.objs.length = some n) (hx : R.objs[n]? = some x)  : SC Tryz.prog W0 29 #[R.val, .int .u64 w] R.ent (Ret (fun r : RObj => (R.put n r).ent) (fun v r => v = R.val ∧ (R.put n r).ok ∧ r.pub = ⟨x.kind, x.proto, true, x.names, x.descs, x.elems, x.inner⟩)) := by
 have hnl := (List.getElem?_eq_some_iff.1 hx).1
 refine SC_body (fn := Tryz.f29) (n := 23) Tryz.func29 rfl (by kernel_rfl) (ρ := [(0, .agg #[Gs.val R.s R.objs.length, Gs.val R.ts R.texts.length]), (1, .int .u64 w)]) rfl ?_
 refine SW_sig _ RSt.eq0 ?_
 refine SW_perm _ (perm_ca perm_cz) ?_
 refine SW_perm ((Gs.ent 9 1 x.ns (x.names.map encS)) ++ ((Gs.ent 35 3 x.ds (x.descs.flatMap descCells)) ++ ((Gs.ent 33 1 x.es (x.elems.map encU)) ++ ((Gs.ent 33 1 x.is (x.inner.map encU)) ++ (((List.eraseIdx R.objs n).flatMap RObj.ent) ++ ((Gs.ent 83 7 R.s (R.objs.flatMap RObj.cells)) ++ ((Gs.ent 9 1 R.ts (R.texts.map encS)) ++ ([])))))))) (robj_focus hx _) ?_
 refine sr ?_
 refine L (nw 28 2 [Gs.val R.s R.objs.length, Gs.val R.ts R.texts.length] ?_)
 intro b1
 refine L (nw 28 2 [.slice none 0 0, .slice none 0 0] ?_)
 intro b2
 refine nsr ?_
 refine L (lds 2 ?_)
 refine os 1 ?_
 refine L (cl (rf_At (R := RSt.mk R.s R.objs R.ts R.texts) hw (w := w)) ?_)
 rintro v1 _ hv1
 obtain rfl : v1 = .int .i64 (n : Int) := hv1.trans (by simp only []; unfold atI; rw [h0])
 refine un ?_
 refine os 1 ?_
 refine kp [5, 4, 2, 0, 1] ?_
 refine nq ?_
 refine sr ?_
 refine os 2 ?_
 refine nt ?_
 refine SW_false (fun _ => (congrArg Value.bool (show (decide ((n : Int) < 0)) = false from (by simp)))) ?_
 refine SW_skip (n_then ?_)
 refine sr ?_
 refine os 1 ?_
 refine L (ld ?_)
 refine os 1 ?_
 refine L (ixg (n : Int) (n * 7) hR.row Tryz.underlying25 ?_)
 refine L (ldr [.int .i64 x.kind, .int .u64 x.proto, .bool x.shut, Gs.val x.ns x.names.length, Gs.val x.ds x.descs.length, Gs.val x.es x.elems.length, Gs.val x.is x.inner.length] (cells_cons (Gs.cell hR.row (fun e he => (mem_c (mem_c (mem_a (mem_a (mem_a (mem_a (mem_a (mem_h he))))))))) (flat_cell RObj.len hx (j := 0) (by decide) rfl)) (cells_cons (Gs.cell hR.row (fun e he => (mem_c (mem_c (mem_a (mem_a (mem_a (mem_a (mem_a (mem_h he))))))))) (flat_cell RObj.len hx (j := 1) (by decide) rfl)) (cells_cons (Gs.cell hR.row (fun e he => (mem_c (mem_c (mem_a (mem_a (mem_a (mem_a (mem_a (mem_h he))))))))) (flat_cell RObj.len hx (j := 2) (by decide) rfl)) (cells_cons (Gs.cell hR.row (fun e he => (mem_c (mem_c (mem_a (mem_a (mem_a (mem_a (mem_a (mem_h he))))))))) (flat_cell RObj.len hx (j := 3) (by decide) rfl)) (cells_cons (Gs.cell hR.row (fun e he => (mem_c (mem_c (mem_a (mem_a (mem_a (mem_a (mem_a (mem_h he))))))))) (flat_cell RObj.len hx (j := 4) (by decide) rfl)) (cells_cons (Gs.cell hR.row (fun e he => (mem_c (mem_c (mem_a (mem_a (mem_a (mem_a (mem_a (mem_h he))))))))) (flat_cell RObj.len hx (j := 5) (by decide) rfl)) (cells_cons (Gs.cell hR.row (fun e he => (mem_c (mem_c (mem_a (mem_a (mem_a (mem_a (mem_a (mem_h he))))))))) (flat_cell RObj.len hx (j := 6) (by decide) rfl)) cells_nil))))))) ?_)
 refine L (nw 83 7 [.int .i64 0, .int .u64 0, .bool false, .slice none 0 0, .slice none 0 0, .slice none 0 0, .slice none 0 0] ?_)
 intro b3
 refine L (st [.int .i64 x.kind, .int .u64 x.proto, .bool x.shut, Gs.val x.ns x.names.length, Gs.val x.ds x.descs.length, Gs.val x.es x.elems.length, Gs.val x.is x.inner.length] ?_)
 refine nsr ?_
 refine os 1 ?_
 refine kp [18, 6, 11, 5, 4, 2, 0, 1] ?_
 refine L (st [.int .i64 x.kind, .int .u64 x.proto, .bool true, Gs.val x.ns x.names.length, Gs.val x.ds x.descs.length, Gs.val x.es x.elems.length, Gs.val x.is x.inner.length] ?_)
 refine nsr ?_
 refine L (lds 2 ?_)
 refine os 1 ?_
 refine L (lds 7 ?_)
 refine L (cl (rf_with (RObj.mk x.kind x.proto true x.ns x.names x.ds x.descs x.es x.elems x.is x.inner) hR.row hx) ?_)
 rintro _ _ rfl
 refine L (st [Gs.val R.s R.objs.length, Gs.val R.ts R.texts.length] ?_)
 refine nt ?_
 refine SW_ret ?_
 refine body_endC [.agg #[Gs.val R.s R.objs.length, Gs.val R.ts R.texts.length]] (fun _ => (.cons ⟨b2, 0, rfl, .inl ⟨[Gs.val R.s R.objs.length, Gs.val R.ts R.texts.length], by kernel_rfl, (cells_cons (Cell.own mem_z rfl) (cells_cons (Cell.own mem_z rfl) cells_nil)), rfl⟩⟩ .nil)) ?_
 refine ⟨(RObj.mk x.kind x.proto true x.ns x.names x.ds x.descs x.es x.elems x.is x.inner), ?_, rfl, hR.put hx ⟨(show Gs.ok 1 (x.names).length x.ns (x.names.map encS) from (RSt.ok.at (x := x) hR hx).ns), (show Gs.ok 3 (x.descs).length x.ds (x.descs.flatMap descCells) from (RSt.ok.at (x := x) hR hx).ds), (show Gs.ok 1 (x.elems).length x.es (x.elems.map encU) from (RSt.ok.at (x := x) hR hx).es), (show Gs.ok 1 (x.inner).length x.is (x.inner.map encU) from (RSt.ok.at (x := x) hR hx).is)⟩, rfl⟩
 exact Own.trans (ow (S := ((Gs.ent 83 7 R.s ((List.set R.objs n (RObj.mk x.kind x.proto true x.ns x.names x.ds x.descs x.es x.elems x.is x.inner)).flatMap RObj.cells)) ++ ((Gs.ent 9 1 x.ns (x.names.map encS)) ++ ((Gs.ent 35 3 x.ds (x.descs.flatMap descCells)) ++ ((Gs.ent 33 1 x.es (x.elems.map encU)) ++ ((Gs.ent 33 1 x.is (x.inner.map encU)) ++ (((List.eraseIdx R.objs n).flatMap RObj.ent) ++ ((Gs.ent 9 1 R.ts (R.texts.map encS)) ++ ([])))))))))) (Own.of_perm (RSt.back hx (RObj.mk x.kind x.proto true x.ns x.names x.ds x.descs x.es x.elems x.is x.inner)))

theorem rf_SetInner_none {W0 : World} {R : RSt} (hR : R.ok) {w : Int} (hw : wordOk w) (h0 : objAt w R.objs.length = none)  {τ : Heaplet} {l : List Int} {A : Option Addr} {c : Nat} (hs : Src W0 τ A (l.map encU)) (hr : l.length ≤ 1048576) : SC Tryz.prog W0 31 #[R.val, .int .u64 w, .slice A l.length c] (R.ent ++ (τ ++ [])) (Ret (fun _ : Unit => R.ent ++ (τ ++ [])) (fun v _ => v = R.val)) := by
 refine SC_body (fn := Tryz.f31) (n := 28) Tryz.func31 rfl (by kernel_rfl) (ρ := [(0, .agg #[Gs.val R.s R.objs.length, Gs.val R.ts R.texts.length]), (1, .int .u64 w), (2, .slice A l.length c)]) rfl ?_
 refine SW_sig ((Gs.ent 83 7 R.s (R.objs.flatMap RObj.cells)) ++ ((R.objs.flatMap RObj.ent) ++ ((Gs.ent 9 1 R.ts (R.texts.map encS)) ++ (τ ++ ([]))))) (by simp only [RSt.ent, List.cons_append, List.append_assoc, List.nil_append, List.append_nil]) ?_
 refine sr ?_
 refine L (nw 28 2 [Gs.val R.s R.objs.length, Gs.val R.ts R.texts.length] ?_)
 intro b1
 refine L (nw 28 2 [.slice none 0 0, .slice none 0 0] ?_)
 intro b2
 refine nsr ?_
 refine L (lds 2 ?_)
 refine os 1 ?_
 refine L (cl (rf_At (R := RSt.mk R.s R.objs R.ts R.texts) hw (w := w)) ?_)
 rintro v1 _ hv1
 obtain rfl : v1 = .int .i64 (-1) := hv1.trans (by simp only []; unfold atI; rw [h0])
 refine un ?_
 refine os 1 ?_
 refine kp [7, 6, 3, 0, 1, 2] ?_
 refine nq ?_
 refine sr ?_
 refine os 1 ?_
 refine oV (.bool true) ?_
 refine nt ?_
 refine ct ?_
 refine sr ?_
 refine L (lds 2 ?_)
 refine L (st [Gs.val R.s R.objs.length, Gs.val R.ts R.texts.length] ?_)
 refine nt ?_
 refine SW_ret (r_then ?_)
 refine body_endC [.agg #[Gs.val R.s R.objs.length, Gs.val R.ts R.texts.length]] (fun _ => (.cons ⟨b2, 0, rfl, .inl ⟨[Gs.val R.s R.objs.length, Gs.val R.ts R.texts.length], by kernel_rfl, (cells_cons (Cell.own mem_z rfl) (cells_cons (Cell.own mem_z rfl) cells_nil)), rfl⟩⟩ .nil)) ?_
 refine ⟨(), Own.trans (ow (S := ((Gs.ent 83 7 R.s (R.objs.flatMap RObj.cells)) ++ ((R.objs.flatMap RObj.ent) ++ ((Gs.ent 9 1 R.ts (R.texts.map encS)) ++ (τ ++ ([]))))))) (Own.of_perm (List.Perm.of_eq ?_)), rfl⟩
 simp only [RSt.ent, List.cons_append, List.append_assoc, List.nil_append, List.append_nil]

theorem rf_SetInner_some {W0 : World} {R : RSt} (hR : R.ok) {w : Int} (hw : wordOk w) {n : Nat} {x : RObj} (h0 : objAt w R.objs.length = some n) (hx : R.objs[n]? = some x)  {τ : Heaplet} {l : List Int} {A : Option Addr} {c : Nat} (hs : Src W0 τ A (l.map encU)) (hr : l.length ≤ 1048576) : SC Tryz.prog W0 31 #[R.val, .int .u64 w, .slice A l.length c] (R.ent ++ (τ ++ [])) (Ret (fun r : RObj => (R.put n r).ent ++ (τ ++ [])) (fun v r => v = R.val ∧ (R.put n r).ok ∧ r.pub = ⟨x.kind, x.proto, x.shut, x.names, x.descs, x.elems, l⟩)) := by
 have hnl := (List.getElem?_eq_some_iff.1 hx).1
 refine SC_body (fn := Tryz.f31) (n := 28) Tryz.func31 rfl (by kernel_rfl) (ρ := [(0, .agg #[Gs.val R.s R.objs.length, Gs.val R.ts R.texts.length]), (1, .int .u64 w), (2, .slice A l.length c)]) rfl ?_
 refine SW_sig ((Gs.ent 83 7 R.s (R.objs.flatMap RObj.cells)) ++ ((R.objs.flatMap RObj.ent) ++ ((Gs.ent 9 1 R.ts (R.texts.map encS)) ++ (τ ++ ([]))))) (by simp only [RSt.ent, List.cons_append, List.append_assoc, List.nil_append, List.append_nil]) ?_
 refine SW_perm _ (perm_ca perm_cz) ?_
 refine SW_perm ((Gs.ent 9 1 x.ns (x.names.map encS)) ++ ((Gs.ent 35 3 x.ds (x.descs.flatMap descCells)) ++ ((Gs.ent 33 1 x.es (x.elems.map encU)) ++ ((Gs.ent 33 1 x.is (x.inner.map encU)) ++ (((List.eraseIdx R.objs n).flatMap RObj.ent) ++ ((Gs.ent 83 7 R.s (R.objs.flatMap RObj.cells)) ++ ((Gs.ent 9 1 R.ts (R.texts.map encS)) ++ (τ ++ ([]))))))))) (robj_focus hx _) ?_
 refine sr ?_
 refine L (nw 28 2 [Gs.val R.s R.objs.length, Gs.val R.ts R.texts.length] ?_)
 intro b1
 refine L (nw 28 2 [.slice none 0 0, .slice none 0 0] ?_)
 intro b2
 refine nsr ?_
 refine L (lds 2 ?_)
 refine os 1 ?_
 refine L (cl (rf_At (R := RSt.mk R.s R.objs R.ts R.texts) hw (w := w)) ?_)
 rintro v1 _ hv1
 obtain rfl : v1 = .int .i64 (n : Int) := hv1.trans (by simp only []; unfold atI; rw [h0])
 refine un ?_
 refine os 1 ?_
 refine kp [7, 6, 3, 0, 1, 2] ?_
 refine nq ?_
 refine sr ?_
 refine os 2 ?_
 refine nt ?_
 refine SW_false (fun _ => (congrArg Value.bool (show (decide ((n : Int) < 0)) = false from (by simp)))) ?_
 refine SW_skip (n_then ?_)
 refine sr ?_
 refine os 1 ?_
 refine L (ld ?_)
 refine os 1 ?_
 refine L (ixg (n : Int) (n * 7) hR.row Tryz.underlying25 ?_)
 refine L (ldr [.int .i64 x.kind, .int .u64 x.proto, .bool x.shut, Gs.val x.ns x.names.length, Gs.val x.ds x.descs.length, Gs.val x.es x.elems.length, Gs.val x.is x.inner.length] (cells_cons (Gs.cell hR.row (fun e he => (mem_c (mem_c (mem_a (mem_a (mem_a (mem_a (mem_a (mem_h he))))))))) (flat_cell RObj.len hx (j := 0) (by decide) rfl)) (cells_cons (Gs.cell hR.row (fun e he => (mem_c (mem_c (mem_a (mem_a (mem_a (mem_a (mem_a (mem_h he))))))))) (flat_cell RObj.len hx (j := 1) (by decide) rfl)) (cells_cons (Gs.cell hR.row (fun e he => (mem_c (mem_c (mem_a (mem_a (mem_a (mem_a (mem_a (mem_h he))))))))) (flat_cell RObj.len hx (j := 2) (by decide) rfl)) (cells_cons (Gs.cell hR.row (fun e he => (mem_c (mem_c (mem_a (mem_a (mem_a (mem_a (mem_a (mem_h he))))))))) (flat_cell RObj.len hx (j := 3) (by decide) rfl)) (cells_cons (Gs.cell hR.row (fun e he => (mem_c (mem_c (mem_a (mem_a (mem_a (mem_a (mem_a (mem_h he))))))))) (flat_cell RObj.len hx (j := 4) (by decide) rfl)) (cells_cons (Gs.cell hR.row (fun e he => (mem_c (mem_c (mem_a (mem_a (mem_a (mem_a (mem_a (mem_h he))))))))) (flat_cell RObj.len hx (j := 5) (by decide) rfl)) (cells_cons (Gs.cell hR.row (fun e he => (mem_c (mem_c (mem_a (mem_a (mem_a (mem_a (mem_a (mem_h he))))))))) (flat_cell RObj.len hx (j := 6) (by decide) rfl)) cells_nil))))))) ?_)
 refine L (nw 83 7 [.int .i64 0, .int .u64 0, .bool false, .slice none 0 0, .slice none 0 0, .slice none 0 0, .slice none 0 0] ?_)
 intro b3
 refine L (st [.int .i64 x.kind, .int .u64 x.proto, .bool x.shut, Gs.val x.ns x.names.length, Gs.val x.ds x.descs.length, Gs.val x.es x.elems.length, Gs.val x.is x.inner.length] ?_)
 refine nsr ?_
 refine L (nws 33 0 0 [] ?_)
 intro b4
 refine os 1 ?_
 refine kp [21, 20, 8, 13, 7, 6, 3, 0, 1, 2] ?_
 refine SL_sig ((Gs.ent 33 1 (Gs.at b4 0) (([] : List Int).map encU)) ++ ((b3, .cells 83 7 [.int .i64 x.kind, .int .u64 x.proto, .bool x.shut, Gs.val x.ns x.names.length, Gs.val x.ds x.descs.length, Gs.val x.es x.elems.length, Gs.val x.is x.inner.length]) :: ((b2, .cells 28 2 [.slice none 0 0, .slice none 0 0]) :: ((b1, .cells 28 2 [Gs.val R.s R.objs.length, Gs.val R.ts R.texts.length]) :: ((Gs.ent 9 1 x.ns (x.names.map encS)) ++ ((Gs.ent 35 3 x.ds (x.descs.flatMap descCells)) ++ ((Gs.ent 33 1 x.es (x.elems.map encU)) ++ ((Gs.ent 33 1 x.is (x.inner.map encU)) ++ (((List.eraseIdx R.objs n).flatMap RObj.ent) ++ ((Gs.ent 83 7 R.s (R.objs.flatMap RObj.cells)) ++ ((Gs.ent 9 1 R.ts (R.texts.map encS)) ++ (τ ++ ([]))))))))))))) rfl ?_
 refine L (O_append (size := 1) (bytes := 8) (z := .int .u64 0) (Gs.at b4 0) 0 l.length A c (([] : List Int).map encU) (l.map encU) ((([] : List Int) ++ l).map encU) (map_app _ _) (fun _ => rfl) (fun _ => rfl) Tryz.underlying36 (by kernel_rfl) rfl (by decide) ⟨Nat.le_refl _, by unfold maxLen; omega, rfl⟩ (by simp) (Src.elems (hs.mono (fun e he => (mem_a (mem_c (mem_c (mem_c (mem_a (mem_a (mem_a (mem_a (mem_a (mem_a (mem_a (mem_h he)))))))))))))) (by simp)) (map_one (fun _ => rfl) _) (by omega) (by decide) rfl ?_)
 intro s5 hks5 hfs5
 rw [show 0 + l.length = (([] : List Int) ++ l).length from by simp]
 rw [show 0 + l.length = (([] : List Int) ++ l).length from by simp] at hks5
 have hls5 : (([] : List Int) ++ l).length = ([] : List Int).length + l.length := by simp
 refine os 1 ?_
 refine L (st [.int .i64 x.kind, .int .u64 x.proto, .bool x.shut, Gs.val x.ns x.names.length, Gs.val x.ds x.descs.length, Gs.val x.es x.elems.length, Gs.val s5 ((([] : List Int) ++ l).length)] ?_)
 refine nsr ?_
 refine L (lds 2 ?_)
 refine os 1 ?_
 refine L (lds 7 ?_)
 refine L (cl (rf_with (RObj.mk x.kind x.proto x.shut x.ns x.names x.ds x.descs x.es x.elems s5 (([] : List Int) ++ l)) hR.row hx) ?_)
 rintro _ _ rfl
 refine L (st [Gs.val R.s R.objs.length, Gs.val R.ts R.texts.length] ?_)
 refine nt ?_
 refine SW_ret ?_
 refine body_endC [.agg #[Gs.val R.s R.objs.length, Gs.val R.ts R.texts.length]] (fun _ => (.cons ⟨b2, 0, rfl, .inl ⟨[Gs.val R.s R.objs.length, Gs.val R.ts R.texts.length], by kernel_rfl, (cells_cons (Cell.own mem_z rfl) (cells_cons (Cell.own mem_z rfl) cells_nil)), rfl⟩⟩ .nil)) ?_
 refine ⟨(RObj.mk x.kind x.proto x.shut x.ns x.names x.ds x.descs x.es x.elems s5 (([] : List Int) ++ l)), Own.trans (ow (S := ((Gs.ent 83 7 R.s ((List.set R.objs n (RObj.mk x.kind x.proto x.shut x.ns x.names x.ds x.descs x.es x.elems s5 (([] : List Int) ++ l))).flatMap RObj.cells)) ++ ((Gs.ent 9 1 x.ns (x.names.map encS)) ++ ((Gs.ent 35 3 x.ds (x.descs.flatMap descCells)) ++ ((Gs.ent 33 1 x.es (x.elems.map encU)) ++ ((Gs.ent 33 1 s5 ((([] : List Int) ++ l).map encU)) ++ (((List.eraseIdx R.objs n).flatMap RObj.ent) ++ ((Gs.ent 9 1 R.ts (R.texts.map encS)) ++ (τ ++ ([]))))))))))) ?_, rfl, hR.put hx ⟨(show Gs.ok 1 (x.names).length x.ns (x.names.map encS) from (RSt.ok.at (x := x) hR hx).ns), (show Gs.ok 3 (x.descs).length x.ds (x.descs.flatMap descCells) from (RSt.ok.at (x := x) hR hx).ds), (show Gs.ok 1 (x.elems).length x.es (x.elems.map encU) from (RSt.ok.at (x := x) hR hx).es), hks5⟩, rfl⟩
 have hb_ := (RSt.back hx (RObj.mk x.kind x.proto x.shut x.ns x.names x.ds x.descs x.es x.elems s5 (([] : List Int) ++ l))).append_right (τ ++ [])
 simp only [List.cons_append, List.append_assoc, List.nil_append, List.append_nil] at hb_ ⊢
 exact Own.of_perm hb_

end Go.Proofs.YtdfhbheipagnmaaGreat
namespace Go.Proofs.YtdfhbheipagnmaaGreat
open Go.Sl
theorem fl15_lt (f : Int) : ∃ k : Nat, k < 16 ∧ fl15 f = k := by
  unfold fl15
  have h : (BitVec.ofInt 64 f &&& BitVec.ofInt 64 15).toNat ≤ 15 := by
    rw [BitVec.toNat_and]
    exact Nat.and_le_right
  refine ⟨(BitVec.ofInt 64 f &&& BitVec.ofInt 64 15).toNat, by omega, ?_⟩
  exact IntWalk.i64_in _ (by omega)
def refF (f : Int) : Int := if fl15 f ≥ 8 then IntKind.wrap .i64 ((BitVec.ofInt 64 (fl15 f) &&& BitVec.ofInt 64 14).toNat) else fl15 f
theorem refF_norm (f : Int) : normF f = refF f := by
  obtain ⟨k, hk, e⟩ := fl15_lt f
  unfold normF refF
  rw [e]
  have : ∀ k : Fin 16, (if (IntKind.wrap .i64 ((BitVec.ofInt 64 ((k.val : Nat) : Int) &&& BitVec.ofInt 64 8).toNat) != 0) = true then IntKind.wrap .i64 ((BitVec.ofInt 64 ((k.val : Nat) : Int) &&& ~~~BitVec.ofInt 64 1).toNat) else ((k.val : Nat) : Int)) =
      if ((k.val : Nat) : Int) ≥ 8 then IntKind.wrap .i64 ((BitVec.ofInt 64 ((k.val : Nat) : Int) &&& BitVec.ofInt 64 14).toNat) else ((k.val : Nat) : Int) := by decide
  exact this ⟨k, hk⟩
abbrev newR (kind proto : Int) : RObj := ⟨kind, proto, false, .nil, [], .nil, [], .nil, [], .nil, []⟩
theorem newR_ent (kind proto : Int) : (newR kind proto).ent = [] := rfl
theorem newR_ok (kind proto : Int) : (newR kind proto).ok := ⟨⟨rfl, rfl⟩, ⟨rfl, rfl⟩, ⟨rfl, rfl⟩, ⟨rfl, rfl⟩⟩
theorem erase_step {α : Type} {l : List α} {i k : Nat} {e : α} (he : l[i]? = some e) (hk : k < l.length) : (l.take (i + 1)).eraseIdx k = if i = k then (l.take i).eraseIdx k else (l.take i).eraseIdx k ++ [e] := by
  have hi := (List.getElem?_eq_some_iff.1 he).1
  rw [List.take_add_one, he]
  simp only [Option.toList_some]
  have hl : (l.take i).length = i := by simp; omega
  by_cases h : i = k
  · rw [if_pos h, List.eraseIdx_append_of_length_le (by omega), hl, show k - i = 0 by omega, List.eraseIdx_of_length_le (l := l.take i) (by omega)]
    simp
  · rw [if_neg h]
    by_cases h2 : k < i
    · rw [List.eraseIdx_append_of_lt_length (by omega)]
    · rw [List.eraseIdx_of_length_le (l := l.take i ++ [e]) (by simp; omega), List.eraseIdx_of_length_le (l := l.take i) (by omega)]
theorem setLen_step {l : List Int} {i m : Nat} (hi : i < m) : (setLenL l m).take (i + 1) = (setLenL l m).take i ++ [if h : i < l.length then l[i] else 18445336698825998340] := by
  rw [List.take_add_one]
  congr 1
  unfold setLenL
  by_cases h : i < l.length
  · rw [dif_pos h, List.getElem?_append_left (by simp; omega), List.getElem?_take_of_lt hi, List.getElem?_eq_getElem h]; rfl
  · rw [dif_neg h, List.getElem?_append_right (by simp; omega), List.getElem?_replicate, if_pos (by simp; omega)]; rfl
end Go.Proofs.YtdfhbheipagnmaaGreat
