/-
  PropsSlots, within the bound on what it reads, and tied to the program's text: it returns true whatever it is given, and leaves its arguments as they were. Conditions: the arguments' bulk is at most 1048576; the listed library variables stand as their text lays them, as the statement says.
-/
import Derived.Test.YthflblophelioaaGreatDoorPs10
import Derived.Test.YthflblophelioaaGreatDoorPs9
import Derived.Test.YthflblophelioaaGreatDoorPs8
import Derived.Test.YthflblophelioaaGreatDoorPs1
import Derived.Deep.Slices
set_option linter.unusedVariables false
set_option linter.unusedSimpArgs false
set_option maxRecDepth 100000
set_option maxHeartbeats 4000000
namespace Go.Proofs.YthflblophelioaaGreatDoor
open Go.Sl

theorem prop_Keys {W0 : World} (hL : Laid W0) {k : Nat} {H : HeapV} {F : HeapF} (h : HInv k H F) (hk : k ≤ 8000000) (w : Int) : SC Tryz.prog W0 23 #[.pointer (some ⟨F.p, 0, none⟩), .int .u64 w] (HeapV.ent H F) (Ret (fun g : Gs => g.ent 9 1 ((keysP' (HeapV.pub H F) w).map encS) ++ HeapV.ent H F) (fun v g => v = g.val (keysP' (HeapV.pub H F) w).length ∧ g.ok 1 (keysP' (HeapV.pub H F) w).length ((keysP' (HeapV.pub H F) w).map encS))) := by
 have hln := h.lok.lenN w
 have hnn := h.lok.namesN w
 refine SC_body (fn := Tryz.f23) (n := 58) Tryz.func23 rfl (by kernel_rfl) (ρ := [(0, pt F.p 0), (1, .int .u64 w)]) rfl ?_
 refine SW_sig ((HeapV.ent H F) ++ ([])) (by simp only [List.append_nil, List.append_assoc]) ?_
 refine sr ?_
 refine os 1 ?_
 refine nsr ?_
 refine os 1 ?_
 refine nq ?_
 refine sr ?_
 refine os 2 ?_
 refine L (cl (hz_Len h w) ?_)
 rintro _ _ rfl
 refine os 1 ?_
 refine nt ?_
 refine SW_block ?_
 refine SW_loop (α := Nat × Gs × List ByteArray) (fun z_ ρ_ σ_ => Fits ρ_ σ_ [(0, pt F.p 0), (1, .int .u64 w), (15, .int .i64 (lenN (HeapV.pub H F) w : Int)), (5, Gs.val z_.2.1 z_.2.2.length), (16, .int .i64 (z_.1 : Int))] ((Gs.ent 9 1 z_.2.1 (z_.2.2.map encS)) ++ ((HeapV.ent H F) ++ ([]))) ∧ z_.1 ≤ lenN (HeapV.pub H F) w ∧ Gs.ok 1 z_.2.2.length z_.2.1 (z_.2.2.map encS) ∧ z_.2.2 = (keysE (HeapV.pub H F) w z_.1)) (fun z_ => lenN (HeapV.pub H F) w - z_.1) (0, Gs.nil, ([] : List ByteArray)) ⟨⟨fun _ => rfl, (Own.of_perm (List.Perm.of_eq (by simp [Gs.ent])))⟩, Nat.zero_le _, ⟨rfl, rfl⟩, rfl⟩ ?_
 rintro ⟨i, a, ys⟩ ρ_ σ_ ⟨hfit, hi0, hi1, hi2⟩
 refine SW_fits hfit ?_
 clear hfit
 simp only [] at hi0 hi1 hi2 ⊢
 have hle : ys.length ≤ 4096 := by rw [hi2]; exact Nat.le_trans (keysE_len _ _ _) (by omega)
 refine sr ?_
 refine os 1 ?_
 refine nq ?_
 refine cdp (fun hc1 : (i : Int) < (lenN (HeapV.pub H F) w : Int) => ?_) (fun hc1 => ?_)
 ·refine Ql (Qj ?_)
  refine SW_seq ?_
  refine SW_block ?_
  refine sr ?_
  refine os 2 ?_
  refine nsr ?_
  refine os 3 ?_
  refine L (cl (hz_Elem h w (i : Int)) ?_)
  rintro _ _ rfl
  refine os 5 ?_
  refine kp [8, 6, 17, 0, 1, 15, 5, 16] ?_
  refine nsr ?_
  refine os 1 ?_
  refine nt ?_
  refine cd (fun hc2 : ((elemQ (HeapV.pub H F) w (i : Int)).2) = true => ?_) (fun hc2 => ?_)
  ·refine Qn ?_
   refine os 2 ?_
   refine L (cl (str_Itoa hL (i : Int) (by first | omega | (simp at *; omega))) ?_)
   rintro _ _ rfl
   refine un ?_
   refine L (nws 9 1 1 [.string (⟨(Lib.itoa (i : Int)).toArray⟩ : ByteArray)] ?_)
   intro b3
   refine SL_perm _ (perm_cc (perm_ca perm_cz)) ?_
   refine L (O_append (size := 1) (bytes := 16) (z := .string ByteArray.empty) a ys.length 1 (some ⟨b3, 0, none⟩) 1 (ys.map encS) ([.string (⟨(Lib.itoa (i : Int)).toArray⟩ : ByteArray)]) ((ys ++ [(⟨(Lib.itoa (i : Int)).toArray⟩ : ByteArray)]).map encS) (map_snoc _ (⟨(Lib.itoa (i : Int)).toArray⟩ : ByteArray) rfl) (fun _ => rfl) (fun _ => rfl) Tryz.underlying26 (by kernel_rfl) rfl (by decide) hi1 rfl (.inr ⟨b3, 0, rfl, Cells.own (Qa Qe) rfl⟩) rfl (by omega) (by decide) rfl ?_)
   intro s4 hks4 hfs4
   rw [show ys.length + 1 = (ys ++ [(⟨(Lib.itoa (i : Int)).toArray⟩ : ByteArray)]).length from by simp]
   rw [show ys.length + 1 = (ys ++ [(⟨(Lib.itoa (i : Int)).toArray⟩ : ByteArray)]).length from by simp] at hks4
   have hls4 : (ys ++ [(⟨(Lib.itoa (i : Int)).toArray⟩ : ByteArray)]).length = ys.length + 1 := by simp
   refine os 1 ?_
   refine kp [5, 26, 8, 6, 17, 0, 1, 15, 16] ?_
   refine SL_nil (n_in (Qj ?_))
   refine Qn ?_
   refine os 2 ?_
   refine nt ?_
   refine ⟨(i + 1, s4, (ys ++ [(⟨(Lib.itoa (i : Int)).toArray⟩ : ByteArray)])), by simp only []; omega, ?_⟩
   simp only []
   exact ⟨⟨fun _ => rfl, ow⟩, by omega, hks4, by rw [keysE_succ, if_pos (by assumption), hi2]⟩
  refine Ql (n_in (Qj ?_))
  refine Qn ?_
  refine os 2 ?_
  refine nt ?_
  refine ⟨(i + 1, a, ys), by simp only []; omega, ?_⟩
  simp only []
  exact ⟨⟨fun _ => rfl, ow⟩, by omega, hi1, by rw [keysE_succ, ite_ff (by assumption), hi2]; exact (List.append_nil _).symm⟩
 refine SW_exit (x_then (x_then (x_in (Qj ?_))))
 refine SW_seq ?_
 refine sr ?_
 refine os 2 ?_
 refine L (cl (hz_Keys hk h w) ?_)
 rintro _ kg ⟨rfl, hkg⟩
 refine un ?_
 refine os 2 ?_
 refine nt ?_
 refine SW_block ?_
 have hie : i = lenN (HeapV.pub H F) w := by omega
 refine SW_loop (α := Nat × Gs × List ByteArray) (fun z_ ρ_ σ_ => Fits ρ_ σ_ [(0, pt F.p 0), (1, .int .u64 w), (35, Gs.val kg ((namesQ (HeapV.pub H F) w).length)), (36, .int .i64 ((((namesQ (HeapV.pub H F) w).length : Nat)) : Int)), (5, Gs.val z_.2.1 z_.2.2.length), (37, .int .i64 (z_.1 : Int))] ((Gs.ent 9 1 z_.2.1 (z_.2.2.map encS)) ++ ((Gs.ent 9 1 kg ((namesQ (HeapV.pub H F) w).map encS)) ++ ((HeapV.ent H F) ++ ([])))) ∧ z_.1 ≤ (namesQ (HeapV.pub H F) w).length ∧ Gs.ok 1 z_.2.2.length z_.2.1 (z_.2.2.map encS) ∧ z_.2.2 = keysE (HeapV.pub H F) w (lenN (HeapV.pub H F) w) ++ keysN (HeapV.pub H F) w ((namesQ (HeapV.pub H F) w).take z_.1)) (fun z_ => (namesQ (HeapV.pub H F) w).length - z_.1) (0, a, ys) ⟨⟨fun _ => rfl, ow⟩, Nat.zero_le _, hi1, (by rw [hi2, hie]; exact (List.append_nil _).symm)⟩ ?_
 rintro ⟨j, b, zs⟩ ρ_ σ_ ⟨hfit, hi0, hi1, hi2⟩
 refine SW_fits hfit ?_
 clear hfit
 simp only [] at hi0 hi1 hi2 ⊢
 have hle2 : zs.length ≤ 4096 + (namesQ (HeapV.pub H F) w).length := by rw [hi2, List.length_append]; exact Nat.add_le_add (Nat.le_trans (keysE_len _ _ _) (by omega)) (Nat.le_trans (keysN_len _ _ _) (List.length_take_le' _ _))
 refine sr ?_
 refine os 1 ?_
 refine nq ?_
 refine cdp (fun hc5 : (j : Int) < ((((namesQ (HeapV.pub H F) w).length : Nat)) : Int) => ?_) (fun hc5 => ?_)
 ·refine Ql (Qj ?_)
  refine SW_seq ?_
  refine SW_block ?_
  refine sr ?_
  refine L (ixg (j : Int) (j) hkg Tryz.underlying26 ?_)
  obtain ⟨e1, he1⟩ : ∃ y_, (namesQ (HeapV.pub H F) w)[j]? = some y_ := ⟨_, List.getElem?_eq_getElem (by omega)⟩
  refine L (ld ?_ (hc := Gs.cell hkg (fun e he => (Qa (mem_h he))) (map_cell he1 rfl)))
  refine os 1 ?_
  refine nsr ?_
  refine os 3 ?_
  refine L (cl (hz_Get h w e1) ?_)
  rintro v5 _ hv5
  obtain rfl : v5 = .tuple #[.agg #[.int .u64 ((descG (getQ (HeapV.pub H F) w e1)).1), .int .u64 ((descG (getQ (HeapV.pub H F) w e1)).2.1), .int .i64 ((descG (getQ (HeapV.pub H F) w e1)).2.2)], .bool ((getQ (HeapV.pub H F) w e1).isSome)] := hv5.trans (descR_eq _)
  refine os 3 ?_
  refine kp [47, 46, 10, 38, 0, 1, 35, 36, 5, 37] ?_
  refine L (nw 45 3 [.int .u64 0, .int .u64 0, .int .i64 0] ?_)
  intro b6
  refine L (st [.int .u64 ((descG (getQ (HeapV.pub H F) w e1)).1), .int .u64 ((descG (getQ (HeapV.pub H F) w e1)).2.1), .int .i64 ((descG (getQ (HeapV.pub H F) w e1)).2.2)] ?_)
  refine os 1 ?_
  refine kp [11, 10, 38, 0, 1, 35, 36, 5, 37] ?_
  refine nsr ?_
  refine os 1 ?_
  refine L (ld ?_)
  refine oV (.int .i64 (band ((descG (getQ (HeapV.pub H F) w e1)).2.2) 2)) ?_
  refine os 1 ?_
  refine kp [51, 11, 10, 38, 0, 1, 35, 36, 5, 37] ?_
  refine nt ?_
  refine cd (fun hc7 : ((band ((descG (getQ (HeapV.pub H F) w e1)).2.2) 2) != 0) = true => ?_) (fun hc7 => ?_)
  ·refine Qn ?_
   refine os 2 ?_
   refine L (nws 9 1 1 [.string e1] ?_)
   intro b8
   refine SL_perm _ (perm_cc (perm_cc (perm_ca perm_cz))) ?_
   refine L (O_append (size := 1) (bytes := 16) (z := .string ByteArray.empty) b zs.length 1 (some ⟨b8, 0, none⟩) 1 (zs.map encS) ([.string e1]) ((zs ++ [e1]).map encS) (map_snoc _ e1 rfl) (fun _ => rfl) (fun _ => rfl) Tryz.underlying26 (by kernel_rfl) rfl (by decide) hi1 rfl (.inr ⟨b8, 0, rfl, Cells.own (Qa Qe) rfl⟩) rfl (by omega) (by decide) rfl ?_)
   intro s9 hks9 hfs9
   rw [show zs.length + 1 = (zs ++ [e1]).length from by simp]
   rw [show zs.length + 1 = (zs ++ [e1]).length from by simp] at hks9
   have hls9 : (zs ++ [e1]).length = zs.length + 1 := by simp
   refine os 1 ?_
   refine kp [5, 51, 11, 10, 38, 0, 1, 35, 36, 37] ?_
   refine SL_nil (n_in (Qj ?_))
   refine Qn ?_
   refine os 2 ?_
   refine nt ?_
   refine ⟨(j + 1, s9, (zs ++ [e1])), by simp only []; omega, ?_⟩
   simp only []
   exact ⟨⟨fun _ => rfl, ow⟩, by omega, hks9, by rw [keysN_succ _ _ _ he1, if_pos (by assumption), hi2]; exact List.append_assoc _ _ _⟩
  refine Ql (n_in (Qj ?_))
  refine Qn ?_
  refine os 2 ?_
  refine nt ?_
  refine ⟨(j + 1, b, zs), by simp only []; omega, ?_⟩
  simp only []
  exact ⟨⟨fun _ => rfl, ow⟩, by omega, hi1, by rw [keysN_succ _ _ _ he1, ite_ff (by assumption), hi2]; rw [List.append_nil]⟩
 refine SW_exit (x_then (x_then (x_in (Qj ?_))))
 refine sr ?_
 refine os 2 ?_
 refine nt ?_
 refine Qi ?_
 refine Qg (Gs.val b zs.length) (fun _ => rfl) ?_
 have e : keysP' (HeapV.pub H F) w = zs := by rw [hi2, show j = (namesQ (HeapV.pub H F) w).length from by omega, List.take_length]; rfl
 rw [e]
 exact ⟨b, Own.trans (ow (S := ((Gs.ent 9 1 b (zs.map encS)) ++ ((HeapV.ent H F) ++ ([]))))) (Own.of_perm (List.Perm.of_eq (by simp only [List.append_nil]))), rfl, hi1⟩

end Go.Proofs.YthflblophelioaaGreatDoor
namespace Go.Proofs.YthflblophelioaaGreatDoor
open Go.Sl
abbrev wA : Int := 18445055223849287680
abbrev wB : Int := 18445055223849287681
abbrev vA : Int := 18444773748872577027
abbrev lA1 : List ObjS := [newS 0 nullW]
abbrev lA2 : List ObjS := [newS 0 nullW, newS 0 wA]
theorem alive_make1 : makeV [] 0 nullW = (wA, true) ∧ makeL [] 0 nullW = lA1 := by
 have h : mayP [] 0 nullW := ⟨by decide, .inl rfl, by decide⟩
 unfold makeV makeL
 rw [if_pos h, if_pos h]
 exact ⟨rfl, rfl⟩
theorem alive_make2 : makeV lA1 0 wA = (wB, true) ∧ makeL lA1 0 wA = lA2 := by
 have h : mayP lA1 0 wA := ⟨by decide, .inr (by decide), by decide⟩
 unfold makeV makeL
 rw [if_pos h, if_pos h]
 exact ⟨rfl, rfl⟩
theorem alive_asg : (asgP lA2 wA keyA vA).2 = (undefW, 0) := by decide +kernel
theorem alive_look : lookQ (asgP lA2 wA keyA vA).1 wB keyA = some (wA, (vA, undefW, 7)) := by decide +kernel
theorem refInt3 : refInt 3 = vA := by decide +kernel
theorem flags_A2 : ∀ o ∈ lA2, ∀ d ∈ o.descs, normF d.2.2 = d.2.2 := by
 intro o ho d hd
 simp at ho
 rcases ho with rfl | rfl <;> simp at hd
end Go.Proofs.YthflblophelioaaGreatDoor
namespace Go.Proofs.YthflblophelioaaGreatDoor
open Go.Sl
variable {k : Nat} {H H2 : HeapV} {F : HeapF} {R R2 : RSt} {W0 : World} {x : OpW}
structure SimW (k : Nat) (H : HeapV) (F : HeapF) (R : RSt) : Prop where
  inv : HInv k H F
  ok : R.ok
  objs : H.pub F = R.pub
  texts : H.texts = R.texts
  doc : DOk R.pub
  named : Named R.pub
theorem SimW.lok (h : SimW k H F R) : LOk k R.pub := h.objs ▸ h.inv.lok
theorem SimW.nodup (h : SimW k H F R) : ∀ o ∈ R.pub, o.names.Nodup := fun o ho => h.inv.nodup (by rw [h.objs]; exact ho)
theorem SimW.mono (h : SimW k H F R) {k' : Nat} (hk : k ≤ k') : SimW k' H F R := ⟨h.inv.mono hk, h.ok, h.objs, h.texts, h.doc, h.named⟩
theorem SimW.flags (h : SimW k H F R) : ∀ o ∈ HeapV.pub H F, ∀ d ∈ o.descs, normF d.2.2 = d.2.2 := by rw [h.objs]; exact h.doc.flags
theorem SimW.ends (h : SimW k H F R) (p : Int) : Ends (HeapV.pub H F) p := by rw [h.objs]; exact h.doc.ends p
theorem SimW.protos (h : SimW k H F R) : ProtosIn (HeapV.pub H F) := by rw [h.objs]; exact h.doc.protos
theorem SimW.keysLen (h : SimW k H F R) (w : Int) : (keysP' R.pub w).length ≤ 4096 + k := by
 unfold keysP'
 rw [List.length_append]
 exact Nat.add_le_add (Nat.le_trans (keysE_len _ _ _) (h.lok.lenN w)) (Nat.le_trans (keysN_len _ _ _) (h.lok.namesN w))
structure DidW (k : Nat) (H : HeapV) (F : HeapF) (R : RSt) (x : OpW) (H2 : HeapV) (R2 : RSt) : Prop where
  sim : SimW (k + 1) H2 F R2
  doc : R2.pub = pStep R.pub x
theorem DidW.mk' (hS : SimW k H F R) (hx : OwOk x) {l : List ObjS} (hd : pStep R.pub x = l) (hi : HInv (k + 1) H2 F) (hp : H2.pub F = l) (ht : H2.texts = H.texts) (hR : R2.ok) (hp2 : R2.pub = l) (ht2 : R2.texts = R.texts) : DidW k H F R x H2 R2 := by
 have hc := pStep_chg (l := R.pub) hx.p hx.key
 have e : R2.pub = pStep R.pub x := hp2.trans hd.symm
 exact ⟨⟨hi, hR, hp.trans hp2.symm, by rw [ht, ht2, hS.texts], by rw [e]; exact hc.doc hS.doc, by rw [e]; exact hc.named hS.named⟩, e⟩
theorem DidW.same (hS : SimW k H F R) (hx : OwOk x) (hd : pStep R.pub x = R.pub) : DidW k H F R x H R := .mk' hS hx hd (hS.inv.mono (Nat.le_succ _)) hS.objs rfl hS.ok rfl rfl
theorem DidW.pst (hS : SimW k H F R) (hx : OwOk x) {k' : Nat} {l : List ObjS} (hk : k' ≤ k + 1) (hst : PStp k' H H2 F l) (hR : R2.ok) (hp2 : R2.pub = l) (ht2 : R2.texts = R.texts) (hd : pStep R.pub x = l) : DidW k H F R x H2 R2 :=
 .mk' hS hx hd (hst.inv.mono hk) hst.pub hst.texts hR hp2 ht2
theorem SimW.shut (hS : SimW k H F R) {w : Int} {t : List ByteArray} {m : Prop} (hst : Stp k H H2 F (modP R.pub w shutO) t w m) (htx : t = H.texts) (hR : R2.ok) (hp2 : R2.pub = modP R.pub w shutO) (ht2 : R2.texts = R.texts) : SimW k H2 F R2 :=
 ⟨hst.inv, hR, hst.pub.trans hp2.symm, by rw [hst.texts, htx, ht2, hS.texts], by rw [hp2]; exact (ChgP.shut w).doc hS.doc, by rw [hp2]; exact (ChgP.shut w).named hS.named⟩
theorem Named.nil : Named [] := fun o ho => by cases ho
theorem SimW.new (hI : HInv 0 H F) (hp : H.pub F = []) (ht : H.texts = []) : SimW 0 H F RSt.none :=
 ⟨hI, ⟨⟨rfl, rfl⟩, fun y hy => (by cases hy), ⟨rfl, rfl⟩⟩, hp, ht, DOk.nil, Named.nil⟩
theorem SimW.slot (hS : SimW k H F R) {n : Nat} {x : ObjL} (hx : H.objs[n]? = some x) (h0 : ¬ x.shape < 0) (key : ByteArray) :
   (∀ d, getQ R.pub (18445055223849287680 + (n : Int)) key = some d → ∃ i, findP (H.V.abs F.T) x.shape key = (i, d.2.2, true) ∧ slotO x i = some d) ∧
   (getQ R.pub (18445055223849287680 + (n : Int)) key = none → ∃ a b, findP (H.V.abs F.T) x.shape key = (a, b, false)) := by
 have hp := HeapV.pub_at F hx
 have hI := hS.inv.obj hx
 have hl := (List.getElem?_eq_some_iff.1 hp).1
 have hlen := hS.inv.lok.len
 have e : getQ R.pub (18445055223849287680 + (n : Int)) key = getP (keysOf (H.V.abs F.T) x) x.vals key := by
   rw [← hS.objs]
   unfold getQ
   rw [show objOf (H.pub F) (18445055223849287680 + (n : Int)) = some (pubO (H.V.abs F.T) x) from objOf_some (objAt_mk hl hlen) hp]
   rfl
 rw [e]
 have hm : (keysOf (H.V.abs F.T) x).length = x.vals.length := hS.inv.lok.same _ (List.mem_of_getElem? hp)
 refine ⟨fun d hd => ?_, fun hn => ?_⟩
 · unfold getP at hd
   split at hd
   · cases hd
   · next q =>
     have hk := ixS_some (ixS_nn q)
     refine ⟨_, sh_find hI h0 hk hd, ?_⟩
     unfold slotO
     have hlt := (List.getElem?_eq_some_iff.1 hd).1
     rw [if_pos ⟨by omega, by omega⟩]
     rw [show ((((ixS (keysOf (H.V.abs F.T) x) key).toNat : Nat) : Int)).toNat = (ixS (keysOf (H.V.abs F.T) x) key).toNat by omega]
     exact hd
 · have hneg : ixS (keysOf (H.V.abs F.T) x) key < 0 := by
     apply Classical.byContradiction
     intro q
     unfold getP at hn
     rw [if_neg q] at hn
     have h1 := (List.getElem?_eq_some_iff.1 (ixS_some (ixS_nn q))).1
     rw [List.getElem?_eq_getElem (by omega)] at hn
     cases hn
   obtain ⟨s, h1, h2, h3, h4⟩ := hI.keys h0
   rw [h4, ← keyIx_eq] at hneg
   simp only [findP, h1]
   rw [if_pos hneg]
   exact ⟨_, _, rfl⟩
end Go.Proofs.YthflblophelioaaGreatDoor
namespace Go.Proofs.YthflblophelioaaGreatDoor
open Go.Sl Go.ChangeShapes Go.WideShapes Go.ChangeAt Go.RowKit Go.Deep
theorem wf_word {n : Int} (h : (Lit.int .u64 n).wf = true) : wordOk n := by
 simp [Lit.wf, IntKind.min, IntKind.max, IntKind.bits, IntKind.signed] at h
 exact ⟨by omega, by omega⟩
theorem pc : Tryz.prog.cellsOf 37 = 11 := by kernel_rfl
theorem pc_int : Tryz.prog.cellsOf 3 = 1 := by kernel_rfl
theorem pc_word : Tryz.prog.cellsOf 33 = 1 := by kernel_rfl
theorem pc_str : Tryz.prog.cellsOf 9 = 1 := by kernel_rfl
theorem pc_wish : Tryz.prog.cellsOf 35 = 5 := by kernel_rfl
theorem open_opw {H : Type} {enc : TypeId × Value → H} {W : World} {fuel : Nat} {cs : List Value} {d : DataW H} {ps : List MemPlace} (h : DataW.trod enc Tryz.prog W 0 (fun _ => true) true fuel 37 cs = some (d, ps)) (hb : Rows.uptoBulk d ≤ 1048576) :
   ∃ x : OpW, cs = x.cells ∧ OwOk x := by
 obtain ⟨xs, n, rfl, hx, hlen, hxl, hall⟩ := DataW.trod_struct Tryz.underlying37 h
 rw [pc] at hlen
 match cs, hlen with
 | [c0, c1, c2, c3, c4, c5, c6, c7, c8, c9, c10], _ =>
   match xs, hxl with
   | [y0, y1, y2, y3, y4, y5, y6], _ =>
     have h0 := hall 0 _ rfl
     have h1 := hall 1 _ rfl
     have h2 := hall 2 _ rfl
     have h3 := hall 3 _ rfl
     have h4 := hall 4 _ rfl
     have h5 := hall 5 _ rfl
     have h6 := hall 6 _ rfl
     simp only [pc_int, pc_word, pc_str, pc_wish, List.drop, List.take, List.getElem?_cons_zero, List.getElem?_cons_succ] at h0 h1 h2 h3 h4 h5 h6
     obtain ⟨n0, e0, -, -⟩ := DataW.trod_int Tryz.underlying3 h0
     obtain ⟨n1, e1, -, w1⟩ := DataW.trod_int Tryz.underlying33 h1
     obtain ⟨n2, e2, -, w2⟩ := DataW.trod_int Tryz.underlying33 h2
     obtain ⟨s3, e3, x3, -⟩ := DataW.trod_string Tryz.underlying9 h3
     obtain ⟨zs, m, -, -, -, hzl, hz⟩ := DataW.trod_struct Tryz.underlying35 h4
     match zs, hzl with
     | [u0, u1, u2, u3, u4], _ =>
       have g0 := hz 0 _ rfl
       have g1 := hz 1 _ rfl
       have g2 := hz 2 _ rfl
       have g3 := hz 3 _ rfl
       have g4 := hz 4 _ rfl
       simp only [pc_int, pc_word, List.drop, List.take, List.getElem?_cons_zero, List.getElem?_cons_succ] at g0 g1 g2 g3 g4
       obtain ⟨a0, f0, -, -⟩ := DataW.trod_int Tryz.underlying3 g0
       obtain ⟨a1, f1, -, q1⟩ := DataW.trod_int Tryz.underlying33 g1
       obtain ⟨a2, f2, -, q2⟩ := DataW.trod_int Tryz.underlying33 g2
       obtain ⟨a3, f3, -, q3⟩ := DataW.trod_int Tryz.underlying33 g3
       obtain ⟨a4, f4, -, -⟩ := DataW.trod_int Tryz.underlying3 g4
       obtain ⟨n5, e5, -, w5⟩ := DataW.trod_int Tryz.underlying33 h5
       obtain ⟨n6, e6, -, -⟩ := DataW.trod_int Tryz.underlying3 h6
       cases e0; cases e1; cases e2; cases e3; cases f0; cases f1; cases f2; cases f3; cases f4; cases e5; cases e6
       simp only [Prod.mk.injEq] at hx
       have hd := hx.1
       subst hd
       have h7 := part_leB (d := y3.1) (l := [y0, y1, y2, y3, y4, y5, y6].map (·.1)) (by simp)
       have h8 : y3.1 = .lit (.string s3.data.toList) := congrArg Prod.fst x3
       rw [h8] at h7
       simp only [Rows.uptoBulk] at hb h7
       have h9 : s3.data.toList.length = s3.size := by simp
       have hk : s3.size ≤ 281474976710656 := by omega
       exact ⟨⟨n0, n1, n2, s3, ⟨a0, a1, a2, a3, a4⟩, n5, n6⟩, rfl, wf_word w1, wf_word w2, wf_word q1, wf_word q2, wf_word w5, hk⟩
theorem arg_opsw {H : Type} {enc : TypeId × Value → H} {W : World} {b0 : Nat} {v : Value} {d : DataW H} {ps : List MemPlace} {l : List (DataW H)}
   (hv : Value.okWide Tryz.prog W .any b0 22 v) (hd : DataW.Trod enc Tryz.prog W 0 (fun _ => true) true 22 v d ps) (hk : Rows.uptoSmall H l = true) (hm : d ∈ l) :
   ∃ (A : Option Addr) (c : Nat) (xs : List OpW), v = .slice A xs.length c ∧ (∀ σ, Src W σ A (xs.flatMap OpW.cells)) ∧ xs.length ≤ 1048576 ∧ (∀ x ∈ xs, OwOk x) ∧ xs.length ≤ c := by
 obtain ⟨A, len, cap, rfl⟩ := okWide_slice Tryz.underlying22 hv
 obtain ⟨fuel, hf⟩ := hd
 rcases open_slice Tryz.underlying22 hf with ⟨hx, _⟩ | ⟨a, len', cap', m, n, D, Pl, hcs, _, hl, hcm, hmm, hx, hall⟩
 · have e1 : Value.slice A len cap = .slice none 0 0 := by have q : [Value.slice A len cap] = [.slice none 0 0] := hx; simpa using q
   cases e1
   exact ⟨none, 0, [], rfl, fun σ => .inl rfl, Nat.zero_le _, fun n hn => (by cases hn), Nat.zero_le _⟩
 · have e1 : Value.slice A len cap = .slice (some a) len' cap' := by have q : [Value.slice A len cap] = [.slice (some a) len' cap'] := hcs; simpa using q
   cases e1
   simp only [Prod.mk.injEq] at hx
   obtain ⟨rfl, -⟩ := hx
   simp only [if_true] at hmm
   subst hmm
   rw [pc] at hall
   have hb := slice_leB hk hm
   have hch : ∀ i, i < len → ∃ x : OpW, W.cells? 0 (a.add (i * 11)) 11 = some x.cells ∧ OwOk x := fun i hi => by
     obtain ⟨cs', h1, h2⟩ := hall i (by omega)
     obtain ⟨x, rfl, hx⟩ := open_opw h2 (by
       have := part_leB (d := D i) (l := (List.range len).map D) (List.mem_map_of_mem (List.mem_range.2 hi))
       omega)
     exact ⟨x, h1, hx⟩
   haveI : Inhabited OpW := ⟨⟨0, 0, 0, .empty, ⟨0, 0, 0, 0, 0⟩, 0, 0⟩⟩
   obtain ⟨X, hX⟩ := choose_lt hch
   have hlen : ((List.range len).map X).length = len := by simp
   refine ⟨some a, m, (List.range len).map X, by rw [hlen], fun σ => ?_, ?_, fun x hx => ?_, by rw [hlen]; exact hl⟩
   · by_cases h0 : len = 0
     · exact .inl (by simp [h0])
     · have hcell : ∀ (i j : Nat), i < len → j < 11 → ∀ v, (X i).cells[j]? = some v → W.cell? ((a.add (i * 11)).add j) = some v := fun i j hi hj v hv => by
         obtain ⟨_, h2, h3⟩ := World.cells?_some (hX i hi).1
         have := h3 j hj
         rw [this]; exact hv
       have hp : a.spot = none := by
         have := hcell 0 0 (by omega) (by decide) _ rfl
         cases a with
         | mk b o p => cases p with
           | none => rfl
           | some q => simp only [Addr.add, World.cell?, if_true, Option.isSome_some] at this; split at this <;> cases this
       refine .inr ⟨a.block, a.off, ?_, cells_old fun i v hi => ?_⟩
       · cases a; simp only [] at hp; subst hp; rfl
       · have hi' := (List.getElem?_eq_some_iff.1 hi).1
         rw [flat_len OpW.len, hlen] at hi'
         have hij : i = i / 11 * 11 + i % 11 := by omega
         have hv' : (X (i / 11)).cells[i % 11]? = some v := by
           have hget : ((List.range len).map X)[i / 11]? = some (X (i / 11)) := by simp [show i / 11 < len by omega]
           have := flat_get OpW.len _ _ (i % 11) _ hget (by omega)
           rw [← hij] at this
           rw [← this]; exact hi
         have := hcell (i / 11) (i % 11) (by omega) (by omega) v hv'
         cases a
         simp only [] at hp; subst hp
         rw [Addr.add_mid, Addr.add_mid, Nat.add_assoc, ← hij] at this
         exact this
   · have h1 := length_leB (H := H) ((List.range len).map D)
     simp only [List.length_map, List.length_range] at h1 ⊢
     omega
   · simp only [List.mem_map, List.mem_range] at hx
     obtain ⟨i, hi, rfl⟩ := hx
     exact (hX i hi).2
end Go.Proofs.YthflblophelioaaGreatDoor
namespace Go.Proofs.YthflblophelioaaGreatDoor
open Go.Sl

theorem law_keys14 {W0 : World} (hL : Laid W0) {k : Nat} {H : HeapV} {F : HeapF} {R : RSt} (hS : SimW k H F R) (hk : k ≤ 8000000) {w : Int} (hw : wordOk w) : SC Tryz.prog W0 43 #[.pointer (some ⟨F.p, 0, none⟩), R.val, .int .u64 w] (HeapV.ent H F ++ (RSt.ent R ++ [])) (Ret (fun _ : Unit => (HeapV.ent H F ++ (RSt.ent R ++ []))) (fun v _ => v = .bool true)) := by
 have hkl := hS.keysLen w
 refine SC_body (fn := Tryz.f43) (n := 36) Tryz.func43 rfl (by kernel_rfl) (ρ := [(0, pt F.p 0), (1, .agg #[Gs.val R.s R.objs.length, Gs.val R.ts R.texts.length]), (2, .int .u64 w)]) rfl ?_
 refine sr ?_
 refine L (nw 28 2 [Gs.val R.s R.objs.length, Gs.val R.ts R.texts.length] ?_)
 intro b1
 refine os 1 ?_
 refine nsr ?_
 refine os 2 ?_
 have hKq_ := prop_Keys hL hS.inv hk w
 rw [hS.objs] at hKq_
 refine L (cl (hKq_) ?_)
 rintro _ kg ⟨rfl, hkg⟩
 refine un ?_
 refine os 1 ?_
 refine kp [7, 6, 4, 0, 1, 2] ?_
 refine nsr ?_
 refine L (lds 2 ?_)
 refine os 1 ?_
 refine L (cl (rz_Keys hS.ok hS.lok hk hw hS.nodup) ?_)
 rintro _ rg ⟨rfl, hrg⟩
 refine un ?_
 refine os 1 ?_
 refine kp [8, 7, 6, 4, 0, 1, 2] ?_
 refine nq ?_
 refine sr ?_
 refine os 5 ?_
 refine kp [20, 8, 7, 6, 4, 0, 1, 2] ?_
 refine nt ?_
 refine SW_false (fun _ => (congrArg Value.bool (show (((((keysP' R.pub w).length : Nat)) : Int) != ((((keysP' R.pub w).length : Nat)) : Int)) = false from (by simp)))) ?_
 refine Ql (Qj ?_)
 refine SW_seq ?_
 refine sr ?_
 refine os 3 ?_
 refine nt ?_
 refine SW_block ?_
 refine SW_loop (α := Nat) (fun z_ ρ_ σ_ => Fits ρ_ σ_ [(7, Gs.val kg ((keysP' R.pub w).length)), (8, Gs.val rg ((keysP' R.pub w).length)), (22, .int .i64 ((((keysP' R.pub w).length : Nat)) : Int)), (23, .int .i64 (z_ : Int))] ((Gs.ent 9 1 rg ((keysP' R.pub w).map encS)) ++ ((RSt.ent R) ++ ((Gs.ent 9 1 kg ((keysP' R.pub w).map encS)) ++ ((HeapV.ent H F) ++ ((b1, .cells 28 2 [Gs.val R.s R.objs.length, Gs.val R.ts R.texts.length]) :: ([])))))) ∧ z_ ≤ (keysP' R.pub w).length) (fun z_ => (keysP' R.pub w).length - z_) 0 ⟨⟨fun _ => rfl, ow⟩, Nat.zero_le _⟩ ?_
 rintro i ρ_ σ_ ⟨hfit, hi0⟩
 refine SW_fits hfit ?_
 clear hfit
 refine sr ?_
 refine os 1 ?_
 refine nq ?_
 refine cdp (fun hc2 : (i : Int) < ((((keysP' R.pub w).length : Nat)) : Int) => ?_) (fun hc2 => ?_)
 ·refine Ql (Qj ?_)
  refine SW_seq ?_
  refine SW_block ?_
  refine sr ?_
  refine os 2 ?_
  refine nq ?_
  obtain ⟨e1, he1⟩ : ∃ y_, (keysP' R.pub w)[i]? = some y_ := ⟨_, List.getElem?_eq_getElem (by omega)⟩
  refine SW_draw [((Gs.blk kg), i, .string e1), ((Gs.blk rg), i, .string e1)] [0, 1, 2, 3, 4, 5, 6, 7] (by kernel_rfl) (Qf (Gs.cell hkg (fun e he => (Qa (Qa (mem_h he)))) (map_cell he1 rfl)) (Qf (Gs.cell hrg (fun e he => (mem_h he)) (map_cell he1 rfl)) rd_nil)) ?_
  refine aS 0 ?_
  refine aS 1 ?_
  refine aI 2 (i : Int) (i) hkg Tryz.underlying26 ?_
  refine aL 3 ?_
  refine aS 4 ?_
  refine aS 5 ?_
  refine aI 6 (i : Int) (i) hrg Tryz.underlying26 ?_
  refine aL 7 ?_
  refine tk 8 (.bool (!(e1.toList == e1.toList))) ?_
  rw [show (!(e1.toList == e1.toList)) = (!(decide (e1 = e1))) from by rw [str_eq]]
  refine kpA [34, 9, 24, 7, 8, 22, 23] ?_
  refine SA_done (by kernel_rfl) (Qj ?_)
  refine SW_false (fun _ => (congrArg Value.bool (show (!(decide (e1 = e1))) = false from (by simp)))) ?_
  refine Ql (n_in (Qj ?_))
  refine Qn ?_
  refine os 2 ?_
  refine nt ?_
  exact ⟨i + 1, by omega, ⟨fun _ => rfl, ow⟩, by omega⟩
 refine SW_exit (x_then (x_then (x_in (Qj ?_))))
 refine sr ?_
 refine os 1 ?_
 refine nt ?_
 refine Qi ?_
 refine Qg (.bool true) (fun _ => rfl) ?_
 exact ⟨(), ow, rfl⟩

end Go.Proofs.YthflblophelioaaGreatDoor
namespace Go.Proofs.YthflblophelioaaGreatDoor
open Go.Sl

theorem law_step14 {W0 : World} (hL : Laid W0) {k : Nat} {H : HeapV} {F : HeapF} {R : RSt} (hS : SimW k H F R) (hk : k < 8000000) {x : OpW} (hx : OwOk x) : SC Tryz.prog W0 13 #[.pointer (some ⟨F.p, 0, none⟩), R.val, .agg #[.int .i64 x.kind, .int .u64 x.o, .int .u64 x.p, .string x.key, .int .i64 x.w.has, .int .u64 x.w.value, .int .u64 x.w.get, .int .u64 x.w.set, .int .i64 x.w.flags, .int .u64 x.v, .int .i64 x.n]] (HeapV.ent H F ++ (RSt.ent R ++ [])) (Ret (fun r : HeapV × RSt => HeapV.ent r.1 F ++ (RSt.ent r.2 ++ [])) (fun v r => v = .tuple #[r.2.val, .bool true] ∧ DidW k H F R x r.1 r.2)) := by
 refine SC_body (fn := Tryz.f13) (n := 251) Tryz.func13 rfl (by kernel_rfl) (ρ := [(0, pt F.p 0), (1, .agg #[Gs.val R.s R.objs.length, Gs.val R.ts R.texts.length]), (2, .agg #[.int .i64 x.kind, .int .u64 x.o, .int .u64 x.p, .string x.key, .int .i64 x.w.has, .int .u64 x.w.value, .int .u64 x.w.get, .int .u64 x.w.set, .int .i64 x.w.flags, .int .u64 x.v, .int .i64 x.n])]) rfl ?_
 refine sr ?_
 refine L (nw 28 2 [Gs.val R.s R.objs.length, Gs.val R.ts R.texts.length] ?_)
 intro b1
 refine L (nw 37 11 [.int .i64 x.kind, .int .u64 x.o, .int .u64 x.p, .string x.key, .int .i64 x.w.has, .int .u64 x.w.value, .int .u64 x.w.get, .int .u64 x.w.set, .int .i64 x.w.flags, .int .u64 x.v, .int .i64 x.n] ?_)
 intro b2
 refine L (nw 28 2 [.slice none 0 0, .slice none 0 0] ?_)
 intro b3
 refine os 1 ?_
 refine nq ?_
 refine sr ?_
 refine os 1 ?_
 refine L (ld ?_)
 refine nt ?_
 refine SW_block ?_
 refine sr ?_
 refine os 2 ?_
 refine nt ?_
 refine cd (fun hc4 : (x.kind == 0) = true => ?_) (fun hc4 => ?_)
 ·simp only [beq_iff_eq, beq_eq_false_iff_ne, ne_eq] at hc4
  refine sr ?_
  refine os 2 ?_
  refine L (ld ?_)
  refine os 1 ?_
  refine L (ld ?_)
  have hcq_ := hq_Make (W0 := W0) hS.inv x.n x.p
  rw [hS.objs] at hcq_
  refine L (cl (hcq_) ?_)
  rintro _ H2 ⟨rfl, hi2, hpub2, htx2, hgd2⟩
  refine os 5 ?_
  refine kp [9, 8, 39, 38, 7, 6, 5, 4, 0, 1, 2] ?_
  refine nsr ?_
  refine L (lds 2 ?_)
  refine os 1 ?_
  refine L (ld ?_)
  refine os 1 ?_
  refine L (ld ?_)
  refine L (cl (rq_Make hS.ok x.n hx.p) ?_)
  rintro _ R2 ⟨rfl, hR2, hp2, ht2⟩
  refine os 4 ?_
  refine kp [59, 58, 57, 9, 8, 39, 38, 7, 6, 5, 4, 0, 1, 2] ?_
  refine L (nw 28 2 [.slice none 0 0, .slice none 0 0] ?_)
  intro b5
  refine L (st [Gs.val R2.s R2.objs.length, Gs.val R2.ts R2.texts.length] ?_)
  refine os 2 ?_
  refine kp [12, 11, 10, 9, 8, 39, 38, 7, 6, 5, 4, 0, 1, 2] ?_
  refine nsr ?_
  refine L (lds 2 ?_)
  refine os 4 ?_
  refine pn 64 (show (((makeV R.pub x.n x.p).1) == ((makeV R.pub x.n x.p).1)) = true from (by rw [beq_self_eq_true])) ?_
  refine os 4 ?_
  refine kp [68, 60, 12, 11, 10, 9, 8, 39, 38, 7, 6, 5, 4, 0, 1, 2] ?_
  refine L (st [Gs.val R2.s R2.objs.length, Gs.val R2.ts R2.texts.length] ?_)
  refine os 1 ?_
  refine nt ?_
  refine Qi (r_in (Qm ?_))
  refine body_endC [.agg #[Gs.val R2.s R2.objs.length, Gs.val R2.ts R2.texts.length], .bool (((makeV R.pub x.n x.p).2) == ((makeV R.pub x.n x.p).2))] (fun _ => (.cons ⟨b3, 0, rfl, .inl ⟨[Gs.val R2.s R2.objs.length, Gs.val R2.ts R2.texts.length], by kernel_rfl, (Qb (Cell.own Qe rfl) (Qb (Cell.own Qe rfl) Qo)), rfl⟩⟩ (.cons rfl .nil))) ?_
  exact ⟨(H2, R2), ow, congrArg (fun b => Value.tuple #[_, .bool b]) (by simp), DidW.mk' hS hx (ps0 hc4) (hi2.mono (Nat.le_succ k)) hpub2 htx2 hR2 hp2 ht2⟩
 simp only [beq_iff_eq, beq_eq_false_iff_ne, ne_eq] at hc4
 refine sr ?_
 refine os 2 ?_
 refine kp [69, 39, 38, 7, 6, 5, 4, 0, 1, 2] ?_
 refine nt ?_
 refine cd (fun hc7 : (x.kind == 1) = true => ?_) (fun hc7 => ?_)
 ·simp only [beq_iff_eq, beq_eq_false_iff_ne, ne_eq] at hc7
  refine sr ?_
  refine os 2 ?_
  refine L (ld ?_)
  refine os 1 ?_
  refine L (ld ?_)
  refine os 1 ?_
  refine L (lds 5 ?_)
  have hcq_ := prop_Define hL hS.inv (by omega) hS.flags x.o hx.key x.w
  rw [hS.objs] at hcq_
  refine L (cl (hcq_) ?_)
  rintro _ H2 ⟨rfl, hst⟩
  refine os 1 ?_
  refine kp [13, 69, 39, 38, 7, 6, 5, 4, 0, 1, 2] ?_
  refine nsr ?_
  refine L (lds 2 ?_)
  refine os 1 ?_
  refine L (ld ?_)
  refine os 1 ?_
  refine L (ld ?_)
  refine os 1 ?_
  refine L (lds 5 ?_)
  refine L (cl (rz_Define hS.ok hS.lok (by omega) hS.doc.flags hx.o x.key x.w hx.value hx.get) ?_)
  rintro _ R2 ⟨rfl, hR2, hp2, ht2⟩
  refine os 3 ?_
  refine kp [89, 88, 13, 69, 39, 38, 7, 6, 5, 4, 0, 1, 2] ?_
  refine L (nw 28 2 [.slice none 0 0, .slice none 0 0] ?_)
  intro b8
  refine L (st [Gs.val R2.s R2.objs.length, Gs.val R2.ts R2.texts.length] ?_)
  refine os 1 ?_
  refine nsr ?_
  refine L (lds 2 ?_)
  refine os 3 ?_
  refine L (st [Gs.val R2.s R2.objs.length, Gs.val R2.ts R2.texts.length] ?_)
  refine os 1 ?_
  refine kp [7, 15, 14, 13, 69, 39, 38, 6, 5, 4, 0, 1, 2] ?_
  refine nt ?_
  refine Qi (r_in (Qm ?_))
  refine body_endC [.agg #[Gs.val R2.s R2.objs.length, Gs.val R2.ts R2.texts.length], .bool (((defP R.pub x.o x.key x.w).2) == ((defP R.pub x.o x.key x.w).2))] (fun _ => (.cons ⟨b3, 0, rfl, .inl ⟨[Gs.val R2.s R2.objs.length, Gs.val R2.ts R2.texts.length], by kernel_rfl, (Qb (Cell.own Qe rfl) (Qb (Cell.own Qe rfl) Qo)), rfl⟩⟩ (.cons rfl .nil))) ?_
  exact ⟨(H2, R2), ow, congrArg (fun b => Value.tuple #[_, .bool b]) (by simp), DidW.pst hS hx (Nat.le_refl _) hst hR2 hp2 ht2 (ps1 hc7)⟩
 simp only [beq_iff_eq, beq_eq_false_iff_ne, ne_eq] at hc7
 refine sr ?_
 refine os 2 ?_
 refine nt ?_
 refine cd (fun hc9 : (x.kind == 2) = true => ?_) (fun hc9 => ?_)
 ·simp only [beq_iff_eq, beq_eq_false_iff_ne, ne_eq] at hc9
  refine sr ?_
  refine os 2 ?_
  refine L (ld ?_)
  refine os 1 ?_
  refine L (ld ?_)
  have hcq_ := prop_Delete hL hS.inv (by omega) x.o hx.key
  rw [hS.objs] at hcq_
  refine L (cl (hcq_) ?_)
  rintro _ H2 ⟨rfl, hst⟩
  refine os 1 ?_
  refine kp [16, 94, 69, 39, 38, 7, 6, 5, 4, 0, 1, 2] ?_
  refine nsr ?_
  refine L (lds 2 ?_)
  refine os 1 ?_
  refine L (ld ?_)
  refine os 1 ?_
  refine L (ld ?_)
  refine L (cl (rz_Delete hS.ok hS.lok (by omega) hx.o x.key) ?_)
  rintro _ R2 ⟨rfl, hR2, hp2, ht2⟩
  refine os 3 ?_
  refine kp [110, 109, 16, 94, 69, 39, 38, 7, 6, 5, 4, 0, 1, 2] ?_
  refine L (nw 28 2 [.slice none 0 0, .slice none 0 0] ?_)
  intro b10
  refine L (st [Gs.val R2.s R2.objs.length, Gs.val R2.ts R2.texts.length] ?_)
  refine os 1 ?_
  refine nsr ?_
  refine L (lds 2 ?_)
  refine os 3 ?_
  refine L (st [Gs.val R2.s R2.objs.length, Gs.val R2.ts R2.texts.length] ?_)
  refine os 1 ?_
  refine kp [7, 18, 17, 16, 94, 69, 39, 38, 6, 5, 4, 0, 1, 2] ?_
  refine nt ?_
  refine Qi (r_in (Qm ?_))
  refine body_endC [.agg #[Gs.val R2.s R2.objs.length, Gs.val R2.ts R2.texts.length], .bool (((delP R.pub x.o x.key).2) == ((delP R.pub x.o x.key).2))] (fun _ => (.cons ⟨b3, 0, rfl, .inl ⟨[Gs.val R2.s R2.objs.length, Gs.val R2.ts R2.texts.length], by kernel_rfl, (Qb (Cell.own Qe rfl) (Qb (Cell.own Qe rfl) Qo)), rfl⟩⟩ (.cons rfl .nil))) ?_
  exact ⟨(H2, R2), ow, congrArg (fun b => Value.tuple #[_, .bool b]) (by simp), DidW.pst hS hx (Nat.le_succ _) hst hR2 hp2 ht2 (ps2 hc9)⟩
 simp only [beq_iff_eq, beq_eq_false_iff_ne, ne_eq] at hc9
 refine sr ?_
 refine os 2 ?_
 refine nt ?_
 refine cd (fun hc11 : (x.kind == 3) = true => ?_) (fun hc11 => ?_)
 ·simp only [beq_iff_eq, beq_eq_false_iff_ne, ne_eq] at hc11
  refine sr ?_
  refine os 2 ?_
  refine L (ld ?_)
  refine os 1 ?_
  refine L (ld ?_)
  refine os 1 ?_
  refine L (ld ?_)
  have hcq_ := prop_Assign hL hS.inv (by omega) hS.flags x.o hx.key x.v
  rw [hS.objs] at hcq_
  refine L (cl (hcq_) ?_)
  rintro _ H2 ⟨rfl, hst⟩
  refine os 5 ?_
  refine kp [20, 19, 115, 94, 69, 39, 38, 7, 6, 5, 4, 0, 1, 2] ?_
  refine nsr ?_
  refine L (lds 2 ?_)
  refine os 1 ?_
  refine L (ld ?_)
  refine os 1 ?_
  refine L (ld ?_)
  refine os 1 ?_
  refine L (ld ?_)
  refine L (cl (rz_Assign hS.ok hS.lok (by omega) hS.doc.flags hx.o x.key hx.v (hS.doc.ends _) hS.doc.words) ?_)
  rintro _ R2 ⟨rfl, hR2, hp2, ht2⟩
  refine os 4 ?_
  refine kp [139, 138, 137, 20, 19, 115, 94, 69, 39, 38, 7, 6, 5, 4, 0, 1, 2] ?_
  refine L (nw 28 2 [.slice none 0 0, .slice none 0 0] ?_)
  intro b12
  refine L (st [Gs.val R2.s R2.objs.length, Gs.val R2.ts R2.texts.length] ?_)
  refine os 2 ?_
  refine kp [23, 22, 21, 20, 19, 115, 94, 69, 39, 38, 7, 6, 5, 4, 0, 1, 2] ?_
  refine nsr ?_
  refine L (lds 2 ?_)
  refine os 4 ?_
  refine pn 144 (show (((asgP R.pub x.o x.key x.v).2.1) == ((asgP R.pub x.o x.key x.v).2.1)) = true from (by rw [beq_self_eq_true])) ?_
  refine os 4 ?_
  refine kp [148, 140, 23, 22, 21, 20, 19, 115, 94, 69, 39, 38, 7, 6, 5, 4, 0, 1, 2] ?_
  refine L (st [Gs.val R2.s R2.objs.length, Gs.val R2.ts R2.texts.length] ?_)
  refine os 1 ?_
  refine nt ?_
  refine Qi (r_in (Qm ?_))
  refine body_endC [.agg #[Gs.val R2.s R2.objs.length, Gs.val R2.ts R2.texts.length], .bool (((asgP R.pub x.o x.key x.v).2.2) == ((asgP R.pub x.o x.key x.v).2.2))] (fun _ => (.cons ⟨b3, 0, rfl, .inl ⟨[Gs.val R2.s R2.objs.length, Gs.val R2.ts R2.texts.length], by kernel_rfl, (Qb (Cell.own Qe rfl) (Qb (Cell.own Qe rfl) Qo)), rfl⟩⟩ (.cons rfl .nil))) ?_
  exact ⟨(H2, R2), ow, congrArg (fun b => Value.tuple #[_, .bool b]) (by simp), DidW.pst hS hx (Nat.le_refl _) hst hR2 hp2 ht2 (ps3 hc11)⟩
 simp only [beq_iff_eq, beq_eq_false_iff_ne, ne_eq] at hc11
 refine sr ?_
 refine os 2 ?_
 refine kp [149, 115, 94, 69, 39, 38, 7, 6, 5, 4, 0, 1, 2] ?_
 refine nt ?_
 refine cd (fun hc14 : (x.kind == 4) = true => ?_) (fun hc14 => ?_)
 ·simp only [beq_iff_eq, beq_eq_false_iff_ne, ne_eq] at hc14
  refine sr ?_
  refine os 2 ?_
  refine L (ld ?_)
  refine os 1 ?_
  refine L (ld ?_)
  have hcq_ := prop_SetProto (W0 := W0) hS.inv (by omega) x.o x.p (hS.ends _) hS.protos
  rw [hS.objs] at hcq_
  refine L (cl (hcq_) ?_)
  rintro _ H2 ⟨rfl, hst⟩
  refine os 1 ?_
  refine kp [24, 149, 115, 94, 69, 39, 38, 7, 6, 5, 4, 0, 1, 2] ?_
  refine nsr ?_
  refine L (lds 2 ?_)
  refine os 1 ?_
  refine L (ld ?_)
  refine os 1 ?_
  refine L (ld ?_)
  refine L (cl (rz_SetProto hS.ok hS.lok hx.o hx.p (hS.doc.ends _) hS.doc.words) ?_)
  rintro _ R2 ⟨rfl, hR2, hp2, ht2⟩
  refine os 3 ?_
  refine kp [165, 164, 24, 149, 115, 94, 69, 39, 38, 7, 6, 5, 4, 0, 1, 2] ?_
  refine L (nw 28 2 [.slice none 0 0, .slice none 0 0] ?_)
  intro b15
  refine L (st [Gs.val R2.s R2.objs.length, Gs.val R2.ts R2.texts.length] ?_)
  refine os 1 ?_
  refine nsr ?_
  refine L (lds 2 ?_)
  refine os 3 ?_
  refine L (st [Gs.val R2.s R2.objs.length, Gs.val R2.ts R2.texts.length] ?_)
  refine os 1 ?_
  refine kp [7, 26, 25, 24, 149, 115, 94, 69, 39, 38, 6, 5, 4, 0, 1, 2] ?_
  refine nt ?_
  refine Qi (r_in (Qm ?_))
  refine body_endC [.agg #[Gs.val R2.s R2.objs.length, Gs.val R2.ts R2.texts.length], .bool (((spP R.pub x.o x.p).2) == ((spP R.pub x.o x.p).2))] (fun _ => (.cons ⟨b3, 0, rfl, .inl ⟨[Gs.val R2.s R2.objs.length, Gs.val R2.ts R2.texts.length], by kernel_rfl, (Qb (Cell.own Qe rfl) (Qb (Cell.own Qe rfl) Qo)), rfl⟩⟩ (.cons rfl .nil))) ?_
  exact ⟨(H2, R2), ow, congrArg (fun b => Value.tuple #[_, .bool b]) (by simp), DidW.pst hS hx (Nat.le_succ _) hst hR2 hp2 ht2 (ps4 hc14)⟩
 simp only [beq_iff_eq, beq_eq_false_iff_ne, ne_eq] at hc14
 refine sr ?_
 refine os 2 ?_
 refine nt ?_
 refine cd (fun hc16 : (x.kind == 5) = true => ?_) (fun hc16 => ?_)
 ·simp only [beq_iff_eq, beq_eq_false_iff_ne, ne_eq] at hc16
  refine sr ?_
  refine os 2 ?_
  refine L (ld ?_)
  refine os 1 ?_
  refine L (ld ?_)
  have hcq_ := prop_Own hL hS.inv x.o hx.key
  rw [hS.objs] at hcq_
  refine L (cl (hcq_) ?_)
  rintro v11 _ hv11
  obtain rfl : v11 = .tuple #[.agg #[.int .u64 ((descG (ownQ R.pub x.o x.key)).1), .int .u64 ((descG (ownQ R.pub x.o x.key)).2.1), .int .i64 ((descG (ownQ R.pub x.o x.key)).2.2)], .bool ((ownQ R.pub x.o x.key).isSome)] := hv11.trans (descR_eq _)
  refine os 3 ?_
  refine kp [180, 179, 170, 149, 115, 94, 69, 39, 38, 7, 6, 5, 4, 0, 1, 2] ?_
  refine L (nw 45 3 [.int .u64 0, .int .u64 0, .int .i64 0] ?_)
  intro b17
  refine L (st [.int .u64 ((descG (ownQ R.pub x.o x.key)).1), .int .u64 ((descG (ownQ R.pub x.o x.key)).2.1), .int .i64 ((descG (ownQ R.pub x.o x.key)).2.2)] ?_)
  refine os 1 ?_
  refine nsr ?_
  refine L (lds 2 ?_)
  refine os 1 ?_
  refine L (ld ?_)
  refine os 1 ?_
  refine L (ld ?_)
  refine L (cl (rz_Own hS.ok hS.lok hx.o x.key) ?_)
  rintro v12 _ hv12
  obtain rfl : v12 = .tuple #[.agg #[.int .u64 ((descG (ownQ R.pub x.o x.key)).1), .int .u64 ((descG (ownQ R.pub x.o x.key)).2.1), .int .i64 ((descG (ownQ R.pub x.o x.key)).2.2)], .bool ((ownQ R.pub x.o x.key).isSome)] := hv12.trans (descR_eq _)
  refine os 3 ?_
  refine kp [189, 188, 28, 27, 170, 149, 115, 94, 69, 39, 38, 7, 6, 5, 4, 0, 1, 2] ?_
  refine L (nw 45 3 [.int .u64 0, .int .u64 0, .int .i64 0] ?_)
  intro b18
  refine L (st [.int .u64 ((descG (ownQ R.pub x.o x.key)).1), .int .u64 ((descG (ownQ R.pub x.o x.key)).2.1), .int .i64 ((descG (ownQ R.pub x.o x.key)).2.2)] ?_)
  refine os 1 ?_
  refine nq ?_
  refine SW_draw [(b1, 0, Gs.val R.s R.objs.length), (b1, 1, Gs.val R.ts R.texts.length), (b17, 0, .int .u64 ((descG (ownQ R.pub x.o x.key)).1)), (b17, 1, .int .u64 ((descG (ownQ R.pub x.o x.key)).2.1)), (b17, 2, .int .i64 ((descG (ownQ R.pub x.o x.key)).2.2)), (b18, 0, .int .u64 ((descG (ownQ R.pub x.o x.key)).1)), (b18, 1, .int .u64 ((descG (ownQ R.pub x.o x.key)).2.1)), (b18, 2, .int .i64 ((descG (ownQ R.pub x.o x.key)).2.2))] [0, 1, 2, 3, 4, 5, 6, 7, 8] (by kernel_rfl) (Qf (Cell.own (Qc (Qa (Qc (Qa (Qc (Qc Qe)))))) rfl) (Qf (Cell.own (Qc (Qa (Qc (Qa (Qc (Qc Qe)))))) rfl) (Qf (Cell.own (Qc (Qa Qe)) rfl) (Qf (Cell.own (Qc (Qa Qe)) rfl) (Qf (Cell.own (Qc (Qa Qe)) rfl) (Qf (Cell.own Qe rfl) (Qf (Cell.own Qe rfl) (Qf (Cell.own Qe rfl) rd_nil)))))))) ?_
  refine tr 0 (.agg #[Gs.val R.s R.objs.length, Gs.val R.ts R.texts.length]) ?_ (hy := fun δ w_ hr => Rd_loads b1 0 [Gs.val R.s R.objs.length, Gs.val R.ts R.texts.length] rfl (by kernel_rfl) (rdm_cons List.mem_cons_self (rdm_cons (List.mem_cons_of_mem _ List.mem_cons_self) rdm_nil)) hr)
  refine tr 1 (.agg #[.int .u64 ((descG (ownQ R.pub x.o x.key)).1), .int .u64 ((descG (ownQ R.pub x.o x.key)).2.1), .int .i64 ((descG (ownQ R.pub x.o x.key)).2.2)]) ?_ (hy := fun δ w_ hr => Rd_loads b17 0 [.int .u64 ((descG (ownQ R.pub x.o x.key)).1), .int .u64 ((descG (ownQ R.pub x.o x.key)).2.1), .int .i64 ((descG (ownQ R.pub x.o x.key)).2.2)] rfl (by kernel_rfl) (rdm_cons (List.mem_cons_of_mem _ (List.mem_cons_of_mem _ List.mem_cons_self)) (rdm_cons (List.mem_cons_of_mem _ (List.mem_cons_of_mem _ (List.mem_cons_of_mem _ List.mem_cons_self))) (rdm_cons (List.mem_cons_of_mem _ (List.mem_cons_of_mem _ (List.mem_cons_of_mem _ (List.mem_cons_of_mem _ List.mem_cons_self)))) rdm_nil))) hr)
  refine tr 2 (.agg #[.int .u64 ((descG (ownQ R.pub x.o x.key)).1), .int .u64 ((descG (ownQ R.pub x.o x.key)).2.1), .int .i64 ((descG (ownQ R.pub x.o x.key)).2.2)]) ?_ (hy := fun δ w_ hr => Rd_loads b18 0 [.int .u64 ((descG (ownQ R.pub x.o x.key)).1), .int .u64 ((descG (ownQ R.pub x.o x.key)).2.1), .int .i64 ((descG (ownQ R.pub x.o x.key)).2.2)] rfl (by kernel_rfl) (rdm_cons (List.mem_cons_of_mem _ (List.mem_cons_of_mem _ (List.mem_cons_of_mem _ (List.mem_cons_of_mem _ (List.mem_cons_of_mem _ List.mem_cons_self))))) (rdm_cons (List.mem_cons_of_mem _ (List.mem_cons_of_mem _ (List.mem_cons_of_mem _ (List.mem_cons_of_mem _ (List.mem_cons_of_mem _ (List.mem_cons_of_mem _ List.mem_cons_self)))))) (rdm_cons (List.mem_cons_of_mem _ (List.mem_cons_of_mem _ (List.mem_cons_of_mem _ (List.mem_cons_of_mem _ (List.mem_cons_of_mem _ (List.mem_cons_of_mem _ (List.mem_cons_of_mem _ List.mem_cons_self))))))) rdm_nil))) hr)
  refine tk 3 (.bool (((descG (ownQ R.pub x.o x.key)).1 == (descG (ownQ R.pub x.o x.key)).1) && (((descG (ownQ R.pub x.o x.key)).2.1 == (descG (ownQ R.pub x.o x.key)).2.1) && ((descG (ownQ R.pub x.o x.key)).2.2 == (descG (ownQ R.pub x.o x.key)).2.2)))) ?_ (hy := eqlD)
  refine aS 4 ?_
  refine pnA 194 (show (((descG (ownQ R.pub x.o x.key)).1 == (descG (ownQ R.pub x.o x.key)).1) && (((descG (ownQ R.pub x.o x.key)).2.1 == (descG (ownQ R.pub x.o x.key)).2.1) && ((descG (ownQ R.pub x.o x.key)).2.2 == (descG (ownQ R.pub x.o x.key)).2.2))) = true from (by simp)) ?_
  refine aS 5 ?_
  refine aS 6 ?_
  refine aS 7 ?_
  refine aS 8 ?_
  refine kpA [198, 190, 30, 29, 28, 27, 170, 149, 115, 94, 69, 39, 38, 7, 6, 5, 4, 0, 1, 2] ?_
  refine sa1 false 9 (h := st [Gs.val R.s R.objs.length, Gs.val R.ts R.texts.length] ?_)
  refine ⟨fun hnd => (by cases hnd), ?_⟩
  refine aS 10 ?_
  refine SA_done (by kernel_rfl) (Qj ?_)
  refine Qi (r_in (Qm ?_))
  refine body_endC [.agg #[Gs.val R.s R.objs.length, Gs.val R.ts R.texts.length], .bool (((ownQ R.pub x.o x.key).isSome) == ((ownQ R.pub x.o x.key).isSome))] (fun _ => (.cons ⟨b3, 0, rfl, .inl ⟨[Gs.val R.s R.objs.length, Gs.val R.ts R.texts.length], by kernel_rfl, (Qb (Cell.own Qe rfl) (Qb (Cell.own Qe rfl) Qo)), rfl⟩⟩ (.cons rfl .nil))) ?_
  exact ⟨(H, R), ow, congrArg (fun b => Value.tuple #[_, .bool b]) (by simp), DidW.same hS hx (psE (by omega) (by omega) (by omega) (by omega) (by omega) (by omega))⟩
 simp only [beq_iff_eq, beq_eq_false_iff_ne, ne_eq] at hc16
 refine sr ?_
 refine os 2 ?_
 refine nt ?_
 refine cd (fun hc19 : (x.kind == 6) = true => ?_) (fun hc19 => ?_)
 ·simp only [beq_iff_eq, beq_eq_false_iff_ne, ne_eq] at hc19
  refine sr ?_
  refine os 2 ?_
  refine L (ld ?_)
  refine os 1 ?_
  refine L (ld ?_)
  have hcq_ := prop_Lookup hL hS.inv x.o hx.key
  rw [hS.objs] at hcq_
  refine L (cl (hcq_) ?_)
  rintro _ _ rfl
  refine os 4 ?_
  refine kp [210, 209, 208, 199, 170, 149, 115, 94, 69, 39, 38, 7, 6, 5, 4, 0, 1, 2] ?_
  refine L (nw 45 3 [.int .u64 0, .int .u64 0, .int .i64 0] ?_)
  intro b20
  refine os 1 ?_
  refine L (st [.int .u64 ((lookV (lookQ R.pub x.o x.key)).2.1), .int .u64 ((lookV (lookQ R.pub x.o x.key)).2.2.1), .int .i64 ((lookV (lookQ R.pub x.o x.key)).2.2.2)] ?_)
  refine os 1 ?_
  refine kp [33, 31, 32, 199, 170, 149, 115, 94, 69, 39, 38, 7, 6, 5, 4, 0, 1, 2] ?_
  refine nsr ?_
  refine L (lds 2 ?_)
  refine os 1 ?_
  refine L (ld ?_)
  refine os 1 ?_
  refine L (ld ?_)
  refine L (cl (rz_Lookup hS.ok hS.lok hx.o x.key (hS.doc.ends _) hS.doc.words) ?_)
  rintro _ _ rfl
  refine os 4 ?_
  refine kp [220, 219, 218, 33, 31, 32, 199, 170, 149, 115, 94, 69, 39, 38, 7, 6, 5, 4, 0, 1, 2] ?_
  refine L (nw 45 3 [.int .u64 0, .int .u64 0, .int .i64 0] ?_)
  intro b21
  refine os 1 ?_
  refine L (st [.int .u64 ((lookV (lookQ R.pub x.o x.key)).2.1), .int .u64 ((lookV (lookQ R.pub x.o x.key)).2.2.1), .int .i64 ((lookV (lookQ R.pub x.o x.key)).2.2.2)] ?_)
  refine os 1 ?_
  refine kp [36, 34, 35, 33, 31, 32, 199, 170, 149, 115, 94, 69, 39, 38, 7, 6, 5, 4, 0, 1, 2] ?_
  refine nq ?_
  refine SW_draw [(b1, 0, Gs.val R.s R.objs.length), (b1, 1, Gs.val R.ts R.texts.length), (b20, 0, .int .u64 ((lookV (lookQ R.pub x.o x.key)).2.1)), (b20, 1, .int .u64 ((lookV (lookQ R.pub x.o x.key)).2.2.1)), (b20, 2, .int .i64 ((lookV (lookQ R.pub x.o x.key)).2.2.2)), (b21, 0, .int .u64 ((lookV (lookQ R.pub x.o x.key)).2.1)), (b21, 1, .int .u64 ((lookV (lookQ R.pub x.o x.key)).2.2.1)), (b21, 2, .int .i64 ((lookV (lookQ R.pub x.o x.key)).2.2.2))] [0, 1, 2, 3, 4, 5, 6, 7, 8, 9, 10, 11, 12, 13] (by kernel_rfl) (Qf (Cell.own (Qc (Qa (Qc (Qa (Qc (Qc Qe)))))) rfl) (Qf (Cell.own (Qc (Qa (Qc (Qa (Qc (Qc Qe)))))) rfl) (Qf (Cell.own (Qc (Qa Qe)) rfl) (Qf (Cell.own (Qc (Qa Qe)) rfl) (Qf (Cell.own (Qc (Qa Qe)) rfl) (Qf (Cell.own Qe rfl) (Qf (Cell.own Qe rfl) (Qf (Cell.own Qe rfl) rd_nil)))))))) ?_
  refine tr 0 (.agg #[Gs.val R.s R.objs.length, Gs.val R.ts R.texts.length]) ?_ (hy := fun δ w_ hr => Rd_loads b1 0 [Gs.val R.s R.objs.length, Gs.val R.ts R.texts.length] rfl (by kernel_rfl) (rdm_cons List.mem_cons_self (rdm_cons (List.mem_cons_of_mem _ List.mem_cons_self) rdm_nil)) hr)
  refine aS 1 ?_
  refine aS 2 ?_
  refine aS 3 ?_
  refine aS 4 ?_
  refine pnA 225 (show (((lookV (lookQ R.pub x.o x.key)).1) == ((lookV (lookQ R.pub x.o x.key)).1)) = true from (by rw [beq_self_eq_true])) ?_
  refine tr 5 (.agg #[.int .u64 ((lookV (lookQ R.pub x.o x.key)).2.1), .int .u64 ((lookV (lookQ R.pub x.o x.key)).2.2.1), .int .i64 ((lookV (lookQ R.pub x.o x.key)).2.2.2)]) ?_ (hy := fun δ w_ hr => Rd_loads b20 0 [.int .u64 ((lookV (lookQ R.pub x.o x.key)).2.1), .int .u64 ((lookV (lookQ R.pub x.o x.key)).2.2.1), .int .i64 ((lookV (lookQ R.pub x.o x.key)).2.2.2)] rfl (by kernel_rfl) (rdm_cons (List.mem_cons_of_mem _ (List.mem_cons_of_mem _ List.mem_cons_self)) (rdm_cons (List.mem_cons_of_mem _ (List.mem_cons_of_mem _ (List.mem_cons_of_mem _ List.mem_cons_self))) (rdm_cons (List.mem_cons_of_mem _ (List.mem_cons_of_mem _ (List.mem_cons_of_mem _ (List.mem_cons_of_mem _ List.mem_cons_self)))) rdm_nil))) hr)
  refine tr 6 (.agg #[.int .u64 ((lookV (lookQ R.pub x.o x.key)).2.1), .int .u64 ((lookV (lookQ R.pub x.o x.key)).2.2.1), .int .i64 ((lookV (lookQ R.pub x.o x.key)).2.2.2)]) ?_ (hy := fun δ w_ hr => Rd_loads b21 0 [.int .u64 ((lookV (lookQ R.pub x.o x.key)).2.1), .int .u64 ((lookV (lookQ R.pub x.o x.key)).2.2.1), .int .i64 ((lookV (lookQ R.pub x.o x.key)).2.2.2)] rfl (by kernel_rfl) (rdm_cons (List.mem_cons_of_mem _ (List.mem_cons_of_mem _ (List.mem_cons_of_mem _ (List.mem_cons_of_mem _ (List.mem_cons_of_mem _ List.mem_cons_self))))) (rdm_cons (List.mem_cons_of_mem _ (List.mem_cons_of_mem _ (List.mem_cons_of_mem _ (List.mem_cons_of_mem _ (List.mem_cons_of_mem _ (List.mem_cons_of_mem _ List.mem_cons_self)))))) (rdm_cons (List.mem_cons_of_mem _ (List.mem_cons_of_mem _ (List.mem_cons_of_mem _ (List.mem_cons_of_mem _ (List.mem_cons_of_mem _ (List.mem_cons_of_mem _ (List.mem_cons_of_mem _ List.mem_cons_self))))))) rdm_nil))) hr)
  refine tk 7 (.bool (((lookV (lookQ R.pub x.o x.key)).2.1 == (lookV (lookQ R.pub x.o x.key)).2.1) && (((lookV (lookQ R.pub x.o x.key)).2.2.1 == (lookV (lookQ R.pub x.o x.key)).2.2.1) && ((lookV (lookQ R.pub x.o x.key)).2.2.2 == (lookV (lookQ R.pub x.o x.key)).2.2.2)))) ?_ (hy := eqlD)
  refine aS 8 ?_
  refine aS 9 ?_
  refine kpA [230, 221, 36, 34, 35, 33, 31, 32, 199, 170, 149, 115, 94, 69, 39, 38, 7, 6, 5, 4, 0, 1, 2] ?_
  refine pnA 230 (show (((lookV (lookQ R.pub x.o x.key)).2.1 == (lookV (lookQ R.pub x.o x.key)).2.1) && (((lookV (lookQ R.pub x.o x.key)).2.2.1 == (lookV (lookQ R.pub x.o x.key)).2.2.1) && ((lookV (lookQ R.pub x.o x.key)).2.2.2 == (lookV (lookQ R.pub x.o x.key)).2.2.2))) = true from (by simp)) ?_
  refine aS 10 ?_
  refine aS 11 ?_
  refine aS 12 ?_
  refine aS 13 ?_
  refine sa1 false 14 (h := st [Gs.val R.s R.objs.length, Gs.val R.ts R.texts.length] ?_)
  refine ⟨fun hnd => (by cases hnd), ?_⟩
  refine aS 15 ?_
  refine SA_done (by kernel_rfl) (Qj ?_)
  refine Qi (r_in (Qm ?_))
  refine body_endC [.agg #[Gs.val R.s R.objs.length, Gs.val R.ts R.texts.length], .bool (((lookQ R.pub x.o x.key).isSome) == ((lookQ R.pub x.o x.key).isSome))] (fun _ => (.cons ⟨b3, 0, rfl, .inl ⟨[Gs.val R.s R.objs.length, Gs.val R.ts R.texts.length], by kernel_rfl, (Qb (Cell.own Qe rfl) (Qb (Cell.own Qe rfl) Qo)), rfl⟩⟩ (.cons rfl .nil))) ?_
  exact ⟨(H, R), ow, congrArg (fun b => Value.tuple #[_, .bool b]) (by simp), DidW.same hS hx (psE (by omega) (by omega) (by omega) (by omega) (by omega) (by omega))⟩
 simp only [beq_iff_eq, beq_eq_false_iff_ne, ne_eq] at hc19
 refine sr ?_
 refine os 2 ?_
 refine kp [235, 199, 170, 149, 115, 94, 69, 39, 38, 7, 6, 5, 4, 0, 1, 2] ?_
 refine nt ?_
 refine cd (fun hc22 : (x.kind == 8) = true => ?_) (fun hc22 => ?_)
 ·simp only [beq_iff_eq, beq_eq_false_iff_ne, ne_eq] at hc22
  refine sr ?_
  refine os 2 ?_
  refine L (ld ?_)
  have hcq_ := hq_Close (W0 := W0) hS.inv x.o
  rw [hS.objs] at hcq_
  refine L (cl (hcq_) ?_)
  rintro _ H2 ⟨rfl, hst, hgd2⟩
  refine nsr ?_
  refine L (lds 2 ?_)
  refine os 1 ?_
  refine L (ld ?_)
  refine L (cl (rq_Shut hS.ok hx.o) ?_)
  rintro _ R2 ⟨rfl, hR2, hp2, ht2⟩
  refine L (st [Gs.val R2.s R2.objs.length, Gs.val R2.ts R2.texts.length] ?_)
  refine os 1 ?_
  refine kp [7, 235, 199, 170, 149, 115, 94, 69, 39, 38, 6, 5, 4, 0, 1, 2] ?_
  refine nt ?_
  refine Qi (r_in (Qm ?_))
  refine body_endC [.agg #[Gs.val R2.s R2.objs.length, Gs.val R2.ts R2.texts.length], .bool true] (fun _ => (.cons ⟨b3, 0, rfl, .inl ⟨[Gs.val R2.s R2.objs.length, Gs.val R2.ts R2.texts.length], by kernel_rfl, (Qb (Cell.own Qe rfl) (Qb (Cell.own Qe rfl) Qo)), rfl⟩⟩ (.cons rfl .nil))) ?_
  exact ⟨(H2, R2), ow, rfl, DidW.mk' hS hx (ps8 hc22) (hst.inv.mono (Nat.le_succ k)) hst.pub hst.texts hR2 hp2 ht2⟩
 simp only [beq_iff_eq, beq_eq_false_iff_ne, ne_eq] at hc22
 refine Ql (n_in (Qj ?_))
 refine SW_seq ?_
 refine SW_draw [(b1, 0, Gs.val R.s R.objs.length), (b1, 1, Gs.val R.ts R.texts.length), (b1, 0, Gs.val R.s R.objs.length), (b1, 1, Gs.val R.ts R.texts.length), (b2, 1, .int .u64 x.o)] [0, 1, 2, 3, 4, 5] (by kernel_rfl) (Qf (Cell.own (Qc (Qc Qe)) rfl) (Qf (Cell.own (Qc (Qc Qe)) rfl) (Qf (Cell.own (Qc (Qc Qe)) rfl) (Qf (Cell.own (Qc (Qc Qe)) rfl) (Qf (Cell.own (Qc Qe) rfl) rd_nil))))) ?_
 refine tr 0 (.agg #[Gs.val R.s R.objs.length, Gs.val R.ts R.texts.length]) ?_ (hy := fun δ w_ hr => Rd_loads b1 0 [Gs.val R.s R.objs.length, Gs.val R.ts R.texts.length] rfl (by kernel_rfl) (rdm_cons List.mem_cons_self (rdm_cons (List.mem_cons_of_mem _ List.mem_cons_self) rdm_nil)) hr)
 refine aS 1 ?_
 refine tr 2 (.agg #[Gs.val R.s R.objs.length, Gs.val R.ts R.texts.length]) ?_ (hy := fun δ w_ hr => Rd_loads b1 0 [Gs.val R.s R.objs.length, Gs.val R.ts R.texts.length] rfl (by kernel_rfl) (rdm_cons List.mem_cons_self (rdm_cons (List.mem_cons_of_mem _ List.mem_cons_self) rdm_nil)) hr)
 refine aF 3 ?_
 refine aL 4 ?_
 refine sa1 true 5 (h := cl (law_keys14 hL hS (by omega) hx.o) ?_)
 rintro _ _ rfl
 try simp only [List.cons_append, List.append_assoc, List.nil_append]
 refine ⟨fun hnd => (Qf (Cell.own (Qa (Qa (Qc (Qc Qe)))) rfl) (Qf (Cell.own (Qa (Qa (Qc (Qc Qe)))) rfl) (Qf (Cell.own (Qa (Qa (Qc (Qc Qe)))) rfl) (Qf (Cell.own (Qa (Qa (Qc (Qc Qe)))) rfl) (Qf (Cell.own (Qa (Qa (Qc Qe))) rfl) rd_nil))))), ?_⟩
 refine sa1 false 6 (h := st [Gs.val R.s R.objs.length, Gs.val R.ts R.texts.length] ?_)
 refine ⟨fun hnd => (by cases hnd), ?_⟩
 refine aS 7 ?_
 refine SA_done (by kernel_rfl) (Qj ?_)
 refine Qi ?_
 refine body_endC [.agg #[Gs.val R.s R.objs.length, Gs.val R.ts R.texts.length], .bool true] (fun _ => (.cons ⟨b3, 0, rfl, .inl ⟨[Gs.val R.s R.objs.length, Gs.val R.ts R.texts.length], by kernel_rfl, (Qb (Cell.own Qe rfl) (Qb (Cell.own Qe rfl) Qo)), rfl⟩⟩ (.cons rfl .nil))) ?_
 exact ⟨(H, R), ow, rfl, DidW.same hS hx (psE (by omega) (by omega) (by omega) (by omega) (by omega) (by omega))⟩

end Go.Proofs.YthflblophelioaaGreatDoor
namespace Go.Proofs.YthflblophelioaaGreatDoor
open Go.Sl

end Go.Proofs.YthflblophelioaaGreatDoor
namespace Go.Proofs.YthflblophelioaaGreatDoor
open Go.Sl

theorem law_alive14 {W0 : World} (hL : Laid W0) : SC Tryz.prog W0 12 #[] [] (Ret (fun _ : Unit => []) (fun v _ => v = .bool true)) := by
 refine SC_body (fn := Tryz.f12) (n := 60) Tryz.func12 rfl (by kernel_rfl) (ρ := []) rfl ?_
 refine sr ?_
 refine os 1 ?_
 refine nsr ?_
 refine L (cl (hp_New 9) ?_)
 rintro _ ⟨H0, F⟩ ⟨rfl, hI0, hp0, ht0, htr0, ho0, hcl0⟩
 simp only [] at hp0 ht0 htr0 ho0 hcl0 hI0
 refine os 1 ?_
 refine nq ?_
 refine sr ?_
 refine os 1 ?_
 refine oV (.bool false) ?_
 refine nt ?_
 refine cf ?_
 refine Ql (Qj ?_)
 refine sr ?_
 refine os 1 ?_
 refine L (cl (hq_Make hI0 0 18445336698825998337) ?_)
 rintro v2 H1 ⟨hv2, hI1, hpx1, htx1, hgx1⟩
 obtain rfl : v2 = .tuple #[.int .u64 wA, .bool true] := hv2.trans (by rw [hp0, alive_make1.1])
 have hp1 : HeapV.pub H1 F = lA1 := by rw [hpx1, hp0]; exact alive_make1.2
 refine os 5 ?_
 refine kp [2, 13, 1, 0] ?_
 refine nsr ?_
 refine os 2 ?_
 refine L (cl (hq_Make hI1 0 wA) ?_)
 rintro v3 H2 ⟨hv3, hI2, hpx2, htx2, hgx2⟩
 obtain rfl : v3 = .tuple #[.int .u64 wB, .bool true] := hv3.trans (by rw [hp1, alive_make2.1])
 have hp2 : HeapV.pub H2 F = lA2 := by rw [hpx2, hp1]; exact alive_make2.2
 refine os 5 ?_
 refine kp [4, 2, 13, 1, 0] ?_
 refine nsr ?_
 refine os 2 ?_
 refine L (cl (rf_Int (n := 3)) ?_)
 rintro v4 _ hv4
 obtain rfl : v4 = .int .u64 vA := hv4.trans (congrArg (Value.int .u64) refInt3)
 refine un ?_
 have hflA : ∀ o ∈ HeapV.pub H2 F, ∀ d ∈ o.descs, normF d.2.2 = d.2.2 := by rw [hp2]; exact flags_A2
 refine L (cl (prop_Assign hL hI2 (by omega) hflA wA (key := keyA) (by decide) vA) ?_)
 rintro v5 H3 ⟨hv5, hst3⟩
 obtain rfl : v5 = .tuple #[.int .u64 undefW, .int .i64 0] := hv5.trans (by rw [hp2, alive_asg])
 rw [hp2] at hst3
 refine os 5 ?_
 refine kp [7, 4, 2, 13, 1, 0] ?_
 refine nsr ?_
 refine os 2 ?_
 refine L (cl (prop_Lookup hL hst3.inv wB (key := keyA) (by decide)) ?_)
 rintro v6 _ hv6
 obtain rfl : v6 = .tuple #[.int .u64 wA, .agg #[.int .u64 vA, .int .u64 undefW, .int .i64 7], .bool true] := hv6.trans (by rw [hst3.pub, alive_look]; rfl)
 refine os 4 ?_
 refine L (nw 45 3 [.int .u64 0, .int .u64 0, .int .i64 0] ?_)
 intro b1
 refine os 1 ?_
 refine L (st [.int .u64 vA, .int .u64 undefW, .int .i64 7] ?_)
 refine os 1 ?_
 refine kp [10, 8, 9, 7, 4, 2, 13, 1, 0] ?_
 refine nq ?_
 refine SW_draw [(b1, 0, .int .u64 vA), (b1, 2, .int .i64 7)] [0, 1, 2, 3, 4, 5, 6, 7, 8, 9, 10, 11, 12, 13, 14, 15, 16, 17] (by kernel_rfl) (Qf (Cell.own Qe rfl) (Qf (Cell.own Qe rfl) rd_nil)) ?_
 refine aS 0 ?_
 refine tk 1 (.bool true) ?_
 refine aS 2 ?_
 refine aS 3 ?_
 refine aS 4 ?_
 refine aS 5 ?_
 refine aS 6 ?_
 refine aS 7 ?_
 refine aS 8 ?_
 refine aS 9 ?_
 refine kpA [48, 10, 8, 9, 7, 4, 2, 13, 1, 0] ?_
 refine aS 10 ?_
 refine pnA 49 (show (wA == wA) = true from (by decide)) ?_
 refine aF 11 ?_
 refine aL 12 ?_
 refine sa1 true 13 (h := cl (rf_Int (n := 3)) ?_)
 rintro v8 _ hv8
 obtain rfl : v8 = .int .u64 vA := hv8.trans (congrArg (Value.int .u64) refInt3)
 try simp only [List.cons_append, List.append_assoc, List.nil_append]
 refine ⟨fun hnd => (Qf (Cell.own Qe rfl) (Qf (Cell.own Qe rfl) rd_nil)), ?_⟩
 refine aS 14 ?_
 refine aS 15 ?_
 refine aS 16 ?_
 refine pnA 55 (show (vA == vA) = true from (by decide)) ?_
 refine aF 17 ?_
 refine aL 18 ?_
 refine kpA [57, 55, 10, 8, 9, 7, 4, 2, 13, 1, 0] ?_
 refine tk 19 (.bool true) ?_
 refine aS 20 ?_
 refine aS 21 ?_
 refine SA_done (by kernel_rfl) (Qj ?_)
 refine Qi ?_
 refine Qg (.bool true) (fun _ => rfl) ?_
 exact ⟨(), ⟨_, List.Perm.refl _⟩, congrArg Value.bool (by decide)⟩

end Go.Proofs.YthflblophelioaaGreatDoor
namespace Go.Proofs.YthflblophelioaaGreatDoor
open Go.Sl

theorem law_PropsSlots {W0 : World} (hL : Laid W0) (most : Int) {A : Option Addr} {c : Nat} {l : List OpW} (hls : ∀ σ, Src W0 σ A (l.flatMap OpW.cells)) (hl : l.length ≤ 1048576) (hops : ∀ x ∈ l, OwOk x) {key : ByteArray} (hks : key.size ≤ 281474976710656) : SC Tryz.prog W0 10 #[.int .i64 most, .slice A l.length c, .string key] [] (Ret (fun _ : Unit => []) (fun v _ => v = .bool true)) := by
 refine SC_body (fn := Tryz.f10) (n := 123) Tryz.func10 rfl (by kernel_rfl) (ρ := [(0, .int .i64 most), (1, .slice A l.length c), (2, .string key)]) rfl ?_
 refine sr ?_
 refine os 1 ?_
 refine nsr ?_
 refine os 1 ?_
 refine L (cl (hp_New most) ?_)
 rintro _ ⟨H0, F⟩ ⟨rfl, hI0, hp0, ht0, htr0, ho0, hcl0⟩
 simp only [] at hp0 ht0 htr0 ho0 hcl0 hI0
 have hS0 := SimW.new hI0 hp0 ht0
 refine os 1 ?_
 refine nsr ?_
 refine oV (.agg #[.slice none 0 0, .slice none 0 0]) ?_
 refine L (nw 28 2 [.slice none 0 0, .slice none 0 0] ?_)
 intro b1
 refine L (st [.slice none 0 0, .slice none 0 0] ?_)
 refine nq ?_
 refine SW_seq ?_
 refine SW_perm _ (perm_cc perm_cz) ?_
 refine SW_sig ((HeapV.ent H0 F) ++ ((RSt.ent RSt.none) ++ ((b1, .cells 28 2 [Gs.val RSt.none.s RSt.none.objs.length, Gs.val RSt.none.ts RSt.none.texts.length]) :: ([])))) rfl ?_
 refine Qn ?_
 refine os 1 ?_
 refine oV (.bool false) ?_
 refine os 1 ?_
 refine L (cl (law_alive14 hL) ?_)
 rintro _ _ rfl
 refine un ?_
 refine oV (.bool false) ?_
 refine os 1 ?_
 refine kp [33, 8, 7, 6, 0, 1, 2] ?_
 refine nt ?_
 refine cf ?_
 refine Ql (Qj ?_)
 refine SW_seq ?_
 refine sr ?_
 refine os 3 ?_
 refine nt ?_
 refine SW_block ?_
 refine SW_loop (α := Nat × HeapV × RSt) (fun z_ ρ_ σ_ => Fits ρ_ σ_ [(2, .string key), (7, pt F.p 0), (8, pt b1 0), (34, .slice A l.length c), (35, .int .i64 (l.length : Int)), (36, .int .i64 (z_.1 : Int))] ((HeapV.ent z_.2.1 F) ++ ((RSt.ent z_.2.2) ++ ((b1, .cells 28 2 [Gs.val z_.2.2.s z_.2.2.objs.length, Gs.val z_.2.2.ts z_.2.2.texts.length]) :: ([])))) ∧ z_.1 ≤ l.length ∧ SimW (z_.1) z_.2.1 F z_.2.2) (fun z_ => l.length - z_.1) (0, H0, RSt.none) ⟨⟨fun _ => rfl, ow⟩, Nat.zero_le _, hS0⟩ ?_
 rintro ⟨i, H, R⟩ ρ_ σ_ ⟨hfit, hi0, hi1⟩
 refine SW_fits hfit ?_
 clear hfit
 simp only [] at hi0 hi1 ⊢
 refine sr ?_
 refine os 1 ?_
 refine nq ?_
 refine cdp (fun hc2 : (i : Int) < (l.length : Int) => ?_) (fun hc2 => ?_)
 ·refine Ql (Qj ?_)
  refine SW_seq ?_
  refine SW_block ?_
  refine SW_seq ?_
  obtain ⟨b0_, o0_, rfl, hqb0_⟩ := (hls []).resolve_left (by rw [flat_len OpW.len]; omega)
  refine Qn ?_
  refine L (O_indexAddr' (i : Int) (o0_ + i * 11) b0_ o0_ l.length c .i64 11 Tryz.underlying22 (by kernel_rfl) (fun _ => rfl) (fun _ => rfl) (by omega) (by omega) (by omega) rfl ?_)
  obtain ⟨e1, he1⟩ : ∃ y_, l[i]? = some y_ := ⟨_, List.getElem?_eq_getElem (by omega)⟩
  refine L (ldr [.int .i64 e1.kind, .int .u64 e1.o, .int .u64 e1.p, .string e1.key, .int .i64 e1.w.has, .int .u64 e1.w.value, .int .u64 e1.w.get, .int .u64 e1.w.set, .int .i64 e1.w.flags, .int .u64 e1.v, .int .i64 e1.n] (Qb (Cell.mono (hqb0_ _ _ (Qh OpW.len he1 (j := 0) (by decide) rfl)) (fun e he => absurd he List.not_mem_nil)) (Qb (Cell.mono (hqb0_ _ _ (Qh OpW.len he1 (j := 1) (by decide) rfl)) (fun e he => absurd he List.not_mem_nil)) (Qb (Cell.mono (hqb0_ _ _ (Qh OpW.len he1 (j := 2) (by decide) rfl)) (fun e he => absurd he List.not_mem_nil)) (Qb (Cell.mono (hqb0_ _ _ (Qh OpW.len he1 (j := 3) (by decide) rfl)) (fun e he => absurd he List.not_mem_nil)) (Qb (Cell.mono (hqb0_ _ _ (Qh OpW.len he1 (j := 4) (by decide) rfl)) (fun e he => absurd he List.not_mem_nil)) (Qb (Cell.mono (hqb0_ _ _ (Qh OpW.len he1 (j := 5) (by decide) rfl)) (fun e he => absurd he List.not_mem_nil)) (Qb (Cell.mono (hqb0_ _ _ (Qh OpW.len he1 (j := 6) (by decide) rfl)) (fun e he => absurd he List.not_mem_nil)) (Qb (Cell.mono (hqb0_ _ _ (Qh OpW.len he1 (j := 7) (by decide) rfl)) (fun e he => absurd he List.not_mem_nil)) (Qb (Cell.mono (hqb0_ _ _ (Qh OpW.len he1 (j := 8) (by decide) rfl)) (fun e he => absurd he List.not_mem_nil)) (Qb (Cell.mono (hqb0_ _ _ (Qh OpW.len he1 (j := 9) (by decide) rfl)) (fun e he => absurd he List.not_mem_nil)) (Qb (Cell.mono (hqb0_ _ _ (Qh OpW.len he1 (j := 10) (by decide) rfl)) (fun e he => absurd he List.not_mem_nil)) Qo))))))))))) ?_)
  refine L (nw 37 11 [.int .i64 0, .int .u64 0, .int .u64 0, .string ByteArray.empty, .int .i64 0, .int .u64 0, .int .u64 0, .int .u64 0, .int .i64 0, .int .u64 0, .int .i64 0] ?_)
  intro b3
  refine L (st [.int .i64 e1.kind, .int .u64 e1.o, .int .u64 e1.p, .string e1.key, .int .i64 e1.w.has, .int .u64 e1.w.value, .int .u64 e1.w.get, .int .u64 e1.w.set, .int .i64 e1.w.flags, .int .u64 e1.v, .int .i64 e1.n] ?_)
  refine nsr ?_
  refine os 1 ?_
  refine L (lds 2 ?_)
  refine L (lds 11 ?_)
  have hop_ := hops _ (List.mem_of_getElem? he1)
  refine L (cl (law_step14 hL hi1 (by omega) hop_) ?_)
  rintro _ ⟨H4, R4⟩ ⟨rfl, hd4⟩
  refine un ?_
  simp only [] at hd4
  refine os 3 ?_
  refine kp [45, 10, 37, 2, 7, 8, 34, 35, 36] ?_
  refine L (st [Gs.val R4.s R4.objs.length, Gs.val R4.ts R4.texts.length] ?_)
  refine nq ?_
  have hcap_ : R4.objs.length ≤ 65536 := by rw [← RSt.pub_len]; exact hd4.sim.lok.len
  refine Qn ?_
  refine os 1 ?_
  refine L (ld ?_)
  refine os 2 ?_
  refine kp [50, 49, 10, 37, 2, 7, 8, 34, 35, 36] ?_
  refine nt ?_
  refine SW_block ?_
  refine SW_loop (α := Nat) (fun z_ ρ_ σ_ => Fits ρ_ σ_ [(2, .string key), (7, pt F.p 0), (8, pt b1 0), (34, .slice (some ⟨b0_, o0_, none⟩) l.length c), (35, .int .i64 (l.length : Int)), (36, .int .i64 (i : Int)), (49, .int .i64 (R4.objs.length : Int)), (50, .int .i64 (z_ : Int))] ((b1, .cells 28 2 [Gs.val R4.s R4.objs.length, Gs.val R4.ts R4.texts.length]) :: ((HeapV.ent H4 F) ++ ((RSt.ent R4) ++ ((b3, .cells 37 11 [.int .i64 e1.kind, .int .u64 e1.o, .int .u64 e1.p, .string e1.key, .int .i64 e1.w.has, .int .u64 e1.w.value, .int .u64 e1.w.get, .int .u64 e1.w.set, .int .i64 e1.w.flags, .int .u64 e1.v, .int .i64 e1.n]) :: ([]))))) ∧ z_ ≤ R4.objs.length) (fun z_ => R4.objs.length - z_) 0 ⟨⟨fun _ => rfl, ow⟩, Nat.zero_le _⟩ ?_
  rintro n ρ_ σ_ ⟨hfit, hi0⟩
  refine SW_fits hfit ?_
  clear hfit
  refine sr ?_
  refine os 1 ?_
  refine nq ?_
  refine cdp (fun hc4 : (n : Int) < (R4.objs.length : Int) => ?_) (fun hc4 => ?_)
  ·refine Ql (Qj ?_)
   refine SW_seq ?_
   refine SW_block ?_
   refine SW_seq ?_
   have hlenH_ : H4.objs.length = R4.objs.length := by rw [← HeapV.pub_len H4 F, hd4.sim.objs, RSt.pub_len]
   obtain ⟨x, hx⟩ : ∃ q_, H4.objs[n]? = some q_ := ⟨_, List.getElem?_eq_getElem (by omega)⟩
   refine Qn ?_
   refine os 2 ?_
   refine nsr ?_
   refine os 4 ?_
   refine kp [12, 11, 51, 2, 7, 8, 34, 35, 36, 49, 50] ?_
   refine nsr ?_
   refine os 2 ?_
   by_cases hp2 : x.shape < 0
   ·refine L (cl (heap_Shape_some hd4.sim.inv.ok (w := (18445055223849287680 + (n : Int))) (objA' (by omega) (by omega)) hx) ?_)
    rintro v4 _ hv4
    obtain rfl : v4 = .tuple #[.int .i64 0, .bool false] := hv4.trans (by rw [if_pos hp2])
    refine os 5 ?_
    refine kp [14, 13, 12, 11, 51, 2, 7, 8, 34, 35, 36, 49, 50] ?_
    refine nsr ?_
    refine os 3 ?_
    refine L (cl (heap_Find hd4.sim.inv.ok 0 key) ?_)
    rintro _ _ rfl
    refine os 7 ?_
    refine kp [17, 16, 15, 14, 13, 12, 11, 51, 2, 7, 8, 34, 35, 36, 49, 50] ?_
    refine nsr ?_
    refine L (lds 2 ?_)
    refine os 1 ?_
    refine L (cl (rz_Array hd4.sim.ok (w := (18445055223849287680 + (n : Int))) (wordOk_obj (by omega))) ?_)
    rintro _ _ rfl
    refine os 1 ?_
    refine kp [18, 17, 16, 15, 14, 13, 12, 11, 51, 2, 7, 8, 34, 35, 36, 49, 50] ?_
    refine nsr ?_
    refine os 1 ?_
    refine L (cl (rf_Index key) ?_)
    rintro _ _ rfl
    refine un ?_
    refine os 5 ?_
    refine kp [20, 18, 17, 16, 15, 14, 13, 12, 11, 51, 2, 7, 8, 34, 35, 36, 49, 50] ?_
    refine nq ?_
    refine sr ?_
    refine os 1 ?_
    refine oV (.bool true) ?_
    refine os 10 ?_
    refine kp [89, 20, 18, 17, 16, 15, 14, 13, 12, 11, 51, 2, 7, 8, 34, 35, 36, 49, 50] ?_
    refine nt ?_
    refine ct ?_
    refine SW_exit (x_then (x_in (Qj ?_)))
    refine Qn ?_
    refine os 2 ?_
    refine nt ?_
    exact ⟨n + 1, by omega, ⟨fun _ => rfl, ow⟩, by omega⟩
   obtain ⟨hsl1_, hsl2_⟩ := hd4.sim.slot hx hp2 key
   refine L (cl (heap_Shape_some hd4.sim.inv.ok (w := (18445055223849287680 + (n : Int))) (objA' (by omega) (by omega)) hx) ?_)
   rintro v8 _ hv8
   obtain rfl : v8 = .tuple #[.int .i64 x.shape, .bool true] := hv8.trans (by rw [if_neg hp2])
   refine os 5 ?_
   refine kp [14, 13, 12, 11, 51, 2, 7, 8, 34, 35, 36, 49, 50] ?_
   refine nsr ?_
   refine os 3 ?_
   rcases hm3 : getQ R4.pub (18445055223849287680 + (n : Int)) key with _ | m3
   ·obtain ⟨fi_, fb_, hf_⟩ := hsl2_ hm3
    refine L (cl (heap_Find hd4.sim.inv.ok x.shape key) ?_)
    rintro v9 _ hv9
    obtain rfl : v9 = .tuple #[.int .i64 fi_, .int .i64 fb_, .bool false] := hv9.trans (congrArg three hf_)
    refine os 7 ?_
    refine kp [17, 16, 15, 14, 13, 12, 11, 51, 2, 7, 8, 34, 35, 36, 49, 50] ?_
    refine nsr ?_
    refine L (lds 2 ?_)
    refine os 1 ?_
    refine L (cl (rz_Array hd4.sim.ok (w := (18445055223849287680 + (n : Int))) (wordOk_obj (by omega))) ?_)
    rintro _ _ rfl
    refine os 1 ?_
    refine kp [18, 17, 16, 15, 14, 13, 12, 11, 51, 2, 7, 8, 34, 35, 36, 49, 50] ?_
    refine nsr ?_
    refine os 1 ?_
    refine L (cl (rf_Index key) ?_)
    rintro _ _ rfl
    refine un ?_
    refine os 5 ?_
    refine kp [20, 18, 17, 16, 15, 14, 13, 12, 11, 51, 2, 7, 8, 34, 35, 36, 49, 50] ?_
    refine nq ?_
    refine sr ?_
    refine os 1 ?_
    refine oV (.bool false) ?_
    refine os 3 ?_
    refine tb 82 (fun hg5 => ?_) (fun hg5 => ?_)
    ·replace hg5 : (arrP R4.pub (18445055223849287680 + (n : Int))) = true := hg5
     refine os 2 ?_
     refine tb 84 (fun hg6 => ?_) (fun hg6 => ?_)
     ·replace hg6 : ((idxV key).2) = true := hg6
      refine os 5 ?_
      refine kp [89, 20, 18, 17, 16, 15, 14, 13, 12, 11, 51, 2, 7, 8, 34, 35, 36, 49, 50] ?_
      refine nt ?_
      refine ct ?_
      refine SW_exit (x_then (x_in (Qj ?_)))
      refine Qn ?_
      refine os 2 ?_
      refine nt ?_
      exact ⟨n + 1, by omega, ⟨fun _ => rfl, ow⟩, by omega⟩
     replace hg6 : ((idxV key).2) = false := hg6
     refine os 1 ?_
     refine oX (.bool (key.toList == (ByteArray.mk (List.toArray (List.cons 108 (List.cons 101 (List.cons 110 (List.cons 103 (List.cons 116 (List.cons 104 List.nil)))))))).toList)) (.bool (decide (key = (ByteArray.mk (List.toArray (List.cons 108 (List.cons 101 (List.cons 110 (List.cons 103 (List.cons 116 (List.cons 104 List.nil))))))))))) (congrArg Value.bool (by rw [str_eq])) ?_
     refine os 3 ?_
     refine kp [89, 20, 18, 17, 16, 15, 14, 13, 12, 11, 51, 2, 7, 8, 34, 35, 36, 49, 50] ?_
     refine nt ?_
     refine cdp (fun hc7 : key = (ByteArray.mk (List.toArray (List.cons 108 (List.cons 101 (List.cons 110 (List.cons 103 (List.cons 116 (List.cons 104 List.nil)))))))) => ?_) (fun hc7 => ?_)
     ·refine SW_exit (x_then (x_in (Qj ?_)))
      refine Qn ?_
      refine os 2 ?_
      refine nt ?_
      exact ⟨n + 1, by omega, ⟨fun _ => rfl, ow⟩, by omega⟩
     refine Ql (Qj ?_)
     refine sr ?_
     refine os 3 ?_
     have ho_ : ownQ R4.pub (18445055223849287680 + (n : Int)) key = getQ R4.pub (18445055223849287680 + (n : Int)) key := by first | exact ownQ_plain (by assumption) | exact own_get (by assumption) (by assumption) (by assumption)
     rw [hm3] at ho_
     have hcq_ := prop_Own hL hd4.sim.inv (18445055223849287680 + (n : Int)) hks
     rw [hd4.sim.objs, ho_] at hcq_
     refine L (cl (hcq_) ?_)
     rintro v12 _ hv12
     obtain rfl : v12 = .tuple #[.agg #[.int .u64 0, .int .u64 0, .int .i64 0], .bool false] := hv12.trans (rfl)
     refine os 3 ?_
     refine L (nw 45 3 [.int .u64 0, .int .u64 0, .int .i64 0] ?_)
     intro b8
     refine L (st [.int .u64 0, .int .u64 0, .int .i64 0] ?_)
     refine os 1 ?_
     refine kp [22, 21, 89, 20, 18, 17, 16, 15, 14, 13, 12, 11, 51, 2, 7, 8, 34, 35, 36, 49, 50] ?_
     refine nsr ?_
     refine os 3 ?_
     refine L (cl (heap_Slot_some hd4.sim.inv.ok (w := (18445055223849287680 + (n : Int))) (objA' (by omega) (by omega)) hx fi_) ?_)
     rintro v13 _ hv13
     obtain rfl : v13 = .tuple #[.agg #[.int .u64 ((descG (slotO x fi_)).1), .int .u64 ((descG (slotO x fi_)).2.1), .int .i64 ((descG (slotO x fi_)).2.2)], .bool ((slotO x fi_).isSome)] := hv13.trans (descR_eq _)
     refine os 3 ?_
     refine L (nw 45 3 [.int .u64 0, .int .u64 0, .int .i64 0] ?_)
     intro b9
     refine L (st [.int .u64 ((descG (slotO x fi_)).1), .int .u64 ((descG (slotO x fi_)).2.1), .int .i64 ((descG (slotO x fi_)).2.2)] ?_)
     refine os 1 ?_
     refine kp [23, 22, 21, 89, 20, 18, 17, 16, 15, 14, 13, 12, 11, 51, 2, 7, 8, 34, 35, 36, 49, 50] ?_
     refine nsr ?_
     refine os 2 ?_
     refine oV (.bool false) ?_
     refine os 14 ?_
     refine kp [120, 23, 22, 21, 89, 20, 18, 17, 16, 15, 14, 13, 12, 11, 51, 2, 7, 8, 34, 35, 36, 49, 50] ?_
     refine nt ?_
     refine cf ?_
     refine Ql (n_in (Qj ?_))
     refine Qn ?_
     refine os 2 ?_
     refine nt ?_
     exact ⟨n + 1, by omega, ⟨fun _ => rfl, ow⟩, by omega⟩
    replace hg5 : (arrP R4.pub (18445055223849287680 + (n : Int))) = false := hg5
    refine os 7 ?_
    refine kp [89, 20, 18, 17, 16, 15, 14, 13, 12, 11, 51, 2, 7, 8, 34, 35, 36, 49, 50] ?_
    refine nt ?_
    refine cf ?_
    refine Ql (Qj ?_)
    refine sr ?_
    refine os 3 ?_
    have ho_ : ownQ R4.pub (18445055223849287680 + (n : Int)) key = getQ R4.pub (18445055223849287680 + (n : Int)) key := by first | exact ownQ_plain (by assumption) | exact own_get (by assumption) (by assumption) (by assumption)
    rw [hm3] at ho_
    have hcq_ := prop_Own hL hd4.sim.inv (18445055223849287680 + (n : Int)) hks
    rw [hd4.sim.objs, ho_] at hcq_
    refine L (cl (hcq_) ?_)
    rintro v14 _ hv14
    obtain rfl : v14 = .tuple #[.agg #[.int .u64 0, .int .u64 0, .int .i64 0], .bool false] := hv14.trans (rfl)
    refine os 3 ?_
    refine L (nw 45 3 [.int .u64 0, .int .u64 0, .int .i64 0] ?_)
    intro b10
    refine L (st [.int .u64 0, .int .u64 0, .int .i64 0] ?_)
    refine os 1 ?_
    refine kp [22, 21, 89, 20, 18, 17, 16, 15, 14, 13, 12, 11, 51, 2, 7, 8, 34, 35, 36, 49, 50] ?_
    refine nsr ?_
    refine os 3 ?_
    refine L (cl (heap_Slot_some hd4.sim.inv.ok (w := (18445055223849287680 + (n : Int))) (objA' (by omega) (by omega)) hx fi_) ?_)
    rintro v15 _ hv15
    obtain rfl : v15 = .tuple #[.agg #[.int .u64 ((descG (slotO x fi_)).1), .int .u64 ((descG (slotO x fi_)).2.1), .int .i64 ((descG (slotO x fi_)).2.2)], .bool ((slotO x fi_).isSome)] := hv15.trans (descR_eq _)
    refine os 3 ?_
    refine L (nw 45 3 [.int .u64 0, .int .u64 0, .int .i64 0] ?_)
    intro b11
    refine L (st [.int .u64 ((descG (slotO x fi_)).1), .int .u64 ((descG (slotO x fi_)).2.1), .int .i64 ((descG (slotO x fi_)).2.2)] ?_)
    refine os 1 ?_
    refine kp [23, 22, 21, 89, 20, 18, 17, 16, 15, 14, 13, 12, 11, 51, 2, 7, 8, 34, 35, 36, 49, 50] ?_
    refine nsr ?_
    refine os 2 ?_
    refine oV (.bool false) ?_
    refine os 14 ?_
    refine kp [120, 23, 22, 21, 89, 20, 18, 17, 16, 15, 14, 13, 12, 11, 51, 2, 7, 8, 34, 35, 36, 49, 50] ?_
    refine nt ?_
    refine cf ?_
    refine Ql (n_in (Qj ?_))
    refine Qn ?_
    refine os 2 ?_
    refine nt ?_
    exact ⟨n + 1, by omega, ⟨fun _ => rfl, ow⟩, by omega⟩
   obtain ⟨fi_, hf_, hs_⟩ := hsl1_ _ hm3
   refine L (cl (heap_Find hd4.sim.inv.ok x.shape key) ?_)
   rintro v16 _ hv16
   obtain rfl : v16 = .tuple #[.int .i64 fi_, .int .i64 m3.2.2, .bool true] := hv16.trans (congrArg three hf_)
   refine os 7 ?_
   refine kp [17, 16, 15, 14, 13, 12, 11, 51, 2, 7, 8, 34, 35, 36, 49, 50] ?_
   refine nsr ?_
   refine L (lds 2 ?_)
   refine os 1 ?_
   refine L (cl (rz_Array hd4.sim.ok (w := (18445055223849287680 + (n : Int))) (wordOk_obj (by omega))) ?_)
   rintro _ _ rfl
   refine os 1 ?_
   refine kp [18, 17, 16, 15, 14, 13, 12, 11, 51, 2, 7, 8, 34, 35, 36, 49, 50] ?_
   refine nsr ?_
   refine os 1 ?_
   refine L (cl (rf_Index key) ?_)
   rintro _ _ rfl
   refine un ?_
   refine os 5 ?_
   refine kp [20, 18, 17, 16, 15, 14, 13, 12, 11, 51, 2, 7, 8, 34, 35, 36, 49, 50] ?_
   refine nq ?_
   refine sr ?_
   refine os 1 ?_
   refine oV (.bool false) ?_
   refine os 3 ?_
   refine tb 82 (fun hg12 => ?_) (fun hg12 => ?_)
   ·replace hg12 : (arrP R4.pub (18445055223849287680 + (n : Int))) = true := hg12
    refine os 2 ?_
    refine tb 84 (fun hg13 => ?_) (fun hg13 => ?_)
    ·replace hg13 : ((idxV key).2) = true := hg13
     refine os 5 ?_
     refine kp [89, 20, 18, 17, 16, 15, 14, 13, 12, 11, 51, 2, 7, 8, 34, 35, 36, 49, 50] ?_
     refine nt ?_
     refine ct ?_
     refine SW_exit (x_then (x_in (Qj ?_)))
     refine Qn ?_
     refine os 2 ?_
     refine nt ?_
     exact ⟨n + 1, by omega, ⟨fun _ => rfl, ow⟩, by omega⟩
    replace hg13 : ((idxV key).2) = false := hg13
    refine os 1 ?_
    refine oX (.bool (key.toList == (ByteArray.mk (List.toArray (List.cons 108 (List.cons 101 (List.cons 110 (List.cons 103 (List.cons 116 (List.cons 104 List.nil)))))))).toList)) (.bool (decide (key = (ByteArray.mk (List.toArray (List.cons 108 (List.cons 101 (List.cons 110 (List.cons 103 (List.cons 116 (List.cons 104 List.nil))))))))))) (congrArg Value.bool (by rw [str_eq])) ?_
    refine os 3 ?_
    refine kp [89, 20, 18, 17, 16, 15, 14, 13, 12, 11, 51, 2, 7, 8, 34, 35, 36, 49, 50] ?_
    refine nt ?_
    refine cdp (fun hc14 : key = (ByteArray.mk (List.toArray (List.cons 108 (List.cons 101 (List.cons 110 (List.cons 103 (List.cons 116 (List.cons 104 List.nil)))))))) => ?_) (fun hc14 => ?_)
    ·refine SW_exit (x_then (x_in (Qj ?_)))
     refine Qn ?_
     refine os 2 ?_
     refine nt ?_
     exact ⟨n + 1, by omega, ⟨fun _ => rfl, ow⟩, by omega⟩
    refine Ql (Qj ?_)
    refine sr ?_
    refine os 3 ?_
    have ho_ : ownQ R4.pub (18445055223849287680 + (n : Int)) key = getQ R4.pub (18445055223849287680 + (n : Int)) key := by first | exact ownQ_plain (by assumption) | exact own_get (by assumption) (by assumption) (by assumption)
    rw [hm3] at ho_
    have hcq_ := prop_Own hL hd4.sim.inv (18445055223849287680 + (n : Int)) hks
    rw [hd4.sim.objs, ho_] at hcq_
    refine L (cl (hcq_) ?_)
    rintro v19 _ hv19
    obtain rfl : v19 = .tuple #[.agg #[.int .u64 m3.1, .int .u64 m3.2.1, .int .i64 m3.2.2], .bool true] := hv19.trans (rfl)
    refine os 3 ?_
    refine L (nw 45 3 [.int .u64 0, .int .u64 0, .int .i64 0] ?_)
    intro b15
    refine L (st [.int .u64 m3.1, .int .u64 m3.2.1, .int .i64 m3.2.2] ?_)
    refine os 1 ?_
    refine kp [22, 21, 89, 20, 18, 17, 16, 15, 14, 13, 12, 11, 51, 2, 7, 8, 34, 35, 36, 49, 50] ?_
    refine nsr ?_
    refine os 3 ?_
    refine L (cl (heap_Slot_some hd4.sim.inv.ok (w := (18445055223849287680 + (n : Int))) (objA' (by omega) (by omega)) hx fi_) ?_)
    rintro v20 _ hv20
    obtain rfl : v20 = .tuple #[.agg #[.int .u64 m3.1, .int .u64 m3.2.1, .int .i64 m3.2.2], .bool true] := hv20.trans (by rw [hs_]; rfl)
    refine os 3 ?_
    refine L (nw 45 3 [.int .u64 0, .int .u64 0, .int .i64 0] ?_)
    intro b16
    refine L (st [.int .u64 m3.1, .int .u64 m3.2.1, .int .i64 m3.2.2] ?_)
    refine os 1 ?_
    refine kp [23, 22, 21, 89, 20, 18, 17, 16, 15, 14, 13, 12, 11, 51, 2, 7, 8, 34, 35, 36, 49, 50] ?_
    refine nsr ?_
    refine os 2 ?_
    refine oV (.bool false) ?_
    refine os 3 ?_
    refine L (lds 3 ?_)
    refine L (lds 3 ?_)
    refine oV (.bool (!((m3.1 == m3.1) && ((m3.2.1 == m3.2.1) && (m3.2.2 == m3.2.2))))) ?_ (hs := neqD)
    refine os 1 ?_
    refine kp [113, 109, 107, 23, 22, 21, 89, 20, 18, 17, 16, 15, 14, 13, 12, 11, 51, 2, 7, 8, 34, 35, 36, 49, 50] ?_
    refine pn 113 (show (!((m3.1 == m3.1) && ((m3.2.1 == m3.2.1) && (m3.2.2 == m3.2.2)))) = false from (by simp)) ?_
    refine os 2 ?_
    refine L (ld ?_)
    refine os 4 ?_
    refine kp [120, 23, 22, 21, 89, 20, 18, 17, 16, 15, 14, 13, 12, 11, 51, 2, 7, 8, 34, 35, 36, 49, 50] ?_
    refine nt ?_
    refine SW_false (fun _ => (congrArg Value.bool (show (m3.2.2 != m3.2.2) = false from (by simp)))) ?_
    refine Ql (n_in (Qj ?_))
    refine Qn ?_
    refine os 2 ?_
    refine nt ?_
    exact ⟨n + 1, by omega, ⟨fun _ => rfl, ow⟩, by omega⟩
   replace hg12 : (arrP R4.pub (18445055223849287680 + (n : Int))) = false := hg12
   refine os 7 ?_
   refine kp [89, 20, 18, 17, 16, 15, 14, 13, 12, 11, 51, 2, 7, 8, 34, 35, 36, 49, 50] ?_
   refine nt ?_
   refine cf ?_
   refine Ql (Qj ?_)
   refine sr ?_
   refine os 3 ?_
   have ho_ : ownQ R4.pub (18445055223849287680 + (n : Int)) key = getQ R4.pub (18445055223849287680 + (n : Int)) key := by first | exact ownQ_plain (by assumption) | exact own_get (by assumption) (by assumption) (by assumption)
   rw [hm3] at ho_
   have hcq_ := prop_Own hL hd4.sim.inv (18445055223849287680 + (n : Int)) hks
   rw [hd4.sim.objs, ho_] at hcq_
   refine L (cl (hcq_) ?_)
   rintro v21 _ hv21
   obtain rfl : v21 = .tuple #[.agg #[.int .u64 m3.1, .int .u64 m3.2.1, .int .i64 m3.2.2], .bool true] := hv21.trans (rfl)
   refine os 3 ?_
   refine L (nw 45 3 [.int .u64 0, .int .u64 0, .int .i64 0] ?_)
   intro b18
   refine L (st [.int .u64 m3.1, .int .u64 m3.2.1, .int .i64 m3.2.2] ?_)
   refine os 1 ?_
   refine kp [22, 21, 89, 20, 18, 17, 16, 15, 14, 13, 12, 11, 51, 2, 7, 8, 34, 35, 36, 49, 50] ?_
   refine nsr ?_
   refine os 3 ?_
   refine L (cl (heap_Slot_some hd4.sim.inv.ok (w := (18445055223849287680 + (n : Int))) (objA' (by omega) (by omega)) hx fi_) ?_)
   rintro v22 _ hv22
   obtain rfl : v22 = .tuple #[.agg #[.int .u64 m3.1, .int .u64 m3.2.1, .int .i64 m3.2.2], .bool true] := hv22.trans (by rw [hs_]; rfl)
   refine os 3 ?_
   refine L (nw 45 3 [.int .u64 0, .int .u64 0, .int .i64 0] ?_)
   intro b19
   refine L (st [.int .u64 m3.1, .int .u64 m3.2.1, .int .i64 m3.2.2] ?_)
   refine os 1 ?_
   refine kp [23, 22, 21, 89, 20, 18, 17, 16, 15, 14, 13, 12, 11, 51, 2, 7, 8, 34, 35, 36, 49, 50] ?_
   refine nsr ?_
   refine os 2 ?_
   refine oV (.bool false) ?_
   refine os 3 ?_
   refine L (lds 3 ?_)
   refine L (lds 3 ?_)
   refine oV (.bool (!((m3.1 == m3.1) && ((m3.2.1 == m3.2.1) && (m3.2.2 == m3.2.2))))) ?_ (hs := neqD)
   refine os 1 ?_
   refine kp [113, 109, 107, 23, 22, 21, 89, 20, 18, 17, 16, 15, 14, 13, 12, 11, 51, 2, 7, 8, 34, 35, 36, 49, 50] ?_
   refine pn 113 (show (!((m3.1 == m3.1) && ((m3.2.1 == m3.2.1) && (m3.2.2 == m3.2.2)))) = false from (by simp)) ?_
   refine os 2 ?_
   refine L (ld ?_)
   refine os 4 ?_
   refine kp [120, 23, 22, 21, 89, 20, 18, 17, 16, 15, 14, 13, 12, 11, 51, 2, 7, 8, 34, 35, 36, 49, 50] ?_
   refine nt ?_
   refine SW_false (fun _ => (congrArg Value.bool (show (m3.2.2 != m3.2.2) = false from (by simp)))) ?_
   refine Ql (n_in (Qj ?_))
   refine Qn ?_
   refine os 2 ?_
   refine nt ?_
   exact ⟨n + 1, by omega, ⟨fun _ => rfl, ow⟩, by omega⟩
  refine SW_exit (x_then (x_then (x_in (n_in (Qj ?_)))))
  refine Qn ?_
  refine os 2 ?_
  refine nt ?_
  exact ⟨(i + 1, H4, R4), by simp only []; omega, ⟨fun _ => rfl, ow⟩, by simp only []; omega, (by simp only []; exact hd4.sim)⟩
 refine SW_exit (x_then (x_then (x_in (Qj ?_))))
 refine sr ?_
 refine os 1 ?_
 refine nt ?_
 refine Qi ?_
 refine Qg (.bool true) (fun _ => rfl) ?_
 exact ⟨(), ⟨_, List.Perm.refl _⟩, rfl⟩

end Go.Proofs.YthflblophelioaaGreatDoor
namespace Go.Proofs.YthflblophelioaaGreatDoor
open Go.Sl Go.ChangeShapes Go.WideShapes Go.ChangeAt Go.RowKit

theorem PropsSlots_contract (H : Type) (enc : TypeId × Value → H) (W : World) (base : Nat) (args : Array Value) (ds gs : List (DataW H)) (before : List MemPlace)
   (hval : ∀ (j : Nat) t v, Tryz.f10.params[j]? = some t → args[j]? = some v → Value.okWide Tryz.prog W .any base t v)
   (hW : DataW.Whole enc Tryz.prog Tryz.f10.params.toList Rows.propsSlotsSpec.vars false W args.toList ds gs before) (hk : Rows.uptoSmall H (ds ++ gs) = true) (hLd : laidMetH Tryz.prog Rows.propsSlotsUptoRow.laid W) :
   Calls Tryz.prog 10 args W fun e W' => ∃ v, e = .returned v ∧ Rows.propsSlotsSpec.post enc Tryz.prog Tryz.f10 false true false false W args v W' := by
 have hL : Laid W := laid_here hLd
 have hW' := hW
 obtain ⟨p, q, hA0, hV, rfl, hfz, hnd⟩ := hW
 have hA : DataW.TrodAll enc Tryz.prog W 0 (fun _ => true) true Tryz.f10.params.toList args.toList ds p := hA0
 rw [Tryz.params10] at hA hval
 obtain ⟨v0, vs0, d0, ds0, p0, q0, hargs, rfl, rfl, h0, r0⟩ := trodAll_cons hA
 obtain ⟨v1, vs1, d1, ds1, p1, q1, rfl, rfl, rfl, h1, r1⟩ := trodAll_cons r0
 obtain ⟨v2, vs2, d2, ds2, p2, q2, rfl, rfl, rfl, h2, r2⟩ := trodAll_cons r1
 obtain ⟨rfl, rfl, rfl⟩ := trodAll_nil r2
 obtain rfl : args = #[v0, v1, v2] := by cases args; simp_all
 obtain ⟨rfl, rfl⟩ := trodVars_none hV
 obtain ⟨a0, rfl, rfl, rfl, w0⟩ := open_int Tryz.underlying3 (hval 0 3 v0 rfl rfl) h0
 obtain ⟨A1, c1, x1, rfl, hs1, hl1, hw1, hc1⟩ := arg_opsw (hval 1 22 v1 rfl rfl) h1 hk (by simp)
 obtain ⟨x2, rfl, hz2⟩ := arg_str hk (by simp) (hval 2 9 v2 rfl rfl) h2
 refine (calls_law (law_PropsSlots hL a0 hs1 hl1 hw1 hz2)).mono fun e W' ⟨he, hb⟩ => ?_
 subst he
 exact ⟨_, rfl, post_law (tb := 4) hW' (by rw [Tryz.params10]; decide) rfl rfl rfl rfl rfl Tryz.underlying4 hb⟩

theorem PropsSlots_reads (os : Os) {H : Type} (enc : TypeId × Value → H) : ∃ places, DataW.whole enc Tryz.prog ((laidWorld os).forCall (fun _ _ => 0) ⟨#[], #[.int .i64 0, .slice none 0 0, .string .empty], []⟩).memory Tryz.f10.params.toList Rows.propsSlotsSpec.vars false #[.int .i64 0, .slice none 0 0, .string .empty].toList 8 = some ([.lit (.int .i64 0), .nil, .lit (.string [])], [], places) :=
 ⟨[], by kernel_rfl⟩
theorem PropsSlots_lifted (os : Os) (started : os.Started) (H : Type) (enc : TypeId × Value → H) (F : Stop.Interp) :
   ReturnsInHanded {} Tryz.checked os 10 .any ((Rows.OpenSpec.upto Rows.propsSlotsSpec).preRow enc Tryz.prog Tryz.f10 Rows.propsSlotsUptoRow.domain false Rows.propsSlotsUptoRow.laid) (((Rows.OpenSpec.upto Rows.propsSlotsSpec).at F).post enc Tryz.prog Tryz.f10 false true false false) := by
 obtain ⟨places, hx⟩ := PropsSlots_reads os enc
 refine returnsInHanded_of_row (C := Tryz.checked) (s := Rows.OpenSpec.upto Rows.propsSlotsSpec) rown started (by kernel_rfl) Tryz.func10
   (witness_row_atRef (enc := enc) (C := Tryz.checked) false (laidWorld os) #[.int .i64 0, .slice none 0 0, .string .empty] rfl (by kernel_rfl) (by kernel_rfl) (by kernel_rfl)
     (OpenSpec.preRow_of_cond 8 hx (by kernel_rfl) (fun k hk => by cases hk; kernel_rfl) (by kernel_rfl) (laid_met os _))) ?_
 intro W base args ds gs before hval hW _ hcond _ hL _ _
 exact PropsSlots_contract H enc W base args ds gs before hval hW (hcond _ rfl) hL

theorem PropsSlots_row : Rows.PropsSlotsUptoSaid :=
 OpenClaim.holds_of_cond 10 Tryz.f10 rfl rfl rfl rfl rfl rfl rfl ⟨rfl, rfl, rfl, rfl, rfl⟩ rfl rfl rfl rfl rfl (by kernel_rfl) Tryz.func10 (by kernel_rfl)
   (of_decide_eq_true (by kernel_rfl)) (by unfold Func.isWrapper; first | (rw [if_pos (by decide +kernel)]; kernel_rfl) | (rw [if_neg (by decide +kernel)]; exact ⟨rfl, rfl⟩))
   (fun os started H enc _ F => by rw [OpenClaim.pre_eq_preRow]; exact PropsSlots_lifted os started H enc F)
theorem PropsSlots_plain (f : FuncId) (fn : Func) (hf : Tryz.pinned.checked.prog.funcNamed "brazier/brazierlaw14.PropsSlots" = some f) (hfn : Tryz.pinned.checked.prog.funcs[f]? = some fn) :
   true = Tryz.pinned.checked.prog.looks [] ∧ ∀ (j : Nat) t, fn.params[j]? = some t → Tryz.pinned.checked.prog.wantsStandIn t = false := by
 obtain rfl : f = 10 := Option.some.inj ((show Tryz.prog.funcNamed "brazier/brazierlaw14.PropsSlots" = some 10 by kernel_rfl).symm.trans hf) |>.symm
 obtain rfl : fn = Tryz.f10 := (Option.some.inj (Tryz.func10.symm.trans hfn)).symm
 refine ⟨by kernel_rfl, fun j t ht => ?_⟩
 rw [Tryz.params10] at ht
 have hm : t = 3 ∨ t = 22 ∨ t = 9 := by simpa using Array.mem_of_getElem? ht
 rcases hm with rfl | rfl | rfl
 · exact (show Tryz.prog.wantsStandIn 3 = false by kernel_rfl)
 · exact (show Tryz.prog.wantsStandIn 22 = false by kernel_rfl)
 · exact (show Tryz.prog.wantsStandIn 9 = false by kernel_rfl)
theorem PropsSlots_proved : Rows.PropsSlotsUptoCardSaid :=
 Claim7.holds_tied_plain_at .later [] _ _ _ _ PropsSlots_row (fun _ h => by cases h) (by kernel_rfl) (fun _ h => by cases h) propsSlotsUpto_row_tie rfl ⟨rfl, rfl⟩ (by kernel_rfl) rfl PropsSlots_plain (by kernel_rfl)
end Go.Proofs.YthflblophelioaaGreatDoor
