/-
  PropsFixed, within the bound on what it reads, and tied to the program's text: it returns true whatever it is given, and leaves its arguments as they were. Conditions: the arguments' bulk is at most 1048576; the listed library variables stand as their text lays them, as the statement says.
-/
import Derived.Test.YthflblophelioaaGreatDoorPf9
import Derived.Test.YthflblophelioaaGreatDoorPf8
import Derived.Test.YthflblophelioaaGreatDoorPf7
import Derived.Test.YthflblophelioaaGreatDoorPf1
import Derived.Deep.Slices
set_option linter.unusedVariables false
set_option linter.unusedSimpArgs false
set_option maxRecDepth 100000
set_option maxHeartbeats 4000000
namespace Go.Proofs.YthflblophelioaaGreatDoor
open Go.Sl

theorem prop_Keys {W0 : World} (hL : Laid W0) {k : Nat} {H : HeapV} {F : HeapF} (h : HInv k H F) (hk : k ≤ 8000000) (w : Int) : SC Tryz.prog W0 23 #[.pointer (some ⟨F.p, 0, none⟩), .int .u64 w] (HeapV.ent H F) (Ret (fun g : Gs => g.ent 9 1 ((keysP' (HeapV.pub H F) w).map Qu) ++ HeapV.ent H F) (fun v g => v = g.val (keysP' (HeapV.pub H F) w).length ∧ g.ok 1 (keysP' (HeapV.pub H F) w).length ((keysP' (HeapV.pub H F) w).map Qu))) := by
 have hln := h.lok.lenN w
 have hnn := h.lok.namesN w
 refine Qy (fn := Tryz.f23) (n := 58) Tryz.func23 rfl (by kernel_rfl) (ρ := [(0, pt F.p 0), (1, .int .u64 w)]) rfl ?_
 refine QH ((HeapV.ent H F) ++ ([])) (by simp only [List.append_nil, List.append_assoc]) ?_
 refine sr ?_
 refine os 1 ?_
 refine nsr ?_
 refine os 1 ?_
 refine nq ?_
 refine sr ?_
 refine os 2 ?_
 refine L (cl (hz_Len h w) ?_)
 rintro _ _ rfl
 refine os 1 ?_
 refine nt ?_
 refine QM ?_
 refine SW_loop (α := Nat × Gs × List ByteArray) (fun z_ ρ_ σ_ => Fits ρ_ σ_ [(0, pt F.p 0), (1, .int .u64 w), (15, .int .i64 (lenN (HeapV.pub H F) w : Int)), (5, Gs.val z_.2.1 z_.2.2.length), (16, .int .i64 (z_.1 : Int))] ((Gs.ent 9 1 z_.2.1 (z_.2.2.map Qu)) ++ ((HeapV.ent H F) ++ ([]))) ∧ z_.1 ≤ lenN (HeapV.pub H F) w ∧ Gs.ok 1 z_.2.2.length z_.2.1 (z_.2.2.map Qu) ∧ z_.2.2 = (keysE (HeapV.pub H F) w z_.1)) (fun z_ => lenN (HeapV.pub H F) w - z_.1) (0, Gs.nil, ([] : List ByteArray)) ⟨⟨fun _ => rfl, (Own.of_perm (List.Perm.of_eq (by simp [Gs.ent])))⟩, Nat.zero_le _, ⟨rfl, rfl⟩, rfl⟩ ?_
 rintro ⟨i, a, ys⟩ ρ_ σ_ ⟨hfit, hi0, hi1, hi2⟩
 refine Q3 hfit ?_
 clear hfit
 simp only [] at hi0 hi1 hi2 ⊢
 have hle : ys.length ≤ 4096 := by rw [hi2]; exact Nat.le_trans (keysE_len _ _ _) (by omega)
 refine sr ?_
 refine os 1 ?_
 refine nq ?_
 refine cdp (fun hc1 : (i : Int) < (lenN (HeapV.pub H F) w : Int) => ?_) (fun hc1 => ?_)
 ·refine Ql (Qi ?_)
  refine Qx ?_
  refine QM ?_
  refine sr ?_
  refine os 2 ?_
  refine nsr ?_
  refine os 3 ?_
  refine L (cl (hz_Elem h w (i : Int)) ?_)
  rintro _ _ rfl
  refine os 5 ?_
  refine kp [8, 6, 17, 0, 1, 15, 5, 16] ?_
  refine nsr ?_
  refine os 1 ?_
  refine nt ?_
  refine cd (fun hc2 : ((elemQ (HeapV.pub H F) w (i : Int)).2) = true => ?_) (fun hc2 => ?_)
  ·refine Qm ?_
   refine os 2 ?_
   refine L (cl (str_Itoa hL (i : Int) (by first | omega | (simp at *; omega))) ?_)
   rintro _ _ rfl
   refine un ?_
   refine L (nws 9 1 1 [.string (⟨(Lib.itoa (i : Int)).toArray⟩ : ByteArray)] ?_)
   intro b3
   refine Q4 _ (QC (Qr QE)) ?_
   refine L (QU (size := 1) (bytes := 16) (z := .string ByteArray.empty) a ys.length 1 (some ⟨b3, 0, none⟩) 1 (ys.map Qu) ([.string (⟨(Lib.itoa (i : Int)).toArray⟩ : ByteArray)]) ((ys ++ [(⟨(Lib.itoa (i : Int)).toArray⟩ : ByteArray)]).map Qu) (map_snoc _ (⟨(Lib.itoa (i : Int)).toArray⟩ : ByteArray) rfl) (fun _ => rfl) (fun _ => rfl) Tryz.underlying26 (by kernel_rfl) rfl (by decide) hi1 rfl (.inr ⟨b3, 0, rfl, Cells.own (Qa Qe) rfl⟩) rfl (by omega) (by decide) rfl ?_)
   intro s4 hks4 hfs4
   rw [show ys.length + 1 = (ys ++ [(⟨(Lib.itoa (i : Int)).toArray⟩ : ByteArray)]).length from by simp]
   rw [show ys.length + 1 = (ys ++ [(⟨(Lib.itoa (i : Int)).toArray⟩ : ByteArray)]).length from by simp] at hks4
   have hls4 : (ys ++ [(⟨(Lib.itoa (i : Int)).toArray⟩ : ByteArray)]).length = ys.length + 1 := by simp
   refine os 1 ?_
   refine kp [5, 26, 8, 6, 17, 0, 1, 15, 16] ?_
   refine Q5 (n_in (Qi ?_))
   refine Qm ?_
   refine os 2 ?_
   refine nt ?_
   refine ⟨(i + 1, s4, (ys ++ [(⟨(Lib.itoa (i : Int)).toArray⟩ : ByteArray)])), by simp only []; omega, ?_⟩
   simp only []
   exact ⟨⟨fun _ => rfl, ow⟩, by omega, hks4, by rw [keysE_succ, if_pos (by assumption), hi2]⟩
  refine Ql (n_in (Qi ?_))
  refine Qm ?_
  refine os 2 ?_
  refine nt ?_
  refine ⟨(i + 1, a, ys), by simp only []; omega, ?_⟩
  simp only []
  exact ⟨⟨fun _ => rfl, ow⟩, by omega, hi1, by rw [keysE_succ, ite_ff (by assumption), hi2]; exact (List.append_nil _).symm⟩
 refine SW_exit (QW (QW (x_in (Qi ?_))))
 refine Qx ?_
 refine sr ?_
 refine os 2 ?_
 refine L (cl (hz_Keys hk h w) ?_)
 rintro _ kg ⟨rfl, hkg⟩
 refine un ?_
 refine os 2 ?_
 refine nt ?_
 refine QM ?_
 have hie : i = lenN (HeapV.pub H F) w := by omega
 refine SW_loop (α := Nat × Gs × List ByteArray) (fun z_ ρ_ σ_ => Fits ρ_ σ_ [(0, pt F.p 0), (1, .int .u64 w), (35, Gs.val kg ((namesQ (HeapV.pub H F) w).length)), (36, .int .i64 ((((namesQ (HeapV.pub H F) w).length : Nat)) : Int)), (5, Gs.val z_.2.1 z_.2.2.length), (37, .int .i64 (z_.1 : Int))] ((Gs.ent 9 1 z_.2.1 (z_.2.2.map Qu)) ++ ((Gs.ent 9 1 kg ((namesQ (HeapV.pub H F) w).map Qu)) ++ ((HeapV.ent H F) ++ ([])))) ∧ z_.1 ≤ (namesQ (HeapV.pub H F) w).length ∧ Gs.ok 1 z_.2.2.length z_.2.1 (z_.2.2.map Qu) ∧ z_.2.2 = keysE (HeapV.pub H F) w (lenN (HeapV.pub H F) w) ++ keysN (HeapV.pub H F) w ((namesQ (HeapV.pub H F) w).take z_.1)) (fun z_ => (namesQ (HeapV.pub H F) w).length - z_.1) (0, a, ys) ⟨⟨fun _ => rfl, ow⟩, Nat.zero_le _, hi1, (by rw [hi2, hie]; exact (List.append_nil _).symm)⟩ ?_
 rintro ⟨j, b, zs⟩ ρ_ σ_ ⟨hfit, hi0, hi1, hi2⟩
 refine Q3 hfit ?_
 clear hfit
 simp only [] at hi0 hi1 hi2 ⊢
 have hle2 : zs.length ≤ 4096 + (namesQ (HeapV.pub H F) w).length := by rw [hi2, List.length_append]; exact Nat.add_le_add (Nat.le_trans (keysE_len _ _ _) (by omega)) (Nat.le_trans (keysN_len _ _ _) (List.length_take_le' _ _))
 refine sr ?_
 refine os 1 ?_
 refine nq ?_
 refine cdp (fun hc5 : (j : Int) < ((((namesQ (HeapV.pub H F) w).length : Nat)) : Int) => ?_) (fun hc5 => ?_)
 ·refine Ql (Qi ?_)
  refine Qx ?_
  refine QM ?_
  refine sr ?_
  refine L (ixg (j : Int) (j) hkg Tryz.underlying26 ?_)
  obtain ⟨e1, he1⟩ : ∃ y_, (namesQ (HeapV.pub H F) w)[j]? = some y_ := ⟨_, List.getElem?_eq_getElem (by omega)⟩
  refine L (ld ?_ (hc := Gs.cell hkg (fun e he => (Qa (Qt he))) (map_cell he1 rfl)))
  refine os 1 ?_
  refine nsr ?_
  refine os 3 ?_
  refine L (cl (hz_Get h w e1) ?_)
  rintro v5 _ hv5
  obtain rfl : v5 = .tuple #[.agg #[.int .u64 ((Qq (getQ (HeapV.pub H F) w e1)).1), .int .u64 ((Qq (getQ (HeapV.pub H F) w e1)).2.1), .int .i64 ((Qq (getQ (HeapV.pub H F) w e1)).2.2)], .bool ((getQ (HeapV.pub H F) w e1).isSome)] := hv5.trans (Q7 _)
  refine os 3 ?_
  refine kp [47, 46, 10, 38, 0, 1, 35, 36, 5, 37] ?_
  refine L (nw 45 3 [.int .u64 0, .int .u64 0, .int .i64 0] ?_)
  intro b6
  refine L (st [.int .u64 ((Qq (getQ (HeapV.pub H F) w e1)).1), .int .u64 ((Qq (getQ (HeapV.pub H F) w e1)).2.1), .int .i64 ((Qq (getQ (HeapV.pub H F) w e1)).2.2)] ?_)
  refine os 1 ?_
  refine kp [11, 10, 38, 0, 1, 35, 36, 5, 37] ?_
  refine nsr ?_
  refine os 1 ?_
  refine L (ld ?_)
  refine oV (.int .i64 (QF ((Qq (getQ (HeapV.pub H F) w e1)).2.2) 2)) ?_
  refine os 1 ?_
  refine kp [51, 11, 10, 38, 0, 1, 35, 36, 5, 37] ?_
  refine nt ?_
  refine cd (fun hc7 : ((QF ((Qq (getQ (HeapV.pub H F) w e1)).2.2) 2) != 0) = true => ?_) (fun hc7 => ?_)
  ·refine Qm ?_
   refine os 2 ?_
   refine L (nws 9 1 1 [.string e1] ?_)
   intro b8
   refine Q4 _ (QC (QC (Qr QE))) ?_
   refine L (QU (size := 1) (bytes := 16) (z := .string ByteArray.empty) b zs.length 1 (some ⟨b8, 0, none⟩) 1 (zs.map Qu) ([.string e1]) ((zs ++ [e1]).map Qu) (map_snoc _ e1 rfl) (fun _ => rfl) (fun _ => rfl) Tryz.underlying26 (by kernel_rfl) rfl (by decide) hi1 rfl (.inr ⟨b8, 0, rfl, Cells.own (Qa Qe) rfl⟩) rfl (by omega) (by decide) rfl ?_)
   intro s9 hks9 hfs9
   rw [show zs.length + 1 = (zs ++ [e1]).length from by simp]
   rw [show zs.length + 1 = (zs ++ [e1]).length from by simp] at hks9
   have hls9 : (zs ++ [e1]).length = zs.length + 1 := by simp
   refine os 1 ?_
   refine kp [5, 51, 11, 10, 38, 0, 1, 35, 36, 37] ?_
   refine Q5 (n_in (Qi ?_))
   refine Qm ?_
   refine os 2 ?_
   refine nt ?_
   refine ⟨(j + 1, s9, (zs ++ [e1])), by simp only []; omega, ?_⟩
   simp only []
   exact ⟨⟨fun _ => rfl, ow⟩, by omega, hks9, by rw [keysN_succ _ _ _ he1, if_pos (by assumption), hi2]; exact List.append_assoc _ _ _⟩
  refine Ql (n_in (Qi ?_))
  refine Qm ?_
  refine os 2 ?_
  refine nt ?_
  refine ⟨(j + 1, b, zs), by simp only []; omega, ?_⟩
  simp only []
  exact ⟨⟨fun _ => rfl, ow⟩, by omega, hi1, by rw [keysN_succ _ _ _ he1, ite_ff (by assumption), hi2]; rw [List.append_nil]⟩
 refine SW_exit (QW (QW (x_in (Qi ?_))))
 refine sr ?_
 refine os 2 ?_
 refine nt ?_
 refine Qj ?_
 refine Qh (Gs.val b zs.length) (fun _ => rfl) ?_
 have e : keysP' (HeapV.pub H F) w = zs := by rw [hi2, show j = (namesQ (HeapV.pub H F) w).length from by omega, List.take_length]; rfl
 rw [e]
 exact ⟨b, Own.trans (ow (S := ((Gs.ent 9 1 b (zs.map Qu)) ++ ((HeapV.ent H F) ++ ([]))))) (Own.of_perm (List.Perm.of_eq (by simp only [List.append_nil]))), rfl, hi1⟩

end Go.Proofs.YthflblophelioaaGreatDoor
namespace Go.Proofs.YthflblophelioaaGreatDoor
open Go.Sl
abbrev wA : Int := 18445055223849287680
abbrev wB : Int := 18445055223849287681
abbrev vA : Int := 18444773748872577027
abbrev lA1 : List ObjS := [newS 0 nullW]
abbrev lA2 : List ObjS := [newS 0 nullW, newS 0 wA]
theorem alive_make1 : makeV [] 0 nullW = (wA, true) ∧ makeL [] 0 nullW = lA1 := by
 have h : mayP [] 0 nullW := ⟨by decide, .inl rfl, by decide⟩
 unfold makeV makeL
 rw [if_pos h, if_pos h]
 exact ⟨rfl, rfl⟩
theorem alive_make2 : makeV lA1 0 wA = (wB, true) ∧ makeL lA1 0 wA = lA2 := by
 have h : mayP lA1 0 wA := ⟨by decide, .inr (by decide), by decide⟩
 unfold makeV makeL
 rw [if_pos h, if_pos h]
 exact ⟨rfl, rfl⟩
theorem alive_asg : (asgP lA2 wA keyA vA).2 = (undefW, 0) := by decide +kernel
theorem alive_look : QR (asgP lA2 wA keyA vA).1 wB keyA = some (wA, (vA, undefW, 7)) := by decide +kernel
theorem refInt3 : refInt 3 = vA := by decide +kernel
theorem flags_A2 : ∀ o ∈ lA2, ∀ d ∈ o.descs, Qv d.2.2 = d.2.2 := by
 intro o ho d hd
 simp at ho
 rcases ho with rfl | rfl <;> simp at hd
end Go.Proofs.YthflblophelioaaGreatDoor
namespace Go.Proofs.YthflblophelioaaGreatDoor
open Go.Sl
variable {k : Nat} {H H2 : HeapV} {F : HeapF} {R R2 : RSt} {W0 : World} {x : OpW}
structure SimW (k : Nat) (H : HeapV) (F : HeapF) (R : RSt) : Prop where
  inv : HInv k H F
  ok : R.ok
  objs : H.pub F = R.pub
  texts : H.texts = R.texts
  doc : DOk R.pub
  named : Named R.pub
theorem SimW.lok (h : SimW k H F R) : LOk k R.pub := h.objs ▸ h.inv.lok
theorem SimW.nodup (h : SimW k H F R) : ∀ o ∈ R.pub, o.names.Nodup := fun o ho => h.inv.nodup (by rw [h.objs]; exact ho)
theorem SimW.nice (h : SimW k H F R) : Nice R.pub := ⟨h.doc, h.named, h.nodup, h.lok.same, h.lok.elems, h.lok.len⟩
theorem SimW.mono (h : SimW k H F R) {k' : Nat} (hk : k ≤ k') : SimW k' H F R := ⟨h.inv.mono hk, h.ok, h.objs, h.texts, h.doc, h.named⟩
theorem SimW.flags (h : SimW k H F R) : ∀ o ∈ HeapV.pub H F, ∀ d ∈ o.descs, Qv d.2.2 = d.2.2 := by rw [h.objs]; exact h.doc.flags
theorem SimW.ends (h : SimW k H F R) (p : Int) : Ends (HeapV.pub H F) p := by rw [h.objs]; exact h.doc.ends p
theorem SimW.protos (h : SimW k H F R) : ProtosIn (HeapV.pub H F) := by rw [h.objs]; exact h.doc.protos
theorem SimW.keysLen (h : SimW k H F R) (w : Int) : (keysP' R.pub w).length ≤ 4096 + k := by
 unfold keysP'
 rw [List.length_append]
 exact Nat.add_le_add (Nat.le_trans (keysE_len _ _ _) (h.lok.lenN w)) (Nat.le_trans (keysN_len _ _ _) (h.lok.namesN w))
structure DidW (k : Nat) (H : HeapV) (F : HeapF) (R : RSt) (x : OpW) (H2 : HeapV) (R2 : RSt) : Prop where
  sim : SimW (k + 1) H2 F R2
  doc : R2.pub = pStep R.pub x
theorem DidW.mk' (hS : SimW k H F R) (hx : OwOk x) {l : List ObjS} (hd : pStep R.pub x = l) (hi : HInv (k + 1) H2 F) (hp : H2.pub F = l) (ht : H2.texts = H.texts) (hR : R2.ok) (hp2 : R2.pub = l) (ht2 : R2.texts = R.texts) : DidW k H F R x H2 R2 := by
 have hc := pStep_chg (l := R.pub) hx.p hx.key
 have e : R2.pub = pStep R.pub x := hp2.trans hd.symm
 exact ⟨⟨hi, hR, hp.trans hp2.symm, by rw [ht, ht2, hS.texts], by rw [e]; exact hc.doc hS.doc, by rw [e]; exact hc.named hS.named⟩, e⟩
theorem DidW.same (hS : SimW k H F R) (hx : OwOk x) (hd : pStep R.pub x = R.pub) : DidW k H F R x H R := .mk' hS hx hd (hS.inv.mono (Nat.le_succ _)) hS.objs rfl hS.ok rfl rfl
theorem DidW.pst (hS : SimW k H F R) (hx : OwOk x) {k' : Nat} {l : List ObjS} (hk : k' ≤ k + 1) (hst : PStp k' H H2 F l) (hR : R2.ok) (hp2 : R2.pub = l) (ht2 : R2.texts = R.texts) (hd : pStep R.pub x = l) : DidW k H F R x H2 R2 :=
 .mk' hS hx hd (hst.inv.mono hk) hst.pub hst.texts hR hp2 ht2
theorem SimW.shut (hS : SimW k H F R) {w : Int} {t : List ByteArray} {m : Prop} (hst : Stp k H H2 F (modP R.pub w shutO) t w m) (htx : t = H.texts) (hR : R2.ok) (hp2 : R2.pub = modP R.pub w shutO) (ht2 : R2.texts = R.texts) : SimW k H2 F R2 :=
 ⟨hst.inv, hR, hst.pub.trans hp2.symm, by rw [hst.texts, htx, ht2, hS.texts], by rw [hp2]; exact (ChgP.shut w).doc hS.doc, by rw [hp2]; exact (ChgP.shut w).named hS.named⟩
theorem Named.nil : Named [] := fun o ho => by cases ho
theorem SimW.new (hI : HInv 0 H F) (hp : H.pub F = []) (ht : H.texts = []) : SimW 0 H F RSt.none :=
 ⟨hI, ⟨⟨rfl, rfl⟩, fun y hy => (by cases hy), ⟨rfl, rfl⟩⟩, hp, ht, DOk.nil, Named.nil⟩
end Go.Proofs.YthflblophelioaaGreatDoor
namespace Go.Proofs.YthflblophelioaaGreatDoor
open Go.Sl Go.ChangeShapes Go.WideShapes Go.ChangeAt Go.RowKit Go.Deep
theorem wf_word {n : Int} (h : (Lit.int .u64 n).wf = true) : QK n := by
 simp [Lit.wf, IntKind.min, IntKind.max, IntKind.bits, IntKind.signed] at h
 exact ⟨by omega, by omega⟩
theorem pc : Tryz.prog.cellsOf 37 = 11 := by kernel_rfl
theorem pc_int : Tryz.prog.cellsOf 3 = 1 := by kernel_rfl
theorem pc_word : Tryz.prog.cellsOf 33 = 1 := by kernel_rfl
theorem pc_str : Tryz.prog.cellsOf 9 = 1 := by kernel_rfl
theorem pc_wish : Tryz.prog.cellsOf 35 = 5 := by kernel_rfl
theorem open_opw {H : Type} {enc : TypeId × Value → H} {W : World} {fuel : Nat} {cs : List Value} {d : DataW H} {ps : List MemPlace} (h : DataW.trod enc Tryz.prog W 0 (fun _ => true) true fuel 37 cs = some (d, ps)) (hb : Rows.uptoBulk d ≤ 1048576) :
   ∃ x : OpW, cs = x.cells ∧ OwOk x := by
 obtain ⟨xs, n, rfl, hx, hlen, hxl, hall⟩ := DataW.trod_struct Tryz.underlying37 h
 rw [pc] at hlen
 match cs, hlen with
 | [c0, c1, c2, c3, c4, c5, c6, c7, c8, c9, c10], _ =>
   match xs, hxl with
   | [y0, y1, y2, y3, y4, y5, y6], _ =>
     have h0 := hall 0 _ rfl
     have h1 := hall 1 _ rfl
     have h2 := hall 2 _ rfl
     have h3 := hall 3 _ rfl
     have h4 := hall 4 _ rfl
     have h5 := hall 5 _ rfl
     have h6 := hall 6 _ rfl
     simp only [pc_int, pc_word, pc_str, pc_wish, List.drop, List.take, List.getElem?_cons_zero, List.getElem?_cons_succ] at h0 h1 h2 h3 h4 h5 h6
     obtain ⟨n0, e0, -, -⟩ := DataW.trod_int Tryz.underlying3 h0
     obtain ⟨n1, e1, -, w1⟩ := DataW.trod_int Tryz.underlying33 h1
     obtain ⟨n2, e2, -, w2⟩ := DataW.trod_int Tryz.underlying33 h2
     obtain ⟨s3, e3, x3, -⟩ := DataW.trod_string Tryz.underlying9 h3
     obtain ⟨zs, m, -, -, -, hzl, hz⟩ := DataW.trod_struct Tryz.underlying35 h4
     match zs, hzl with
     | [u0, u1, u2, u3, u4], _ =>
       have g0 := hz 0 _ rfl
       have g1 := hz 1 _ rfl
       have g2 := hz 2 _ rfl
       have g3 := hz 3 _ rfl
       have g4 := hz 4 _ rfl
       simp only [pc_int, pc_word, List.drop, List.take, List.getElem?_cons_zero, List.getElem?_cons_succ] at g0 g1 g2 g3 g4
       obtain ⟨a0, f0, -, -⟩ := DataW.trod_int Tryz.underlying3 g0
       obtain ⟨a1, f1, -, q1⟩ := DataW.trod_int Tryz.underlying33 g1
       obtain ⟨a2, f2, -, q2⟩ := DataW.trod_int Tryz.underlying33 g2
       obtain ⟨a3, f3, -, q3⟩ := DataW.trod_int Tryz.underlying33 g3
       obtain ⟨a4, f4, -, -⟩ := DataW.trod_int Tryz.underlying3 g4
       obtain ⟨n5, e5, -, w5⟩ := DataW.trod_int Tryz.underlying33 h5
       obtain ⟨n6, e6, -, -⟩ := DataW.trod_int Tryz.underlying3 h6
       cases e0; cases e1; cases e2; cases e3; cases f0; cases f1; cases f2; cases f3; cases f4; cases e5; cases e6
       simp only [Prod.mk.injEq] at hx
       have hd := hx.1
       subst hd
       have h7 := part_leB (d := y3.1) (l := [y0, y1, y2, y3, y4, y5, y6].map (·.1)) (by simp)
       have h8 : y3.1 = .lit (.string s3.data.toList) := congrArg Prod.fst x3
       rw [h8] at h7
       simp only [Rows.uptoBulk] at hb h7
       have h9 : s3.data.toList.length = s3.size := by simp
       have hk : s3.size ≤ 281474976710656 := by omega
       exact ⟨⟨n0, n1, n2, s3, ⟨a0, a1, a2, a3, a4⟩, n5, n6⟩, rfl, wf_word w1, wf_word w2, wf_word q1, wf_word q2, wf_word w5, hk⟩
theorem arg_opsw {H : Type} {enc : TypeId × Value → H} {W : World} {b0 : Nat} {v : Value} {d : DataW H} {ps : List MemPlace} {l : List (DataW H)}
   (hv : Value.okWide Tryz.prog W .any b0 22 v) (hd : DataW.Trod enc Tryz.prog W 0 (fun _ => true) true 22 v d ps) (hk : Rows.uptoSmall H l = true) (hm : d ∈ l) :
   ∃ (A : Option Addr) (c : Nat) (xs : List OpW), v = .slice A xs.length c ∧ (∀ σ, Src W σ A (xs.flatMap OpW.cells)) ∧ xs.length ≤ 1048576 ∧ (∀ x ∈ xs, OwOk x) ∧ xs.length ≤ c := by
 obtain ⟨A, len, cap, rfl⟩ := okWide_slice Tryz.underlying22 hv
 obtain ⟨fuel, hf⟩ := hd
 rcases open_slice Tryz.underlying22 hf with ⟨hx, _⟩ | ⟨a, len', cap', m, n, D, Pl, hcs, _, hl, hcm, hmm, hx, hall⟩
 · have e1 : Value.slice A len cap = .slice none 0 0 := by have q : [Value.slice A len cap] = [.slice none 0 0] := hx; simpa using q
   cases e1
   exact ⟨none, 0, [], rfl, fun σ => .inl rfl, Nat.zero_le _, fun n hn => (by cases hn), Nat.zero_le _⟩
 · have e1 : Value.slice A len cap = .slice (some a) len' cap' := by have q : [Value.slice A len cap] = [.slice (some a) len' cap'] := hcs; simpa using q
   cases e1
   simp only [Prod.mk.injEq] at hx
   obtain ⟨rfl, -⟩ := hx
   simp only [if_true] at hmm
   subst hmm
   rw [pc] at hall
   have hb := slice_leB hk hm
   have hch : ∀ i, i < len → ∃ x : OpW, W.cells? 0 (a.add (i * 11)) 11 = some x.cells ∧ OwOk x := fun i hi => by
     obtain ⟨cs', h1, h2⟩ := hall i (by omega)
     obtain ⟨x, rfl, hx⟩ := open_opw h2 (by
       have := part_leB (d := D i) (l := (List.range len).map D) (List.mem_map_of_mem (List.mem_range.2 hi))
       omega)
     exact ⟨x, h1, hx⟩
   haveI : Inhabited OpW := ⟨⟨0, 0, 0, .empty, ⟨0, 0, 0, 0, 0⟩, 0, 0⟩⟩
   obtain ⟨X, hX⟩ := choose_lt hch
   have hlen : ((List.range len).map X).length = len := by simp
   refine ⟨some a, m, (List.range len).map X, by rw [hlen], fun σ => ?_, ?_, fun x hx => ?_, by rw [hlen]; exact hl⟩
   · by_cases h0 : len = 0
     · exact .inl (by simp [h0])
     · have hcell : ∀ (i j : Nat), i < len → j < 11 → ∀ v, (X i).cells[j]? = some v → W.cell? ((a.add (i * 11)).add j) = some v := fun i j hi hj v hv => by
         obtain ⟨_, h2, h3⟩ := World.cells?_some (hX i hi).1
         have := h3 j hj
         rw [this]; exact hv
       have hp : a.spot = none := by
         have := hcell 0 0 (by omega) (by decide) _ rfl
         cases a with
         | mk b o p => cases p with
           | none => rfl
           | some q => simp only [Addr.add, World.cell?, if_true, Option.isSome_some] at this; split at this <;> cases this
       refine .inr ⟨a.block, a.off, ?_, cells_old fun i v hi => ?_⟩
       · cases a; simp only [] at hp; subst hp; rfl
       · have hi' := (List.getElem?_eq_some_iff.1 hi).1
         rw [QI OpW.len, hlen] at hi'
         have hij : i = i / 11 * 11 + i % 11 := by omega
         have hv' : (X (i / 11)).cells[i % 11]? = some v := by
           have hget : ((List.range len).map X)[i / 11]? = some (X (i / 11)) := by simp [show i / 11 < len by omega]
           have := flat_get OpW.len _ _ (i % 11) _ hget (by omega)
           rw [← hij] at this
           rw [← this]; exact hi
         have := hcell (i / 11) (i % 11) (by omega) (by omega) v hv'
         cases a
         simp only [] at hp; subst hp
         rw [Addr.add_mid, Addr.add_mid, Nat.add_assoc, ← hij] at this
         exact this
   · have h1 := length_leB (H := H) ((List.range len).map D)
     simp only [List.length_map, List.length_range] at h1 ⊢
     omega
   · simp only [List.mem_map, List.mem_range] at hx
     obtain ⟨i, hi, rfl⟩ := hx
     exact (hX i hi).2
end Go.Proofs.YthflblophelioaaGreatDoor
namespace Go.Proofs.YthflblophelioaaGreatDoor
open Go.Sl

theorem law_keys14 {W0 : World} (hL : Laid W0) {k : Nat} {H : HeapV} {F : HeapF} {R : RSt} (hS : SimW k H F R) (hk : k ≤ 8000000) {w : Int} (hw : QK w) : SC Tryz.prog W0 43 #[.pointer (some ⟨F.p, 0, none⟩), R.val, .int .u64 w] (HeapV.ent H F ++ (RSt.ent R ++ [])) (Ret (fun _ : Unit => (HeapV.ent H F ++ (RSt.ent R ++ []))) (fun v _ => v = .bool true)) := by
 have hkl := hS.keysLen w
 refine Qy (fn := Tryz.f43) (n := 36) Tryz.func43 rfl (by kernel_rfl) (ρ := [(0, pt F.p 0), (1, .agg #[Gs.val R.s R.objs.length, Gs.val R.ts R.texts.length]), (2, .int .u64 w)]) rfl ?_
 refine sr ?_
 refine L (nw 28 2 [Gs.val R.s R.objs.length, Gs.val R.ts R.texts.length] ?_)
 intro b1
 refine os 1 ?_
 refine nsr ?_
 refine os 2 ?_
 have hKq_ := prop_Keys hL hS.inv hk w
 rw [hS.objs] at hKq_
 refine L (cl (hKq_) ?_)
 rintro _ kg ⟨rfl, hkg⟩
 refine un ?_
 refine os 1 ?_
 refine kp [7, 6, 4, 0, 1, 2] ?_
 refine nsr ?_
 refine L (lds 2 ?_)
 refine os 1 ?_
 refine L (cl (rz_Keys hS.ok hS.lok hk hw hS.nodup) ?_)
 rintro _ rg ⟨rfl, hrg⟩
 refine un ?_
 refine os 1 ?_
 refine kp [8, 7, 6, 4, 0, 1, 2] ?_
 refine nq ?_
 refine sr ?_
 refine os 5 ?_
 refine kp [20, 8, 7, 6, 4, 0, 1, 2] ?_
 refine nt ?_
 refine SW_false (fun _ => (congrArg Value.bool (show (((((keysP' R.pub w).length : Nat)) : Int) != ((((keysP' R.pub w).length : Nat)) : Int)) = false from (by simp)))) ?_
 refine Ql (Qi ?_)
 refine Qx ?_
 refine sr ?_
 refine os 3 ?_
 refine nt ?_
 refine QM ?_
 refine SW_loop (α := Nat) (fun z_ ρ_ σ_ => Fits ρ_ σ_ [(7, Gs.val kg ((keysP' R.pub w).length)), (8, Gs.val rg ((keysP' R.pub w).length)), (22, .int .i64 ((((keysP' R.pub w).length : Nat)) : Int)), (23, .int .i64 (z_ : Int))] ((Gs.ent 9 1 rg ((keysP' R.pub w).map Qu)) ++ ((RSt.ent R) ++ ((Gs.ent 9 1 kg ((keysP' R.pub w).map Qu)) ++ ((HeapV.ent H F) ++ ((b1, .cells 28 2 [Gs.val R.s R.objs.length, Gs.val R.ts R.texts.length]) :: ([])))))) ∧ z_ ≤ (keysP' R.pub w).length) (fun z_ => (keysP' R.pub w).length - z_) 0 ⟨⟨fun _ => rfl, ow⟩, Nat.zero_le _⟩ ?_
 rintro i ρ_ σ_ ⟨hfit, hi0⟩
 refine Q3 hfit ?_
 clear hfit
 refine sr ?_
 refine os 1 ?_
 refine nq ?_
 refine cdp (fun hc2 : (i : Int) < ((((keysP' R.pub w).length : Nat)) : Int) => ?_) (fun hc2 => ?_)
 ·refine Ql (Qi ?_)
  refine Qx ?_
  refine QM ?_
  refine sr ?_
  refine os 2 ?_
  refine nq ?_
  obtain ⟨e1, he1⟩ : ∃ y_, (keysP' R.pub w)[i]? = some y_ := ⟨_, List.getElem?_eq_getElem (by omega)⟩
  refine QV [((Gs.blk kg), i, .string e1), ((Gs.blk rg), i, .string e1)] [0, 1, 2, 3, 4, 5, 6, 7] (by kernel_rfl) (Qf (Gs.cell hkg (fun e he => (Qa (Qa (Qt he)))) (map_cell he1 rfl)) (Qf (Gs.cell hrg (fun e he => (Qt he)) (map_cell he1 rfl)) QP)) ?_
  refine aS 0 ?_
  refine aS 1 ?_
  refine aI 2 (i : Int) (i) hkg Tryz.underlying26 ?_
  refine aL 3 ?_
  refine aS 4 ?_
  refine aS 5 ?_
  refine aI 6 (i : Int) (i) hrg Tryz.underlying26 ?_
  refine aL 7 ?_
  refine tk 8 (.bool (!(e1.toList == e1.toList))) ?_
  rw [show (!(e1.toList == e1.toList)) = (!(decide (e1 = e1))) from by rw [str_eq]]
  refine kpA [34, 9, 24, 7, 8, 22, 23] ?_
  refine QS (by kernel_rfl) (Qi ?_)
  refine SW_false (fun _ => (congrArg Value.bool (show (!(decide (e1 = e1))) = false from (by simp)))) ?_
  refine Ql (n_in (Qi ?_))
  refine Qm ?_
  refine os 2 ?_
  refine nt ?_
  exact ⟨i + 1, by omega, ⟨fun _ => rfl, ow⟩, by omega⟩
 refine SW_exit (QW (QW (x_in (Qi ?_))))
 refine sr ?_
 refine os 1 ?_
 refine nt ?_
 refine Qj ?_
 refine Qh (.bool true) (fun _ => rfl) ?_
 exact ⟨(), ow, rfl⟩

end Go.Proofs.YthflblophelioaaGreatDoor
namespace Go.Proofs.YthflblophelioaaGreatDoor
open Go.Sl

theorem law_step14 {W0 : World} (hL : Laid W0) {k : Nat} {H : HeapV} {F : HeapF} {R : RSt} (hS : SimW k H F R) (hk : k < 8000000) {x : OpW} (hx : OwOk x) : SC Tryz.prog W0 13 #[.pointer (some ⟨F.p, 0, none⟩), R.val, .agg #[.int .i64 x.kind, .int .u64 x.o, .int .u64 x.p, .string x.key, .int .i64 x.w.has, .int .u64 x.w.value, .int .u64 x.w.get, .int .u64 x.w.set, .int .i64 x.w.flags, .int .u64 x.v, .int .i64 x.n]] (HeapV.ent H F ++ (RSt.ent R ++ [])) (Ret (fun r : HeapV × RSt => HeapV.ent r.1 F ++ (RSt.ent r.2 ++ [])) (fun v r => v = .tuple #[r.2.val, .bool true] ∧ DidW k H F R x r.1 r.2)) := by
 refine Qy (fn := Tryz.f13) (n := 251) Tryz.func13 rfl (by kernel_rfl) (ρ := [(0, pt F.p 0), (1, .agg #[Gs.val R.s R.objs.length, Gs.val R.ts R.texts.length]), (2, .agg #[.int .i64 x.kind, .int .u64 x.o, .int .u64 x.p, .string x.key, .int .i64 x.w.has, .int .u64 x.w.value, .int .u64 x.w.get, .int .u64 x.w.set, .int .i64 x.w.flags, .int .u64 x.v, .int .i64 x.n])]) rfl ?_
 refine sr ?_
 refine L (nw 28 2 [Gs.val R.s R.objs.length, Gs.val R.ts R.texts.length] ?_)
 intro b1
 refine L (nw 37 11 [.int .i64 x.kind, .int .u64 x.o, .int .u64 x.p, .string x.key, .int .i64 x.w.has, .int .u64 x.w.value, .int .u64 x.w.get, .int .u64 x.w.set, .int .i64 x.w.flags, .int .u64 x.v, .int .i64 x.n] ?_)
 intro b2
 refine L (nw 28 2 [.slice none 0 0, .slice none 0 0] ?_)
 intro b3
 refine os 1 ?_
 refine nq ?_
 refine sr ?_
 refine os 1 ?_
 refine L (ld ?_)
 refine nt ?_
 refine QM ?_
 refine sr ?_
 refine os 2 ?_
 refine nt ?_
 refine cd (fun hc4 : (x.kind == 0) = true => ?_) (fun hc4 => ?_)
 ·simp only [beq_iff_eq, beq_eq_false_iff_ne, ne_eq] at hc4
  refine sr ?_
  refine os 2 ?_
  refine L (ld ?_)
  refine os 1 ?_
  refine L (ld ?_)
  have hcq_ := hq_Make (W0 := W0) hS.inv x.n x.p
  rw [hS.objs] at hcq_
  refine L (cl (hcq_) ?_)
  rintro _ H2 ⟨rfl, hi2, hpub2, htx2, hgd2⟩
  refine os 5 ?_
  refine kp [9, 8, 39, 38, 7, 6, 5, 4, 0, 1, 2] ?_
  refine nsr ?_
  refine L (lds 2 ?_)
  refine os 1 ?_
  refine L (ld ?_)
  refine os 1 ?_
  refine L (ld ?_)
  refine L (cl (rq_Make hS.ok x.n hx.p) ?_)
  rintro _ R2 ⟨rfl, hR2, hp2, ht2⟩
  refine os 4 ?_
  refine kp [59, 58, 57, 9, 8, 39, 38, 7, 6, 5, 4, 0, 1, 2] ?_
  refine L (nw 28 2 [.slice none 0 0, .slice none 0 0] ?_)
  intro b5
  refine L (st [Gs.val R2.s R2.objs.length, Gs.val R2.ts R2.texts.length] ?_)
  refine os 2 ?_
  refine kp [12, 11, 10, 9, 8, 39, 38, 7, 6, 5, 4, 0, 1, 2] ?_
  refine nsr ?_
  refine L (lds 2 ?_)
  refine os 4 ?_
  refine pn 64 (show (((makeV R.pub x.n x.p).1) == ((makeV R.pub x.n x.p).1)) = true from (by rw [beq_self_eq_true])) ?_
  refine os 4 ?_
  refine kp [68, 60, 12, 11, 10, 9, 8, 39, 38, 7, 6, 5, 4, 0, 1, 2] ?_
  refine L (st [Gs.val R2.s R2.objs.length, Gs.val R2.ts R2.texts.length] ?_)
  refine os 1 ?_
  refine nt ?_
  refine Qj (r_in (Qn ?_))
  refine Qs [.agg #[Gs.val R2.s R2.objs.length, Gs.val R2.ts R2.texts.length], .bool (((makeV R.pub x.n x.p).2) == ((makeV R.pub x.n x.p).2))] (fun _ => (.cons ⟨b3, 0, rfl, .inl ⟨[Gs.val R2.s R2.objs.length, Gs.val R2.ts R2.texts.length], by kernel_rfl, (Qb (Cell.own Qe rfl) (Qb (Cell.own Qe rfl) Qo)), rfl⟩⟩ (.cons rfl .nil))) ?_
  exact ⟨(H2, R2), ow, congrArg (fun b => Value.tuple #[_, .bool b]) (by simp), DidW.mk' hS hx (ps0 hc4) (hi2.mono (Nat.le_succ k)) hpub2 htx2 hR2 hp2 ht2⟩
 simp only [beq_iff_eq, beq_eq_false_iff_ne, ne_eq] at hc4
 refine sr ?_
 refine os 2 ?_
 refine kp [69, 39, 38, 7, 6, 5, 4, 0, 1, 2] ?_
 refine nt ?_
 refine cd (fun hc7 : (x.kind == 1) = true => ?_) (fun hc7 => ?_)
 ·simp only [beq_iff_eq, beq_eq_false_iff_ne, ne_eq] at hc7
  refine sr ?_
  refine os 2 ?_
  refine L (ld ?_)
  refine os 1 ?_
  refine L (ld ?_)
  refine os 1 ?_
  refine L (lds 5 ?_)
  have hcq_ := prop_Define hL hS.inv (by omega) hS.flags x.o hx.key x.w
  rw [hS.objs] at hcq_
  refine L (cl (hcq_) ?_)
  rintro _ H2 ⟨rfl, hst⟩
  refine os 1 ?_
  refine kp [13, 69, 39, 38, 7, 6, 5, 4, 0, 1, 2] ?_
  refine nsr ?_
  refine L (lds 2 ?_)
  refine os 1 ?_
  refine L (ld ?_)
  refine os 1 ?_
  refine L (ld ?_)
  refine os 1 ?_
  refine L (lds 5 ?_)
  refine L (cl (rz_Define hS.ok hS.lok (by omega) hS.doc.flags hx.o x.key x.w hx.value hx.get) ?_)
  rintro _ R2 ⟨rfl, hR2, hp2, ht2⟩
  refine os 3 ?_
  refine kp [89, 88, 13, 69, 39, 38, 7, 6, 5, 4, 0, 1, 2] ?_
  refine L (nw 28 2 [.slice none 0 0, .slice none 0 0] ?_)
  intro b8
  refine L (st [Gs.val R2.s R2.objs.length, Gs.val R2.ts R2.texts.length] ?_)
  refine os 1 ?_
  refine nsr ?_
  refine L (lds 2 ?_)
  refine os 3 ?_
  refine L (st [Gs.val R2.s R2.objs.length, Gs.val R2.ts R2.texts.length] ?_)
  refine os 1 ?_
  refine kp [7, 15, 14, 13, 69, 39, 38, 6, 5, 4, 0, 1, 2] ?_
  refine nt ?_
  refine Qj (r_in (Qn ?_))
  refine Qs [.agg #[Gs.val R2.s R2.objs.length, Gs.val R2.ts R2.texts.length], .bool (((defP R.pub x.o x.key x.w).2) == ((defP R.pub x.o x.key x.w).2))] (fun _ => (.cons ⟨b3, 0, rfl, .inl ⟨[Gs.val R2.s R2.objs.length, Gs.val R2.ts R2.texts.length], by kernel_rfl, (Qb (Cell.own Qe rfl) (Qb (Cell.own Qe rfl) Qo)), rfl⟩⟩ (.cons rfl .nil))) ?_
  exact ⟨(H2, R2), ow, congrArg (fun b => Value.tuple #[_, .bool b]) (by simp), DidW.pst hS hx (Nat.le_refl _) hst hR2 hp2 ht2 (ps1 hc7)⟩
 simp only [beq_iff_eq, beq_eq_false_iff_ne, ne_eq] at hc7
 refine sr ?_
 refine os 2 ?_
 refine nt ?_
 refine cd (fun hc9 : (x.kind == 2) = true => ?_) (fun hc9 => ?_)
 ·simp only [beq_iff_eq, beq_eq_false_iff_ne, ne_eq] at hc9
  refine sr ?_
  refine os 2 ?_
  refine L (ld ?_)
  refine os 1 ?_
  refine L (ld ?_)
  have hcq_ := prop_Delete hL hS.inv (by omega) x.o hx.key
  rw [hS.objs] at hcq_
  refine L (cl (hcq_) ?_)
  rintro _ H2 ⟨rfl, hst⟩
  refine os 1 ?_
  refine kp [16, 94, 69, 39, 38, 7, 6, 5, 4, 0, 1, 2] ?_
  refine nsr ?_
  refine L (lds 2 ?_)
  refine os 1 ?_
  refine L (ld ?_)
  refine os 1 ?_
  refine L (ld ?_)
  refine L (cl (rz_Delete hS.ok hS.lok (by omega) hx.o x.key) ?_)
  rintro _ R2 ⟨rfl, hR2, hp2, ht2⟩
  refine os 3 ?_
  refine kp [110, 109, 16, 94, 69, 39, 38, 7, 6, 5, 4, 0, 1, 2] ?_
  refine L (nw 28 2 [.slice none 0 0, .slice none 0 0] ?_)
  intro b10
  refine L (st [Gs.val R2.s R2.objs.length, Gs.val R2.ts R2.texts.length] ?_)
  refine os 1 ?_
  refine nsr ?_
  refine L (lds 2 ?_)
  refine os 3 ?_
  refine L (st [Gs.val R2.s R2.objs.length, Gs.val R2.ts R2.texts.length] ?_)
  refine os 1 ?_
  refine kp [7, 18, 17, 16, 94, 69, 39, 38, 6, 5, 4, 0, 1, 2] ?_
  refine nt ?_
  refine Qj (r_in (Qn ?_))
  refine Qs [.agg #[Gs.val R2.s R2.objs.length, Gs.val R2.ts R2.texts.length], .bool (((delP R.pub x.o x.key).2) == ((delP R.pub x.o x.key).2))] (fun _ => (.cons ⟨b3, 0, rfl, .inl ⟨[Gs.val R2.s R2.objs.length, Gs.val R2.ts R2.texts.length], by kernel_rfl, (Qb (Cell.own Qe rfl) (Qb (Cell.own Qe rfl) Qo)), rfl⟩⟩ (.cons rfl .nil))) ?_
  exact ⟨(H2, R2), ow, congrArg (fun b => Value.tuple #[_, .bool b]) (by simp), DidW.pst hS hx (Nat.le_succ _) hst hR2 hp2 ht2 (ps2 hc9)⟩
 simp only [beq_iff_eq, beq_eq_false_iff_ne, ne_eq] at hc9
 refine sr ?_
 refine os 2 ?_
 refine nt ?_
 refine cd (fun hc11 : (x.kind == 3) = true => ?_) (fun hc11 => ?_)
 ·simp only [beq_iff_eq, beq_eq_false_iff_ne, ne_eq] at hc11
  refine sr ?_
  refine os 2 ?_
  refine L (ld ?_)
  refine os 1 ?_
  refine L (ld ?_)
  refine os 1 ?_
  refine L (ld ?_)
  have hcq_ := prop_Assign hL hS.inv (by omega) hS.flags x.o hx.key x.v
  rw [hS.objs] at hcq_
  refine L (cl (hcq_) ?_)
  rintro _ H2 ⟨rfl, hst⟩
  refine os 5 ?_
  refine kp [20, 19, 115, 94, 69, 39, 38, 7, 6, 5, 4, 0, 1, 2] ?_
  refine nsr ?_
  refine L (lds 2 ?_)
  refine os 1 ?_
  refine L (ld ?_)
  refine os 1 ?_
  refine L (ld ?_)
  refine os 1 ?_
  refine L (ld ?_)
  refine L (cl (rz_Assign hS.ok hS.lok (by omega) hS.doc.flags hx.o x.key hx.v (hS.doc.ends _) hS.doc.words) ?_)
  rintro _ R2 ⟨rfl, hR2, hp2, ht2⟩
  refine os 4 ?_
  refine kp [139, 138, 137, 20, 19, 115, 94, 69, 39, 38, 7, 6, 5, 4, 0, 1, 2] ?_
  refine L (nw 28 2 [.slice none 0 0, .slice none 0 0] ?_)
  intro b12
  refine L (st [Gs.val R2.s R2.objs.length, Gs.val R2.ts R2.texts.length] ?_)
  refine os 2 ?_
  refine kp [23, 22, 21, 20, 19, 115, 94, 69, 39, 38, 7, 6, 5, 4, 0, 1, 2] ?_
  refine nsr ?_
  refine L (lds 2 ?_)
  refine os 4 ?_
  refine pn 144 (show (((asgP R.pub x.o x.key x.v).2.1) == ((asgP R.pub x.o x.key x.v).2.1)) = true from (by rw [beq_self_eq_true])) ?_
  refine os 4 ?_
  refine kp [148, 140, 23, 22, 21, 20, 19, 115, 94, 69, 39, 38, 7, 6, 5, 4, 0, 1, 2] ?_
  refine L (st [Gs.val R2.s R2.objs.length, Gs.val R2.ts R2.texts.length] ?_)
  refine os 1 ?_
  refine nt ?_
  refine Qj (r_in (Qn ?_))
  refine Qs [.agg #[Gs.val R2.s R2.objs.length, Gs.val R2.ts R2.texts.length], .bool (((asgP R.pub x.o x.key x.v).2.2) == ((asgP R.pub x.o x.key x.v).2.2))] (fun _ => (.cons ⟨b3, 0, rfl, .inl ⟨[Gs.val R2.s R2.objs.length, Gs.val R2.ts R2.texts.length], by kernel_rfl, (Qb (Cell.own Qe rfl) (Qb (Cell.own Qe rfl) Qo)), rfl⟩⟩ (.cons rfl .nil))) ?_
  exact ⟨(H2, R2), ow, congrArg (fun b => Value.tuple #[_, .bool b]) (by simp), DidW.pst hS hx (Nat.le_refl _) hst hR2 hp2 ht2 (ps3 hc11)⟩
 simp only [beq_iff_eq, beq_eq_false_iff_ne, ne_eq] at hc11
 refine sr ?_
 refine os 2 ?_
 refine kp [149, 115, 94, 69, 39, 38, 7, 6, 5, 4, 0, 1, 2] ?_
 refine nt ?_
 refine cd (fun hc14 : (x.kind == 4) = true => ?_) (fun hc14 => ?_)
 ·simp only [beq_iff_eq, beq_eq_false_iff_ne, ne_eq] at hc14
  refine sr ?_
  refine os 2 ?_
  refine L (ld ?_)
  refine os 1 ?_
  refine L (ld ?_)
  have hcq_ := prop_SetProto (W0 := W0) hS.inv (by omega) x.o x.p (hS.ends _) hS.protos
  rw [hS.objs] at hcq_
  refine L (cl (hcq_) ?_)
  rintro _ H2 ⟨rfl, hst⟩
  refine os 1 ?_
  refine kp [24, 149, 115, 94, 69, 39, 38, 7, 6, 5, 4, 0, 1, 2] ?_
  refine nsr ?_
  refine L (lds 2 ?_)
  refine os 1 ?_
  refine L (ld ?_)
  refine os 1 ?_
  refine L (ld ?_)
  refine L (cl (rz_SetProto hS.ok hS.lok hx.o hx.p (hS.doc.ends _) hS.doc.words) ?_)
  rintro _ R2 ⟨rfl, hR2, hp2, ht2⟩
  refine os 3 ?_
  refine kp [165, 164, 24, 149, 115, 94, 69, 39, 38, 7, 6, 5, 4, 0, 1, 2] ?_
  refine L (nw 28 2 [.slice none 0 0, .slice none 0 0] ?_)
  intro b15
  refine L (st [Gs.val R2.s R2.objs.length, Gs.val R2.ts R2.texts.length] ?_)
  refine os 1 ?_
  refine nsr ?_
  refine L (lds 2 ?_)
  refine os 3 ?_
  refine L (st [Gs.val R2.s R2.objs.length, Gs.val R2.ts R2.texts.length] ?_)
  refine os 1 ?_
  refine kp [7, 26, 25, 24, 149, 115, 94, 69, 39, 38, 6, 5, 4, 0, 1, 2] ?_
  refine nt ?_
  refine Qj (r_in (Qn ?_))
  refine Qs [.agg #[Gs.val R2.s R2.objs.length, Gs.val R2.ts R2.texts.length], .bool (((spP R.pub x.o x.p).2) == ((spP R.pub x.o x.p).2))] (fun _ => (.cons ⟨b3, 0, rfl, .inl ⟨[Gs.val R2.s R2.objs.length, Gs.val R2.ts R2.texts.length], by kernel_rfl, (Qb (Cell.own Qe rfl) (Qb (Cell.own Qe rfl) Qo)), rfl⟩⟩ (.cons rfl .nil))) ?_
  exact ⟨(H2, R2), ow, congrArg (fun b => Value.tuple #[_, .bool b]) (by simp), DidW.pst hS hx (Nat.le_succ _) hst hR2 hp2 ht2 (ps4 hc14)⟩
 simp only [beq_iff_eq, beq_eq_false_iff_ne, ne_eq] at hc14
 refine sr ?_
 refine os 2 ?_
 refine nt ?_
 refine cd (fun hc16 : (x.kind == 5) = true => ?_) (fun hc16 => ?_)
 ·simp only [beq_iff_eq, beq_eq_false_iff_ne, ne_eq] at hc16
  refine sr ?_
  refine os 2 ?_
  refine L (ld ?_)
  refine os 1 ?_
  refine L (ld ?_)
  have hcq_ := prop_Own hL hS.inv x.o hx.key
  rw [hS.objs] at hcq_
  refine L (cl (hcq_) ?_)
  rintro v11 _ hv11
  obtain rfl : v11 = .tuple #[.agg #[.int .u64 ((Qq (QD R.pub x.o x.key)).1), .int .u64 ((Qq (QD R.pub x.o x.key)).2.1), .int .i64 ((Qq (QD R.pub x.o x.key)).2.2)], .bool ((QD R.pub x.o x.key).isSome)] := hv11.trans (Q7 _)
  refine os 3 ?_
  refine kp [180, 179, 170, 149, 115, 94, 69, 39, 38, 7, 6, 5, 4, 0, 1, 2] ?_
  refine L (nw 45 3 [.int .u64 0, .int .u64 0, .int .i64 0] ?_)
  intro b17
  refine L (st [.int .u64 ((Qq (QD R.pub x.o x.key)).1), .int .u64 ((Qq (QD R.pub x.o x.key)).2.1), .int .i64 ((Qq (QD R.pub x.o x.key)).2.2)] ?_)
  refine os 1 ?_
  refine nsr ?_
  refine L (lds 2 ?_)
  refine os 1 ?_
  refine L (ld ?_)
  refine os 1 ?_
  refine L (ld ?_)
  refine L (cl (rz_Own hS.ok hS.lok hx.o x.key) ?_)
  rintro v12 _ hv12
  obtain rfl : v12 = .tuple #[.agg #[.int .u64 ((Qq (QD R.pub x.o x.key)).1), .int .u64 ((Qq (QD R.pub x.o x.key)).2.1), .int .i64 ((Qq (QD R.pub x.o x.key)).2.2)], .bool ((QD R.pub x.o x.key).isSome)] := hv12.trans (Q7 _)
  refine os 3 ?_
  refine kp [189, 188, 28, 27, 170, 149, 115, 94, 69, 39, 38, 7, 6, 5, 4, 0, 1, 2] ?_
  refine L (nw 45 3 [.int .u64 0, .int .u64 0, .int .i64 0] ?_)
  intro b18
  refine L (st [.int .u64 ((Qq (QD R.pub x.o x.key)).1), .int .u64 ((Qq (QD R.pub x.o x.key)).2.1), .int .i64 ((Qq (QD R.pub x.o x.key)).2.2)] ?_)
  refine os 1 ?_
  refine nq ?_
  refine QV [(b1, 0, Gs.val R.s R.objs.length), (b1, 1, Gs.val R.ts R.texts.length), (b17, 0, .int .u64 ((Qq (QD R.pub x.o x.key)).1)), (b17, 1, .int .u64 ((Qq (QD R.pub x.o x.key)).2.1)), (b17, 2, .int .i64 ((Qq (QD R.pub x.o x.key)).2.2)), (b18, 0, .int .u64 ((Qq (QD R.pub x.o x.key)).1)), (b18, 1, .int .u64 ((Qq (QD R.pub x.o x.key)).2.1)), (b18, 2, .int .i64 ((Qq (QD R.pub x.o x.key)).2.2))] [0, 1, 2, 3, 4, 5, 6, 7, 8] (by kernel_rfl) (Qf (Cell.own (Qc (Qa (Qc (Qa (Qc (Qc Qe)))))) rfl) (Qf (Cell.own (Qc (Qa (Qc (Qa (Qc (Qc Qe)))))) rfl) (Qf (Cell.own (Qc (Qa Qe)) rfl) (Qf (Cell.own (Qc (Qa Qe)) rfl) (Qf (Cell.own (Qc (Qa Qe)) rfl) (Qf (Cell.own Qe rfl) (Qf (Cell.own Qe rfl) (Qf (Cell.own Qe rfl) QP)))))))) ?_
  refine tr 0 (.agg #[Gs.val R.s R.objs.length, Gs.val R.ts R.texts.length]) ?_ (hy := fun δ w_ hr => Q0 b1 0 [Gs.val R.s R.objs.length, Gs.val R.ts R.texts.length] rfl (by kernel_rfl) (QA List.mem_cons_self (QA (List.mem_cons_of_mem _ List.mem_cons_self) Q9)) hr)
  refine tr 1 (.agg #[.int .u64 ((Qq (QD R.pub x.o x.key)).1), .int .u64 ((Qq (QD R.pub x.o x.key)).2.1), .int .i64 ((Qq (QD R.pub x.o x.key)).2.2)]) ?_ (hy := fun δ w_ hr => Q0 b17 0 [.int .u64 ((Qq (QD R.pub x.o x.key)).1), .int .u64 ((Qq (QD R.pub x.o x.key)).2.1), .int .i64 ((Qq (QD R.pub x.o x.key)).2.2)] rfl (by kernel_rfl) (QA (List.mem_cons_of_mem _ (List.mem_cons_of_mem _ List.mem_cons_self)) (QA (List.mem_cons_of_mem _ (List.mem_cons_of_mem _ (List.mem_cons_of_mem _ List.mem_cons_self))) (QA (List.mem_cons_of_mem _ (List.mem_cons_of_mem _ (List.mem_cons_of_mem _ (List.mem_cons_of_mem _ List.mem_cons_self)))) Q9))) hr)
  refine tr 2 (.agg #[.int .u64 ((Qq (QD R.pub x.o x.key)).1), .int .u64 ((Qq (QD R.pub x.o x.key)).2.1), .int .i64 ((Qq (QD R.pub x.o x.key)).2.2)]) ?_ (hy := fun δ w_ hr => Q0 b18 0 [.int .u64 ((Qq (QD R.pub x.o x.key)).1), .int .u64 ((Qq (QD R.pub x.o x.key)).2.1), .int .i64 ((Qq (QD R.pub x.o x.key)).2.2)] rfl (by kernel_rfl) (QA (List.mem_cons_of_mem _ (List.mem_cons_of_mem _ (List.mem_cons_of_mem _ (List.mem_cons_of_mem _ (List.mem_cons_of_mem _ List.mem_cons_self))))) (QA (List.mem_cons_of_mem _ (List.mem_cons_of_mem _ (List.mem_cons_of_mem _ (List.mem_cons_of_mem _ (List.mem_cons_of_mem _ (List.mem_cons_of_mem _ List.mem_cons_self)))))) (QA (List.mem_cons_of_mem _ (List.mem_cons_of_mem _ (List.mem_cons_of_mem _ (List.mem_cons_of_mem _ (List.mem_cons_of_mem _ (List.mem_cons_of_mem _ (List.mem_cons_of_mem _ List.mem_cons_self))))))) Q9))) hr)
  refine tk 3 (.bool (((Qq (QD R.pub x.o x.key)).1 == (Qq (QD R.pub x.o x.key)).1) && (((Qq (QD R.pub x.o x.key)).2.1 == (Qq (QD R.pub x.o x.key)).2.1) && ((Qq (QD R.pub x.o x.key)).2.2 == (Qq (QD R.pub x.o x.key)).2.2)))) ?_ (hy := eqlD)
  refine aS 4 ?_
  refine pnA 194 (show (((Qq (QD R.pub x.o x.key)).1 == (Qq (QD R.pub x.o x.key)).1) && (((Qq (QD R.pub x.o x.key)).2.1 == (Qq (QD R.pub x.o x.key)).2.1) && ((Qq (QD R.pub x.o x.key)).2.2 == (Qq (QD R.pub x.o x.key)).2.2))) = true from (by simp)) ?_
  refine aS 5 ?_
  refine aS 6 ?_
  refine aS 7 ?_
  refine aS 8 ?_
  refine kpA [198, 190, 30, 29, 28, 27, 170, 149, 115, 94, 69, 39, 38, 7, 6, 5, 4, 0, 1, 2] ?_
  refine sa1 false 9 (h := st [Gs.val R.s R.objs.length, Gs.val R.ts R.texts.length] ?_)
  refine ⟨fun hnd => (by cases hnd), ?_⟩
  refine aS 10 ?_
  refine QS (by kernel_rfl) (Qi ?_)
  refine Qj (r_in (Qn ?_))
  refine Qs [.agg #[Gs.val R.s R.objs.length, Gs.val R.ts R.texts.length], .bool (((QD R.pub x.o x.key).isSome) == ((QD R.pub x.o x.key).isSome))] (fun _ => (.cons ⟨b3, 0, rfl, .inl ⟨[Gs.val R.s R.objs.length, Gs.val R.ts R.texts.length], by kernel_rfl, (Qb (Cell.own Qe rfl) (Qb (Cell.own Qe rfl) Qo)), rfl⟩⟩ (.cons rfl .nil))) ?_
  exact ⟨(H, R), ow, congrArg (fun b => Value.tuple #[_, .bool b]) (by simp), DidW.same hS hx (psE (by omega) (by omega) (by omega) (by omega) (by omega) (by omega))⟩
 simp only [beq_iff_eq, beq_eq_false_iff_ne, ne_eq] at hc16
 refine sr ?_
 refine os 2 ?_
 refine nt ?_
 refine cd (fun hc19 : (x.kind == 6) = true => ?_) (fun hc19 => ?_)
 ·simp only [beq_iff_eq, beq_eq_false_iff_ne, ne_eq] at hc19
  refine sr ?_
  refine os 2 ?_
  refine L (ld ?_)
  refine os 1 ?_
  refine L (ld ?_)
  have hcq_ := prop_Lookup hL hS.inv x.o hx.key
  rw [hS.objs] at hcq_
  refine L (cl (hcq_) ?_)
  rintro _ _ rfl
  refine os 4 ?_
  refine kp [210, 209, 208, 199, 170, 149, 115, 94, 69, 39, 38, 7, 6, 5, 4, 0, 1, 2] ?_
  refine L (nw 45 3 [.int .u64 0, .int .u64 0, .int .i64 0] ?_)
  intro b20
  refine os 1 ?_
  refine L (st [.int .u64 ((QZ (QR R.pub x.o x.key)).2.1), .int .u64 ((QZ (QR R.pub x.o x.key)).2.2.1), .int .i64 ((QZ (QR R.pub x.o x.key)).2.2.2)] ?_)
  refine os 1 ?_
  refine kp [33, 31, 32, 199, 170, 149, 115, 94, 69, 39, 38, 7, 6, 5, 4, 0, 1, 2] ?_
  refine nsr ?_
  refine L (lds 2 ?_)
  refine os 1 ?_
  refine L (ld ?_)
  refine os 1 ?_
  refine L (ld ?_)
  refine L (cl (rz_Lookup hS.ok hS.lok hx.o x.key (hS.doc.ends _) hS.doc.words) ?_)
  rintro _ _ rfl
  refine os 4 ?_
  refine kp [220, 219, 218, 33, 31, 32, 199, 170, 149, 115, 94, 69, 39, 38, 7, 6, 5, 4, 0, 1, 2] ?_
  refine L (nw 45 3 [.int .u64 0, .int .u64 0, .int .i64 0] ?_)
  intro b21
  refine os 1 ?_
  refine L (st [.int .u64 ((QZ (QR R.pub x.o x.key)).2.1), .int .u64 ((QZ (QR R.pub x.o x.key)).2.2.1), .int .i64 ((QZ (QR R.pub x.o x.key)).2.2.2)] ?_)
  refine os 1 ?_
  refine kp [36, 34, 35, 33, 31, 32, 199, 170, 149, 115, 94, 69, 39, 38, 7, 6, 5, 4, 0, 1, 2] ?_
  refine nq ?_
  refine QV [(b1, 0, Gs.val R.s R.objs.length), (b1, 1, Gs.val R.ts R.texts.length), (b20, 0, .int .u64 ((QZ (QR R.pub x.o x.key)).2.1)), (b20, 1, .int .u64 ((QZ (QR R.pub x.o x.key)).2.2.1)), (b20, 2, .int .i64 ((QZ (QR R.pub x.o x.key)).2.2.2)), (b21, 0, .int .u64 ((QZ (QR R.pub x.o x.key)).2.1)), (b21, 1, .int .u64 ((QZ (QR R.pub x.o x.key)).2.2.1)), (b21, 2, .int .i64 ((QZ (QR R.pub x.o x.key)).2.2.2))] [0, 1, 2, 3, 4, 5, 6, 7, 8, 9, 10, 11, 12, 13] (by kernel_rfl) (Qf (Cell.own (Qc (Qa (Qc (Qa (Qc (Qc Qe)))))) rfl) (Qf (Cell.own (Qc (Qa (Qc (Qa (Qc (Qc Qe)))))) rfl) (Qf (Cell.own (Qc (Qa Qe)) rfl) (Qf (Cell.own (Qc (Qa Qe)) rfl) (Qf (Cell.own (Qc (Qa Qe)) rfl) (Qf (Cell.own Qe rfl) (Qf (Cell.own Qe rfl) (Qf (Cell.own Qe rfl) QP)))))))) ?_
  refine tr 0 (.agg #[Gs.val R.s R.objs.length, Gs.val R.ts R.texts.length]) ?_ (hy := fun δ w_ hr => Q0 b1 0 [Gs.val R.s R.objs.length, Gs.val R.ts R.texts.length] rfl (by kernel_rfl) (QA List.mem_cons_self (QA (List.mem_cons_of_mem _ List.mem_cons_self) Q9)) hr)
  refine aS 1 ?_
  refine aS 2 ?_
  refine aS 3 ?_
  refine aS 4 ?_
  refine pnA 225 (show (((QZ (QR R.pub x.o x.key)).1) == ((QZ (QR R.pub x.o x.key)).1)) = true from (by rw [beq_self_eq_true])) ?_
  refine tr 5 (.agg #[.int .u64 ((QZ (QR R.pub x.o x.key)).2.1), .int .u64 ((QZ (QR R.pub x.o x.key)).2.2.1), .int .i64 ((QZ (QR R.pub x.o x.key)).2.2.2)]) ?_ (hy := fun δ w_ hr => Q0 b20 0 [.int .u64 ((QZ (QR R.pub x.o x.key)).2.1), .int .u64 ((QZ (QR R.pub x.o x.key)).2.2.1), .int .i64 ((QZ (QR R.pub x.o x.key)).2.2.2)] rfl (by kernel_rfl) (QA (List.mem_cons_of_mem _ (List.mem_cons_of_mem _ List.mem_cons_self)) (QA (List.mem_cons_of_mem _ (List.mem_cons_of_mem _ (List.mem_cons_of_mem _ List.mem_cons_self))) (QA (List.mem_cons_of_mem _ (List.mem_cons_of_mem _ (List.mem_cons_of_mem _ (List.mem_cons_of_mem _ List.mem_cons_self)))) Q9))) hr)
  refine tr 6 (.agg #[.int .u64 ((QZ (QR R.pub x.o x.key)).2.1), .int .u64 ((QZ (QR R.pub x.o x.key)).2.2.1), .int .i64 ((QZ (QR R.pub x.o x.key)).2.2.2)]) ?_ (hy := fun δ w_ hr => Q0 b21 0 [.int .u64 ((QZ (QR R.pub x.o x.key)).2.1), .int .u64 ((QZ (QR R.pub x.o x.key)).2.2.1), .int .i64 ((QZ (QR R.pub x.o x.key)).2.2.2)] rfl (by kernel_rfl) (QA (List.mem_cons_of_mem _ (List.mem_cons_of_mem _ (List.mem_cons_of_mem _ (List.mem_cons_of_mem _ (List.mem_cons_of_mem _ List.mem_cons_self))))) (QA (List.mem_cons_of_mem _ (List.mem_cons_of_mem _ (List.mem_cons_of_mem _ (List.mem_cons_of_mem _ (List.mem_cons_of_mem _ (List.mem_cons_of_mem _ List.mem_cons_self)))))) (QA (List.mem_cons_of_mem _ (List.mem_cons_of_mem _ (List.mem_cons_of_mem _ (List.mem_cons_of_mem _ (List.mem_cons_of_mem _ (List.mem_cons_of_mem _ (List.mem_cons_of_mem _ List.mem_cons_self))))))) Q9))) hr)
  refine tk 7 (.bool (((QZ (QR R.pub x.o x.key)).2.1 == (QZ (QR R.pub x.o x.key)).2.1) && (((QZ (QR R.pub x.o x.key)).2.2.1 == (QZ (QR R.pub x.o x.key)).2.2.1) && ((QZ (QR R.pub x.o x.key)).2.2.2 == (QZ (QR R.pub x.o x.key)).2.2.2)))) ?_ (hy := eqlD)
  refine aS 8 ?_
  refine aS 9 ?_
  refine kpA [230, 221, 36, 34, 35, 33, 31, 32, 199, 170, 149, 115, 94, 69, 39, 38, 7, 6, 5, 4, 0, 1, 2] ?_
  refine pnA 230 (show (((QZ (QR R.pub x.o x.key)).2.1 == (QZ (QR R.pub x.o x.key)).2.1) && (((QZ (QR R.pub x.o x.key)).2.2.1 == (QZ (QR R.pub x.o x.key)).2.2.1) && ((QZ (QR R.pub x.o x.key)).2.2.2 == (QZ (QR R.pub x.o x.key)).2.2.2))) = true from (by simp)) ?_
  refine aS 10 ?_
  refine aS 11 ?_
  refine aS 12 ?_
  refine aS 13 ?_
  refine sa1 false 14 (h := st [Gs.val R.s R.objs.length, Gs.val R.ts R.texts.length] ?_)
  refine ⟨fun hnd => (by cases hnd), ?_⟩
  refine aS 15 ?_
  refine QS (by kernel_rfl) (Qi ?_)
  refine Qj (r_in (Qn ?_))
  refine Qs [.agg #[Gs.val R.s R.objs.length, Gs.val R.ts R.texts.length], .bool (((QR R.pub x.o x.key).isSome) == ((QR R.pub x.o x.key).isSome))] (fun _ => (.cons ⟨b3, 0, rfl, .inl ⟨[Gs.val R.s R.objs.length, Gs.val R.ts R.texts.length], by kernel_rfl, (Qb (Cell.own Qe rfl) (Qb (Cell.own Qe rfl) Qo)), rfl⟩⟩ (.cons rfl .nil))) ?_
  exact ⟨(H, R), ow, congrArg (fun b => Value.tuple #[_, .bool b]) (by simp), DidW.same hS hx (psE (by omega) (by omega) (by omega) (by omega) (by omega) (by omega))⟩
 simp only [beq_iff_eq, beq_eq_false_iff_ne, ne_eq] at hc19
 refine sr ?_
 refine os 2 ?_
 refine kp [235, 199, 170, 149, 115, 94, 69, 39, 38, 7, 6, 5, 4, 0, 1, 2] ?_
 refine nt ?_
 refine cd (fun hc22 : (x.kind == 8) = true => ?_) (fun hc22 => ?_)
 ·simp only [beq_iff_eq, beq_eq_false_iff_ne, ne_eq] at hc22
  refine sr ?_
  refine os 2 ?_
  refine L (ld ?_)
  have hcq_ := hq_Close (W0 := W0) hS.inv x.o
  rw [hS.objs] at hcq_
  refine L (cl (hcq_) ?_)
  rintro _ H2 ⟨rfl, hst, hgd2⟩
  refine nsr ?_
  refine L (lds 2 ?_)
  refine os 1 ?_
  refine L (ld ?_)
  refine L (cl (rq_Shut hS.ok hx.o) ?_)
  rintro _ R2 ⟨rfl, hR2, hp2, ht2⟩
  refine L (st [Gs.val R2.s R2.objs.length, Gs.val R2.ts R2.texts.length] ?_)
  refine os 1 ?_
  refine kp [7, 235, 199, 170, 149, 115, 94, 69, 39, 38, 6, 5, 4, 0, 1, 2] ?_
  refine nt ?_
  refine Qj (r_in (Qn ?_))
  refine Qs [.agg #[Gs.val R2.s R2.objs.length, Gs.val R2.ts R2.texts.length], .bool true] (fun _ => (.cons ⟨b3, 0, rfl, .inl ⟨[Gs.val R2.s R2.objs.length, Gs.val R2.ts R2.texts.length], by kernel_rfl, (Qb (Cell.own Qe rfl) (Qb (Cell.own Qe rfl) Qo)), rfl⟩⟩ (.cons rfl .nil))) ?_
  exact ⟨(H2, R2), ow, rfl, DidW.mk' hS hx (ps8 hc22) (hst.inv.mono (Nat.le_succ k)) hst.pub hst.texts hR2 hp2 ht2⟩
 simp only [beq_iff_eq, beq_eq_false_iff_ne, ne_eq] at hc22
 refine Ql (n_in (Qi ?_))
 refine Qx ?_
 refine QV [(b1, 0, Gs.val R.s R.objs.length), (b1, 1, Gs.val R.ts R.texts.length), (b1, 0, Gs.val R.s R.objs.length), (b1, 1, Gs.val R.ts R.texts.length), (b2, 1, .int .u64 x.o)] [0, 1, 2, 3, 4, 5] (by kernel_rfl) (Qf (Cell.own (Qc (Qc Qe)) rfl) (Qf (Cell.own (Qc (Qc Qe)) rfl) (Qf (Cell.own (Qc (Qc Qe)) rfl) (Qf (Cell.own (Qc (Qc Qe)) rfl) (Qf (Cell.own (Qc Qe) rfl) QP))))) ?_
 refine tr 0 (.agg #[Gs.val R.s R.objs.length, Gs.val R.ts R.texts.length]) ?_ (hy := fun δ w_ hr => Q0 b1 0 [Gs.val R.s R.objs.length, Gs.val R.ts R.texts.length] rfl (by kernel_rfl) (QA List.mem_cons_self (QA (List.mem_cons_of_mem _ List.mem_cons_self) Q9)) hr)
 refine aS 1 ?_
 refine tr 2 (.agg #[Gs.val R.s R.objs.length, Gs.val R.ts R.texts.length]) ?_ (hy := fun δ w_ hr => Q0 b1 0 [Gs.val R.s R.objs.length, Gs.val R.ts R.texts.length] rfl (by kernel_rfl) (QA List.mem_cons_self (QA (List.mem_cons_of_mem _ List.mem_cons_self) Q9)) hr)
 refine aF 3 ?_
 refine aL 4 ?_
 refine sa1 true 5 (h := cl (law_keys14 hL hS (by omega) hx.o) ?_)
 rintro _ _ rfl
 try simp only [List.cons_append, List.append_assoc, List.nil_append]
 refine ⟨fun hnd => (Qf (Cell.own (Qa (Qa (Qc (Qc Qe)))) rfl) (Qf (Cell.own (Qa (Qa (Qc (Qc Qe)))) rfl) (Qf (Cell.own (Qa (Qa (Qc (Qc Qe)))) rfl) (Qf (Cell.own (Qa (Qa (Qc (Qc Qe)))) rfl) (Qf (Cell.own (Qa (Qa (Qc Qe))) rfl) QP))))), ?_⟩
 refine sa1 false 6 (h := st [Gs.val R.s R.objs.length, Gs.val R.ts R.texts.length] ?_)
 refine ⟨fun hnd => (by cases hnd), ?_⟩
 refine aS 7 ?_
 refine QS (by kernel_rfl) (Qi ?_)
 refine Qj ?_
 refine Qs [.agg #[Gs.val R.s R.objs.length, Gs.val R.ts R.texts.length], .bool true] (fun _ => (.cons ⟨b3, 0, rfl, .inl ⟨[Gs.val R.s R.objs.length, Gs.val R.ts R.texts.length], by kernel_rfl, (Qb (Cell.own Qe rfl) (Qb (Cell.own Qe rfl) Qo)), rfl⟩⟩ (.cons rfl .nil))) ?_
 exact ⟨(H, R), ow, rfl, DidW.same hS hx (psE (by omega) (by omega) (by omega) (by omega) (by omega) (by omega))⟩

end Go.Proofs.YthflblophelioaaGreatDoor
namespace Go.Proofs.YthflblophelioaaGreatDoor
open Go.Sl

theorem law_made {W0 : World} (hL : Laid W0) {A : Option Addr} {c : Nat} {l : List OpW} (hls : ∀ σ, Src W0 σ A (l.flatMap OpW.cells)) (hl : l.length ≤ 1048576) (hops : ∀ x ∈ l, OwOk x) : SC Tryz.prog W0 21 #[.slice A l.length c] [] (Ret (fun r : HeapV × HeapF × RSt => HeapV.ent r.1 r.2.1 ++ (RSt.ent r.2.2 ++ [])) (fun v r => v = .tuple #[.pointer (some ⟨r.2.1.p, 0, none⟩), r.2.2.val] ∧ SimW l.length r.1 r.2.1 r.2.2)) := by
 refine Qy (fn := Tryz.f21) (n := 29) Tryz.func21 rfl (by kernel_rfl) (ρ := [(0, .slice A l.length c)]) rfl ?_
 refine sr ?_
 refine os 1 ?_
 refine L (nw 28 2 [.slice none 0 0, .slice none 0 0] ?_)
 intro b1
 refine nsr ?_
 refine L (cl (hp_New 256) ?_)
 rintro _ ⟨H0, F⟩ ⟨rfl, hI0, hp0, ht0, htr0, ho0, hcl0⟩
 simp only [] at hp0 ht0 htr0 ho0 hcl0 hI0
 have hS0 := SimW.new hI0 hp0 ht0
 refine os 1 ?_
 refine nsr ?_
 refine oV (.agg #[.slice none 0 0, .slice none 0 0]) ?_
 refine L (nw 28 2 [.slice none 0 0, .slice none 0 0] ?_)
 intro b2
 refine L (st [.slice none 0 0, .slice none 0 0] ?_)
 refine nq ?_
 refine Qx ?_
 refine QQ _ (perm_c (perm_a perm_z)) ?_
 refine QQ _ (perm_c perm_z) ?_
 refine QQ _ (QC (QC QE)) ?_
 refine QH ((HeapV.ent H0 F) ++ ((RSt.ent RSt.none) ++ ((b2, .cells 28 2 [Gs.val RSt.none.s RSt.none.objs.length, Gs.val RSt.none.ts RSt.none.texts.length]) :: ((b1, .cells 28 2 [.slice none 0 0, .slice none 0 0]) :: ([]))))) rfl ?_
 refine Qm ?_
 refine os 1 ?_
 refine oV (.bool false) ?_
 refine kp [11, 5, 4, 3, 2, 0] ?_
 refine nt ?_
 refine cf ?_
 refine Ql (Qi ?_)
 refine Qx ?_
 refine sr ?_
 refine os 3 ?_
 refine nt ?_
 refine QM ?_
 refine SW_loop (α := Nat × HeapV × RSt) (fun z_ ρ_ σ_ => Fits ρ_ σ_ [(3, pt b1 0), (4, pt F.p 0), (5, pt b2 0), (13, .slice A l.length c), (14, .int .i64 (l.length : Int)), (15, .int .i64 (z_.1 : Int))] ((HeapV.ent z_.2.1 F) ++ ((RSt.ent z_.2.2) ++ ((b2, .cells 28 2 [Gs.val z_.2.2.s z_.2.2.objs.length, Gs.val z_.2.2.ts z_.2.2.texts.length]) :: ((b1, .cells 28 2 [.slice none 0 0, .slice none 0 0]) :: ([]))))) ∧ z_.1 ≤ l.length ∧ SimW (z_.1) z_.2.1 F z_.2.2) (fun z_ => l.length - z_.1) (0, H0, RSt.none) ⟨⟨fun _ => rfl, ow⟩, Nat.zero_le _, hS0⟩ ?_
 rintro ⟨i, H, R⟩ ρ_ σ_ ⟨hfit, hi0, hi1⟩
 refine Q3 hfit ?_
 clear hfit
 simp only [] at hi0 hi1 ⊢
 refine sr ?_
 refine os 1 ?_
 refine nq ?_
 refine cdp (fun hc3 : (i : Int) < (l.length : Int) => ?_) (fun hc3 => ?_)
 ·refine Ql (Qi ?_)
  refine Qx ?_
  refine QM ?_
  refine Qx ?_
  obtain ⟨b0_, o0_, rfl, hqb0_⟩ := (hls []).resolve_left (by rw [QI OpW.len]; omega)
  refine Qm ?_
  refine L (O_indexAddr' (i : Int) (o0_ + i * 11) b0_ o0_ l.length c .i64 11 Tryz.underlying22 (by kernel_rfl) (fun _ => rfl) (fun _ => rfl) (by omega) (by omega) (by omega) rfl ?_)
  obtain ⟨e1, he1⟩ : ∃ y_, l[i]? = some y_ := ⟨_, List.getElem?_eq_getElem (by omega)⟩
  refine L (ldr [.int .i64 e1.kind, .int .u64 e1.o, .int .u64 e1.p, .string e1.key, .int .i64 e1.w.has, .int .u64 e1.w.value, .int .u64 e1.w.get, .int .u64 e1.w.set, .int .i64 e1.w.flags, .int .u64 e1.v, .int .i64 e1.n] (Qb (Cell.mono (hqb0_ _ _ (Qg OpW.len he1 (j := 0) (by decide) rfl)) (fun e he => absurd he List.not_mem_nil)) (Qb (Cell.mono (hqb0_ _ _ (Qg OpW.len he1 (j := 1) (by decide) rfl)) (fun e he => absurd he List.not_mem_nil)) (Qb (Cell.mono (hqb0_ _ _ (Qg OpW.len he1 (j := 2) (by decide) rfl)) (fun e he => absurd he List.not_mem_nil)) (Qb (Cell.mono (hqb0_ _ _ (Qg OpW.len he1 (j := 3) (by decide) rfl)) (fun e he => absurd he List.not_mem_nil)) (Qb (Cell.mono (hqb0_ _ _ (Qg OpW.len he1 (j := 4) (by decide) rfl)) (fun e he => absurd he List.not_mem_nil)) (Qb (Cell.mono (hqb0_ _ _ (Qg OpW.len he1 (j := 5) (by decide) rfl)) (fun e he => absurd he List.not_mem_nil)) (Qb (Cell.mono (hqb0_ _ _ (Qg OpW.len he1 (j := 6) (by decide) rfl)) (fun e he => absurd he List.not_mem_nil)) (Qb (Cell.mono (hqb0_ _ _ (Qg OpW.len he1 (j := 7) (by decide) rfl)) (fun e he => absurd he List.not_mem_nil)) (Qb (Cell.mono (hqb0_ _ _ (Qg OpW.len he1 (j := 8) (by decide) rfl)) (fun e he => absurd he List.not_mem_nil)) (Qb (Cell.mono (hqb0_ _ _ (Qg OpW.len he1 (j := 9) (by decide) rfl)) (fun e he => absurd he List.not_mem_nil)) (Qb (Cell.mono (hqb0_ _ _ (Qg OpW.len he1 (j := 10) (by decide) rfl)) (fun e he => absurd he List.not_mem_nil)) Qo))))))))))) ?_)
  refine L (nw 37 11 [.int .i64 0, .int .u64 0, .int .u64 0, .string ByteArray.empty, .int .i64 0, .int .u64 0, .int .u64 0, .int .u64 0, .int .i64 0, .int .u64 0, .int .i64 0] ?_)
  intro b4
  refine L (st [.int .i64 e1.kind, .int .u64 e1.o, .int .u64 e1.p, .string e1.key, .int .i64 e1.w.has, .int .u64 e1.w.value, .int .u64 e1.w.get, .int .u64 e1.w.set, .int .i64 e1.w.flags, .int .u64 e1.v, .int .i64 e1.n] ?_)
  refine nr ?_
  refine os 1 ?_
  refine L (lds 2 ?_)
  refine L (lds 11 ?_)
  have hop_ := hops _ (List.mem_of_getElem? he1)
  refine L (cl (law_step14 hL hi1 (by omega) hop_) ?_)
  rintro _ ⟨H4, R4⟩ ⟨rfl, hd4⟩
  refine un ?_
  simp only [] at hd4
  refine os 3 ?_
  refine kp [24, 7, 16, 3, 4, 5, 13, 14, 15] ?_
  refine L (st [Gs.val R4.s R4.objs.length, Gs.val R4.ts R4.texts.length] ?_)
  refine Q5 (n_in (Qi ?_))
  refine Qm ?_
  refine os 2 ?_
  refine nt ?_
  exact ⟨(i + 1, H4, R4), by simp only []; omega, ⟨fun _ => rfl, ow⟩, by simp only []; omega, (by simp only []; exact hd4.sim)⟩
 refine SW_exit (QW (QW (x_in (Qi ?_))))
 refine Qx ?_
 refine QV [(b2, 0, Gs.val R.s R.objs.length), (b2, 1, Gs.val R.ts R.texts.length)] [0, 2] (by kernel_rfl) (Qf (Cell.own (Qa (Qa Qe)) rfl) (Qf (Cell.own (Qa (Qa Qe)) rfl) QP)) ?_
 refine aS 0 ?_
 refine tr 1 (.agg #[Gs.val R.s R.objs.length, Gs.val R.ts R.texts.length]) ?_ (hy := fun δ w_ hr => Q0 b2 0 [Gs.val R.s R.objs.length, Gs.val R.ts R.texts.length] rfl (by kernel_rfl) (QA List.mem_cons_self (QA (List.mem_cons_of_mem _ List.mem_cons_self) Q9)) hr)
 refine aS 2 ?_
 refine sa1 false 3 (h := st [Gs.val R.s R.objs.length, Gs.val R.ts R.texts.length] ?_)
 refine ⟨fun hnd => (by cases hnd), ?_⟩
 refine QS (by kernel_rfl) (Qi ?_)
 refine Qj ?_
 refine Qs [pt F.p 0, .agg #[Gs.val R.s R.objs.length, Gs.val R.ts R.texts.length]] (fun _ => (.cons rfl (.cons ⟨b1, 0, rfl, .inl ⟨[Gs.val R.s R.objs.length, Gs.val R.ts R.texts.length], by kernel_rfl, (Qb (Cell.own Qe rfl) (Qb (Cell.own Qe rfl) Qo)), rfl⟩⟩ .nil))) ?_
 exact ⟨(H, F, R), ow, rfl, by rw [show l.length = i from by omega]; exact hi1⟩

end Go.Proofs.YthflblophelioaaGreatDoor
namespace Go.Proofs.YthflblophelioaaGreatDoor
open Go.Sl

theorem law_alive14 {W0 : World} (hL : Laid W0) : SC Tryz.prog W0 12 #[] [] (Ret (fun _ : Unit => []) (fun v _ => v = .bool true)) := by
 refine Qy (fn := Tryz.f12) (n := 60) Tryz.func12 rfl (by kernel_rfl) (ρ := []) rfl ?_
 refine sr ?_
 refine os 1 ?_
 refine nsr ?_
 refine L (cl (hp_New 9) ?_)
 rintro _ ⟨H0, F⟩ ⟨rfl, hI0, hp0, ht0, htr0, ho0, hcl0⟩
 simp only [] at hp0 ht0 htr0 ho0 hcl0 hI0
 refine os 1 ?_
 refine nq ?_
 refine sr ?_
 refine os 1 ?_
 refine oV (.bool false) ?_
 refine nt ?_
 refine cf ?_
 refine Ql (Qi ?_)
 refine sr ?_
 refine os 1 ?_
 refine L (cl (hq_Make hI0 0 18445336698825998337) ?_)
 rintro v2 H1 ⟨hv2, hI1, hpx1, htx1, hgx1⟩
 obtain rfl : v2 = .tuple #[.int .u64 wA, .bool true] := hv2.trans (by rw [hp0, alive_make1.1])
 have hp1 : HeapV.pub H1 F = lA1 := by rw [hpx1, hp0]; exact alive_make1.2
 refine os 5 ?_
 refine kp [2, 13, 1, 0] ?_
 refine nsr ?_
 refine os 2 ?_
 refine L (cl (hq_Make hI1 0 wA) ?_)
 rintro v3 H2 ⟨hv3, hI2, hpx2, htx2, hgx2⟩
 obtain rfl : v3 = .tuple #[.int .u64 wB, .bool true] := hv3.trans (by rw [hp1, alive_make2.1])
 have hp2 : HeapV.pub H2 F = lA2 := by rw [hpx2, hp1]; exact alive_make2.2
 refine os 5 ?_
 refine kp [4, 2, 13, 1, 0] ?_
 refine nsr ?_
 refine os 2 ?_
 refine L (cl (rf_Int (n := 3)) ?_)
 rintro v4 _ hv4
 obtain rfl : v4 = .int .u64 vA := hv4.trans (congrArg (Value.int .u64) refInt3)
 refine un ?_
 have hflA : ∀ o ∈ HeapV.pub H2 F, ∀ d ∈ o.descs, Qv d.2.2 = d.2.2 := by rw [hp2]; exact flags_A2
 refine L (cl (prop_Assign hL hI2 (by omega) hflA wA (key := keyA) (by decide) vA) ?_)
 rintro v5 H3 ⟨hv5, hst3⟩
 obtain rfl : v5 = .tuple #[.int .u64 undefW, .int .i64 0] := hv5.trans (by rw [hp2, alive_asg])
 rw [hp2] at hst3
 refine os 5 ?_
 refine kp [7, 4, 2, 13, 1, 0] ?_
 refine nsr ?_
 refine os 2 ?_
 refine L (cl (prop_Lookup hL hst3.inv wB (key := keyA) (by decide)) ?_)
 rintro v6 _ hv6
 obtain rfl : v6 = .tuple #[.int .u64 wA, .agg #[.int .u64 vA, .int .u64 undefW, .int .i64 7], .bool true] := hv6.trans (by rw [hst3.pub, alive_look]; rfl)
 refine os 4 ?_
 refine L (nw 45 3 [.int .u64 0, .int .u64 0, .int .i64 0] ?_)
 intro b1
 refine os 1 ?_
 refine L (st [.int .u64 vA, .int .u64 undefW, .int .i64 7] ?_)
 refine os 1 ?_
 refine kp [10, 8, 9, 7, 4, 2, 13, 1, 0] ?_
 refine nq ?_
 refine QV [(b1, 0, .int .u64 vA), (b1, 2, .int .i64 7)] [0, 1, 2, 3, 4, 5, 6, 7, 8, 9, 10, 11, 12, 13, 14, 15, 16, 17] (by kernel_rfl) (Qf (Cell.own Qe rfl) (Qf (Cell.own Qe rfl) QP)) ?_
 refine aS 0 ?_
 refine tk 1 (.bool true) ?_
 refine aS 2 ?_
 refine aS 3 ?_
 refine aS 4 ?_
 refine aS 5 ?_
 refine aS 6 ?_
 refine aS 7 ?_
 refine aS 8 ?_
 refine aS 9 ?_
 refine kpA [48, 10, 8, 9, 7, 4, 2, 13, 1, 0] ?_
 refine aS 10 ?_
 refine pnA 49 (show (wA == wA) = true from (by decide)) ?_
 refine aF 11 ?_
 refine aL 12 ?_
 refine sa1 true 13 (h := cl (rf_Int (n := 3)) ?_)
 rintro v8 _ hv8
 obtain rfl : v8 = .int .u64 vA := hv8.trans (congrArg (Value.int .u64) refInt3)
 try simp only [List.cons_append, List.append_assoc, List.nil_append]
 refine ⟨fun hnd => (Qf (Cell.own Qe rfl) (Qf (Cell.own Qe rfl) QP)), ?_⟩
 refine aS 14 ?_
 refine aS 15 ?_
 refine aS 16 ?_
 refine pnA 55 (show (vA == vA) = true from (by decide)) ?_
 refine aF 17 ?_
 refine aL 18 ?_
 refine kpA [57, 55, 10, 8, 9, 7, 4, 2, 13, 1, 0] ?_
 refine tk 19 (.bool true) ?_
 refine aS 20 ?_
 refine aS 21 ?_
 refine QS (by kernel_rfl) (Qi ?_)
 refine Qj ?_
 refine Qh (.bool true) (fun _ => rfl) ?_
 exact ⟨(), ⟨_, List.Perm.refl _⟩, congrArg Value.bool (by decide)⟩

end Go.Proofs.YthflblophelioaaGreatDoor
namespace Go.Proofs.YthflblophelioaaGreatDoor
open Go.Sl

end Go.Proofs.YthflblophelioaaGreatDoor
namespace Go.Proofs.YthflblophelioaaGreatDoor
open Go.Sl
variable {l l' : List ObjS} {w o : Int} {key k : ByteArray} {x : OpW} {y : ObjS} {f : ObjS → ObjS}
theorem defP_cases (l : List ObjS) (w : Int) (key : ByteArray) (q : WishP) : defP l w key q = (l, false) ∨ (¬ defNo l w key q ∧
   ((arrP l w = true ∧ key = lenK ∧ (defD l w key q).2.2 = 1 ∧ ∃ m, isI (defD l w key q).1 = some m ∧ defP l w key q = (modP l w (lenO m), lenQ l w m)) ∨
    (arrP l w = true ∧ key ≠ lenK ∧ (idxV key).2 = true ∧ (defD l w key q).2.2 = 7 ∧ defP l w key q = (modP l w (setO (idxV key).1 (defD l w key q).1), setQ l w (idxV key).1)) ∨
    ((arrP l w = true → key ≠ lenK ∧ (idxV key).2 = false) ∧ defP l w key q = (modP l w (putO key (defD l w key q)), true)))) := by
 by_cases hno : defNo l w key q
 · exact .inl (defP_no hno)
 · rw [defP_go hno]
   unfold defGo
   by_cases h1 : arrP l w = true ∧ key = lenK
   · rw [if_pos h1]
     by_cases h2 : (defD l w key q).2.2 = 1
     · rw [if_pos h2]
       unfold lenGo
       cases h3 : isI (defD l w key q).1 with
       | none => exact .inl rfl
       | some m => exact .inr ⟨hno, .inl ⟨h1.1, h1.2, h2, m, rfl, rfl⟩⟩
     · rw [if_neg h2]; exact .inl rfl
   · rw [if_neg h1]
     by_cases h2 : arrP l w = true ∧ (idxV key).2 = true
     · rw [if_pos h2]
       by_cases h3 : (defD l w key q).2.2 = 7
       · rw [if_pos h3]; exact .inr ⟨hno, .inr (.inl ⟨h2.1, fun z => h1 ⟨h2.1, z⟩, h2.2, h3, rfl⟩)⟩
       · rw [if_neg h3]; exact .inl rfl
     · rw [if_neg h2]
       exact .inr ⟨hno, .inr (.inr ⟨fun ha => ⟨fun z => h1 ⟨ha, z⟩, by rw [← Bool.not_eq_true]; exact fun z => h2 ⟨ha, z⟩⟩, rfl⟩)⟩
theorem delP_cases (l : List ObjS) (w : Int) (key : ByteArray) : (delP l w key).1 = l ∨ ((QD l w key).isSome = true ∧ (QF (Qq (QD l w key)).2.2 4 == 0) = false ∧
   ((arrP l w = true ∧ (idxV key).2 = true ∧ delP l w key = (modP l w (setO (idxV key).1 holeW), setQ l w (idxV key).1)) ∨ delP l w key = (modP l w (dropO key), hasQ l w key))) := by
 by_cases h1 : (QD l w key).isSome = true
 · cases h2 : (QF (Qq (QD l w key)).2.2 4 == 0) with
   | true => left; rw [delP_no h1 h2]
   | false =>
     right
     refine ⟨h1, rfl, ?_⟩
     by_cases h3 : (idxV key).2 = true ∧ arrP l w = true
     · exact .inl ⟨h3.2, h3.1, delP_ix h1 h2 h3.1 h3.2⟩
     · refine .inr (delP_drop h1 h2 ?_)
       by_cases h4 : (idxV key).2 = true
       · exact .inr (by rw [← Bool.not_eq_true]; exact fun z => h3 ⟨h4, z⟩)
       · exact .inl (by rw [← Bool.not_eq_true]; exact h4)
 · rw [Bool.not_eq_true] at h1
   left; rw [delP_none h1]
theorem asgP_cases (l : List ObjS) (w : Int) (key : ByteArray) (v : Int) : ((asgP l w key v).1 = l ∧ (asgP l w key v).2.2 ≠ 0) ∨ asgP l w key v = ((defP l w key (asgW l w key v)).1, undefW, if (defP l w key (asgW l w key v)).2 = true then 0 else 1) := by
 unfold asgP
 split
 · split
   · exact .inl ⟨rfl, (by decide : (1 : Int) ≠ 0)⟩
   · exact .inl ⟨rfl, (by decide : (2 : Int) ≠ 0)⟩
 · split
   · exact .inl ⟨rfl, (by decide : (1 : Int) ≠ 0)⟩
   · exact .inr rfl
theorem spP_cases (l : List ObjS) (w p : Int) : (spP l w p).1 = l ∨ (openQ l w = true ∧ (spP l w p).1 = reproP l w p) := by
 unfold spP
 split
 · exact .inl rfl
 · split
   · exact .inl rfl
   · split
     · exact .inl rfl
     · next ho =>
       split
       · exact .inl rfl
       · exact .inr ⟨by simpa using ho, rfl⟩
inductive StepO (l : List ObjS) (x : OpW) (o : Int) (y : ObjS) : ObjS → Prop
  | same : StepO l x o y y
  | len (q : WishP) (m : Int) : x.o = o → ¬ defNo l o x.key q → arrP l o = true → x.key = lenK → StepO l x o y (lenO m y)
  | set (m v : Int) : x.o = o → arrP l o = true → (QD l o x.key).isSome = true ∨ openQ l o = true → x.key ≠ lenK → (idxV x.key).2 = true → StepO l x o y (setO m v y)
  | put (q : WishP) : x.o = o → ¬ defNo l o x.key q → (arrP l o = true → x.key ≠ lenK ∧ (idxV x.key).2 = false) → StepO l x o y (putO x.key (defD l o x.key q) y)
  | drop : x.o = o → (QD l o x.key).isSome = true → (QF (Qq (QD l o x.key)).2.2 4 == 0) = false → StepO l x o y (dropO x.key y)
  | under (p : Int) : x.o = o → openQ l o = true → StepO l x o y (y.under p)
  | shut : StepO l x o y (shutO y)
theorem own_len_key (ha : arrP l o = true) (h : (QD l o key).isSome = true) (h4 : (QF (Qq (QD l o key)).2.2 4 == 0) = false) : key ≠ lenK := fun z => by
 rw [ownQ_len ha z] at h4
 revert h4; simp only [Qq, Option.getD]; decide
theorem defNo_open {q : WishP} (h : ¬ defNo l o key q) : (QD l o key).isSome = true ∨ openQ l o = true := by
 cases h1 : (QD l o key).isSome with
 | true => exact .inl rfl
 | false =>
   cases h2 : openQ l o with
   | true => exact .inr rfl
   | false => exact absurd (.inr (.inr (.inl ⟨h1, h2⟩))) h
theorem def_obj (h : objOf l o = some y) (q : WishP) (hx : x.o = o) : ∃ z, objOf (defP l o x.key q).1 o = some z ∧ StepO l x o y z := by
 rcases defP_cases l o x.key q with e | ⟨hno, ⟨a, b, c, m, d, e⟩ | ⟨a, b, c, d, e⟩ | ⟨a, e⟩⟩ <;> rw [e]
 · exact ⟨y, h, .same⟩
 · exact ⟨_, objOf_mod h, .len q m hx hno a b⟩
 · exact ⟨_, objOf_mod h, .set _ _ hx a (defNo_open hno) b c⟩
 · exact ⟨_, objOf_mod h, .put q hx hno a⟩
theorem def_ne (h : o ≠ w) (q : WishP) : objOf (defP l w key q).1 o = objOf l o := by
 rcases defP_cases l w key q with e | ⟨hno, ⟨a, b, c, m, d, e⟩ | ⟨a, b, c, d, e⟩ | ⟨a, e⟩⟩ <;> rw [e]
 all_goals exact objOf_mod_ne h
theorem step_obj (h : objOf l o = some y) : ∃ z, objOf (pStep l x) o = some z ∧ StepO l x o y z := by
 unfold pStep
 split
 · exact ⟨y, objOf_make h, .same⟩
 split
 · by_cases q : x.o = o
   · rw [q]; exact def_obj h _ q
   · rw [def_ne (fun z => q z.symm)]; exact ⟨y, h, .same⟩
 split
 · rcases delP_cases l x.o x.key with e | ⟨h1, h2, e⟩
   · rw [e]; exact ⟨y, h, .same⟩
   · by_cases q : x.o = o
     · rw [q] at h1 h2 e ⊢
       rcases e with ⟨a, b, e⟩ | e <;> rw [e]
       · exact ⟨_, objOf_mod h, .set _ _ q a (.inl h1) (own_len_key a h1 h2) b⟩
       · exact ⟨_, objOf_mod h, .drop q h1 h2⟩
     · rcases e with ⟨a, b, e⟩ | e <;> rw [e] <;> exact ⟨y, by rw [objOf_mod_ne (fun z => q z.symm)]; exact h, .same⟩
 split
 · rcases asgP_cases l x.o x.key x.v with ⟨e, _⟩ | e <;> rw [e]
   · exact ⟨y, h, .same⟩
   · by_cases q : x.o = o
     · rw [q]; exact def_obj h _ q
     · show ∃ z, objOf (defP l x.o x.key _).1 o = some z ∧ _
       rw [def_ne (fun z => q z.symm)]; exact ⟨y, h, .same⟩
 split
 · rcases spP_cases l x.o x.p with e | ⟨a, e⟩ <;> rw [e]
   · exact ⟨y, h, .same⟩
   · obtain ⟨q, e1, e2⟩ := objOf_repro (w := x.o) (p := x.p) h
     rw [e1]
     by_cases hq : x.o = o
     · exact ⟨_, rfl, .under q hq (hq ▸ a)⟩
     · rw [e2 fun z => hq z.symm]; exact ⟨_, rfl, .same⟩
 split
 · by_cases q : x.o = o
   · rw [q]; exact ⟨_, objOf_mod h, .shut⟩
   · rw [objOf_mod_ne (fun z => q z.symm)]; exact ⟨y, h, .same⟩
 · exact ⟨y, h, .same⟩
theorem StepO.kind {z : ObjS} (h : StepO l x o y z) : z.kind = y.kind := by cases h <;> rfl
def FixAt (l : List ObjS) (o : Int) (key : ByteArray) (is : Bool) (f : QJ) : Prop := is = true → QD l o key = some f ∧ (QF f.2.2 4 == 0) = true
theorem fixF : ∀ f g : Fin 16, flOk (f.val : Int) = true → (QF (f.val : Int) 4 == 0) = true → (!((Q8 (f.val : Int) 1 != Q8 (g.val : Int) 1) || (QF (f.val : Int) 8 != 0)) && ((QF (f.val : Int) 1 != 0) && (bor (g.val : Int) 1 == (f.val : Int)))) = true →
 Q8 (Qv (g.val : Int)) 1 = Q8 (f.val : Int) 1 ∧ (QF (f.val : Int) 1 == 0) = false := by decide +kernel
theorem fin_of {f : Int} (h : 0 ≤ f ∧ f < 16) : ∃ j : Fin 16, (j.val : Int) = f := ⟨⟨f.toNat, by omega⟩, by simp only []; omega⟩
theorem may_fixed {d e : QJ} (hd : flOk d.2.2 = true) (he : 0 ≤ e.2.2 ∧ e.2.2 < 16) (h4 : (QF d.2.2 4 == 0) = true) (hn : Qv d.2.2 = d.2.2) (hm : mayW d e = true) : Q8 (normD e).2.2 1 = Q8 d.2.2 1 ∧ ((QF d.2.2 1 == 0) = true → normD e = d) := by
 rw [mayW_eq, Bool.or_eq_true, Bool.or_eq_true] at hm
 rcases hm with (q | q) | q
 · exfalso
   have : QF d.2.2 4 = 0 := by simpa using h4
   rw [this] at q; cases q
 · have := deq_iff.1 q
   subst this
   have e1 : normD d = d := by unfold normD; rw [hn]
   rw [e1]; exact ⟨rfl, fun _ => rfl⟩
 · obtain ⟨a, ha⟩ := fin_of (flOk_range hd)
   obtain ⟨b, hb⟩ := fin_of he
   have := fixF a b
   rw [ha, hb] at this
   obtain ⟨r1, r2⟩ := this hd h4 q
   exact ⟨r1, fun z => by rw [r2] at z; cases z⟩
theorem get_norm (hl : Nice l) (hy : y ∈ l) {d : QJ} (h : getP y.names y.descs key = some d) : Qv d.2.2 = d.2.2 := by
 unfold getP at h
 split at h
 · cases h
 · exact hl.doc.flags y hy d (List.mem_of_getElem? h)
theorem own_norm (hl : Nice l) (h : objOf l o = some y) {d : QJ} (hd : ownO y key = some d) : Qv d.2.2 = d.2.2 := by
 have hm := objOf_mem h
 unfold ownO at hd
 split at hd
 · split at hd
   · cases hd; exact (by decide : Qv 1 = 1)
   · split at hd
     · split at hd
       · cases hd; exact (by decide : Qv 7 = 7)
       · cases hd
     · exact get_norm hl hm hd
 · exact get_norm hl hm hd
theorem own_elem_no {d : QJ} {m : Nat} (hk : y.kind = 1) (hn : key ≠ lenK) (hi : idxK key = some m) (hd : ownO y key = some d) : (QF d.2.2 4 == 0) = false := by
 unfold ownO at hd
 rw [if_pos hk, if_neg hn, hi] at hd
 simp only [] at hd
 split at hd
 · cases hd; exact (by decide : (QF 7 4 == 0) = false)
 · cases hd
theorem fixed_elems {d0 : QJ} (h4 : (QF d0.2.2 4 == 0) = true) (hk : y.kind = 1) (h : ownO y key = some d0) (es : List Int) : ∃ d, ownO (⟨y.kind, y.proto, y.shut, y.names, y.descs, es, y.inner⟩ : ObjS) key = some d ∧ Q8 d.2.2 1 = Q8 d0.2.2 1 := by
 by_cases hn : key = lenK
 · have h2 := h
   unfold ownO at h2 ⊢
   rw [if_pos hk, if_pos hn] at h2
   rw [if_pos hk, if_pos hn]
   cases h2
   exact ⟨_, rfl, rfl⟩
 · cases hi : idxK key with
   | some m => rw [own_elem_no hk hn hi h] at h4; cases h4
   | none =>
     refine ⟨d0, ?_, rfl⟩
     rw [← h]
     unfold ownO
     rw [if_pos hk, if_pos hk, if_neg hn, if_neg hn, hi]
theorem fixed_law (hl : Nice l) {d0 : QJ} (h : QD l o key = some d0) (h4 : (QF d0.2.2 4 == 0) = true) :
   ∃ d, QD (pStep l x) o key = some d ∧ Q8 d.2.2 1 = Q8 d0.2.2 1 ∧ ((QF d0.2.2 1 == 0) = true → arrP (pStep l x) o = false → d = d0) := by
 have hy : ∃ y, objOf l o = some y := by
   unfold QD at h
   cases q : objOf l o with
   | none => rw [q] at h; cases h
   | some y => exact ⟨y, rfl⟩
 obtain ⟨y, hy⟩ := hy
 have h0 := h
 rw [ownQ_of hy] at h
 obtain ⟨z, e, hz⟩ := step_obj (x := x) hy
 have hk := hz.kind
 rw [ownQ_of e, arrQ_of e, hk]
 have same : ∀ {z : ObjS}, z.kind = y.kind → z.elems = y.elems → z.names = y.names → z.descs = y.descs → ∃ d, ownO z key = some d ∧ Q8 d.2.2 1 = Q8 d0.2.2 1 ∧ ((QF d0.2.2 1 == 0) = true → (y.kind == 1) = false → d = d0) := fun a b c d => ⟨d0, (ownO_names a b (by rw [c, d])).trans h, rfl, fun _ _ => rfl⟩
 have arr : arrP l o = true → y.kind = 1 := fun a => by rw [arrQ_of hy] at a; simpa using a
 cases hz with
 | same => exact same rfl rfl rfl rfl
 | under p _ _ => exact same rfl rfl rfl rfl
 | shut => exact same rfl rfl rfl rfl
 | len q m _ _ a _ =>
   obtain ⟨d, d1, d2⟩ := fixed_elems h4 (arr a) h (setLenQ y.elems m)
   exact ⟨d, d1, d2, fun _ z => by rw [arr a] at z; cases z⟩
 | set m v _ a _ _ _ =>
   obtain ⟨d, d1, d2⟩ := fixed_elems h4 (arr a) h (setElemL y.elems m v)
   exact ⟨d, d1, d2, fun _ z => by rw [arr a] at z; cases z⟩
 | drop _ h1 h2 =>
   have hne : key ≠ x.key := fun z => by rw [← z, h0] at h2; rw [show (QF (Qq (some d0)).2.2 4 == 0) = (QF d0.2.2 4 == 0) from rfl, h4] at h2; cases h2
   exact ⟨d0, (own_drop_ne hl hy hne).trans h, rfl, fun _ _ => rfl⟩
 | put q hx hno ha =>
   by_cases hke : key = x.key
   · subst hke
     have hm : mayW d0 (defD l o x.key q) = true := by
       cases z : mayW d0 (defD l o x.key q) with
       | true => rfl
       | false => exact absurd (.inr (.inr (.inr ⟨by rw [h0]; rfl, by rw [h0]; exact z⟩))) hno
     have hf : flOk d0.2.2 = true := by have := own_flags (l := l) (w := o) (key := x.key) hl.doc.flags; rw [h0] at this; exact this
     have he : 0 ≤ (defD l o x.key q).2.2 ∧ (defD l o x.key q).2.2 < 16 := by unfold defD; rw [h0]; exact wishP_small q (flOk_range hf)
     obtain ⟨r1, r2⟩ := may_fixed hf he h4 (own_norm hl hy h) hm
     exact ⟨_, own_put hl hy ha, r1, fun z _ => r2 z⟩
   · exact ⟨d0, (own_put_ne hl hy hke).trans h, rfl, fun _ _ => rfl⟩
theorem fix4 : ∀ f g : Fin 16, Q8 (f.val : Int) 1 = Q8 (g.val : Int) 1 → QF (f.val : Int) 4 = QF (g.val : Int) 4 := by decide +kernel
theorem own_range (hl : Nice l) {d : QJ} (h : QD l o key = some d) : 0 ≤ d.2.2 ∧ d.2.2 < 16 := by
 have := own_flags (l := l) (w := o) (key := key) hl.doc.flags
 rw [h] at this
 exact flOk_range this
theorem fixed_conf (hl : Nice l) (hl2 : Nice l') {d e : QJ} (h : QD l o key = some d) (h2 : QD l' o key = some e) (hb : Q8 e.2.2 1 = Q8 d.2.2 1) (h4 : (QF d.2.2 4 == 0) = true) : (QF e.2.2 4 == 0) = true := by
 obtain ⟨a, ha⟩ := fin_of (own_range hl h)
 obtain ⟨b, hb2⟩ := fin_of (own_range hl2 h2)
 have := fix4 b a (by rw [ha, hb2]; exact hb)
 rw [ha, hb2] at this
 rw [this]; exact h4
theorem fix_go {is : Bool} {f : QJ} (hl : Nice l) (hl2 : Nice (pStep l x)) (h : FixAt l o key is f) (hi : is = true) : ∃ d, QD (pStep l x) o key = some d ∧ Q8 d.2.2 1 = Q8 f.2.2 1 ∧ ((QF f.2.2 1 == 0) = true → arrP (pStep l x) o = false → d = f) ∧ (QF d.2.2 4 == 0) = true ∧ QB o (pStep l x).length ≠ none := by
 obtain ⟨h1, h2⟩ := h hi
 obtain ⟨d, a, b, c⟩ := fixed_law (x := x) hl h1 h2
 refine ⟨d, a, b, c, fixed_conf hl hl2 h1 a b h2, fun q => ?_⟩
 rw [ownQ_none q] at a; cases a
end Go.Proofs.YthflblophelioaaGreatDoor
namespace Go.Proofs.YthflblophelioaaGreatDoor
open Go.Sl

theorem law_PropsFixed {W0 : World} (hL : Laid W0) {A : Option Addr} {c : Nat} {l : List OpW} (hls : ∀ σ, Src W0 σ A (l.flatMap OpW.cells)) (hl : l.length ≤ 1048576) (hops : ∀ x ∈ l, OwOk x) {p : Int} (hp : QK p) {key : ByteArray} (hks : key.size ≤ 281474976710656) : SC Tryz.prog W0 7 #[.slice A l.length c, .int .u64 p, .string key] [] (Ret (fun _ : Unit => []) (fun v _ => v = .bool true)) := by
 refine Qy (fn := Tryz.f7) (n := 90) Tryz.func7 rfl (by kernel_rfl) (ρ := [(0, .slice A l.length c), (1, .int .u64 p), (2, .string key)]) rfl ?_
 refine sr ?_
 refine os 1 ?_
 refine nsr ?_
 refine L (cl (law_made hL (A := none) (c := 0) (l := []) (fun σ => .inl rfl) (Nat.zero_le _) (fun x hx => (by cases hx))) ?_)
 rintro _ ⟨H0, F, R0⟩ ⟨rfl, hS0⟩
 refine un ?_
 simp only [] at hS0
 refine os 3 ?_
 refine L (nw 28 2 [.slice none 0 0, .slice none 0 0] ?_)
 intro b1
 refine os 1 ?_
 refine L (st [Gs.val R0.s R0.objs.length, Gs.val R0.ts R0.texts.length] ?_)
 refine nq ?_
 refine sr ?_
 refine os 1 ?_
 refine oV (.bool false) ?_
 refine os 1 ?_
 refine kp [21, 7, 8, 6, 0, 1, 2] ?_
 refine L (cl (law_alive14 hL) ?_)
 rintro _ _ rfl
 refine un ?_
 refine oV (.bool false) ?_
 refine os 1 ?_
 refine kp [24, 7, 8, 6, 0, 1, 2] ?_
 refine nt ?_
 refine cf ?_
 refine Ql (Qi ?_)
 refine sr ?_
 refine oV (.agg #[.int .u64 0, .int .u64 0, .int .i64 0]) ?_
 refine L (nw 45 3 [.int .u64 0, .int .u64 0, .int .i64 0] ?_)
 intro b2
 refine L (st [.int .u64 0, .int .u64 0, .int .i64 0] ?_)
 refine nsr ?_
 refine os 1 ?_
 refine nq ?_
 refine sr ?_
 refine os 3 ?_
 refine nt ?_
 refine QM ?_
 refine SW_loop (α := Nat × HeapV × RSt × Bool × QJ) (fun z_ ρ_ σ_ => Fits ρ_ σ_ [(1, .int .u64 p), (2, .string key), (7, pt F.p 0), (8, pt b1 0), (9, pt b2 0), (10, .bool z_.2.2.2.1), (26, .slice A l.length c), (27, .int .i64 (l.length : Int)), (28, .int .i64 (z_.1 : Int))] ((HeapV.ent z_.2.1 F) ++ ((RSt.ent z_.2.2.1) ++ ((b1, .cells 28 2 [Gs.val z_.2.2.1.s z_.2.2.1.objs.length, Gs.val z_.2.2.1.ts z_.2.2.1.texts.length]) :: ((b2, .cells 45 3 [.int .u64 z_.2.2.2.2.1, .int .u64 z_.2.2.2.2.2.1, .int .i64 z_.2.2.2.2.2.2]) :: ([]))))) ∧ z_.1 ≤ l.length ∧ SimW (z_.1) z_.2.1 F z_.2.2.1 ∧ FixAt (RSt.pub z_.2.2.1) p key z_.2.2.2.1 z_.2.2.2.2) (fun z_ => l.length - z_.1) (0, H0, R0, false, (0, 0, 0)) ⟨⟨fun _ => rfl, ow⟩, Nat.zero_le _, hS0, (fun z_ => by cases z_)⟩ ?_
 rintro ⟨i, H, R, is, f⟩ ρ_ σ_ ⟨hfit, hi0, hi1, hi2⟩
 refine Q3 hfit ?_
 clear hfit
 simp only [] at hi0 hi1 hi2 ⊢
 refine sr ?_
 refine os 1 ?_
 refine nq ?_
 refine cdp (fun hc3 : (i : Int) < (l.length : Int) => ?_) (fun hc3 => ?_)
 ·refine Ql (Qi ?_)
  refine Qx ?_
  refine QM ?_
  refine Qx ?_
  obtain ⟨b0_, o0_, rfl, hqb0_⟩ := (hls []).resolve_left (by rw [QI OpW.len]; omega)
  refine Qm ?_
  refine L (O_indexAddr' (i : Int) (o0_ + i * 11) b0_ o0_ l.length c .i64 11 Tryz.underlying22 (by kernel_rfl) (fun _ => rfl) (fun _ => rfl) (by omega) (by omega) (by omega) rfl ?_)
  obtain ⟨e1, he1⟩ : ∃ y_, l[i]? = some y_ := ⟨_, List.getElem?_eq_getElem (by omega)⟩
  refine L (ldr [.int .i64 e1.kind, .int .u64 e1.o, .int .u64 e1.p, .string e1.key, .int .i64 e1.w.has, .int .u64 e1.w.value, .int .u64 e1.w.get, .int .u64 e1.w.set, .int .i64 e1.w.flags, .int .u64 e1.v, .int .i64 e1.n] (Qb (Cell.mono (hqb0_ _ _ (Qg OpW.len he1 (j := 0) (by decide) rfl)) (fun e he => absurd he List.not_mem_nil)) (Qb (Cell.mono (hqb0_ _ _ (Qg OpW.len he1 (j := 1) (by decide) rfl)) (fun e he => absurd he List.not_mem_nil)) (Qb (Cell.mono (hqb0_ _ _ (Qg OpW.len he1 (j := 2) (by decide) rfl)) (fun e he => absurd he List.not_mem_nil)) (Qb (Cell.mono (hqb0_ _ _ (Qg OpW.len he1 (j := 3) (by decide) rfl)) (fun e he => absurd he List.not_mem_nil)) (Qb (Cell.mono (hqb0_ _ _ (Qg OpW.len he1 (j := 4) (by decide) rfl)) (fun e he => absurd he List.not_mem_nil)) (Qb (Cell.mono (hqb0_ _ _ (Qg OpW.len he1 (j := 5) (by decide) rfl)) (fun e he => absurd he List.not_mem_nil)) (Qb (Cell.mono (hqb0_ _ _ (Qg OpW.len he1 (j := 6) (by decide) rfl)) (fun e he => absurd he List.not_mem_nil)) (Qb (Cell.mono (hqb0_ _ _ (Qg OpW.len he1 (j := 7) (by decide) rfl)) (fun e he => absurd he List.not_mem_nil)) (Qb (Cell.mono (hqb0_ _ _ (Qg OpW.len he1 (j := 8) (by decide) rfl)) (fun e he => absurd he List.not_mem_nil)) (Qb (Cell.mono (hqb0_ _ _ (Qg OpW.len he1 (j := 9) (by decide) rfl)) (fun e he => absurd he List.not_mem_nil)) (Qb (Cell.mono (hqb0_ _ _ (Qg OpW.len he1 (j := 10) (by decide) rfl)) (fun e he => absurd he List.not_mem_nil)) Qo))))))))))) ?_)
  refine L (nw 37 11 [.int .i64 0, .int .u64 0, .int .u64 0, .string ByteArray.empty, .int .i64 0, .int .u64 0, .int .u64 0, .int .u64 0, .int .i64 0, .int .u64 0, .int .i64 0] ?_)
  intro b4
  refine L (st [.int .i64 e1.kind, .int .u64 e1.o, .int .u64 e1.p, .string e1.key, .int .i64 e1.w.has, .int .u64 e1.w.value, .int .u64 e1.w.get, .int .u64 e1.w.set, .int .i64 e1.w.flags, .int .u64 e1.v, .int .i64 e1.n] ?_)
  refine nsr ?_
  refine os 1 ?_
  refine L (lds 2 ?_)
  refine L (lds 11 ?_)
  have hop_ := hops _ (List.mem_of_getElem? he1)
  refine L (cl (law_step14 hL hi1 (by omega) hop_) ?_)
  rintro _ ⟨H4, R4⟩ ⟨rfl, hd4⟩
  refine un ?_
  simp only [] at hd4
  have hi2_ : Nice (pStep R.pub e1) := by rw [← hd4.doc]; exact hd4.sim.nice
  refine os 3 ?_
  refine kp [37, 12, 29, 1, 2, 7, 8, 9, 10, 26, 27, 28] ?_
  refine L (st [Gs.val R4.s R4.objs.length, Gs.val R4.ts R4.texts.length] ?_)
  refine nsr ?_
  refine os 3 ?_
  have hcq_ := prop_Own hL hd4.sim.inv p hks
  rw [hd4.sim.objs] at hcq_
  refine L (cl (hcq_) ?_)
  rintro v4 _ hv4
  obtain rfl : v4 = .tuple #[.agg #[.int .u64 ((Qq (QD R4.pub p key)).1), .int .u64 ((Qq (QD R4.pub p key)).2.1), .int .i64 ((Qq (QD R4.pub p key)).2.2)], .bool ((QD R4.pub p key).isSome)] := hv4.trans (Q7 _)
  refine os 3 ?_
  refine kp [45, 44, 12, 29, 1, 2, 7, 8, 9, 10, 26, 27, 28] ?_
  refine L (nw 45 3 [.int .u64 0, .int .u64 0, .int .i64 0] ?_)
  intro b5
  refine L (st [.int .u64 ((Qq (QD R4.pub p key)).1), .int .u64 ((Qq (QD R4.pub p key)).2.1), .int .i64 ((Qq (QD R4.pub p key)).2.2)] ?_)
  refine os 1 ?_
  refine nq ?_
  refine sr ?_
  refine os 1 ?_
  refine nt ?_
  refine cd (fun hc6 : (is) = true => ?_) (fun hc6 => ?_)
  ·refine Qx ?_
   obtain ⟨d_, q1_, q2_, q3_, q4_, q5_⟩ := fix_go (x := e1) hi1.nice hi2_ hi2 (by assumption)
   rw [← hd4.doc] at q1_ q3_ q5_
   refine Qm ?_
   refine os 3 ?_
   refine pn 49 (show (!((QD R4.pub p key).isSome)) = false from (by rw [q1_]; rfl)) ?_
   refine os 1 ?_
   refine L (ld ?_)
   refine oV (.int .i64 (Q8 ((Qq (QD R4.pub p key)).2.2) 1)) ?_
   refine os 1 ?_
   refine kp [53, 52, 49, 46, 14, 13, 12, 29, 1, 2, 7, 8, 9, 10, 26, 27, 28] ?_
   refine L (ld ?_)
   refine oV (.int .i64 (Q8 f.2.2 1)) ?_
   refine os 3 ?_
   refine kp [58, 46, 14, 13, 12, 29, 1, 2, 7, 8, 9, 10, 26, 27, 28] ?_
   refine pn 58 (show ((Q8 ((Qq (QD R4.pub p key)).2.2) 1) != (Q8 f.2.2 1)) = false from (by rw [q1_]; simp [q2_])) ?_
   refine os 1 ?_
   refine L (ld ?_)
   refine oV (.int .i64 (QF f.2.2 1)) ?_
   refine os 2 ?_
   refine tb 63 (fun hg9 => ?_) (fun hg9 => ?_)
   ·replace hg9 : ((QF f.2.2 1) == 0) = true := hg9
    refine L (lds 2 ?_)
    refine os 1 ?_
    refine L (cl (rz_Array hd4.sim.ok (w := p) hp) ?_)
    rintro _ _ rfl
    refine os 3 ?_
    refine kp [69, 58, 46, 14, 13, 12, 29, 1, 2, 7, 8, 9, 10, 26, 27, 28] ?_
    refine tb 69 (fun hg10 => ?_) (fun hg10 => ?_)
    ·replace hg10 : (!(arrP R4.pub p)) = true := hg10
     replace hg10 := bnot_t hg10
     refine L (lds 3 ?_)
     refine L (lds 3 ?_)
     refine oV (.bool (!(((Qq (QD R4.pub p key)).1 == f.1) && (((Qq (QD R4.pub p key)).2.1 == f.2.1) && ((Qq (QD R4.pub p key)).2.2 == f.2.2))))) ?_ (hs := neqD)
     refine os 2 ?_
     refine kp [74, 46, 14, 13, 12, 29, 1, 2, 7, 8, 9, 10, 26, 27, 28] ?_
     refine nt ?_
     refine SW_false (fun _ => (congrArg Value.bool (show (!(((Qq (QD R4.pub p key)).1 == f.1) && (((Qq (QD R4.pub p key)).2.1 == f.2.1) && ((Qq (QD R4.pub p key)).2.2 == f.2.2)))) = false from (by rw [q1_, show Qq (some d_) = f from q3_ (by assumption) (by assumption)]; simp)))) ?_
     refine Ql (Qi ?_)
     refine sr ?_
     refine os 2 ?_
     refine tb 76 (fun hg11 => ?_) (fun hg11 => ?_)
     ·replace hg11 : ((QD R4.pub p key).isSome) = true := hg11
      refine os 1 ?_
      refine L (ld ?_)
      refine oV (.int .i64 (QF ((Qq (QD R4.pub p key)).2.2) 4)) ?_
      refine os 3 ?_
      refine kp [82, 74, 46, 14, 13, 12, 29, 1, 2, 7, 8, 9, 10, 26, 27, 28] ?_
      refine tb 82 (fun hg12 => ?_) (fun hg12 => ?_)
      ·replace hg12 : ((QF ((Qq (QD R4.pub p key)).2.2) 4) == 0) = true := hg12
       refine L (lds 2 ?_)
       refine os 1 ?_
       refine L (cl (rq_At (R := R4) hp) ?_)
       rintro _ _ rfl
       refine un ?_
       refine os 2 ?_
       refine kp [87, 74, 46, 14, 13, 12, 29, 1, 2, 7, 8, 9, 10, 26, 27, 28] ?_
       refine nt ?_
       refine cdp (fun hc13 : (atW R4.pub p) ≥ 0 => ?_) (fun hc13 => ?_)
       ·refine sr ?_
        refine L (lds 3 ?_)
        refine L (st [.int .u64 ((Qq (QD R4.pub p key)).1), .int .u64 ((Qq (QD R4.pub p key)).2.1), .int .i64 ((Qq (QD R4.pub p key)).2.2)] ?_)
        refine nr ?_
        refine os 1 ?_
        refine Q5 (n_in (Qi ?_))
        refine Qm ?_
        refine os 2 ?_
        refine nt ?_
        exact ⟨(i + 1, H4, R4, true, ((Qq (QD R4.pub p key)).1, (Qq (QD R4.pub p key)).2.1, (Qq (QD R4.pub p key)).2.2)), by simp only []; omega, ⟨fun _ => rfl, ow⟩, by simp only []; omega, (by simp only []; exact hd4.sim), (by intro _; exact ⟨some_of (by assumption), by assumption⟩)⟩
       refine Ql (n_in (Qi ?_))
       refine Qm ?_
       refine os 2 ?_
       refine nt ?_
       exact ⟨(i + 1, H4, R4, is, (f.1, f.2.1, f.2.2)), by simp only []; omega, ⟨fun _ => rfl, ow⟩, by simp only []; omega, (by simp only []; exact hd4.sim), (by intro z_; exfalso; obtain ⟨d_, q1_, q2_, q3_, q4_, q5_⟩ := fix_go (x := e1) hi1.nice hi2_ hi2 z_; rw [← hd4.doc] at q1_ q3_ q5_; first | (have y_ : (QD R4.pub p key).isSome = false := (by assumption); rw [q1_] at y_; cases y_) | (have y_ : (QF (Qq (QD R4.pub p key)).2.2 4 == 0) = false := (by assumption); rw [q1_] at y_; rw [show (QF (Qq (some d_)).2.2 4 == 0) = (QF d_.2.2 4 == 0) from rfl, q4_] at y_; cases y_) | (exact q5_ (atW_neg.1 (by omega))))⟩
      replace hg12 : ((QF ((Qq (QD R4.pub p key)).2.2) 4) == 0) = false := hg12
      refine os 5 ?_
      refine kp [87, 74, 46, 14, 13, 12, 29, 1, 2, 7, 8, 9, 10, 26, 27, 28] ?_
      refine nt ?_
      refine cf ?_
      refine Ql (n_in (Qi ?_))
      refine Qm ?_
      refine os 2 ?_
      refine nt ?_
      exact ⟨(i + 1, H4, R4, is, (f.1, f.2.1, f.2.2)), by simp only []; omega, ⟨fun _ => rfl, ow⟩, by simp only []; omega, (by simp only []; exact hd4.sim), (by intro z_; exfalso; obtain ⟨d_, q1_, q2_, q3_, q4_, q5_⟩ := fix_go (x := e1) hi1.nice hi2_ hi2 z_; rw [← hd4.doc] at q1_ q3_ q5_; first | (have y_ : (QD R4.pub p key).isSome = false := (by assumption); rw [q1_] at y_; cases y_) | (have y_ : (QF (Qq (QD R4.pub p key)).2.2 4 == 0) = false := (by assumption); rw [q1_] at y_; rw [show (QF (Qq (some d_)).2.2 4 == 0) = (QF d_.2.2 4 == 0) from rfl, q4_] at y_; cases y_) | (exact q5_ (atW_neg.1 (by omega))))⟩
     replace hg11 : ((QD R4.pub p key).isSome) = false := hg11
     refine os 11 ?_
     refine kp [87, 74, 46, 14, 13, 12, 29, 1, 2, 7, 8, 9, 10, 26, 27, 28] ?_
     refine nt ?_
     refine cf ?_
     refine Ql (n_in (Qi ?_))
     refine Qm ?_
     refine os 2 ?_
     refine nt ?_
     exact ⟨(i + 1, H4, R4, is, (f.1, f.2.1, f.2.2)), by simp only []; omega, ⟨fun _ => rfl, ow⟩, by simp only []; omega, (by simp only []; exact hd4.sim), (by intro z_; exfalso; obtain ⟨d_, q1_, q2_, q3_, q4_, q5_⟩ := fix_go (x := e1) hi1.nice hi2_ hi2 z_; rw [← hd4.doc] at q1_ q3_ q5_; first | (have y_ : (QD R4.pub p key).isSome = false := (by assumption); rw [q1_] at y_; cases y_) | (have y_ : (QF (Qq (QD R4.pub p key)).2.2 4 == 0) = false := (by assumption); rw [q1_] at y_; rw [show (QF (Qq (some d_)).2.2 4 == 0) = (QF d_.2.2 4 == 0) from rfl, q4_] at y_; cases y_) | (exact q5_ (atW_neg.1 (by omega))))⟩
    replace hg10 : (!(arrP R4.pub p)) = false := hg10
    replace hg10 := bnot_f hg10
    refine os 5 ?_
    refine kp [74, 46, 14, 13, 12, 29, 1, 2, 7, 8, 9, 10, 26, 27, 28] ?_
    refine nt ?_
    refine cf ?_
    refine Ql (Qi ?_)
    refine sr ?_
    refine os 2 ?_
    refine tb 76 (fun hg14 => ?_) (fun hg14 => ?_)
    ·replace hg14 : ((QD R4.pub p key).isSome) = true := hg14
     refine os 1 ?_
     refine L (ld ?_)
     refine oV (.int .i64 (QF ((Qq (QD R4.pub p key)).2.2) 4)) ?_
     refine os 3 ?_
     refine kp [82, 74, 46, 14, 13, 12, 29, 1, 2, 7, 8, 9, 10, 26, 27, 28] ?_
     refine tb 82 (fun hg15 => ?_) (fun hg15 => ?_)
     ·replace hg15 : ((QF ((Qq (QD R4.pub p key)).2.2) 4) == 0) = true := hg15
      refine L (lds 2 ?_)
      refine os 1 ?_
      refine L (cl (rq_At (R := R4) hp) ?_)
      rintro _ _ rfl
      refine un ?_
      refine os 2 ?_
      refine kp [87, 74, 46, 14, 13, 12, 29, 1, 2, 7, 8, 9, 10, 26, 27, 28] ?_
      refine nt ?_
      refine cdp (fun hc16 : (atW R4.pub p) ≥ 0 => ?_) (fun hc16 => ?_)
      ·refine sr ?_
       refine L (lds 3 ?_)
       refine L (st [.int .u64 ((Qq (QD R4.pub p key)).1), .int .u64 ((Qq (QD R4.pub p key)).2.1), .int .i64 ((Qq (QD R4.pub p key)).2.2)] ?_)
       refine nr ?_
       refine os 1 ?_
       refine Q5 (n_in (Qi ?_))
       refine Qm ?_
       refine os 2 ?_
       refine nt ?_
       exact ⟨(i + 1, H4, R4, true, ((Qq (QD R4.pub p key)).1, (Qq (QD R4.pub p key)).2.1, (Qq (QD R4.pub p key)).2.2)), by simp only []; omega, ⟨fun _ => rfl, ow⟩, by simp only []; omega, (by simp only []; exact hd4.sim), (by intro _; exact ⟨some_of (by assumption), by assumption⟩)⟩
      refine Ql (n_in (Qi ?_))
      refine Qm ?_
      refine os 2 ?_
      refine nt ?_
      exact ⟨(i + 1, H4, R4, is, (f.1, f.2.1, f.2.2)), by simp only []; omega, ⟨fun _ => rfl, ow⟩, by simp only []; omega, (by simp only []; exact hd4.sim), (by intro z_; exfalso; obtain ⟨d_, q1_, q2_, q3_, q4_, q5_⟩ := fix_go (x := e1) hi1.nice hi2_ hi2 z_; rw [← hd4.doc] at q1_ q3_ q5_; first | (have y_ : (QD R4.pub p key).isSome = false := (by assumption); rw [q1_] at y_; cases y_) | (have y_ : (QF (Qq (QD R4.pub p key)).2.2 4 == 0) = false := (by assumption); rw [q1_] at y_; rw [show (QF (Qq (some d_)).2.2 4 == 0) = (QF d_.2.2 4 == 0) from rfl, q4_] at y_; cases y_) | (exact q5_ (atW_neg.1 (by omega))))⟩
     replace hg15 : ((QF ((Qq (QD R4.pub p key)).2.2) 4) == 0) = false := hg15
     refine os 5 ?_
     refine kp [87, 74, 46, 14, 13, 12, 29, 1, 2, 7, 8, 9, 10, 26, 27, 28] ?_
     refine nt ?_
     refine cf ?_
     refine Ql (n_in (Qi ?_))
     refine Qm ?_
     refine os 2 ?_
     refine nt ?_
     exact ⟨(i + 1, H4, R4, is, (f.1, f.2.1, f.2.2)), by simp only []; omega, ⟨fun _ => rfl, ow⟩, by simp only []; omega, (by simp only []; exact hd4.sim), (by intro z_; exfalso; obtain ⟨d_, q1_, q2_, q3_, q4_, q5_⟩ := fix_go (x := e1) hi1.nice hi2_ hi2 z_; rw [← hd4.doc] at q1_ q3_ q5_; first | (have y_ : (QD R4.pub p key).isSome = false := (by assumption); rw [q1_] at y_; cases y_) | (have y_ : (QF (Qq (QD R4.pub p key)).2.2 4 == 0) = false := (by assumption); rw [q1_] at y_; rw [show (QF (Qq (some d_)).2.2 4 == 0) = (QF d_.2.2 4 == 0) from rfl, q4_] at y_; cases y_) | (exact q5_ (atW_neg.1 (by omega))))⟩
    replace hg14 : ((QD R4.pub p key).isSome) = false := hg14
    refine os 11 ?_
    refine kp [87, 74, 46, 14, 13, 12, 29, 1, 2, 7, 8, 9, 10, 26, 27, 28] ?_
    refine nt ?_
    refine cf ?_
    refine Ql (n_in (Qi ?_))
    refine Qm ?_
    refine os 2 ?_
    refine nt ?_
    exact ⟨(i + 1, H4, R4, is, (f.1, f.2.1, f.2.2)), by simp only []; omega, ⟨fun _ => rfl, ow⟩, by simp only []; omega, (by simp only []; exact hd4.sim), (by intro z_; exfalso; obtain ⟨d_, q1_, q2_, q3_, q4_, q5_⟩ := fix_go (x := e1) hi1.nice hi2_ hi2 z_; rw [← hd4.doc] at q1_ q3_ q5_; first | (have y_ : (QD R4.pub p key).isSome = false := (by assumption); rw [q1_] at y_; cases y_) | (have y_ : (QF (Qq (QD R4.pub p key)).2.2 4 == 0) = false := (by assumption); rw [q1_] at y_; rw [show (QF (Qq (some d_)).2.2 4 == 0) = (QF d_.2.2 4 == 0) from rfl, q4_] at y_; cases y_) | (exact q5_ (atW_neg.1 (by omega))))⟩
   replace hg9 : ((QF f.2.2 1) == 0) = false := hg9
   refine os 11 ?_
   refine kp [74, 46, 14, 13, 12, 29, 1, 2, 7, 8, 9, 10, 26, 27, 28] ?_
   refine nt ?_
   refine cf ?_
   refine Ql (Qi ?_)
   refine sr ?_
   refine os 2 ?_
   refine tb 76 (fun hg17 => ?_) (fun hg17 => ?_)
   ·replace hg17 : ((QD R4.pub p key).isSome) = true := hg17
    refine os 1 ?_
    refine L (ld ?_)
    refine oV (.int .i64 (QF ((Qq (QD R4.pub p key)).2.2) 4)) ?_
    refine os 3 ?_
    refine kp [82, 74, 46, 14, 13, 12, 29, 1, 2, 7, 8, 9, 10, 26, 27, 28] ?_
    refine tb 82 (fun hg18 => ?_) (fun hg18 => ?_)
    ·replace hg18 : ((QF ((Qq (QD R4.pub p key)).2.2) 4) == 0) = true := hg18
     refine L (lds 2 ?_)
     refine os 1 ?_
     refine L (cl (rq_At (R := R4) hp) ?_)
     rintro _ _ rfl
     refine un ?_
     refine os 2 ?_
     refine kp [87, 74, 46, 14, 13, 12, 29, 1, 2, 7, 8, 9, 10, 26, 27, 28] ?_
     refine nt ?_
     refine cdp (fun hc19 : (atW R4.pub p) ≥ 0 => ?_) (fun hc19 => ?_)
     ·refine sr ?_
      refine L (lds 3 ?_)
      refine L (st [.int .u64 ((Qq (QD R4.pub p key)).1), .int .u64 ((Qq (QD R4.pub p key)).2.1), .int .i64 ((Qq (QD R4.pub p key)).2.2)] ?_)
      refine nr ?_
      refine os 1 ?_
      refine Q5 (n_in (Qi ?_))
      refine Qm ?_
      refine os 2 ?_
      refine nt ?_
      exact ⟨(i + 1, H4, R4, true, ((Qq (QD R4.pub p key)).1, (Qq (QD R4.pub p key)).2.1, (Qq (QD R4.pub p key)).2.2)), by simp only []; omega, ⟨fun _ => rfl, ow⟩, by simp only []; omega, (by simp only []; exact hd4.sim), (by intro _; exact ⟨some_of (by assumption), by assumption⟩)⟩
     refine Ql (n_in (Qi ?_))
     refine Qm ?_
     refine os 2 ?_
     refine nt ?_
     exact ⟨(i + 1, H4, R4, is, (f.1, f.2.1, f.2.2)), by simp only []; omega, ⟨fun _ => rfl, ow⟩, by simp only []; omega, (by simp only []; exact hd4.sim), (by intro z_; exfalso; obtain ⟨d_, q1_, q2_, q3_, q4_, q5_⟩ := fix_go (x := e1) hi1.nice hi2_ hi2 z_; rw [← hd4.doc] at q1_ q3_ q5_; first | (have y_ : (QD R4.pub p key).isSome = false := (by assumption); rw [q1_] at y_; cases y_) | (have y_ : (QF (Qq (QD R4.pub p key)).2.2 4 == 0) = false := (by assumption); rw [q1_] at y_; rw [show (QF (Qq (some d_)).2.2 4 == 0) = (QF d_.2.2 4 == 0) from rfl, q4_] at y_; cases y_) | (exact q5_ (atW_neg.1 (by omega))))⟩
    replace hg18 : ((QF ((Qq (QD R4.pub p key)).2.2) 4) == 0) = false := hg18
    refine os 5 ?_
    refine kp [87, 74, 46, 14, 13, 12, 29, 1, 2, 7, 8, 9, 10, 26, 27, 28] ?_
    refine nt ?_
    refine cf ?_
    refine Ql (n_in (Qi ?_))
    refine Qm ?_
    refine os 2 ?_
    refine nt ?_
    exact ⟨(i + 1, H4, R4, is, (f.1, f.2.1, f.2.2)), by simp only []; omega, ⟨fun _ => rfl, ow⟩, by simp only []; omega, (by simp only []; exact hd4.sim), (by intro z_; exfalso; obtain ⟨d_, q1_, q2_, q3_, q4_, q5_⟩ := fix_go (x := e1) hi1.nice hi2_ hi2 z_; rw [← hd4.doc] at q1_ q3_ q5_; first | (have y_ : (QD R4.pub p key).isSome = false := (by assumption); rw [q1_] at y_; cases y_) | (have y_ : (QF (Qq (QD R4.pub p key)).2.2 4 == 0) = false := (by assumption); rw [q1_] at y_; rw [show (QF (Qq (some d_)).2.2 4 == 0) = (QF d_.2.2 4 == 0) from rfl, q4_] at y_; cases y_) | (exact q5_ (atW_neg.1 (by omega))))⟩
   replace hg17 : ((QD R4.pub p key).isSome) = false := hg17
   refine os 11 ?_
   refine kp [87, 74, 46, 14, 13, 12, 29, 1, 2, 7, 8, 9, 10, 26, 27, 28] ?_
   refine nt ?_
   refine cf ?_
   refine Ql (n_in (Qi ?_))
   refine Qm ?_
   refine os 2 ?_
   refine nt ?_
   exact ⟨(i + 1, H4, R4, is, (f.1, f.2.1, f.2.2)), by simp only []; omega, ⟨fun _ => rfl, ow⟩, by simp only []; omega, (by simp only []; exact hd4.sim), (by intro z_; exfalso; obtain ⟨d_, q1_, q2_, q3_, q4_, q5_⟩ := fix_go (x := e1) hi1.nice hi2_ hi2 z_; rw [← hd4.doc] at q1_ q3_ q5_; first | (have y_ : (QD R4.pub p key).isSome = false := (by assumption); rw [q1_] at y_; cases y_) | (have y_ : (QF (Qq (QD R4.pub p key)).2.2 4 == 0) = false := (by assumption); rw [q1_] at y_; rw [show (QF (Qq (some d_)).2.2 4 == 0) = (QF d_.2.2 4 == 0) from rfl, q4_] at y_; cases y_) | (exact q5_ (atW_neg.1 (by omega))))⟩
  refine Ql (Qi ?_)
  refine sr ?_
  refine os 2 ?_
  refine tb 76 (fun hg20 => ?_) (fun hg20 => ?_)
  ·replace hg20 : ((QD R4.pub p key).isSome) = true := hg20
   refine os 1 ?_
   refine L (ld ?_)
   refine oV (.int .i64 (QF ((Qq (QD R4.pub p key)).2.2) 4)) ?_
   refine os 3 ?_
   refine kp [82, 46, 14, 13, 12, 29, 1, 2, 7, 8, 9, 10, 26, 27, 28] ?_
   refine tb 82 (fun hg21 => ?_) (fun hg21 => ?_)
   ·replace hg21 : ((QF ((Qq (QD R4.pub p key)).2.2) 4) == 0) = true := hg21
    refine L (lds 2 ?_)
    refine os 1 ?_
    refine L (cl (rq_At (R := R4) hp) ?_)
    rintro _ _ rfl
    refine un ?_
    refine os 2 ?_
    refine kp [87, 46, 14, 13, 12, 29, 1, 2, 7, 8, 9, 10, 26, 27, 28] ?_
    refine nt ?_
    refine cdp (fun hc22 : (atW R4.pub p) ≥ 0 => ?_) (fun hc22 => ?_)
    ·refine sr ?_
     refine L (lds 3 ?_)
     refine L (st [.int .u64 ((Qq (QD R4.pub p key)).1), .int .u64 ((Qq (QD R4.pub p key)).2.1), .int .i64 ((Qq (QD R4.pub p key)).2.2)] ?_)
     refine nr ?_
     refine os 1 ?_
     refine Q5 (n_in (Qi ?_))
     refine Qm ?_
     refine os 2 ?_
     refine nt ?_
     exact ⟨(i + 1, H4, R4, true, ((Qq (QD R4.pub p key)).1, (Qq (QD R4.pub p key)).2.1, (Qq (QD R4.pub p key)).2.2)), by simp only []; omega, ⟨fun _ => rfl, ow⟩, by simp only []; omega, (by simp only []; exact hd4.sim), (by intro _; exact ⟨some_of (by assumption), by assumption⟩)⟩
    refine Ql (n_in (Qi ?_))
    refine Qm ?_
    refine os 2 ?_
    refine nt ?_
    exact ⟨(i + 1, H4, R4, is, (f.1, f.2.1, f.2.2)), by simp only []; omega, ⟨fun _ => rfl, ow⟩, by simp only []; omega, (by simp only []; exact hd4.sim), (by intro z_; exfalso; obtain ⟨d_, q1_, q2_, q3_, q4_, q5_⟩ := fix_go (x := e1) hi1.nice hi2_ hi2 z_; rw [← hd4.doc] at q1_ q3_ q5_; first | (have y_ : (QD R4.pub p key).isSome = false := (by assumption); rw [q1_] at y_; cases y_) | (have y_ : (QF (Qq (QD R4.pub p key)).2.2 4 == 0) = false := (by assumption); rw [q1_] at y_; rw [show (QF (Qq (some d_)).2.2 4 == 0) = (QF d_.2.2 4 == 0) from rfl, q4_] at y_; cases y_) | (exact q5_ (atW_neg.1 (by omega))))⟩
   replace hg21 : ((QF ((Qq (QD R4.pub p key)).2.2) 4) == 0) = false := hg21
   refine os 5 ?_
   refine kp [87, 46, 14, 13, 12, 29, 1, 2, 7, 8, 9, 10, 26, 27, 28] ?_
   refine nt ?_
   refine cf ?_
   refine Ql (n_in (Qi ?_))
   refine Qm ?_
   refine os 2 ?_
   refine nt ?_
   exact ⟨(i + 1, H4, R4, is, (f.1, f.2.1, f.2.2)), by simp only []; omega, ⟨fun _ => rfl, ow⟩, by simp only []; omega, (by simp only []; exact hd4.sim), (by intro z_; exfalso; obtain ⟨d_, q1_, q2_, q3_, q4_, q5_⟩ := fix_go (x := e1) hi1.nice hi2_ hi2 z_; rw [← hd4.doc] at q1_ q3_ q5_; first | (have y_ : (QD R4.pub p key).isSome = false := (by assumption); rw [q1_] at y_; cases y_) | (have y_ : (QF (Qq (QD R4.pub p key)).2.2 4 == 0) = false := (by assumption); rw [q1_] at y_; rw [show (QF (Qq (some d_)).2.2 4 == 0) = (QF d_.2.2 4 == 0) from rfl, q4_] at y_; cases y_) | (exact q5_ (atW_neg.1 (by omega))))⟩
  replace hg20 : ((QD R4.pub p key).isSome) = false := hg20
  refine os 11 ?_
  refine kp [87, 46, 14, 13, 12, 29, 1, 2, 7, 8, 9, 10, 26, 27, 28] ?_
  refine nt ?_
  refine cf ?_
  refine Ql (n_in (Qi ?_))
  refine Qm ?_
  refine os 2 ?_
  refine nt ?_
  exact ⟨(i + 1, H4, R4, is, (f.1, f.2.1, f.2.2)), by simp only []; omega, ⟨fun _ => rfl, ow⟩, by simp only []; omega, (by simp only []; exact hd4.sim), (by intro z_; exfalso; obtain ⟨d_, q1_, q2_, q3_, q4_, q5_⟩ := fix_go (x := e1) hi1.nice hi2_ hi2 z_; rw [← hd4.doc] at q1_ q3_ q5_; first | (have y_ : (QD R4.pub p key).isSome = false := (by assumption); rw [q1_] at y_; cases y_) | (have y_ : (QF (Qq (QD R4.pub p key)).2.2 4 == 0) = false := (by assumption); rw [q1_] at y_; rw [show (QF (Qq (some d_)).2.2 4 == 0) = (QF d_.2.2 4 == 0) from rfl, q4_] at y_; cases y_) | (exact q5_ (atW_neg.1 (by omega))))⟩
 refine SW_exit (QW (QW (x_in (Qi ?_))))
 refine sr ?_
 refine os 1 ?_
 refine nt ?_
 refine Qj ?_
 refine Qh (.bool true) (fun _ => rfl) ?_
 exact ⟨(), ⟨_, List.Perm.refl _⟩, rfl⟩

end Go.Proofs.YthflblophelioaaGreatDoor
namespace Go.Proofs.YthflblophelioaaGreatDoor
open Go.Sl Go.ChangeShapes Go.WideShapes Go.ChangeAt Go.RowKit

theorem PropsFixed_contract (H : Type) (enc : TypeId × Value → H) (W : World) (base : Nat) (args : Array Value) (ds gs : List (DataW H)) (before : List MemPlace)
   (hval : ∀ (j : Nat) t v, Tryz.f7.params[j]? = some t → args[j]? = some v → Value.okWide Tryz.prog W .any base t v)
   (hW : DataW.Whole enc Tryz.prog Tryz.f7.params.toList Rows.propsFixedSpec.vars false W args.toList ds gs before) (hk : Rows.uptoSmall H (ds ++ gs) = true) (hLd : laidMetH Tryz.prog Rows.propsFixedUptoRow.laid W) :
   Calls Tryz.prog 7 args W fun e W' => ∃ v, e = .returned v ∧ Rows.propsFixedSpec.post enc Tryz.prog Tryz.f7 false true false false W args v W' := by
 have hL : Laid W := laid_here hLd
 have hW' := hW
 obtain ⟨p, q, hA0, hV, rfl, hfz, hnd⟩ := hW
 have hA : DataW.TrodAll enc Tryz.prog W 0 (fun _ => true) true Tryz.f7.params.toList args.toList ds p := hA0
 rw [Tryz.params7] at hA hval
 obtain ⟨v0, vs0, d0, ds0, p0, q0, hargs, rfl, rfl, h0, r0⟩ := trodAll_cons hA
 obtain ⟨v1, vs1, d1, ds1, p1, q1, rfl, rfl, rfl, h1, r1⟩ := trodAll_cons r0
 obtain ⟨v2, vs2, d2, ds2, p2, q2, rfl, rfl, rfl, h2, r2⟩ := trodAll_cons r1
 obtain ⟨rfl, rfl, rfl⟩ := trodAll_nil r2
 obtain rfl : args = #[v0, v1, v2] := by cases args; simp_all
 obtain ⟨rfl, rfl⟩ := trodVars_none hV
 obtain ⟨A0, c0, x0, rfl, hs0, hl0, hw0, hc0⟩ := arg_opsw (hval 0 22 v0 rfl rfl) h0 hk (by simp)
 obtain ⟨a1, rfl, rfl, rfl, w1⟩ := open_int Tryz.underlying33 (hval 1 33 v1 rfl rfl) h1
 obtain ⟨x2, rfl, hz2⟩ := arg_str hk (by simp) (hval 2 9 v2 rfl rfl) h2
 refine (calls_law (law_PropsFixed hL hs0 hl0 hw0 (wf_word w1) hz2)).mono fun e W' ⟨he, hb⟩ => ?_
 subst he
 exact ⟨_, rfl, post_law (tb := 4) hW' (by rw [Tryz.params7]; decide) rfl rfl rfl rfl rfl Tryz.underlying4 hb⟩

theorem PropsFixed_reads (os : Os) {H : Type} (enc : TypeId × Value → H) : ∃ places, DataW.whole enc Tryz.prog ((laidWorld os).forCall (fun _ _ => 0) ⟨#[], #[.slice none 0 0, .int .u64 0, .string .empty], []⟩).memory Tryz.f7.params.toList Rows.propsFixedSpec.vars false #[.slice none 0 0, .int .u64 0, .string .empty].toList 8 = some ([.nil, .lit (.int .u64 0), .lit (.string [])], [], places) :=
 ⟨[], by kernel_rfl⟩
theorem PropsFixed_lifted (os : Os) (started : os.Started) (H : Type) (enc : TypeId × Value → H) (F : Stop.Interp) :
   ReturnsInHanded {} Tryz.checked os 7 .any ((Rows.OpenSpec.upto Rows.propsFixedSpec).preRow enc Tryz.prog Tryz.f7 Rows.propsFixedUptoRow.domain false Rows.propsFixedUptoRow.laid) (((Rows.OpenSpec.upto Rows.propsFixedSpec).at F).post enc Tryz.prog Tryz.f7 false true false false) := by
 obtain ⟨places, hx⟩ := PropsFixed_reads os enc
 refine returnsInHanded_of_row (C := Tryz.checked) (s := Rows.OpenSpec.upto Rows.propsFixedSpec) rown started (by kernel_rfl) Tryz.func7
   (witness_row_atRef (enc := enc) (C := Tryz.checked) false (laidWorld os) #[.slice none 0 0, .int .u64 0, .string .empty] rfl (by kernel_rfl) (by kernel_rfl) (by kernel_rfl)
     (OpenSpec.preRow_of_cond 8 hx (by kernel_rfl) (fun k hk => by cases hk; kernel_rfl) (by kernel_rfl) (laid_met os _))) ?_
 intro W base args ds gs before hval hW _ hcond _ hL _ _
 exact PropsFixed_contract H enc W base args ds gs before hval hW (hcond _ rfl) hL

theorem PropsFixed_row : Rows.PropsFixedUptoSaid :=
 OpenClaim.holds_of_cond 7 Tryz.f7 rfl rfl rfl rfl rfl rfl rfl ⟨rfl, rfl, rfl, rfl, rfl⟩ rfl rfl rfl rfl rfl (by kernel_rfl) Tryz.func7 (by kernel_rfl)
   (of_decide_eq_true (by kernel_rfl)) (by unfold Func.isWrapper; first | (rw [if_pos (by decide +kernel)]; kernel_rfl) | (rw [if_neg (by decide +kernel)]; exact ⟨rfl, rfl⟩))
   (fun os started H enc _ F => by rw [OpenClaim.pre_eq_preRow]; exact PropsFixed_lifted os started H enc F)
theorem PropsFixed_plain (f : FuncId) (fn : Func) (hf : Tryz.pinned.checked.prog.funcNamed "brazier/brazierlaw14.PropsFixed" = some f) (hfn : Tryz.pinned.checked.prog.funcs[f]? = some fn) :
   true = Tryz.pinned.checked.prog.looks [] ∧ ∀ (j : Nat) t, fn.params[j]? = some t → Tryz.pinned.checked.prog.wantsStandIn t = false := by
 obtain rfl : f = 7 := Option.some.inj ((show Tryz.prog.funcNamed "brazier/brazierlaw14.PropsFixed" = some 7 by kernel_rfl).symm.trans hf) |>.symm
 obtain rfl : fn = Tryz.f7 := (Option.some.inj (Tryz.func7.symm.trans hfn)).symm
 refine ⟨by kernel_rfl, fun j t ht => ?_⟩
 rw [Tryz.params7] at ht
 have hm : t = 22 ∨ t = 33 ∨ t = 9 := by simpa using Array.mem_of_getElem? ht
 rcases hm with rfl | rfl | rfl
 · exact (show Tryz.prog.wantsStandIn 22 = false by kernel_rfl)
 · exact (show Tryz.prog.wantsStandIn 33 = false by kernel_rfl)
 · exact (show Tryz.prog.wantsStandIn 9 = false by kernel_rfl)
theorem PropsFixed_proved : Rows.PropsFixedUptoCardSaid :=
 Claim7.holds_tied_plain_at .later [] _ _ _ _ PropsFixed_row (fun _ h => by cases h) (by kernel_rfl) (fun _ h => by cases h) propsFixedUpto_row_tie rfl ⟨rfl, rfl⟩ (by kernel_rfl) rfl PropsFixed_plain (by kernel_rfl)
end Go.Proofs.YthflblophelioaaGreatDoor
