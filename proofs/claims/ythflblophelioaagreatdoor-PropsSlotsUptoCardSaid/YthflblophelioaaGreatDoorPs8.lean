/-
  Each call of the document's store: what it makes of its objects. No condition.
-/
import Derived.Test.YthflblophelioaaGreatDoorPs7
import Derived.Test.YthflblophelioaaGreatDoorPs4
import Derived.Laws.StructEq
import Derived.Laws.Tables
import Derived.Laws.Cover2
import Derived.Test.YthflblophelioaaGreatDoorPs1
set_option linter.unusedVariables false
set_option linter.unusedSimpArgs false
set_option maxRecDepth 100000
set_option maxHeartbeats 4000000
namespace Go.Proofs.YthflblophelioaaGreatDoor
open Go.Sl
variable {k : Nat} {H : HeapV} {F : HeapF} {R : RSt} {n : Nat} {W0 : World}
structure LOk (k : Nat) (l : List ObjS) : Prop where
  len : l.length ≤ 65536
  same : ∀ o ∈ l, o.names.length = o.descs.length
  descs : ∀ o ∈ l, o.descs.length ≤ k
  elems : ∀ o ∈ l, o.elems.length ≤ 4096
theorem HInv.lok (h : HInv k H F) : LOk k (H.pub F) := by
 refine ⟨by rw [HeapV.pub_len]; exact h.ok.objs, fun o ho => ?_, fun o ho => ?_, fun o ho => ?_⟩ <;> obtain ⟨x, hx, rfl⟩ := List.mem_map.1 ho
 · exact (h.objs x hx).len
 · exact h.bud.vals x hx
 · exact h.ok.small x hx
theorem RSt.put_val (R : RSt) (n : Nat) (x : RObj) : (R.put n x).val = R.val := by simp only [RSt.val, RSt.put, List.length_set]
theorem at_pub {w : Int} {o : Option Nat} (h : objAt w R.pub.length = o) : objAt w R.objs.length = o := by rw [← RSt.pub_len]; exact h
theorem rq_Put (hk : k ≤ 8000000) (hR : R.ok) (hL : LOk k R.pub) {w : Int} (hw : wordOk w) (key : ByteArray) (d : DescP) : SC Tryz.prog W0 74 #[R.val, .int .u64 w, .string key, descV d] R.ent
   (Ret (fun R' : RSt => R'.ent) (fun v R' => v = R'.val ∧ R'.ok ∧ R'.pub = modP R.pub w (putO key d) ∧ R'.texts = R.texts)) := by
 cases h0 : objAt w R.pub.length with
 | none => rw [modP_none h0]; exact SC.ret (rf_Put_none hR hw (at_pub h0) key d) fun v _ hv => ⟨R, rfl, hv, hR, rfl, rfl⟩
 | some n =>
   obtain ⟨o, ho⟩ := obj_of h0
   rw [modP_some h0 ho]
   obtain ⟨x, hx, rfl⟩ := robj_of ho
   have hm := List.mem_of_getElem? ho
   exact SC.ret (rf_Put_some hR hw (at_pub h0) hx (hL.same _ hm) (Nat.le_trans (hL.descs _ hm) hk) key d) fun v r ⟨h1, h2, h3⟩ => ⟨R.put n r, rfl, by rw [RSt.put_val]; exact h1, h2, by rw [RSt.pub_put, h3]; rfl, rfl⟩
theorem rq_Drop (hk : k ≤ 8000000) (hR : R.ok) (hL : LOk k R.pub) {w : Int} (hw : wordOk w) (key : ByteArray) : SC Tryz.prog W0 76 #[R.val, .int .u64 w, .string key] R.ent
   (Ret (fun R' : RSt => R'.ent) (fun v R' => v = .tuple #[R'.val, .bool (hasQ R.pub w key)] ∧ R'.ok ∧ R'.pub = modP R.pub w (dropO key) ∧ R'.texts = R.texts)) := by
 cases h0 : objAt w R.pub.length with
 | none => rw [modP_none h0, hasQ_none h0]; exact SC.ret (rf_Drop_none hR hw (at_pub h0) key) fun v _ hv => ⟨R, rfl, hv, hR, rfl, rfl⟩
 | some n =>
   obtain ⟨o, ho⟩ := obj_of h0
   rw [modP_some h0 ho, hasQ_some h0 ho]
   obtain ⟨x, hx, rfl⟩ := robj_of ho
   have hm := List.mem_of_getElem? ho
   by_cases hn : ixS x.names key < 0
   · rw [decide_eq_false (show ¬ 0 ≤ ixS x.pub.names key from by show ¬ 0 ≤ ixS x.names key; omega)]
     refine SC.ret (rf_Drop_no hR hw (at_pub h0) hx hn) fun v _ hv => ⟨R, rfl, hv, hR, ?_, rfl⟩
     have d1 : dropNm x.pub.names key = x.pub.names := if_pos hn
     have d2 : dropDs x.pub.names x.pub.descs key = x.pub.descs := if_pos hn
     rw [show dropO key x.pub = x.pub from by unfold dropO; rw [d1, d2]]
     exact (set_same ho).symm
   · obtain ⟨q, hq⟩ := Int.eq_ofNat_of_zero_le (ixS_nn hn)
     have hql : q < x.names.length := by
       have q1 := (List.getElem?_eq_some_iff.1 (ixS_some (ixS_nn hn))).1
       rw [hq] at q1
       exact q1
     rw [decide_eq_true (show 0 ≤ ixS x.pub.names key from ixS_nn hn)]
     refine SC.ret (rf_Drop_yes hR hw (at_pub h0) hx (hL.same _ hm) (Nat.le_trans (hL.descs _ hm) hk) hq hql) fun v r ⟨h1, h2, h3⟩ => ⟨R.put n r, rfl, by rw [RSt.put_val]; exact h1, h2, ?_, rfl⟩
     have d1 : dropNm x.pub.names key = x.names.eraseIdx q := (if_neg hn).trans (by rw [show ixS x.pub.names key = (q : Int) from hq]; rfl)
     have d2 : dropDs x.pub.names x.pub.descs key = x.descs.eraseIdx q := (if_neg hn).trans (by rw [show ixS x.pub.names key = (q : Int) from hq]; rfl)
     rw [RSt.pub_put, h3, show dropO key x.pub = _ from by unfold dropO; rw [d1, d2]]; rfl
theorem rq_SetElem (hR : R.ok) (hL : LOk k R.pub) {w : Int} (hw : wordOk w) (m wd : Int) : SC Tryz.prog W0 73 #[R.val, .int .u64 w, .int .i64 m, .int .u64 wd] R.ent
   (Ret (fun R' : RSt => R'.ent) (fun v R' => v = .tuple #[R'.val, .bool (setQ R.pub w m)] ∧ R'.ok ∧ R'.pub = modP R.pub w (setO m wd) ∧ R'.texts = R.texts)) := by
 cases h0 : objAt w R.pub.length with
 | none =>
   rw [modP_none h0, show setQ R.pub w m = false from by unfold setQ; rw [h0]; simp]
   exact SC.ret (rf_SetElem_none hR hw (at_pub h0) m wd) fun v _ hv => ⟨R, rfl, hv, hR, rfl, rfl⟩
 | some n =>
   obtain ⟨o, ho⟩ := obj_of h0
   rw [modP_some h0 ho, show setQ R.pub w m = decide (0 ≤ m ∧ m < 4096) from by unfold setQ; rw [h0]; simp]
   obtain ⟨x, hx, rfl⟩ := robj_of ho
   have hm := List.mem_of_getElem? ho
   by_cases hb : 0 ≤ m ∧ m < 4096
   · obtain ⟨q, rfl⟩ := Int.eq_ofNat_of_zero_le hb.1
     have e1 : setElemL x.pub.elems (q : Int) wd = (setLenL x.elems (max x.elems.length (q + 1))).set q wd := by unfold setElemL; rw [if_pos hb]; rfl
     rw [decide_eq_true hb, show setO (q : Int) wd x.pub = _ from by unfold setO; rw [e1]]
     by_cases hl : q < x.elems.length
     · rw [show setLenL x.elems (max x.elems.length (q + 1)) = x.elems from by rw [show max x.elems.length (q + 1) = x.elems.length by omega]; exact setLenL_self _]
       exact SC.ret (rf_SetElem_fast hR hw (at_pub h0) hx wd (hL.elems _ hm) (by omega) hl) fun v r ⟨h1, h2, h3⟩ => ⟨R.put n r, rfl, by rw [RSt.put_val]; exact h1, h2, by rw [RSt.pub_put, h3]; rfl, rfl⟩
     · rw [show max x.elems.length (q + 1) = q + 1 by omega]
       exact SC.ret (rf_SetElem_slow hR hw (at_pub h0) hx wd (hL.elems _ hm) (by omega) (by omega)) fun v r ⟨h1, h2, h3⟩ => ⟨R.put n r, rfl, by rw [RSt.put_val]; exact h1, h2, by rw [RSt.pub_put, h3]; rfl, rfl⟩
   · have e1 : setElemL x.pub.elems m wd = x.pub.elems := by unfold setElemL; rw [if_neg hb]
     rw [decide_eq_false hb]
     exact SC.ret (rf_SetElem_bad hR hw (at_pub h0) hx wd hb) fun v _ hv => ⟨R, rfl, hv, hR, by rw [show setO m wd x.pub = x.pub from by unfold setO; rw [e1]]; exact (set_same ho).symm, rfl⟩
theorem rq_SetLen (hR : R.ok) {w : Int} (hw : wordOk w) (m : Int) : SC Tryz.prog W0 72 #[R.val, .int .u64 w, .int .i64 m] R.ent
   (Ret (fun R' : RSt => R'.ent) (fun v R' => v = .tuple #[R'.val, .bool (lenQ R.pub w m)] ∧ R'.ok ∧ R'.pub = modP R.pub w (lenO m) ∧ R'.texts = R.texts)) := by
 cases h0 : objAt w R.pub.length with
 | none =>
   rw [modP_none h0, show lenQ R.pub w m = false from by unfold lenQ; rw [h0]; simp]
   exact SC.ret (rf_SetLen_none hR hw (at_pub h0) m) fun v _ hv => ⟨R, rfl, hv, hR, rfl, rfl⟩
 | some n =>
   obtain ⟨o, ho⟩ := obj_of h0
   rw [modP_some h0 ho, show lenQ R.pub w m = decide (0 ≤ m ∧ m ≤ 4096) from by unfold lenQ; rw [h0]; simp]
   obtain ⟨x, hx, rfl⟩ := robj_of ho
   by_cases hb : 0 ≤ m ∧ m ≤ 4096
   · obtain ⟨q, rfl⟩ := Int.eq_ofNat_of_zero_le hb.1
     have e1 : setLenQ x.pub.elems (q : Int) = setLenL x.elems q := by unfold setLenQ; rw [if_pos hb]; rfl
     rw [decide_eq_true hb, show lenO (q : Int) x.pub = _ from by unfold lenO; rw [e1]]
     exact SC.ret (rf_SetLen_some hR hw (at_pub h0) hx (m := q) (by omega)) fun v r ⟨h1, h2, h3⟩ => ⟨R.put n r, rfl, by rw [RSt.put_val]; exact h1, h2, by rw [RSt.pub_put, h3]; rfl, rfl⟩
   · have e1 : setLenQ x.pub.elems m = x.pub.elems := by unfold setLenQ; rw [if_neg hb]
     rw [decide_eq_false hb]
     exact SC.ret (rf_SetLen_bad hR hw (at_pub h0) hx hb) fun v _ hv => ⟨R, rfl, hv, hR, by rw [show lenO m x.pub = x.pub from by unfold lenO; rw [e1]]; exact (set_same ho).symm, rfl⟩
theorem rq_Shut (hR : R.ok) {w : Int} (hw : wordOk w) : SC Tryz.prog W0 17 #[R.val, .int .u64 w] R.ent
   (Ret (fun R' : RSt => R'.ent) (fun v R' => v = R'.val ∧ R'.ok ∧ R'.pub = modP R.pub w shutO ∧ R'.texts = R.texts)) := by
 cases h0 : objAt w R.pub.length with
 | none => rw [modP_none h0]; exact SC.ret (rf_Shut_none hR hw (at_pub h0)) fun v _ hv => ⟨R, rfl, hv, hR, rfl, rfl⟩
 | some n =>
   obtain ⟨o, ho⟩ := obj_of h0
   rw [modP_some h0 ho]
   obtain ⟨x, hx, rfl⟩ := robj_of ho
   exact SC.ret (rf_Shut_some hR hw (at_pub h0) hx) fun v r ⟨h1, h2, h3⟩ => ⟨R.put n r, rfl, by rw [RSt.put_val]; exact h1, h2, by rw [RSt.pub_put, h3]; rfl, rfl⟩
theorem rq_Make (hR : R.ok) (kind : Int) {proto : Int} (hw : wordOk proto) : SC Tryz.prog W0 33 #[R.val, .int .i64 kind, .int .u64 proto] R.ent
   (Ret (fun R' : RSt => R'.ent) (fun v R' => v = .tuple #[R'.val, .int .u64 (makeV R.pub kind proto).1, .bool (makeV R.pub kind proto).2] ∧ R'.ok ∧ R'.pub = makeL R.pub kind proto ∧ R'.texts = R.texts)) := by
 unfold makeV makeL
 by_cases hm : mayP R.pub kind proto
 · rw [if_pos hm, if_pos hm]
   exact SC.ret (rf_Make_yes hR hw hm) fun v g ⟨h1, h2⟩ => ⟨_, rfl, by rw [RSt.pub_len]; exact h1, h2, by simp [RSt.pub, RObj.pub], rfl⟩
 · rw [if_neg hm, if_neg hm]
   exact SC.ret (rf_Make_no hR hw hm) fun v _ hv => ⟨R, rfl, hv, hR, rfl, rfl⟩
theorem rq_Reproto (hR : R.ok) (hL : LOk k R.pub) {w p : Int} (hw : wordOk w) (hp : wordOk p) (hP : protosOk R.pub) : SC Tryz.prog W0 78 #[R.val, .int .u64 w, .int .u64 p] R.ent
   (Ret (fun R' : RSt => R'.ent) (fun v R' => v = R'.val ∧ R'.ok ∧ R'.pub = reproP R.pub w p ∧ R'.texts = R.texts)) := by
 have hlen : R.objs.length ≤ 65536 := by rw [← RSt.pub_len]; exact hL.len
 cases h0 : objAt w R.objs.length with
 | none => exact rf_Reproto_none hR hlen hw h0 hp hP
 | some n => exact rf_Reproto_some hR hlen hw h0 (List.getElem?_eq_getElem (objAt_tag h0).2) hp hP
def atW (l : List ObjS) (w : Int) : Int := match objAt w l.length with | some n => (n : Int) | none => -1
theorem rq_At {w : Int} (hw : wordOk w) : SC Tryz.prog W0 15 #[R.val, .int .u64 w] [] (Ret (fun _ : Unit => []) (fun v _ => v = .int .i64 (atW R.pub w))) := by
 unfold atW; rw [RSt.pub_len]; exact rf_At hw
end Go.Proofs.YthflblophelioaaGreatDoor
namespace Go.Proofs.YthflblophelioaaGreatDoor
open Go.Sl
def Val (l : List PCell) (c : Int) : Prop := 0 ≤ c ∧ ∃ e, l[c.toNat]? = some e ∧ e.1 = true
theorem valP_iff {l : List PCell} {c : Int} : valP l c = true ↔ Val l c := by
 unfold valP Val
 by_cases h : 0 ≤ c ∧ c < l.length
 · rw [if_pos h, List.getElem?_eq_getElem (show c.toNat < l.length by omega)]
   simp [h.1]
 · rw [if_neg h]
   refine ⟨fun q => absurd q (by decide), fun ⟨h0, e, he, _⟩ => absurd ⟨h0, ?_⟩ h⟩
   have := (List.getElem?_eq_some_iff.1 he).1
   omega
theorem Val.lt {l : List PCell} {c : Int} (h : Val l c) : c < l.length := by
 obtain ⟨h0, e, he, _⟩ := h
 have := (List.getElem?_eq_some_iff.1 he).1
 omega
structure GInv (l : List ObjS) (g : GdP) : Prop where
  len : g.1.length = l.length
  lt : ∀ (n : Nat) c, g.1[n]? = some c → c < g.2.length
  alt : ∀ (i : Nat) e j, g.2[i]? = some e → j ∈ e.2 → j < g.2.length
  inj : ∀ (n m : Nat) c, g.1[n]? = some c → g.1[m]? = some c → 0 ≤ c → n = m
  link : ∀ (n : Nat) o c, l[n]? = some o → g.1[n]? = some c → Val g.2 c → objAt o.proto l.length = none ∨ ∃ m d e, objAt o.proto l.length = some m ∧ g.1[m]? = some d ∧ Val g.2 d ∧ g.2[d.toNat]? = some e ∧ c ∈ e.2
  edge : ∀ (i : Nat) e j, g.2[i]? = some e → j ∈ e.2 → Val g.2 j → ∃ (n : Nat) (o : ObjS) (m : Nat), l[n]? = some o ∧ g.1[n]? = some j ∧ objAt o.proto l.length = some m ∧ g.1[m]? = some (i : Int)
theorem GInv.nil : GInv [] ([], []) := ⟨rfl, fun n c h => by simp at h, fun i e j h => by simp at h, fun n m c h => by simp at h, fun n o c h => by simp at h, fun i e j h => by simp at h⟩
theorem Broke.get {l l' : List PCell} {n : Int} (h : Broke l l' n) {i : Nat} {e : PCell} (he : l[i]? = some e) : ∃ e', l'[i]? = some e' ∧ e'.2 = e.2 := by
 have := congrArg (fun l => l[i]?) h.shape
 simp only [List.getElem?_map, he, Option.map_some] at this
 cases q : l'[i]? with
 | none => rw [q] at this; cases this
 | some e' => rw [q] at this; exact ⟨e', rfl, by simpa using this⟩
theorem Broke.len {l l' : List PCell} {n : Int} (h : Broke l l' n) : l'.length = l.length := by have := congrArg List.length h.shape; simpa using this
theorem Broke.back {l l' : List PCell} {n : Int} (h : Broke l l' n) {i : Nat} {e' : PCell} (he : l'[i]? = some e') : ∃ e, l[i]? = some e ∧ e'.2 = e.2 := by
 have := congrArg (fun l => l[i]?) h.shape
 simp only [List.getElem?_map, he, Option.map_some] at this
 cases q : l[i]? with
 | none => rw [q] at this; cases this
 | some e => rw [q] at this; exact ⟨e, rfl, by simpa using this⟩
theorem Broke.val {l l' : List PCell} {n c : Int} (h : Broke l l' n) (hv : Val l' c) : Val l c := by
 obtain ⟨h0, e', he, h1⟩ := hv
 obtain ⟨e, he2, _⟩ := h.back he
 exact ⟨h0, e, he2, h.less _ _ _ he2 he h1⟩
theorem Broke.not {l l' : List PCell} {n : Int} (h : Broke l l' n) (h0 : 0 ≤ n) : ¬ Val l' n := fun ⟨_, e, he, h1⟩ => by rw [h.it h0 e he] at h1; cases h1
theorem Broke.up {l l' : List PCell} {n d c : Int} (h : Broke l l' n) {e : PCell} (he : l[d.toNat]? = some e) (hd : Val l d) (hn : ¬ Val l' d) (hc : c ∈ e.2) : ¬ Val l' c := fun ⟨c0, ec, hec, hc1⟩ => by
 obtain ⟨e', he', _⟩ := h.get he
 obtain ⟨d0, e2, he2, hv⟩ := hd
 rw [he] at he2; cases he2
 have hf : e'.1 = false := by
   cases q : e'.1 with
   | false => rfl
   | true => exact absurd ⟨d0, e', he', q⟩ hn
 have := h.all _ _ _ he he' hv hf c hc c0 ec hec
 rw [this] at hc1; cases hc1
theorem GInv.touch {l l' : List ObjS} {g g' : GdP} {n : Nat} (h : GInv l g) (hT : Touch g g' n) (hl : l'.length = l.length)
   (hp : ∀ (m : Nat) o', l'[m]? = some o' → ∃ o, l[m]? = some o ∧ (m ≠ n → o'.proto = o.proto)) : GInv l' g' := by
 have hp' : ∀ (m : Nat) o, l[m]? = some o → ∃ o', l'[m]? = some o' ∧ (m ≠ n → o'.proto = o.proto) := fun m o ho => by
   have hm := (List.getElem?_eq_some_iff.1 ho).1
   obtain ⟨o2, h1, h2⟩ := hp m l'[m] (List.getElem?_eq_getElem (by omega))
   rw [ho] at h1; cases h1
   exact ⟨_, List.getElem?_eq_getElem (by omega), h2⟩
 obtain ⟨c, hc, h1, h2⟩ := hT
 have hnl := (List.getElem?_eq_some_iff.1 hc).1
 by_cases h0 : 0 ≤ c
 · rw [if_pos h0] at h1 h2
   have hget : ∀ (m : Nat), m ≠ n → g'.1[m]? = g.1[m]? := fun m hm => by rw [h1, List.getElem?_set_ne (fun q => hm q.symm)]
   have hgn : g'.1[n]? = some (-1) := by rw [h1, List.getElem?_set_self hnl]
   have hno : ∀ (m : Nat) d, g'.1[m]? = some d → 0 ≤ d → m ≠ n := fun m d hd d0 q => by subst q; rw [hgn] at hd; cases hd; omega
   have hcv := h2.not h0
   refine ⟨by rw [h1, List.length_set, hl]; exact h.len, fun m d hd => ?_, fun i e j he hj => ?_, fun m1 m2 d hd1 hd2 d0 => ?_, fun m o d ho hd hv => ?_, fun i e' j he hj hv => ?_⟩
   · rw [h2.len]
     by_cases q : m = n
     · subst q; rw [hgn] at hd; cases hd
       have := h.lt _ _ hc; omega
     · rw [hget m q] at hd; exact h.lt m d hd
   · obtain ⟨e2, he2, q⟩ := h2.back he
     rw [h2.len]; rw [q] at hj
     exact h.alt i e2 j he2 hj
   · have q1 := hno m1 d hd1 d0
     have q2 := hno m2 d hd2 d0
     rw [hget _ q1] at hd1; rw [hget _ q2] at hd2
     exact h.inj m1 m2 d hd1 hd2 d0
   · have q1 := hno m d hd hv.1
     rw [hget m q1] at hd
     obtain ⟨o2, ho2, hpr⟩ := hp m o ho
     rw [hpr q1, hl]
     rcases h.link m o2 d ho2 hd (h2.val hv) with q | ⟨m2, d2, e, a1, a2, a3, a4, a5⟩
     · exact .inl q
     · have hv2 : Val g'.2 d2 := Classical.byContradiction fun q => h2.up a4 a3 q a5 hv
       have hm2 : m2 ≠ n := fun q => by subst q; rw [hc] at a2; cases a2; exact hcv hv2
       obtain ⟨e', he', q'⟩ := h2.get a4
       exact .inr ⟨m2, d2, e', a1, by rw [hget m2 hm2]; exact a2, hv2, he', by rw [q']; exact a5⟩
   · obtain ⟨e, he2, q⟩ := h2.back he
     rw [q] at hj
     have hvj := h2.val hv
     obtain ⟨m, o, m2, a1, a2, a3, a4⟩ := h.edge i e j he2 hj hvj
     have q1 : m ≠ n := fun z => by subst z; rw [hc] at a2; cases a2; exact hcv hv
     have hvi : Val g.2 (i : Int) := by
       rcases h.link m o j a1 a2 hvj with z | ⟨m3, d3, e3, b1, b2, b3, b4, b5⟩
       · rw [a3] at z; cases z
       · rw [a3] at b1; cases b1; rw [a4] at b2; cases b2; exact b3
     have hvi2 : Val g'.2 (i : Int) := Classical.byContradiction fun z => h2.up (by simpa using he2) hvi z hj hv
     have q2 : m2 ≠ n := fun z => by subst z; rw [hc] at a4; cases a4; exact hcv hvi2
     obtain ⟨o', ho', hpr⟩ := hp' m o a1
     exact ⟨m, o', m2, ho', by rw [hget m q1]; exact a2, by rw [hpr q1, hl]; exact a3, by rw [hget m2 q2]; exact a4⟩
 · rw [if_neg h0] at h1 h2
   rw [set_same hc] at h1
   have e : g' = g := Prod.ext h1 h2
   subst e
   have hno : ∀ (m : Nat) d, g'.1[m]? = some d → 0 ≤ d → m ≠ n := fun m d hd d0 q => by subst q; rw [hc] at hd; cases hd; omega
   refine ⟨by rw [hl]; exact h.len, h.lt, h.alt, h.inj, fun m o d ho hd hv => ?_, fun i e' j he hj hv => ?_⟩
   · obtain ⟨o2, ho2, hpr⟩ := hp m o ho
     rw [hpr (hno m d hd hv.1), hl]
     exact h.link m o2 d ho2 hd hv
   · obtain ⟨m, o, m2, a1, a2, a3, a4⟩ := h.edge i e' j he hj hv
     obtain ⟨o', ho', hpr⟩ := hp' m o a1
     exact ⟨m, o', m2, ho', a2, by rw [hpr (hno m j a2 hv.1), hl]; exact a3, a4⟩
theorem Touch.mono {g g' : GdP} {n : Nat} (hT : Touch g g' n) {c : Int} (hv : Val g'.2 c) : Val g.2 c := by
 obtain ⟨d, hd, h1, h2⟩ := hT
 by_cases h0 : 0 ≤ d
 · rw [if_pos h0] at h2; exact h2.val hv
 · rw [if_neg h0] at h2; rw [h2] at hv; exact hv
theorem GInv.reach {l : List ObjS} {g : GdP} (h : GInv l g) {a j : Int} (hr : Reach g.2 a j) : ∀ (q : Int) (nq : Nat), objAt q l.length = some nq → g.1[nq]? = some j → Val g.2 j → ∃ i nn, objAt (upN l q i) l.length = some nn ∧ g.1[nn]? = some a := by
 induction hr with
 | refl => intro q nq hq hc hv; exact ⟨0, nq, hq, hc⟩
 | @step i0 j0 e hr0 h0 he hj ih =>
   intro q nq hq hc hv
   obtain ⟨n1, o, m, a1, a2, a3, a4⟩ := h.edge i0.toNat e j0 he hj hv
   have hn : n1 = nq := h.inj n1 nq j0 a2 hc hv.1
   subst hn
   rw [Int.toNat_of_nonneg h0] at a4
   have hvi : Val g.2 i0 := by
     rcases h.link n1 o j0 a1 a2 hv with z | ⟨m3, d3, e3, b1, b2, b3, b4, b5⟩
     · rw [a3] at z; cases z
     · rw [a3] at b1; cases b1; rw [a4] at b2; cases b2; exact b3
   obtain ⟨i, nn, b1, b2⟩ := ih o.proto m a3 a4 hvi
   refine ⟨1 + i, nn, ?_, b2⟩
   rw [upN_add, show upN l q 1 = protoW l q from rfl, protoW_some hq a1]
   exact b1
theorem GInv.quiet {l : List ObjS} {g g' : GdP} {n : Nat} (h : GInv l g) (hT : Touch g g' n) {p c : Int} {np : Nat} (hp : objAt p l.length = some np) (hne : ∀ i, objAt (upN l p i) l.length ≠ some n) (hc : g.1[np]? = some c) (hv : Val g.2 c) : Val g'.2 c := by
 apply Classical.byContradiction
 intro hn
 obtain ⟨t, ht, h1, h2⟩ := hT
 by_cases h0 : 0 ≤ t
 · rw [if_pos h0] at h2
   obtain ⟨c0, e, he, hev⟩ := id hv
   obtain ⟨e', he', _⟩ := h2.get he
   have hf : e'.1 = false := by
     cases q : e'.1 with
     | false => rfl
     | true => exact absurd ⟨c0, e', he', q⟩ hn
   have hr := h2.reach _ _ _ he he' hev hf
   rw [Int.toNat_of_nonneg c0] at hr
   obtain ⟨i, nn, b1, b2⟩ := h.reach hr p np hp hc hv
   rw [h.inj nn n t b2 ht h0] at b1
   exact hne i b1
 · rw [if_neg h0] at h2; rw [h2] at hn; exact hn hv
theorem Touch.keep {g g' : GdP} {n np : Nat} (hT : Touch g g' n) {c : Int} (hc : g.1[np]? = some c) (hv : Val g'.2 c) : g'.1[np]? = some c := by
 obtain ⟨d, hd, h1, h2⟩ := hT
 have hnl := (List.getElem?_eq_some_iff.1 hd).1
 by_cases q : np = n
 · subst q
   rw [hc] at hd; cases hd
   rw [if_pos hv.1] at h2
   exact absurd hv (h2.not hv.1)
 · rw [h1, List.getElem?_set_ne (fun z => q z.symm)]; exact hc
end Go.Proofs.YthflblophelioaaGreatDoor
namespace Go.Proofs.YthflblophelioaaGreatDoor
open Go.Sl
theorem no_loop {l : List ObjS} {w : Int} {n : Nat} (h0 : objAt w l.length = some n) (hE : Ends l w) (j : Nat) : objAt (upN l w (j + 1)) l.length ≠ some n := by
 intro h
 have e : upN l w (j + 1) = w := objAt_inj h h0
 have hno : ∀ K, objAt (upN l w K) l.length ≠ none := by
   intro K
   induction K using Nat.strongRecOn with
   | _ K ih =>
     intro hK
     by_cases hl : K ≤ j + 1
     · have := upN_null hK (j + 1 - K)
       rw [show K + (j + 1 - K) = j + 1 by omega, h] at this
       cases this
     · refine ih (K - (j + 1)) (by omega) ?_
       have e2 : upN l w K = upN l (upN l w (j + 1)) (K - (j + 1)) := by rw [← upN_add]; congr 1; omega
       rw [e2, e] at hK
       exact hK
 obtain ⟨i, hi⟩ := hE
 exact hno i hi
theorem mkP_get {l : List PCell} {on : Int} (hon : on = -1 ∨ Val l on) : (mkP l on)[l.length]? = some (true, []) ∧
   (∀ (i : Nat) e, l[i]? = some e → ∃ e', (mkP l on)[i]? = some e' ∧ e'.1 = e.1 ∧ ((i : Int) = on → e'.2 = e.2 ++ [(l.length : Int)]) ∧ ((i : Int) ≠ on → e'.2 = e.2)) := by
 unfold mkP
 rcases hon with rfl | hv
 · rw [if_neg (by omega)]
   refine ⟨by simp, fun i e he => ⟨e, ?_, rfl, fun q => by omega, fun _ => rfl⟩⟩
   rw [List.getElem?_append_left (List.getElem?_eq_some_iff.1 he).1]; exact he
 · have hlt := hv.lt
   obtain ⟨h0, c, hc, hc1⟩ := hv
   rw [if_pos ⟨h0, hlt⟩, hc]
   simp only []
   refine ⟨by rw [List.getElem?_append_right (by simp), List.length_set, Nat.sub_self, hc1]; rfl, fun i e he => ?_⟩
   have hi := (List.getElem?_eq_some_iff.1 he).1
   by_cases q : on.toNat = i
   · subst q
     rw [hc] at he; cases he
     refine ⟨(c.1, c.2 ++ [(l.length : Int)]), ?_, rfl, fun _ => rfl, fun z => absurd (Int.toNat_of_nonneg h0) z⟩
     rw [List.getElem?_append_left (by simpa using hi), List.getElem?_set_self hi]
   · refine ⟨e, ?_, rfl, fun z => absurd (by omega) q, fun _ => rfl⟩
     rw [List.getElem?_append_left (by simpa using hi), List.getElem?_set_ne q]; exact he
theorem mkP_val {l : List PCell} {on : Int} (hon : on = -1 ∨ Val l on) (j : Int) : Val (mkP l on) j ↔ (Val l j ∨ j = l.length) := by
 obtain ⟨g1, g2⟩ := mkP_get hon
 constructor
 · rintro ⟨h0, e', he, h1⟩
   have hl := (List.getElem?_eq_some_iff.1 he).1
   rw [mkP_len] at hl
   by_cases q : j.toNat < l.length
   · obtain ⟨e2, a1, a2, _⟩ := g2 j.toNat l[j.toNat] (List.getElem?_eq_getElem q)
     rw [he] at a1; cases a1
     exact .inl ⟨h0, _, List.getElem?_eq_getElem q, by rw [← a2]; exact h1⟩
   · exact .inr (by omega)
 · rintro (⟨h0, e, he, h1⟩ | rfl)
   · obtain ⟨e2, a1, a2, _⟩ := g2 _ e he
     exact ⟨h0, e2, a1, by rw [a2]; exact h1⟩
   · exact ⟨by omega, _, by simpa using g1, rfl⟩
theorem mkP_back {l : List PCell} {on : Int} (hon : on = -1 ∨ Val l on) {i : Nat} {e' : PCell} (he : (mkP l on)[i]? = some e') : (i = l.length ∧ e'.2 = []) ∨ ∃ e, l[i]? = some e ∧ (e'.2 = e.2 ∨ ((i : Int) = on ∧ e'.2 = e.2 ++ [(l.length : Int)])) := by
 obtain ⟨g1, g2⟩ := mkP_get hon
 have hl := (List.getElem?_eq_some_iff.1 he).1
 rw [mkP_len] at hl
 by_cases q : i < l.length
 · obtain ⟨e2, a1, a2, a3, a4⟩ := g2 i l[i] (List.getElem?_eq_getElem q)
   rw [he] at a1; cases a1
   refine .inr ⟨_, List.getElem?_eq_getElem q, ?_⟩
   by_cases z : (i : Int) = on
   · exact .inr ⟨z, a3 z⟩
   · exact .inl (a4 z)
 · have : i = l.length := by omega
   subst this
   rw [g1] at he; cases he
   exact .inl ⟨rfl, rfl⟩
structure Grow (g g' : GdP) : Prop where
  len : g.2.length ≤ g'.2.length
  val : ∀ c : Int, c < g.2.length → (Val g'.2 c ↔ Val g.2 c)
  keep : ∀ (n : Nat) (c : Int), g.1[n]? = some c → Val g.2 c → g'.1[n]? = some c
theorem Grow.refl (g : GdP) : Grow g g := ⟨Nat.le_refl _, fun c _ => Iff.rfl, fun n c h _ => h⟩
theorem Grow.trans {g g' g2 : GdP} (h : Grow g g') (k : Grow g' g2) : Grow g g2 := ⟨Nat.le_trans h.len k.len, fun c hc => (k.val c (by have := h.len; omega)).trans (h.val c hc), fun n c hn hv => k.keep n c (h.keep n c hn hv) ((h.val c hv.lt).2 hv)⟩
theorem GInv.make {l : List ObjS} {g : GdP} (h : GInv l g) {n : Nat} {o : ObjS} {c on : Int} (ho : l[n]? = some o) (hc : g.1[n]? = some c) (hv : ¬ Val g.2 c)
   (hp : (objAt o.proto l.length = none ∧ on = -1) ∨ ∃ m, objAt o.proto l.length = some m ∧ m ≠ n ∧ g.1[m]? = some on ∧ Val g.2 on) :
   GInv l (g.1.set n g.2.length, mkP g.2 on) ∧ Grow g (g.1.set n g.2.length, mkP g.2 on) := by
 have hon : on = -1 ∨ Val g.2 on := by rcases hp with ⟨_, q⟩ | ⟨_, _, _, _, q⟩; exact .inl q; exact .inr q
 have hnl := (List.getElem?_eq_some_iff.1 hc).1
 have hV := mkP_val hon
 obtain ⟨g1, g2⟩ := mkP_get hon
 have hs : (g.1.set n (g.2.length : Int))[n]? = some (g.2.length : Int) := List.getElem?_set_self hnl
 have ht : ∀ (m : Nat), m ≠ n → (g.1.set n (g.2.length : Int))[m]? = g.1[m]? := fun m hm => List.getElem?_set_ne (fun q => hm q.symm)
 have hfresh : ∀ (m : Nat) d, g.1[m]? = some d → d ≠ g.2.length := fun m d hd => by have := h.lt m d hd; omega
 have hold : ∀ (m : Nat) d, (g.1.set n (g.2.length : Int))[m]? = some d → m ≠ n → Val (mkP g.2 on) d → Val g.2 d := fun m d hd hm hvd => by
   rw [ht m hm] at hd
   rcases (hV d).1 hvd with q | q
   · exact q
   · exact absurd q (hfresh m d hd)
 refine ⟨⟨by show (g.1.set n _).length = _; rw [List.length_set]; exact h.len, fun m d hd => ?_, fun i e' j he hj => ?_, fun m1 m2 d hd1 hd2 d0 => ?_, fun m o1 d ho1 hd hvd => ?_, fun i e' j he hj hvj => ?_⟩, by show _ ≤ (mkP g.2 on).length; rw [mkP_len]; omega, fun d hd => ?_, fun m d hd hvd => ?_⟩
 · show d < (mkP g.2 on).length
   rw [mkP_len]
   by_cases q : m = n
   · subst q; rw [hs] at hd; cases hd; omega
   · rw [ht m q] at hd; have := h.lt m d hd; omega
 · show j < (mkP g.2 on).length
   rw [mkP_len]
   rcases mkP_back hon he with ⟨_, q⟩ | ⟨e, he2, q | ⟨_, q⟩⟩
   · rw [q] at hj; cases hj
   · rw [q] at hj; have := h.alt i e j he2 hj; omega
   · rw [q] at hj
     rcases List.mem_append.1 hj with z | z
     · have := h.alt i e j he2 z; omega
     · have := List.mem_singleton.1 z; omega
 · by_cases q1 : m1 = n
   · by_cases q2 : m2 = n
     · rw [q1, q2]
     · subst q1; rw [hs] at hd1; cases hd1; rw [ht m2 q2] at hd2; exact absurd rfl (hfresh m2 _ hd2)
   · by_cases q2 : m2 = n
     · subst q2; rw [hs] at hd2; cases hd2; rw [ht m1 q1] at hd1; exact absurd rfl (hfresh m1 _ hd1)
     · rw [ht m1 q1] at hd1; rw [ht m2 q2] at hd2; exact h.inj m1 m2 d hd1 hd2 d0
 · by_cases q : m = n
   · subst q
     rw [hs] at hd; cases hd
     rw [ho] at ho1; cases ho1
     rcases hp with ⟨a, _⟩ | ⟨m2, a1, a2, a3, a4⟩
     · exact .inl a
     · obtain ⟨b0, e, be, b1⟩ := id a4
       obtain ⟨e', c1, c2, c3, _⟩ := g2 _ e be
       refine .inr ⟨m2, on, e', a1, by show (g.1.set m _)[m2]? = _; rw [ht m2 a2]; exact a3, (hV on).2 (.inl a4), c1, ?_⟩
       rw [c3 (Int.toNat_of_nonneg b0)]; simp
   · have hvd2 := hold m d hd q hvd
     rw [ht m q] at hd
     rcases h.link m o1 d ho1 hd hvd2 with z | ⟨m2, d2, e, a1, a2, a3, a4, a5⟩
     · exact .inl z
     · have hm2 : m2 ≠ n := fun z => by subst z; rw [hc] at a2; cases a2; exact hv a3
       obtain ⟨e', c1, c2, c3, c4⟩ := g2 _ e a4
       refine .inr ⟨m2, d2, e', a1, by show (g.1.set n _)[m2]? = _; rw [ht m2 hm2]; exact a2, (hV d2).2 (.inl a3), c1, ?_⟩
       by_cases z : ((d2.toNat : Nat) : Int) = on
       · rw [c3 z]; exact List.mem_append_left _ a5
       · rw [c4 z]; exact a5
 · have main : ∀ e, g.2[i]? = some e → j ∈ e.2 → ∃ (n1 : Nat) (o1 : ObjS) (m1 : Nat), l[n1]? = some o1 ∧ (g.1.set n (g.2.length : Int))[n1]? = some j ∧ objAt o1.proto l.length = some m1 ∧ (g.1.set n (g.2.length : Int))[m1]? = some (i : Int) := fun e he2 hj2 => by
     have hj3 : Val g.2 j := by
       rcases (hV j).1 hvj with z | z
       · exact z
       · have := h.alt i e j he2 hj2; omega
     obtain ⟨n1, o1, m1, a1, a2, a3, a4⟩ := h.edge i e j he2 hj2 hj3
     have q1 : n1 ≠ n := fun z => by subst z; rw [hc] at a2; cases a2; exact hv hj3
     have hvi : Val g.2 (i : Int) := by
       rcases h.link n1 o1 j a1 a2 hj3 with z | ⟨m3, d3, e3, b1, b2, b3, b4, b5⟩
       · rw [a3] at z; cases z
       · rw [a3] at b1; cases b1; rw [a4] at b2; cases b2; exact b3
     have q2 : m1 ≠ n := fun z => by subst z; rw [hc] at a4; cases a4; exact hv hvi
     exact ⟨n1, o1, m1, a1, by rw [ht n1 q1]; exact a2, a3, by rw [ht m1 q2]; exact a4⟩
   rcases mkP_back hon he with ⟨_, q⟩ | ⟨e, he2, q | ⟨z, q⟩⟩
   · rw [q] at hj; cases hj
   · rw [q] at hj; exact main e he2 hj
   · rw [q] at hj
     rcases List.mem_append.1 hj with y | y
     · exact main e he2 y
     · have hjn := List.mem_singleton.1 y
       subst hjn
       rcases hp with ⟨a, b⟩ | ⟨m2, a1, a2, a3, a4⟩
       · omega
       · exact ⟨n, o, m2, ho, hs, a1, by show (g.1.set n _)[m2]? = _; rw [ht m2 a2, z]; exact a3⟩
 · rw [hV d]
   exact ⟨fun q => q.elim id (fun z => absurd hd (by omega)), .inl⟩
 · show (g.1.set n _)[m]? = _
   have hm : m ≠ n := fun z => by subst z; rw [hc] at hd; cases hd; exact hv hvd
   rw [ht m hm]; exact hd
theorem guardF_ok {l : List ObjS} : ∀ (K : Nat) (w : Int) (g : GdP), GInv l g → objAt (upN l w K) l.length = none →
   GInv l (guardF l K w g).1 ∧ Grow g (guardF l K w g).1 ∧ (objAt w l.length = none → (guardF l K w g).2 = -1) ∧ (∀ n, objAt w l.length = some n → (guardF l K w g).1.1[n]? = some (guardF l K w g).2 ∧ Val (guardF l K w g).1.2 (guardF l K w g).2) ∧
   (∀ i, (∀ j, objAt (upN l w j) l.length ≠ some i) → (guardF l K w g).1.1[i]? = g.1[i]?)
 | K, w, g, h, he => by
   cases h0 : objAt w l.length with
   | none => rw [guardF_none h0]; exact ⟨h, Grow.refl g, fun _ => rfl, fun n hn => (by cases hn), fun i _ => rfl⟩
   | some n =>
     have hl := (objAt_tag h0).2
     have ho : l[n]? = some l[n] := List.getElem?_eq_getElem hl
     have hcl : n < g.1.length := by rw [h.len]; exact hl
     have hc : g.1[n]? = some g.1[n] := List.getElem?_eq_getElem hcl
     have hE : Ends l w := ⟨K, he⟩
     cases K with
     | zero => rw [show upN l w 0 = w from rfl, h0] at he; cases he
     | succ K =>
       have hpp : upN l w 1 = l[n].proto := protoW_some h0 ho
       by_cases hv : 0 ≤ g.1[n] ∧ valP g.2 g.1[n] = true
       · rw [guardF_old h0 ho hc hv]
         refine ⟨h, Grow.refl g, fun q => (by cases q), fun m hm => ?_, fun i _ => rfl⟩
         cases hm
         exact ⟨hc, valP_iff.1 hv.2⟩
       · rw [guardF_new h0 ho hc hv]
         have hv2 : ¬ Val g.2 g.1[n] := fun q => hv ⟨q.1, valP_iff.2 q⟩
         have he2 : objAt (upN l l[n].proto K) l.length = none := by
           rw [show K + 1 = 1 + K by omega, upN_add, hpp] at he; exact he
         obtain ⟨a1, a2, a3, a4, a5⟩ := guardF_ok K l[n].proto g h he2
         have hnl : ∀ j, objAt (upN l l[n].proto j) l.length ≠ some n := fun j => by
           have := no_loop h0 hE j
           rwa [show j + 1 = 1 + j by omega, upN_add, hpp] at this
         have hc1 := (a5 n hnl).trans hc
         have hv3 : ¬ Val (guardF l K l[n].proto g).1.2 g.1[n] := fun q => hv2 ((a2.val _ (h.lt n _ hc)).1 q)
         have hp : (objAt l[n].proto l.length = none ∧ (guardF l K l[n].proto g).2 = -1) ∨ ∃ m, objAt l[n].proto l.length = some m ∧ m ≠ n ∧ (guardF l K l[n].proto g).1.1[m]? = some (guardF l K l[n].proto g).2 ∧ Val (guardF l K l[n].proto g).1.2 (guardF l K l[n].proto g).2 := by
           cases hq : objAt l[n].proto l.length with
           | none => exact .inl ⟨rfl, a3 hq⟩
           | some m =>
             obtain ⟨b1, b2⟩ := a4 m hq
             exact .inr ⟨m, rfl, fun z => hnl 0 (by rw [show upN l l[n].proto 0 = l[n].proto from rfl, hq, z]), b1, b2⟩
         obtain ⟨m1, m2⟩ := a1.make ho hc1 hv3 hp
         have hon : (guardF l K l[n].proto g).2 = -1 ∨ Val (guardF l K l[n].proto g).1.2 (guardF l K l[n].proto g).2 := by
           rcases hp with ⟨_, q⟩ | ⟨_, _, _, _, q⟩
           · exact .inl q
           · exact .inr q
         refine ⟨m1, a2.trans m2, fun q => (by cases q), fun m hm => ?_, fun i hi => ?_⟩
         · cases hm
           exact ⟨List.getElem?_set_self (List.getElem?_eq_some_iff.1 hc1).1, (mkP_val hon _).2 (.inr rfl)⟩
         · have hne : i ≠ n := fun z => hi 0 (by rw [show upN l w 0 = w from rfl, h0, z])
           show ((guardF l K l[n].proto g).1.1.set n _)[i]? = _
           rw [List.getElem?_set_ne (fun z => hne z.symm)]
           exact a5 i fun j => by have := hi (1 + j); rwa [upN_add, hpp] at this
def ProtosIn (l : List ObjS) : Prop := ∀ o ∈ l, o.proto = 18445336698825998337 ∨ objAt o.proto l.length ≠ none
theorem objAt_more {w : Int} {a b n : Nat} (h : objAt w a = some n) (hab : a ≤ b) : objAt w b = some n := by
 obtain ⟨h1, h2⟩ := objAt_tag h
 unfold objAt
 rw [h1]
 simp only []
 rw [if_pos (by omega)]
theorem ProtosIn.more {l : List ObjS} (h : ProtosIn l) {o : ObjS} (ho : o ∈ l) {b : Nat} (hb : l.length ≤ b) : objAt o.proto b = objAt o.proto l.length := by
 rcases h o ho with q | q
 · rw [q, objAt_null, objAt_null]
 · cases z : objAt o.proto l.length with
   | none => exact absurd z q
   | some n => exact objAt_more z hb
theorem GInv.grow {l : List ObjS} {g : GdP} (h : GInv l g) (hP : ProtosIn l) (o : ObjS) : GInv (l ++ [o]) (g.1 ++ [-1], g.2) := by
 have hget : ∀ (m : Nat) d, (g.1 ++ [-1])[m]? = some d → 0 ≤ d → g.1[m]? = some d := fun m d hd d0 => by
   by_cases q : m < g.1.length
   · rwa [List.getElem?_append_left q] at hd
   · rw [List.getElem?_append_right (by omega)] at hd
     have := List.mem_of_getElem? hd
     rw [List.mem_singleton] at this; omega
 have hput : ∀ (m : Nat) d, g.1[m]? = some d → (g.1 ++ [-1])[m]? = some d := fun m d hd => by rw [List.getElem?_append_left (List.getElem?_eq_some_iff.1 hd).1]; exact hd
 have hl : ∀ (m : Nat) o' d, (l ++ [o])[m]? = some o' → g.1[m]? = some d → l[m]? = some o' := fun m o' d ho hd => by
   have := (List.getElem?_eq_some_iff.1 hd).1
   rw [h.len] at this
   rwa [List.getElem?_append_left this] at ho
 have hll : l.length ≤ (l ++ [o]).length := by simp
 refine ⟨by simp [h.len], fun m d hd => ?_, h.alt, fun m1 m2 d h1 h2 d0 => h.inj m1 m2 d (hget _ _ h1 d0) (hget _ _ h2 d0) d0, fun m o' d ho hd hv => ?_, fun i e j he hj hv => ?_⟩
 · by_cases q : 0 ≤ d
   · exact h.lt m d (hget m d hd q)
   · show d < (g.2.length : Int); omega
 · have hd2 := hget m d hd hv.1
   have ho2 := hl m o' d ho hd2
   rw [hP.more (List.mem_of_getElem? ho2) hll]
   rcases h.link m o' d ho2 hd2 hv with z | ⟨m2, d2, e, a1, a2, a3, a4, a5⟩
   · exact .inl z
   · exact .inr ⟨m2, d2, e, a1, hput m2 d2 a2, a3, a4, a5⟩
 · obtain ⟨n, o', m, a1, a2, a3, a4⟩ := h.edge i e j he hj hv
   refine ⟨n, o', m, by rw [List.getElem?_append_left (List.getElem?_eq_some_iff.1 a1).1]; exact a1, hput n j a2, ?_, hput m _ a4⟩
   rw [hP.more (List.mem_of_getElem? a1) hll]; exact a3
theorem GInv.congr {l l' : List ObjS} {g : GdP} (h : GInv l g) (hp : l'.map ObjS.proto = l.map ObjS.proto) : GInv l' g := by
 have hlen : l'.length = l.length := by have := congrArg List.length hp; simpa using this
 have hg : ∀ {a b : List ObjS}, a.map ObjS.proto = b.map ObjS.proto → ∀ (m : Nat) o, a[m]? = some o → ∃ o', b[m]? = some o' ∧ o'.proto = o.proto := fun e m o ho => by
   have := congrArg (fun l => l[m]?) e
   simp only [List.getElem?_map, ho, Option.map_some] at this
   cases q : (_ : List ObjS)[m]? with
   | none => rw [q] at this; cases this
   | some o' => rw [q] at this; exact ⟨o', rfl, by have z := Option.some.inj this; exact z.symm⟩
 refine ⟨by rw [hlen]; exact h.len, h.lt, h.alt, h.inj, fun m o d ho hd hv => ?_, fun i e j he hj hv => ?_⟩
 · obtain ⟨o', ho', q⟩ := hg hp m o ho
   rw [hlen, ← q]; exact h.link m o' d ho' hd hv
 · obtain ⟨n, o, m, a1, a2, a3, a4⟩ := h.edge i e j he hj hv
   obtain ⟨o', ho', q⟩ := hg hp.symm n o a1
   exact ⟨n, o', m, ho', a2, by rw [q, hlen]; exact a3, a4⟩
end Go.Proofs.YthflblophelioaaGreatDoor
namespace Go.Proofs.YthflblophelioaaGreatDoor
open Go.Sl
structure OpP where
  kind : Int
  o : Int
  p : Int
  key : ByteArray
  d : DescP
  n : Int
  A : Option Addr
  w : List Int
  c : Nat
def OpP.cells (x : OpP) : List Value := [.int .i64 x.kind, .int .u64 x.o, .int .u64 x.p, .string x.key, .int .u64 x.d.1, .int .u64 x.d.2.1, .int .i64 x.d.2.2, .int .i64 x.n, .slice x.A x.w.length x.c]
theorem OpP.len (x : OpP) : x.cells.length = 9 := rfl
abbrev OpP.first (x : OpP) : Int := x.w.headD 18445336698825998336
structure OpOk (W0 : World) (x : OpP) : Prop where
  o : wordOk x.o
  p : wordOk x.p
  src : ∀ σ, Src W0 σ x.A (x.w.map encU)
  len : x.w.length ≤ 1048576
abbrev DocS := List ObjS × List ByteArray
def docStep (D : DocS) (x : OpP) : DocS :=
 if x.kind = 0 then (makeL D.1 x.n x.p, D.2)
 else if x.kind = 1 then (modP D.1 x.o (putO x.key x.d), D.2)
 else if x.kind = 2 then (modP D.1 x.o (dropO x.key), D.2)
 else if x.kind = 3 then (reproP D.1 x.o x.p, D.2)
 else if x.kind = 4 then (modP D.1 x.o (setO x.n x.first), D.2)
 else if x.kind = 5 then (modP D.1 x.o (lenO x.n), D.2)
 else if x.kind = 6 then (modP D.1 x.o shutO, D.2)
 else if x.kind = 7 then (modP D.1 x.o (innerO x.w), D.2)
 else if x.kind = 8 then (D.1, (textP D.2 x.key).1)
 else if x.kind = 9 then D
 else if x.kind = 10 then (modP D.1 x.o (writeO x.n x.first), D.2)
 else D
def GdS (D D' : DocS) (g g' : GdP) (x : OpP) : Prop :=
 if x.kind = 0 then g' = (if mayP D.1 x.n x.p then (g.1 ++ [-1], g.2) else g)
 else if x.kind = 9 then g' = (guardF D.1 D.1.length x.p g).1
 else if x.kind = 6 ∨ x.kind = 7 ∨ x.kind = 8 then g' = g
 else GdC g g' (objAt x.o D.1.length) ((x.kind = 1 ∧ objAt x.o D.1.length ≠ none) ∨ (x.kind = 2 ∧ hasQ D.1 x.o x.key = true) ∨ (x.kind = 3 ∧ protoW D'.1 x.o ≠ protoW D.1 x.o))
structure DOk (l : List ObjS) : Prop where
  kinds : ∀ o ∈ l, 0 ≤ o.kind ∧ o.kind ≤ 6
  protos : ProtosIn l
  words : protosOk l
  ends : ∀ p, Ends l p
  flags : ∀ o ∈ l, ∀ d ∈ o.descs, normF d.2.2 = d.2.2
theorem normF_idem (f : Int) : normF (normF f) = normF f := by
 obtain ⟨k, hk, e⟩ := fl15_lt f
 rw [refF_norm f]
 unfold refF
 rw [e]
 have : ∀ k : Fin 16, normF (if ((k.val : Nat) : Int) ≥ 8 then IntKind.wrap .i64 ((BitVec.ofInt 64 ((k.val : Nat) : Int) &&& BitVec.ofInt 64 14).toNat) else ((k.val : Nat) : Int)) =
     if ((k.val : Nat) : Int) ≥ 8 then IntKind.wrap .i64 ((BitVec.ofInt 64 ((k.val : Nat) : Int) &&& BitVec.ofInt 64 14).toNat) else ((k.val : Nat) : Int) := by decide
 exact this ⟨k, hk⟩
theorem protoW_congr {l l' : List ObjS} (hp : l'.map ObjS.proto = l.map ObjS.proto) (w : Int) : protoW l' w = protoW l w := by
 have hlen : l'.length = l.length := by have := congrArg List.length hp; simpa using this
 unfold protoW
 rw [hlen]
 cases h : objAt w l.length with
 | none => rfl
 | some n =>
   have hn := (objAt_tag h).2
   have := congrArg (fun l => l[n]?) hp
   simp only [List.getElem?_map, List.getElem?_eq_getElem hn, List.getElem?_eq_getElem (show n < l'.length by omega), Option.map_some] at this
   simp only [List.getElem?_eq_getElem hn, List.getElem?_eq_getElem (show n < l'.length by omega)]
   exact Option.some.inj this
theorem upN_congr {l l' : List ObjS} (hp : l'.map ObjS.proto = l.map ObjS.proto) (p : Int) : ∀ i, upN l' p i = upN l p i
 | 0 => rfl
 | i + 1 => by
   show protoW l' (upN l' p i) = protoW l (upN l p i)
   rw [upN_congr hp p i]; exact protoW_congr hp _
theorem Ends.congr {l l' : List ObjS} (hp : l'.map ObjS.proto = l.map ObjS.proto) {p : Int} (h : Ends l p) : Ends l' p := by
 have hlen : l'.length = l.length := by have := congrArg List.length hp; simpa using this
 obtain ⟨i, hi⟩ := h
 exact ⟨i, by rw [upN_congr hp, hlen]; exact hi⟩
theorem modP_map {α : Type} (f : ObjS → α) {l : List ObjS} {w : Int} {m : ObjS → ObjS} (h : ∀ o, f (m o) = f o) : (modP l w m).map f = l.map f := by
 unfold modP
 split
 · rfl
 · split
   · rfl
   · next n o ho =>
     rw [List.map_set, h]
     exact set_same (by simp [ho])
theorem modP_mem {l : List ObjS} {w : Int} {m : ObjS → ObjS} {o' : ObjS} (h : o' ∈ modP l w m) : o' ∈ l ∨ ∃ o ∈ l, o' = m o := by
 unfold modP at h
 split at h
 · exact .inl h
 · split at h
   · exact .inl h
   · next n o ho =>
     rcases List.mem_or_eq_of_mem_set h with q | q
     · exact .inl q
     · exact .inr ⟨o, List.mem_of_getElem? ho, q⟩
theorem DOk.mod {l : List ObjS} (h : DOk l) {w : Int} {m : ObjS → ObjS} (hk : ∀ o, (m o).kind = o.kind) (hp : ∀ o, (m o).proto = o.proto) (hf : ∀ o, (∀ d ∈ o.descs, normF d.2.2 = d.2.2) → ∀ d ∈ (m o).descs, normF d.2.2 = d.2.2) : DOk (modP l w m) := by
 have e := modP_map ObjS.proto (l := l) (w := w) hp
 refine ⟨fun o ho => ?_, fun o ho => ?_, fun o ho => ?_, fun p => (h.ends p).congr e, fun o ho => ?_⟩
 · rcases modP_mem ho with q | ⟨a, q, rfl⟩
   · exact h.kinds o q
   · rw [hk]; exact h.kinds a q
 · rw [modP_len]
   rcases modP_mem ho with q | ⟨a, q, rfl⟩
   · exact h.protos o q
   · rw [hp]; exact h.protos a q
 · rcases modP_mem ho with q | ⟨a, q, rfl⟩
   · exact h.words o q
   · rw [hp]; exact h.words a q
 · rcases modP_mem ho with q | ⟨a, q, rfl⟩
   · exact h.flags o q
   · exact hf a (h.flags a q)
theorem Ends.grow {l : List ObjS} (hP : ProtosIn l) {o : ObjS} (ho : o.proto = 18445336698825998337 ∨ objAt o.proto l.length ≠ none) (h : ∀ p, Ends l p) (p : Int) : Ends (l ++ [o]) p := by
 have hll : l.length ≤ (l ++ [o]).length := by simp
 have key : ∀ (q : Int), (q = 18445336698825998337 ∨ objAt q l.length ≠ none) → ∀ i, upN (l ++ [o]) q i = upN l q i ∧ (upN l q i = 18445336698825998337 ∨ objAt (upN l q i) l.length ≠ none) := by
   intro q hq i
   induction i with
   | zero => exact ⟨rfl, hq⟩
   | succ i ih =>
     obtain ⟨a, b⟩ := ih
     show protoW (l ++ [o]) (upN (l ++ [o]) q i) = protoW l (upN l q i) ∧ _
     rw [a]
     show _ ∧ (protoW l (upN l q i) = _ ∨ objAt (protoW l (upN l q i)) l.length ≠ none)
     rcases b with b | b
     · rw [b, protoW_none (objAt_null _), protoW_none (objAt_null _)]
       exact ⟨rfl, .inl rfl⟩
     · cases hm : objAt (upN l q i) l.length with
       | none => exact absurd hm b
       | some m =>
         have hml := (objAt_tag hm).2
         have hg : l[m]? = some l[m] := List.getElem?_eq_getElem hml
         rw [protoW_some hm hg, protoW_some (objAt_more hm hll) (by rw [List.getElem?_append_left hml]; exact hg)]
         exact ⟨rfl, hP _ (List.mem_of_getElem? hg)⟩
 have main : ∀ (q : Int), (q = 18445336698825998337 ∨ objAt q l.length ≠ none) → Ends (l ++ [o]) q := fun q hq => by
   obtain ⟨i, hi⟩ := h q
   obtain ⟨a, b⟩ := key q hq i
   rcases b with b | b
   · exact ⟨i, by rw [a, b]; exact objAt_null _⟩
   · exact absurd hi b
 cases hp : objAt p (l ++ [o]).length with
 | none => exact ⟨0, hp⟩
 | some m =>
   by_cases hm : m < l.length
   · refine main p (.inr ?_)
     obtain ⟨a, _⟩ := objAt_tag hp
     unfold objAt; rw [a]; simp only []; rw [if_pos hm]; simp
   · have hm2 := (objAt_tag hp).2
     have : m = l.length := by simp at hm2; omega
     subst this
     obtain ⟨i, hi⟩ := main o.proto ho
     refine ⟨1 + i, ?_⟩
     rw [upN_add, show upN (l ++ [o]) p 1 = protoW (l ++ [o]) p from rfl, protoW_some hp (o := o) (by simp)]
     exact hi
theorem Ends.repro {l : List ObjS} {w q : Int} {n : Nat} {o : ObjS} (h0 : objAt w l.length = some n) (ho : l[n]? = some o) (hh : hitP l q w = false) (h : ∀ p, Ends l p) (p : Int) : Ends (l.set n (o.under q)) p := by
 have hl : (l.set n (o.under q)).length = l.length := List.length_set
 have hnl := (List.getElem?_eq_some_iff.1 ho).1
 have hpw : ∀ v, v ≠ w → protoW (l.set n (o.under q)) v = protoW l v := fun v hv => by
   cases hm : objAt v l.length with
   | none => rw [protoW_none hm, protoW_none (by rw [hl]; exact hm)]
   | some m =>
     have hml := (objAt_tag hm).2
     have hmn : m ≠ n := fun z => hv (objAt_inj hm (by rw [z]; exact h0))
     have hg : l[m]? = some l[m] := List.getElem?_eq_getElem hml
     rw [protoW_some hm hg, protoW_some (by rw [hl]; exact hm) (by rw [List.getElem?_set_ne (fun z => hmn z.symm)]; exact hg)]
 have same : ∀ (v : Int) i, (∀ j, j < i → upN l v j ≠ w) → upN (l.set n (o.under q)) v i = upN l v i := fun v i => by
   induction i with
   | zero => intro _; rfl
   | succ i ih =>
     intro hj
     show protoW (l.set n (o.under q)) (upN (l.set n (o.under q)) v i) = protoW l (upN l v i)
     rw [ih fun j hji => hj j (by omega)]
     exact hpw _ (hj i (by omega))
 have hq : ∀ i, upN l q i ≠ w := fun i z => by
   by_cases hi : i ≤ l.length
   · rw [hitP_iff.2 ⟨i, hi, z⟩] at hh; cases hh
   · have := upN_null (h q).bound (i - l.length)
     rw [show l.length + (i - l.length) = i by omega, z, h0] at this
     cases this
 have hqe : Ends (l.set n (o.under q)) q := by
   obtain ⟨i, hi⟩ := h q
   exact ⟨i, by rw [same q i fun j _ => hq j, hl]; exact hi⟩
 obtain ⟨i, hi⟩ := h p
 by_cases hex : ∃ j, upN l p j = w
 · obtain ⟨j, hj, hmin⟩ : ∃ j, upN l p j = w ∧ ∀ k, k < j → upN l p k ≠ w := by
     obtain ⟨j, hj⟩ := hex
     induction j using Nat.strongRecOn with
     | _ j ih =>
       by_cases hk : ∃ k, k < j ∧ upN l p k = w
       · obtain ⟨k, k1, k2⟩ := hk; exact ih k k1 k2
       · exact ⟨j, hj, fun k k1 k2 => hk ⟨k, k1, k2⟩⟩
   obtain ⟨k, hk⟩ := hqe
   refine ⟨j + 1 + k, ?_⟩
   rw [upN_add, show upN (l.set n (o.under q)) p (j + 1) = protoW (l.set n (o.under q)) (upN (l.set n (o.under q)) p j) from rfl, same p j hmin, hj,
     protoW_some (by rw [hl]; exact h0) (List.getElem?_set_self hnl)]
   exact hk
 · exact ⟨i, by rw [same p i fun j _ z => hex ⟨j, z⟩, hl]; exact hi⟩
theorem put_flags {names : List ByteArray} {descs : List DescP} {key : ByteArray} {d : DescP} (h : ∀ d ∈ descs, normF d.2.2 = d.2.2) : ∀ d' ∈ putDs names descs key (normD d), normF d'.2.2 = d'.2.2 := by
 intro d' hd
 unfold putDs at hd
 split at hd
 · rcases List.mem_append.1 hd with q | q
   · exact h d' q
   · rw [List.mem_singleton.1 q]; exact normF_idem _
 · rcases List.mem_or_eq_of_mem_set hd with q | q
   · exact h d' q
   · rw [q]; exact normF_idem _
theorem DOk.step {D : DocS} (h : DOk D.1) (x : OpP) (hp : wordOk x.p) : DOk (docStep D x).1 := by
 unfold docStep
 have e : ∀ {m : ObjS → ObjS} {w : Int}, (∀ o, (m o).kind = o.kind) → (∀ o, (m o).proto = o.proto) → (∀ o, (m o).descs = o.descs) → DOk (modP D.1 w m) := fun a b c => h.mod a b (fun o q => by rw [c]; exact q)
 split
 · show DOk (makeL D.1 x.n x.p)
   unfold makeL
   split
   · next hm =>
     obtain ⟨m1, m2, m3⟩ := hm
     have hll : D.1.length ≤ (D.1 ++ [newS x.n x.p]).length := by simp
     refine ⟨fun o ho => ?_, fun o ho => ?_, fun o ho => ?_, Ends.grow h.protos m2 h.ends, fun o ho => ?_⟩ <;> rcases List.mem_append.1 ho with q | q
     · exact h.kinds o q
     · rw [List.mem_singleton.1 q]; exact m1
     · rw [h.protos.more q hll]; exact h.protos o q
     · rw [List.mem_singleton.1 q]
       rcases m2 with z | z
       · exact .inl z
       · refine .inr fun y => ?_
         cases hz : objAt x.p D.1.length with
         | none => exact z hz
         | some i => rw [show objAt (newS x.n x.p).proto _ = _ from objAt_more hz hll] at y; cases y
     · exact h.words o q
     · rw [List.mem_singleton.1 q]; exact hp
     · exact h.flags o q
     · rw [List.mem_singleton.1 q]; intro d hd; cases hd
   · exact h
 split
 · exact h.mod (fun _ => rfl) (fun _ => rfl) (fun o q => put_flags q)
 split
 · refine h.mod (fun _ => rfl) (fun _ => rfl) (fun o q d hd => ?_)
   simp only [dropO] at hd
   unfold dropDs at hd
   split at hd
   · exact q d hd
   · exact q d (List.mem_of_mem_eraseIdx hd)
 split
 · show DOk (reproP D.1 x.o x.p)
   cases h0 : objAt x.o D.1.length with
   | none => rw [reproP_none h0]; exact h
   | some n =>
     obtain ⟨o, ho⟩ := obj_of h0
     by_cases hq : (x.p ≠ 18445336698825998337 ∧ objAt x.p D.1.length = none) ∨ hitP D.1 x.p x.o = true
     · rw [reproP_no hq]; exact h
     · have hh : hitP D.1 x.p x.o = false := by cases z : hitP D.1 x.p x.o with
         | false => rfl
         | true => exact absurd (.inr z) hq
       rw [reproP_yes h0 ho (fun z => hq (.inl z)) hh]
       have hm := List.mem_of_getElem? ho
       refine ⟨fun a ha => ?_, fun a ha => ?_, fun a ha => ?_, Ends.repro h0 ho hh h.ends, fun a ha => ?_⟩ <;> rcases List.mem_or_eq_of_mem_set ha with q | q
       · exact h.kinds a q
       · rw [q]; exact h.kinds o hm
       · rw [List.length_set]; exact h.protos a q
       · rw [List.length_set, q]
         by_cases z : x.p = 18445336698825998337
         · exact .inl z
         · exact .inr fun y => hq (.inl ⟨z, y⟩)
       · exact h.words a q
       · rw [q]; exact hp
       · exact h.flags a q
       · rw [q]; exact h.flags o hm
 split
 · exact e (fun _ => rfl) (fun _ => rfl) (fun _ => rfl)
 split
 · exact e (fun _ => rfl) (fun _ => rfl) (fun _ => rfl)
 split
 · exact e (fun _ => rfl) (fun _ => rfl) (fun _ => rfl)
 split
 · exact e (fun _ => rfl) (fun _ => rfl) (fun _ => rfl)
 split
 · exact h
 split
 · exact h
 split
 · refine h.mod (fun _ => rfl) (fun _ => rfl) (fun o q d hd => ?_)
   simp only [writeO] at hd
   unfold writeD at hd
   split at hd
   · split at hd
     · next d0 hd0 =>
       rcases List.mem_or_eq_of_mem_set hd with z | z
       · exact q d z
       · rw [z]; exact q d0 (List.mem_of_getElem? hd0)
     · exact q d hd
   · exact q d hd
 · exact h
end Go.Proofs.YthflblophelioaaGreatDoor
namespace Go.Proofs.YthflblophelioaaGreatDoor
open Go.Sl
theorem docStep_protos (D : DocS) (x : OpP) (h0 : x.kind ≠ 0) (h3 : x.kind ≠ 3) : (docStep D x).1.map ObjS.proto = D.1.map ObjS.proto := by
 unfold docStep
 rw [if_neg h0]
 split
 · exact modP_map ObjS.proto fun _ => rfl
 split
 · exact modP_map ObjS.proto fun _ => rfl
 split
 · exact modP_map ObjS.proto fun _ => rfl
 split
 · exact modP_map ObjS.proto fun _ => rfl
 split
 · exact modP_map ObjS.proto fun _ => rfl
 split
 · exact modP_map ObjS.proto fun _ => rfl
 split
 · rfl
 split
 · rfl
 split
 · exact modP_map ObjS.proto fun _ => rfl
 · rfl
theorem docStep_3 (D : DocS) (x : OpP) (h3 : x.kind = 3) : docStep D x = (reproP D.1 x.o x.p, D.2) := by
 unfold docStep
 rw [if_neg (by omega), if_neg (by omega), if_neg (by omega), if_pos h3]
theorem map_proto_get {l l' : List ObjS} (hp : l'.map ObjS.proto = l.map ObjS.proto) (m : Nat) (o' : ObjS) (h : l'[m]? = some o') : ∃ o, l[m]? = some o ∧ o'.proto = o.proto := by
 have := congrArg (fun l => l[m]?) hp
 simp only [List.getElem?_map, h, Option.map_some] at this
 cases q : l[m]? with
 | none => rw [q] at this; cases this
 | some o => rw [q] at this; exact ⟨o, rfl, Option.some.inj this⟩
theorem repro_get (l : List ObjS) (w p : Int) : (reproP l w p).length = l.length ∧ ∀ (n : Nat), objAt w l.length = some n → ∀ (m : Nat) o', (reproP l w p)[m]? = some o' → ∃ o, l[m]? = some o ∧ (m ≠ n → o'.proto = o.proto) := by
 unfold reproP
 cases h0 : objAt w l.length with
 | none => exact ⟨rfl, fun n hn => by cases hn⟩
 | some n0 =>
   simp only []
   cases ho : l[n0]? with
   | none => exact ⟨rfl, fun n hn m o' h => ⟨o', h, fun _ => rfl⟩⟩
   | some o =>
     simp only []
     split
     · exact ⟨rfl, fun n hn m o' h => ⟨o', h, fun _ => rfl⟩⟩
     · refine ⟨List.length_set, fun n hn m o' h => ?_⟩
       cases hn
       by_cases q : m = n0
       · subst q
         exact ⟨o, ho, fun z => absurd rfl z⟩
       · rw [List.getElem?_set_ne (fun z => q z.symm)] at h
         exact ⟨o', h, fun _ => rfl⟩
theorem repro_same {l : List ObjS} {w p : Int} (h : protoW (reproP l w p) w = protoW l w) : (reproP l w p).map ObjS.proto = l.map ObjS.proto := by
 cases h0 : objAt w l.length with
 | none => rw [reproP_none h0]
 | some n =>
   obtain ⟨o, ho⟩ := obj_of h0
   by_cases hq : (p ≠ 18445336698825998337 ∧ objAt p l.length = none) ∨ hitP l p w = true
   · rw [reproP_no hq]
   · have hh : hitP l p w = false := by cases z : hitP l p w with
       | false => rfl
       | true => exact absurd (.inr z) hq
     have e := reproP_yes h0 ho (fun z => hq (.inl z)) hh
     rw [e] at h ⊢
     have hnl := (List.getElem?_eq_some_iff.1 ho).1
     rw [protoW_some h0 ho, protoW_some (by rw [List.length_set]; exact h0) (List.getElem?_set_self hnl)] at h
     have h' : p = o.proto := h
     rw [List.map_set]
     exact set_same (by simp [ho, h'])
theorem GdS.cases {D D' : DocS} {g g' : GdP} {x : OpP} (h : GdS D D' g g' x) (h0 : x.kind ≠ 0) (h9 : x.kind ≠ 9) :
   ((x.kind = 6 ∨ x.kind = 7 ∨ x.kind = 8) ∧ g' = g) ∨ (¬ (x.kind = 6 ∨ x.kind = 7 ∨ x.kind = 8) ∧ GdC g g' (objAt x.o D.1.length) ((x.kind = 1 ∧ objAt x.o D.1.length ≠ none) ∨ (x.kind = 2 ∧ hasQ D.1 x.o x.key = true) ∨ (x.kind = 3 ∧ protoW D'.1 x.o ≠ protoW D.1 x.o))) := by
 unfold GdS at h
 rw [if_neg h0, if_neg h9] at h
 by_cases hq : x.kind = 6 ∨ x.kind = 7 ∨ x.kind = 8
 · rw [if_pos hq] at h; exact .inl ⟨hq, h⟩
 · rw [if_neg hq] at h; exact .inr ⟨hq, h⟩
theorem GInv.step {D : DocS} {g g' : GdP} {x : OpP} (h : GInv D.1 g) (hD : DOk D.1) (hS : GdS D (docStep D x) g g' x) : GInv (docStep D x).1 g' := by
 by_cases h0 : x.kind = 0
 · unfold GdS at hS
   rw [if_pos h0] at hS
   rw [hS]
   unfold docStep
   rw [if_pos h0]
   show GInv (makeL D.1 x.n x.p) _
   unfold makeL
   split
   · exact h.grow hD.protos _
   · exact h
 by_cases h9 : x.kind = 9
 · unfold GdS at hS
   rw [if_neg h0, if_pos h9] at hS
   rw [hS]
   have e : (docStep D x).1 = D.1 := by
     unfold docStep
     rw [if_neg h0, if_neg (by omega), if_neg (by omega), if_neg (by omega), if_neg (by omega), if_neg (by omega), if_neg (by omega), if_neg (by omega), if_neg (by omega), if_pos h9]
   rw [e]
   exact (guardF_ok _ _ _ h (hD.ends x.p).bound).1
 rcases hS.cases h0 h9 with ⟨hq, rfl⟩ | ⟨hq, hc⟩
 · exact h.congr (docStep_protos D x h0 (by omega))
 · by_cases h3 : x.kind = 3
   · rw [docStep_3 D x h3] at hc ⊢
     rcases hc with ⟨hm, rfl⟩ | ⟨n, hn, hT⟩
     · refine h.congr (repro_same ?_)
       exact Classical.byContradiction fun q => hm (.inr (.inr ⟨h3, q⟩))
     · obtain ⟨r1, r2⟩ := repro_get D.1 x.o x.p
       exact h.touch hT r1 (r2 n hn)
   · have e := docStep_protos D x h0 h3
     rcases hc with ⟨hm, rfl⟩ | ⟨n, hn, hT⟩
     · exact h.congr e
     · exact h.touch hT (by have := congrArg List.length e; simpa using this) (fun m o' ho => by
         obtain ⟨o, h1, h2⟩ := map_proto_get e m o' ho
         exact ⟨o, h1, fun _ => h2⟩)
structure Held (l : List ObjS) (g : GdP) (p c : Int) : Prop where
  obj : ∃ np, objAt p l.length = some np ∧ (Val g.2 c → g.1[np]? = some c)
  lt : c < g.2.length
theorem GInv.new {l : List ObjS} {g : GdP} (h : GInv l g) (hD : DOk l) (p : Int) : GInv l (guardF l l.length p g).1 ∧ ((guardF l l.length p g).2 = -1 ↔ objAt p l.length = none) ∧ (objAt p l.length ≠ none → Held l (guardF l l.length p g).1 p (guardF l l.length p g).2 ∧ Val (guardF l l.length p g).1.2 (guardF l l.length p g).2) := by
 obtain ⟨a1, a2, a3, a4, _⟩ := guardF_ok _ _ _ h (hD.ends p).bound
 cases hp : objAt p l.length with
 | none => exact ⟨a1, ⟨fun _ => rfl, fun _ => a3 hp⟩, fun q => absurd rfl q⟩
 | some n =>
   obtain ⟨b1, b2⟩ := a4 n hp
   refine ⟨a1, ⟨fun q => ?_, fun q => by cases q⟩, fun _ => ⟨⟨⟨n, hp, fun _ => b1⟩, b2.lt⟩, b2⟩⟩
   have := b2.1
   omega
end Go.Proofs.YthflblophelioaaGreatDoor
namespace Go.Proofs.YthflblophelioaaGreatDoor
open Go.Sl
structure Sim (k : Nat) (H : HeapV) (F : HeapF) (R : RSt) : Prop where
  inv : HInv k H F
  ok : R.ok
  objs : H.pub F = R.pub
  texts : H.texts = R.texts
  doc : DOk R.pub
  gds : GInv R.pub H.gd
variable {k : Nat} {H H2 : HeapV} {F : HeapF} {R R2 : RSt} {n : Nat} {W0 : World} {x : OpP}
theorem Sim.lok (h : Sim k H F R) : LOk k R.pub := h.objs ▸ h.inv.lok
abbrev RSt.D (R : RSt) : DocS := (R.pub, R.texts)
structure Did (k : Nat) (H : HeapV) (F : HeapF) (R : RSt) (x : OpP) (H2 : HeapV) (R2 : RSt) : Prop where
  sim : Sim k H2 F R2
  doc : R2.D = docStep R.D x
  gd : GdS R.D (docStep R.D x) H.gd H2.gd x
theorem Did.mk' (hS : Sim k H F R) (hp : wordOk x.p) {l : List ObjS} {t : List ByteArray} {k' : Nat} (hd : docStep R.D x = (l, t)) (hk : k' ≤ k + 1) (hi : HInv k' H2 F) (hpub : H2.pub F = l) (htx : H2.texts = t) (hR : R2.ok) (hp2 : R2.pub = l) (ht2 : R2.texts = t)
   (hg : GdS R.D (docStep R.D x) H.gd H2.gd x) : Did (k + 1) H F R x H2 R2 := by
 have hdoc : R2.D = docStep R.D x := by rw [hd]; exact Prod.ext hp2 ht2
 have h1 := DOk.step (D := R.D) hS.doc x hp
 have h2 := GInv.step (D := R.D) hS.gds hS.doc hg
 rw [← hdoc] at h1 h2
 exact ⟨⟨hi.mono hk, hR, hpub.trans hp2.symm, htx.trans ht2.symm, h1, h2⟩, hdoc, hg⟩
theorem ds0 {D : DocS} (h : x.kind = 0) : docStep D x = (makeL D.1 x.n x.p, D.2) := by unfold docStep; simp [h]
theorem ds1 {D : DocS} (h : x.kind = 1) : docStep D x = (modP D.1 x.o (putO x.key x.d), D.2) := by unfold docStep; simp [h]
theorem ds2 {D : DocS} (h : x.kind = 2) : docStep D x = (modP D.1 x.o (dropO x.key), D.2) := by unfold docStep; simp [h]
theorem dsE {D : DocS} (h : ∀ c, 0 ≤ c → c ≤ 10 → x.kind ≠ c) : docStep D x = D := by
 unfold docStep
 simp [h 0 (by decide) (by decide), h 1 (by decide) (by decide), h 2 (by decide) (by decide), h 3 (by decide) (by decide), h 4 (by decide) (by decide), h 5 (by decide) (by decide), h 6 (by decide) (by decide), h 7 (by decide) (by decide), h 8 (by decide) (by decide), h 9 (by decide) (by decide), h 10 (by decide) (by decide)]
theorem ixS_at {l : List ByteArray} {m : Nat} {key : ByteArray} (hn : l.Nodup) (hk : l[m]? = some key) : ixS l key = m := by
 have hm := List.mem_of_getElem? hk
 have h0 : 0 ≤ ixS l key := by
   by_cases q : ixS l key < 0
   · exact absurd hm (ixS_none.1 q)
   · omega
 have h1 := ixS_some h0
 have hlt := (List.getElem?_eq_some_iff.1 hk).1
 have hlt2 := (List.getElem?_eq_some_iff.1 h1).1
 have hp := List.pairwise_iff_getElem.1 hn
 have g1 := (List.getElem?_eq_some_iff.1 h1).2
 have g2 := (List.getElem?_eq_some_iff.1 hk).2
 rcases Nat.lt_trichotomy (ixS l key).toNat m with q | q | q
 · exact absurd (g1.trans g2.symm) (hp _ _ hlt2 hlt q)
 · omega
 · exact absurd (g2.trans g1.symm) (hp _ _ hlt hlt2 q)
theorem HInv.nodup (h : HInv k H F) {o : ObjS} (ho : o ∈ H.pub F) : o.names.Nodup := by
 obtain ⟨x, hx, rfl⟩ := List.mem_map.1 ho
 exact (h.objs x hx).nodup
theorem atW_neg {l : List ObjS} {w : Int} : atW l w < 0 ↔ objAt w l.length = none := by
 unfold atW
 cases objAt w l.length with
 | none => simp
 | some n => simp
end Go.Proofs.YthflblophelioaaGreatDoor
namespace Go.Proofs.YthflblophelioaaGreatDoor
open Go.Sl
variable {k : Nat} {H H2 : HeapV} {F : HeapF} {R R2 : RSt} {n : Nat} {W0 : World} {x : OpP}
abbrev RSt.none : RSt := ⟨.nil, [], .nil, []⟩
theorem DOk.nil : DOk [] := ⟨fun o ho => (by cases ho), fun o ho => (by cases ho), fun o ho => (by cases ho), fun p => ⟨0, by
 show objAt p 0 = _
 unfold objAt
 cases tagOf p 65530 with
 | none => rfl
 | some n => simp only []; rw [if_neg (by omega)]⟩, fun o ho => (by cases ho)⟩
theorem Sim.new (hI : HInv 0 H F) (hp : H.pub F = []) (ht : H.texts = []) (ho : H.objs = []) (hc : H.cl = []) : Sim 0 H F RSt.none := by
 refine ⟨hI, ⟨⟨rfl, rfl⟩, fun y hy => (by cases hy), ⟨rfl, rfl⟩⟩, hp, ht, DOk.nil, ?_⟩
 have : H.gd = ([], []) := by unfold HeapV.gd; rw [ho, hc]; rfl
 rw [this]
 exact GInv.nil
end Go.Proofs.YthflblophelioaaGreatDoor
namespace Go.Proofs.YthflblophelioaaGreatDoor
open Go.Sl
variable {k : Nat} {H : HeapV} {F : HeapF} {R : RSt} {t : TreeP} {x z : ObjL}
theorem Sim.len (hS : Sim k H F R) : H.objs.length = R.objs.length := by rw [← HeapV.pub_len H F, hS.objs, RSt.pub_len]
theorem Sim.at (hS : Sim k H F R) {n : Nat} {y : RObj} (hx : H.objs[n]? = some x) (hy : R.objs[n]? = some y) : y.pub = pubO (H.V.abs F.T) x := by
 have h1 := HeapV.pub_at F hx
 rw [hS.objs, RSt.pub_at hy] at h1
 exact Option.some.inj h1
theorem OInv.keys (h : OInv t x) (h0 : ¬ x.shape < 0) : ∃ s, shapeAt t x.shape = some s ∧ s.proto = rootKey x.proto x.kind ∧ s.l.map (·.2) = x.vals.map (·.2.2) ∧ keysOf t x = s.l.map (·.1) := by
 obtain ⟨s, h1, h2, h3⟩ := h.fast (by omega)
 refine ⟨s, h1, h2, h3, ?_⟩
 unfold keysOf
 rw [if_neg h0]
 unfold keysP
 rw [h1]
theorem sh_find (h : OInv t x) (h0 : ¬ x.shape < 0) {i : Nat} {key : ByteArray} {d : DescP} (hk : (keysOf t x)[i]? = some key) (hd : x.vals[i]? = some d) : findP t x.shape key = ((i : Int), d.2.2, true) := by
 obtain ⟨s, h1, h2, h3, h4⟩ := h.keys h0
 have hn := h.nodup
 rw [h4] at hk hn
 have e := ixS_at hn hk
 rw [← keyIx_eq] at e
 have hp : (s.l.map (·.2))[i]? = some d.2.2 := by rw [h3, List.getElem?_map, hd]; rfl
 rw [List.getElem?_map] at hp
 obtain ⟨p, hp1, hp2⟩ := Option.map_eq_some_iff.1 hp
 simp only [findP, h1]
 rw [if_neg (by omega), e, show ((i : Int)).toNat = i by omega, hp1]
 simp only [hp2]
theorem sh_same (h : OInv t x) (g : OInv t z) (h0 : ¬ x.shape < 0) (e : x.shape = z.shape) : keysOf t x = keysOf t z ∧ x.vals.map (·.2.2) = z.vals.map (·.2.2) ∧ rootKey x.proto x.kind = rootKey z.proto z.kind := by
 obtain ⟨s, h1, h2, h3, h4⟩ := h.keys h0
 obtain ⟨s', g1, g2, g3, g4⟩ := g.keys (by omega)
 rw [e, g1] at h1
 obtain rfl := Option.some.inj h1
 exact ⟨h4.trans g4.symm, h3.symm.trans g3, h2.symm.trans g2⟩
theorem rootKey_eq {p k : Int} (hp : 16140901064495857664 ≤ p ∧ p < 18446744073709551616) (hk : 0 ≤ k ∧ k ≤ 6) : rootKey p k = (p - 16140901064495857664) * 8 + k := by
 obtain ⟨a, ha⟩ := Int.eq_ofNat_of_zero_le (show 0 ≤ p - 16140901064495857664 by omega)
 obtain ⟨b, rfl⟩ := Int.eq_ofNat_of_zero_le hk.1
 obtain rfl : p = (a : Int) + 16140901064495857664 := by omega
 unfold rootKey
 have h1 : (BitVec.ofInt 64 (IntKind.wrap .u64 (((a : Int) + 16140901064495857664) * 8))).toNat = 2 ^ 3 * a := by
   rw [BitVec.toNat_ofInt]; simp only [IntKind.wrap, IntKind.bits, IntKind.signed]; simp; omega
 have h2 : (BitVec.ofInt 64 (IntKind.wrap .u64 (b : Int))).toNat = b := by
   rw [BitVec.toNat_ofInt]; simp only [IntKind.wrap, IntKind.bits, IntKind.signed]; simp; omega
 rw [BitVec.toNat_or, h1, h2, ← Nat.two_pow_add_eq_or_of_lt (by omega)]
 simp only [IntKind.wrap, IntKind.bits, IntKind.signed]
 simp
 omega
theorem proto_big {l : List ObjS} (hP : ProtosIn l) {o : ObjS} (ho : o ∈ l) (hl : l.length ≤ 65536) : 16140901064495857664 ≤ o.proto ∧ o.proto < 18446744073709551616 := by
 rcases hP o ho with h | h
 · rw [h]; decide
 · cases hn : objAt o.proto l.length with
   | none => exact absurd hn h
   | some n =>
     have h1 := (objAt_tag hn).1
     unfold tagOf at h1
     split at h1
     · omega
     · cases h1
theorem Sim.same (hS : Sim k H F R) {n m : Nat} {y u : RObj} (hx : H.objs[n]? = some x) (hz : H.objs[m]? = some z) (hy : R.objs[n]? = some y) (hu : R.objs[m]? = some u) (h0 : ¬ x.shape < 0) (e : x.shape = z.shape) :
   y.kind = u.kind ∧ y.proto = u.proto ∧ y.names = u.names ∧ y.descs.map (·.2.2) = u.descs.map (·.2.2) := by
 have e1 := hS.at hx hy
 have e2 := hS.at hz hu
 obtain ⟨h1, h2, h3⟩ := sh_same (hS.inv.obj hx) (hS.inv.obj hz) h0 e
 have m1 := List.mem_of_getElem? (RSt.pub_at hy)
 have m2 := List.mem_of_getElem? (RSt.pub_at hu)
 have hl := hS.lok.len
 have k1 := hS.doc.kinds _ m1
 have k2 := hS.doc.kinds _ m2
 have p1 := proto_big hS.doc.protos m1 hl
 have p2 := proto_big hS.doc.protos m2 hl
 rw [e1] at k1 p1
 rw [e2] at k2 p2
 simp only [pubO] at k1 k2 p1 p2
 rw [rootKey_eq p1 k1, rootKey_eq p2 k2] at h3
 have q1 : y.kind = x.kind := congrArg ObjS.kind e1
 have q2 : u.kind = z.kind := congrArg ObjS.kind e2
 have r1 : y.proto = x.proto := congrArg ObjS.proto e1
 have r2 : u.proto = z.proto := congrArg ObjS.proto e2
 have n1 : y.names = keysOf (H.V.abs F.T) x := congrArg ObjS.names e1
 have n2 : u.names = keysOf (H.V.abs F.T) z := congrArg ObjS.names e2
 have d1 : y.descs = x.vals := congrArg ObjS.descs e1
 have d2 : u.descs = z.vals := congrArg ObjS.descs e2
 exact ⟨by rw [q1, q2]; omega, by rw [r1, r2]; omega, by rw [n1, n2, h1], by rw [d1, d2, h2]⟩
theorem Sim.find (hS : Sim k H F R) {n i : Nat} {y : RObj} {key : ByteArray} {d : DescP} (hx : H.objs[n]? = some x) (hy : R.objs[n]? = some y) (h0 : ¬ x.shape < 0) (hk : y.names[i]? = some key) (hd : y.descs[i]? = some d) :
   findP (H.V.abs F.T) x.shape key = ((i : Int), d.2.2, true) := by
 have e1 := hS.at hx hy
 rw [show y.names = keysOf (H.V.abs F.T) x from congrArg ObjS.names e1] at hk
 rw [show y.descs = x.vals from congrArg ObjS.descs e1] at hd
 exact sh_find (hS.inv.obj hx) h0 hk hd
theorem objA' {n len : Nat} (h : n < len) (hl : len ≤ 65536) : objAt (18445055223849287680 + (n : Int)) len = some n := by
 rw [show (18445055223849287680 : Int) = 65530 * 281474976710656 from by decide]; exact objAt_mk h hl
end Go.Proofs.YthflblophelioaaGreatDoor
namespace Go.Proofs.YthflblophelioaaGreatDoor
open Go.Sl

end Go.Proofs.YthflblophelioaaGreatDoor
namespace Go.Proofs.YthflblophelioaaGreatDoor
open Go.Sl
variable {k : Nat} {H : HeapV} {F : HeapF} {R : RSt} {x : ObjL}
theorem eqDesc (a b c a' b' c' : Int) (w : World) : (Op.equalIn 10000 45 (.agg #[.int .u64 a, .int .u64 b, .int .i64 c]) (.agg #[.int .u64 a', .int .u64 b', .int .i64 c'])).run Tryz.prog w = .ok (a == a' && (b == b' && c == c')) w := by
 have u1 := Tryz.underlying33
 have a1 := Tryz.isAgg33
 have z1 := Tryz.sizeOf33
 have u2 := Tryz.underlying3
 have a2 := Tryz.isAgg3
 have z2 := Tryz.sizeOf3
 rw [show (10000 : Nat) = 9999 + 1 from rfl, run_equalIn_agg w 9999 45 _ _ (by kernel_rfl) (by kernel_rfl)]
 simp only [Program.fieldsOf, Tryz.underlying45]
 go_simp
 by_cases h1 : a = a' <;> by_cases h2 : b = b' <;> by_cases h3 : c = c' <;> simp [h1, h2, h3]
theorem neqD {ρ : Fr} {x y : Operand} {dst : Option Tmp} {t2 ty : TypeId} {pos : String} {after : Array Edge} {gd : Option (Nat × Bool)} {a b c a' b' c' : Int} (hx : ∀ δ, ev δ ρ x = .agg #[.int .u64 a, .int .u64 b, .int .i64 c] := by exact fun _ => rfl) (hy : ∀ δ, ev δ ρ y = .agg #[.int .u64 a', .int .u64 b', .int .i64 c'] := by exact fun _ => rfl) :
   ∀ δ w, (execOp (ev δ ρ) ⟨dst, .binOp .neq 45 x y t2, ty, pos, after, gd⟩).run Tryz.prog w = .ok (.value (.bool (!(a == a' && (b == b' && c == c'))))) w := by
 intro δ w
 simp only [execOp, hx, hy]
 rw [Sem.run_bind, Sem.run_bind, run_eqGuard_agg _ _ _ _ _ _ _ (by kernel_rfl), Result.andThen_ok, run_neq_struct, eqDesc]
 rfl
theorem eqlD {ρ : Fr} {x y : Operand} {dst : Option Tmp} {t2 ty : TypeId} {pos : String} {after : Array Edge} {gd : Option (Nat × Bool)} {a b c a' b' c' : Int} (hx : ∀ δ, ev δ ρ x = .agg #[.int .u64 a, .int .u64 b, .int .i64 c] := by exact fun _ => rfl) (hy : ∀ δ, ev δ ρ y = .agg #[.int .u64 a', .int .u64 b', .int .i64 c'] := by exact fun _ => rfl) :
   ∀ δ w, (execOp (ev δ ρ) ⟨dst, .binOp .eql 45 x y t2, ty, pos, after, gd⟩).run Tryz.prog w = .ok (.value (.bool (a == a' && (b == b' && c == c')))) w := by
 intro δ w
 simp only [execOp, hx, hy]
 rw [Sem.run_bind, Sem.run_bind, run_eqGuard_agg _ _ _ _ _ _ _ (by kernel_rfl), Result.andThen_ok, run_eql_struct, eqDesc]
 rfl
theorem Sim.pubAt (hS : Sim k H F R) {n : Nat} {y : RObj} (hy : R.objs[n]? = some y) : (H.pub F)[n]? = some y.pub := by rw [hS.objs]; exact RSt.pub_at hy
theorem Sim.get (hS : Sim k H F R) {n i : Nat} {y : RObj} {key : ByteArray} {d : DescP} (hy : R.objs[n]? = some y) (hk : y.names[i]? = some key) (hd : y.descs[i]? = some d) : getP y.pub.names y.pub.descs key = some d := by
 have hn : y.names.Nodup := hS.inv.nodup (List.mem_of_getElem? (hS.pubAt hy))
 have e := ixS_at hn hk
 show getP y.names y.descs key = some d
 unfold getP
 rw [if_neg (by omega), e]
 exact hd
theorem Sim.slot (hS : Sim k H F R) {n i : Nat} {y : RObj} {d : DescP} (hx : H.objs[n]? = some x) (hy : R.objs[n]? = some y) (hd : y.descs[i]? = some d) : slotO x (i : Int) = some d := by
 rw [show y.descs = x.vals from congrArg ObjS.descs (hS.at hx hy)] at hd
 unfold slotO
 rw [if_pos ⟨by omega, by have := (List.getElem?_eq_some_iff.1 hd).1; omega⟩]
 exact hd
theorem wordOk_obj {n : Nat} (h : n < 65536) : wordOk (18445055223849287680 + (n : Int)) := ⟨by omega, by omega⟩
end Go.Proofs.YthflblophelioaaGreatDoor
namespace Go.Proofs.YthflblophelioaaGreatDoor
open Go.Sl
def band (a b : Int) : Int := IntKind.wrap .i64 ((BitVec.ofInt 64 a &&& BitVec.ofInt 64 b).toNat)
def bor (a b : Int) : Int := IntKind.wrap .i64 ((BitVec.ofInt 64 a ||| BitVec.ofInt 64 b).toNat)
def bandn (a b : Int) : Int := IntKind.wrap .i64 ((BitVec.ofInt 64 a &&& ~~~BitVec.ofInt 64 b).toNat)
def bit (a : Int) (k : Nat) : Bool := (BitVec.ofInt 64 a).getLsbD k
theorem band1 (a : Int) : band a 1 = if bit a 0 = true then 1 else 0 := by
 unfold band bit; rw [show BitVec.ofInt 64 1 = BitVec.twoPow 64 0 from by decide, BitVec.and_twoPow]; split <;> decide
theorem band2 (a : Int) : band a 2 = if bit a 1 = true then 2 else 0 := by
 unfold band bit; rw [show BitVec.ofInt 64 2 = BitVec.twoPow 64 1 from by decide, BitVec.and_twoPow]; split <;> decide
theorem band4 (a : Int) : band a 4 = if bit a 2 = true then 4 else 0 := by
 unfold band bit; rw [show BitVec.ofInt 64 4 = BitVec.twoPow 64 2 from by decide, BitVec.and_twoPow]; split <;> decide
theorem band8 (a : Int) : band a 8 = if bit a 3 = true then 8 else 0 := by
 unfold band bit; rw [show BitVec.ofInt 64 8 = BitVec.twoPow 64 3 from by decide, BitVec.and_twoPow]; split <;> decide
theorem band16 (a : Int) : band a 16 = if bit a 4 = true then 16 else 0 := by
 unfold band bit; rw [show BitVec.ofInt 64 16 = BitVec.twoPow 64 4 from by decide, BitVec.and_twoPow]; split <;> decide
theorem band32 (a : Int) : band a 32 = if bit a 5 = true then 32 else 0 := by
 unfold band bit; rw [show BitVec.ofInt 64 32 = BitVec.twoPow 64 5 from by decide, BitVec.and_twoPow]; split <;> decide
theorem band48 (a : Int) : band a 48 = if bit a 4 = true then (if bit a 5 = true then 48 else 16) else (if bit a 5 = true then 32 else 0) := by
 unfold band bit
 rw [show BitVec.ofInt 64 48 = BitVec.twoPow 64 4 ||| BitVec.twoPow 64 5 from by decide, BitVec.and_or_distrib_left, BitVec.and_twoPow, BitVec.and_twoPow]
 split <;> split <;> decide
theorem band3 (a : Int) : band a 3 = if bit a 0 = true then (if bit a 1 = true then 3 else 1) else (if bit a 1 = true then 2 else 0) := by
 unfold band bit
 rw [show BitVec.ofInt 64 3 = BitVec.twoPow 64 0 ||| BitVec.twoPow 64 1 from by decide, BitVec.and_or_distrib_left, BitVec.and_twoPow, BitVec.and_twoPow]
 split <;> split <;> decide
abbrev undefW : Int := 18445336698825998336
structure WishP where
  has : Int
  value : Int
  get : Int
  set : Int
  flags : Int
def flagW (w : WishP) (hb fb f : Int) : Int := if (band w.has hb != 0) = true then bor (bandn f fb) (band w.flags fb) else f
def flagsW (w : WishP) (f : Int) : Int := flagW w 8 4 (flagW w 4 2 (flagW w 2 1 f))
def accW (w : WishP) : Bool := band w.has 48 != 0
def datW (w : WishP) : Bool := band w.has 3 != 0
def wish1 (d : DescP) (w : WishP) : DescP := if accW w = true ∧ (band d.2.2 8 == 0) = true then (undefW, undefW, bor (bandn d.2.2 1) 8) else d
def wish2 (d : DescP) (w : WishP) : DescP := if datW w = true ∧ (band d.2.2 8 != 0) = true then (undefW, undefW, bandn d.2.2 8) else d
def wish3 (d : DescP) (w : WishP) : DescP := (d.1, d.2.1, flagsW w d.2.2)
def wish4 (d : DescP) (w : WishP) : DescP := if (band w.has 1 != 0) = true then (w.value, d.2.1, d.2.2) else d
def wish5 (d : DescP) (w : WishP) : DescP := if (band w.has 16 != 0) = true then (w.get, d.2.1, d.2.2) else d
def wish6 (d : DescP) (w : WishP) : DescP := if (band w.has 32 != 0) = true then (d.1, w.set, d.2.2) else d
def wishP (d : DescP) (w : WishP) : DescP := wish6 (wish5 (wish4 (wish3 (wish2 (wish1 d w) w) w) w) w) w
def bothP (w : WishP) : Bool := accW w && datW w
def hasR (w : WishP) (b : Int) : Bool := band w.has b != 0
def flagR (old : Int) (w : WishP) (hb fb : Int) : Int := if hasR w hb = true then band w.flags fb else band old fb
def wishR (d : DescP) (w : WishP) : DescP :=
 if (hasR w 16 || hasR w 32) = true then
   (let b : DescP := if (band d.2.2 8 != 0) = true then d else (undefW, undefW, 0)
    (if hasR w 16 = true then w.get else b.1, if hasR w 32 = true then w.set else b.2.1, bor (bor 8 (flagR d.2.2 w 4 2)) (flagR d.2.2 w 8 4)))
 else
   (let b : DescP := if (band d.2.2 8 != 0) = true ∧ (hasR w 1 || hasR w 2) = true then (undefW, undefW, band d.2.2 6) else d
    let kept := band b.2.2 8
    let f := bor (bor (bor kept (flagR b.2.2 w 2 1)) (flagR d.2.2 w 4 2)) (flagR d.2.2 w 8 4)
    (if hasR w 1 = true then w.value else b.1, b.2.1, if (kept != 0) = true then bor f 8 else f))
def bI (b : Bool) (n : Int) : Int := if b = true then n else 0
def progF (f : Int) (b0 b1 b2 b3 a : Bool) (c0 c1 c2 : Bool) : Int :=
 let f := if a = true ∧ (band f 8 == 0) = true then bor (bandn f 1) 8 else f
 let f := if (b0 || b1) = true ∧ (band f 8 != 0) = true then bandn f 8 else f
 let f := if b1 = true then bor (bandn f 1) (bI c0 1) else f
 let f := if b2 = true then bor (bandn f 2) (bI c1 2) else f
 if b3 = true then bor (bandn f 4) (bI c2 4) else f
def docF (f : Int) (b0 b1 b2 b3 a : Bool) (c0 c1 c2 : Bool) : Int :=
 if a = true then bor (bor 8 (if b2 = true then bI c1 2 else band f 2)) (if b3 = true then bI c2 4 else band f 4)
 else
   let g := if (band f 8 != 0) = true ∧ (b0 || b1) = true then band f 6 else f
   let kept := band g 8
   let h := bor (bor (bor kept (if b1 = true then bI c0 1 else band g 1)) (if b2 = true then bI c1 2 else band f 2)) (if b3 = true then bI c2 4 else band f 4)
   if (kept != 0) = true then bor h 8 else h
def flOk (f : Int) : Bool := decide (0 ≤ f ∧ f < 16) && ((band f 8 == 0) || (band f 1 == 0))
theorem flags_alike : ∀ (f : Fin 16) (b0 b1 b2 b3 a c0 c1 c2 : Bool), flOk (f.val : Int) = true → (a && (b0 || b1)) = false → progF (f.val : Int) b0 b1 b2 b3 a c0 c1 c2 = docF (f.val : Int) b0 b1 b2 b3 a c0 c1 c2 := by
 decide +kernel
theorem has_bits (w : WishP) : accW w = (bit w.has 4 || bit w.has 5) ∧ datW w = (bit w.has 0 || bit w.has 1) ∧ hasR w 1 = bit w.has 0 ∧ hasR w 2 = bit w.has 1 ∧ hasR w 4 = bit w.has 2 ∧ hasR w 8 = bit w.has 3 ∧ hasR w 16 = bit w.has 4 ∧ hasR w 32 = bit w.has 5 := by
 unfold accW datW hasR
 rw [band48, band3, band1, band2, band4, band8, band16, band32]
 refine ⟨?_, ?_, ?_, ?_, ?_, ?_, ?_, ?_⟩
 · cases bit w.has 4 <;> cases bit w.has 5 <;> rfl
 · cases bit w.has 0 <;> cases bit w.has 1 <;> rfl
 · cases bit w.has 0 <;> rfl
 · cases bit w.has 1 <;> rfl
 · cases bit w.has 2 <;> rfl
 · cases bit w.has 3 <;> rfl
 · cases bit w.has 4 <;> rfl
 · cases bit w.has 5 <;> rfl
theorem flag_bits (w : WishP) : band w.flags 1 = bI (bit w.flags 0) 1 ∧ band w.flags 2 = bI (bit w.flags 1) 2 ∧ band w.flags 4 = bI (bit w.flags 2) 4 := ⟨band1 _, band2 _, band4 _⟩
theorem wish456_flags (d : DescP) (w : WishP) : (wish6 (wish5 (wish4 d w) w) w).2.2 = d.2.2 := by
 unfold wish6 wish5 wish4
 split <;> split <;> split <;> rfl
theorem wishP_flags (d : DescP) (w : WishP) : (wishP d w).2.2 = progF d.2.2 (bit w.has 0) (bit w.has 1) (bit w.has 2) (bit w.has 3) (bit w.has 4 || bit w.has 5) (bit w.flags 0) (bit w.flags 1) (bit w.flags 2) := by
 obtain ⟨h1, h2, h3, h4, h5, h6, h7, h8⟩ := has_bits w
 obtain ⟨g1, g2, g3⟩ := flag_bits w
 unfold hasR at h3 h4 h5 h6
 unfold wishP
 rw [wish456_flags]
 unfold wish3 flagsW flagW
 rw [h4, h5, h6, g1, g2, g3]
 unfold progF wish2 wish1
 rw [h1, h2]
 by_cases q : (bit w.has 4 || bit w.has 5) = true ∧ (band d.2.2 8 == 0) = true
 · simp only [if_pos q]
   by_cases r : (bit w.has 0 || bit w.has 1) = true ∧ (band (bor (bandn d.2.2 1) 8) 8 != 0) = true
   · simp only [if_pos r]
   · simp only [if_neg r]
 · simp only [if_neg q]
   by_cases r : (bit w.has 0 || bit w.has 1) = true ∧ (band d.2.2 8 != 0) = true
   · simp only [if_pos r]
   · simp only [if_neg r]
theorem wishR_flags (d : DescP) (w : WishP) : (wishR d w).2.2 = docF d.2.2 (bit w.has 0) (bit w.has 1) (bit w.has 2) (bit w.has 3) (bit w.has 4 || bit w.has 5) (bit w.flags 0) (bit w.flags 1) (bit w.flags 2) := by
 obtain ⟨h1, h2, h3, h4, h5, h6, h7, h8⟩ := has_bits w
 obtain ⟨g1, g2, g3⟩ := flag_bits w
 unfold wishR docF flagR
 rw [h3, h4, h5, h6, h7, h8, g1, g2, g3]
 by_cases q : (bit w.has 4 || bit w.has 5) = true
 · simp only [if_pos q]
 · simp only [if_neg q]
   by_cases r : (band d.2.2 8 != 0) = true ∧ (bit w.has 0 || bit w.has 1) = true
   · simp only [if_pos r]
   · simp only [if_neg r]
theorem wishP_vals (d : DescP) (w : WishP) (hb : bothP w = false) : (wishP d w).1 = (wishR d w).1 ∧ (wishP d w).2.1 = (wishR d w).2.1 := by
 obtain ⟨h1, h2, h3, h4, h5, h6, h7, h8⟩ := has_bits w
 unfold bothP at hb
 rw [h1, h2] at hb
 unfold wishR wishP wish6 wish5 wish4 wish3 wish2 wish1
 simp only [show (band w.has 1 != 0) = hasR w 1 from rfl, show (band w.has 16 != 0) = hasR w 16 from rfl, show (band w.has 32 != 0) = hasR w 32 from rfl]
 rw [h1, h2, h3, h4, h7, h8]
 generalize bit w.has 4 = b4 at *
 generalize bit w.has 5 = b5 at *
 generalize bit w.has 0 = b0 at *
 generalize bit w.has 1 = b1 at *
 clear h1 h2 h3 h4 h5 h6 h7 h8
 by_cases hz : band d.2.2 8 = 0
 · cases b4 <;> cases b5 <;> cases b0 <;> cases b1 <;> first | (cases hb; done) | simp [hz]
 · cases b4 <;> cases b5 <;> cases b0 <;> cases b1 <;> first | (cases hb; done) | simp [hz]
theorem wish_alike {d : DescP} {w : WishP} (hf : flOk d.2.2 = true) (hb : bothP w = false) : wishR d w = wishP d w := by
 obtain ⟨v1, v2⟩ := wishP_vals d w hb
 obtain ⟨h1, h2, h3, h4, h5, h6, h7, h8⟩ := has_bits w
 have hb' := hb
 unfold bothP at hb'
 rw [h1, h2] at hb'
 have hr : 0 ≤ d.2.2 ∧ d.2.2 < 16 := by
   unfold flOk at hf
   simp only [Bool.and_eq_true, decide_eq_true_eq] at hf
   exact hf.1
 obtain ⟨k, hk⟩ : ∃ k : Fin 16, (k.val : Int) = d.2.2 := ⟨⟨d.2.2.toNat, by omega⟩, by simp only []; omega⟩
 refine Prod.ext v1.symm (Prod.ext v2.symm ?_)
 rw [wishP_flags, wishR_flags, ← hk]
 exact (flags_alike k _ _ _ _ _ _ _ _ (by rw [hk]; exact hf) hb').symm
def mayW (old d : DescP) : Bool :=
 if (band old.2.2 4 != 0) = true ∨ old = d then true
 else if (bandn old.2.2 1 != bandn d.2.2 1) = true ∨ (band old.2.2 8 != 0) = true then false
 else (band old.2.2 1 != 0) && (bor d.2.2 1 == old.2.2)
def mayR (old d : DescP) : Bool :=
 if old = d ∨ (band old.2.2 4 != 0) = true then true
 else if (band old.2.2 8 != 0) = true ∨ (band d.2.2 8 != 0) = true ∨ (band old.2.2 6 != band d.2.2 6) = true then false
 else band old.2.2 1 != 0
def mayF1 (f g : Int) : Bool := if (bandn f 1 != bandn g 1) = true ∨ (band f 8 != 0) = true then false else (band f 1 != 0) && (bor g 1 == f)
def mayF2 (f g : Int) : Bool := if (band f 8 != 0) = true ∨ (band g 8 != 0) = true ∨ (band f 6 != band g 6) = true then false else band f 1 != 0
theorem mayF_alike : ∀ f g : Fin 16, mayF1 (f.val : Int) (g.val : Int) = mayF2 (f.val : Int) (g.val : Int) := by decide +kernel
theorem may_alike {old d : DescP} (hf : 0 ≤ old.2.2 ∧ old.2.2 < 16) (hg : 0 ≤ d.2.2 ∧ d.2.2 < 16) : mayR old d = mayW old d := by
 obtain ⟨k, hk⟩ : ∃ k : Fin 16, (k.val : Int) = old.2.2 := ⟨⟨old.2.2.toNat, by omega⟩, by simp only []; omega⟩
 obtain ⟨j, hj⟩ : ∃ k : Fin 16, (k.val : Int) = d.2.2 := ⟨⟨d.2.2.toNat, by omega⟩, by simp only []; omega⟩
 have e := mayF_alike k j
 rw [hk, hj] at e
 unfold mayR mayW
 by_cases q : old = d ∨ (band old.2.2 4 != 0) = true
 · rw [if_pos q, if_pos q.symm]
 · rw [if_neg q, if_neg (show ¬ ((band old.2.2 4 != 0) = true ∨ old = d) from fun z => q z.symm)]
   exact e.symm
theorem progF_small : ∀ (f : Fin 16) (b0 b1 b2 b3 a c0 c1 c2 : Bool), 0 ≤ progF (f.val : Int) b0 b1 b2 b3 a c0 c1 c2 ∧ progF (f.val : Int) b0 b1 b2 b3 a c0 c1 c2 < 16 := by decide +kernel
theorem wishP_small {d : DescP} (w : WishP) (hf : 0 ≤ d.2.2 ∧ d.2.2 < 16) : 0 ≤ (wishP d w).2.2 ∧ (wishP d w).2.2 < 16 := by
 obtain ⟨k, hk⟩ : ∃ k : Fin 16, (k.val : Int) = d.2.2 := ⟨⟨d.2.2.toNat, by omega⟩, by simp only []; omega⟩
 rw [wishP_flags, ← hk]
 exact progF_small k _ _ _ _ _ _ _ _
end Go.Proofs.YthflblophelioaaGreatDoor
namespace Go.Proofs.YthflblophelioaaGreatDoor
open Go.Sl
theorem ite_ff {α : Type} {a : Bool} {x y : α} (h : a = false) : (if a = true then x else y) = y := by rw [h]; rfl
theorem ite_f1 {α : Type} {a b : Bool} {x y : α} (h : a = false) : (if a = true ∧ b = true then x else y) = y := by rw [h]; simp
theorem ite_f2 {α : Type} {a b : Bool} {x y : α} (h : b = false) : (if a = true ∧ b = true then x else y) = y := by rw [h]; simp
abbrev holeW : Int := 18445336698825998340
abbrev lenK : ByteArray := ByteArray.mk #[108, 101, 110, 103, 116, 104]
abbrev intW (n : Int) : Int := 18444773748872577024 + n
def objOf (l : List ObjS) (w : Int) : Option ObjS := match objAt w l.length with | none => none | some n => l[n]?
variable {l : List ObjS} {w : Int} {n : Nat} {o : ObjS} {key : ByteArray}
theorem objOf_none (h : objAt w l.length = none) : objOf l w = none := by unfold objOf; rw [h]
theorem objOf_some (h : objAt w l.length = some n) (ho : l[n]? = some o) : objOf l w = some o := by unfold objOf; rw [h]; exact ho
theorem objOf_cases (l : List ObjS) (w : Int) : (objAt w l.length = none ∧ objOf l w = none) ∨ ∃ n o, objAt w l.length = some n ∧ l[n]? = some o ∧ objOf l w = some o := by
 cases h : objAt w l.length with
 | none => exact .inl ⟨rfl, objOf_none h⟩
 | some n => obtain ⟨o, ho⟩ := obj_of h; exact .inr ⟨n, o, rfl, ho, objOf_some h ho⟩
theorem objOf_mem (h : objOf l w = some o) : o ∈ l := by
 rcases objOf_cases l w with ⟨_, q⟩ | ⟨n, o', _, q, r⟩
 · rw [q] at h; cases h
 · rw [r] at h; cases h; exact List.mem_of_getElem? q
def kindQ (l : List ObjS) (w : Int) : Int × Bool := match objOf l w with | none => (0, false) | some o => (o.kind, true)
def openQ (l : List ObjS) (w : Int) : Bool := match objOf l w with | none => false | some o => !o.shut
def lenN (l : List ObjS) (w : Int) : Nat := match objOf l w with | none => 0 | some o => o.elems.length
def elemQ (l : List ObjS) (w m : Int) : Int × Bool := match objOf l w with | none => (undefW, false) | some o => elemO o.elems m
def getQ (l : List ObjS) (w : Int) (key : ByteArray) : Option DescP := match objOf l w with | none => none | some o => getP o.names o.descs key
def namesQ (l : List ObjS) (w : Int) : List ByteArray := match objOf l w with | none => [] | some o => o.names
abbrev descG (q : Option DescP) : DescP := q.getD (0, 0, 0)
theorem descR_eq (q : Option DescP) : descR q = .tuple #[descV (descG q), .bool q.isSome] := by cases q <;> rfl
def arrP (l : List ObjS) (w : Int) : Bool := match objOf l w with | none => false | some o => o.kind == 1
def idxK (key : ByteArray) : Option Nat := idxL key.data.toList
def ownO (o : ObjS) (key : ByteArray) : Option DescP :=
 if o.kind = 1 then
   (if key = lenK then some (intW o.elems.length, undefW, 1) else match idxK key with
     | some m => if (elemO o.elems m).2 = true then some ((elemO o.elems m).1, undefW, 7) else none
     | none => getP o.names o.descs key)
 else getP o.names o.descs key
def ownQ (l : List ObjS) (w : Int) (key : ByteArray) : Option DescP := match objOf l w with | none => none | some o => ownO o key
theorem ownQ_len (ha : arrP l w = true) (hk : key = lenK) : ownQ l w key = some (intW (lenN l w), undefW, 1) := by
 unfold arrP at ha; unfold ownQ lenN
 cases h : objOf l w with
 | none => rw [h] at ha; cases ha
 | some o => rw [h] at ha; simp only [] at ha ⊢; unfold ownO; rw [if_pos (by simpa using ha), if_pos hk]
theorem ownQ_elem (ha : arrP l w = true) (hk : key ≠ lenK) {m : Nat} (hm : idxK key = some m) : ownQ l w key = if (elemQ l w m).2 = true then some ((elemQ l w m).1, undefW, 7) else none := by
 unfold arrP at ha; unfold ownQ elemQ
 cases h : objOf l w with
 | none => rw [h] at ha; cases ha
 | some o => rw [h] at ha; simp only [] at ha ⊢; unfold ownO; rw [if_pos (by simpa using ha), if_neg hk, hm]
theorem ownQ_get (ha : arrP l w = true) (hk : key ≠ lenK) (hm : idxK key = none) : ownQ l w key = getQ l w key := by
 unfold arrP at ha; unfold ownQ getQ
 cases h : objOf l w with
 | none => rfl
 | some o => rw [h] at ha; simp only [] at ha ⊢; unfold ownO; rw [if_pos (by simpa using ha), if_neg hk, hm]
theorem ownQ_plain (ha : arrP l w = false) : ownQ l w key = getQ l w key := by
 unfold arrP at ha; unfold ownQ getQ
 cases h : objOf l w with
 | none => rfl
 | some o => rw [h] at ha; simp only [] at ha ⊢; unfold ownO; rw [if_neg (by simpa using ha)]
theorem ownQ_none (h : objAt w l.length = none) : ownQ l w key = none := by unfold ownQ; rw [objOf_none h]
def idxV (key : ByteArray) : Int × Bool := match idxK key with | some n => (n, true) | none => (0, false)
theorem idxV_none {key : ByteArray} (h : idxK key = none) : idxV key = (0, false) := by unfold idxV; rw [h]
theorem idxV_some {key : ByteArray} {n : Nat} (h : idxK key = some n) : idxV key = ((n : Int), true) := by unfold idxV; rw [h]
theorem dig_small {n : Nat} (h : n < 10) : strOfNums [48 + (n : Int)] = (⟨(Lib.decDigits n).toArray⟩ : ByteArray) := by
 rw [dec_small h]
 unfold strOfNums
 rw [show (48 + (n : Int)) = ((48 + n : Nat) : Int) by omega]
 rfl
theorem bytes_app (a b : List UInt8) : (⟨a.toArray⟩ : ByteArray) ++ (⟨b.toArray⟩ : ByteArray) = ⟨(a ++ b).toArray⟩ := by
 apply ByteArray.ext
 rw [ByteArray.data_append]
 simp
theorem dig_big {n : Nat} (h : ¬ n < 10) : (⟨(Lib.decDigits (n / 10)).toArray⟩ : ByteArray) ++ strOfNums [48 + (n : Int) % 10] = (⟨(Lib.decDigits n).toArray⟩ : ByteArray) := by
 rw [dec_big h, ← bytes_app]
 unfold strOfNums
 rw [show (48 + (n : Int) % 10) = ((48 + n % 10 : Nat) : Int) by omega]
 rfl
theorem dig_cat {n : Nat} (h : n < 10000) (c : Int) : (⟨(Lib.decDigits (n / 10)).toArray⟩ : ByteArray).size + (strOfNums [c]).size ≤ 9223372036854775807 := by
 have h1 := dec_len 3 (n / 10) (by omega)
 have h2 : (⟨(Lib.decDigits (n / 10)).toArray⟩ : ByteArray).size = (Lib.decDigits (n / 10)).length := by simp [ByteArray.size]
 have h3 : (strOfNums [c]).size = 1 := rfl
 omega
theorem digL_app : ∀ (l m : List UInt8) (a : Nat), digL a (l ++ m) = (digL a l).bind fun k => digL k m
 | [], _, _ => rfl
 | c :: r, m, a => by
   show (if 48 ≤ c.toNat ∧ c.toNat ≤ 57 then digL (a * 10 + (c.toNat - 48)) (r ++ m) else none) = (if 48 ≤ c.toNat ∧ c.toNat ≤ 57 then digL (a * 10 + (c.toNat - 48)) r else none).bind _
   split
   · exact digL_app r m _
   · rfl
theorem digL_none {l : List UInt8} {i : Nat} (h : digL 0 (l.take i) = none) : digL 0 l = none := by
 have e := digL_app (l.take i) (l.drop i) 0
 rw [List.take_append_drop, h] at e
 exact e
theorem digL_next {l : List UInt8} {i n : Nat} {c : UInt8} (h : digL 0 (l.take i) = some n) (hc : l[i]? = some c) : digL 0 (l.take (i + 1)) = if 48 ≤ c.toNat ∧ c.toNat ≤ 57 then some (n * 10 + (c.toNat - 48)) else none := by
 rw [List.take_add_one, hc, digL_app, h]
 show digL n [c] = _
 unfold digL
 split <;> rfl
theorem byteN_some {s : ByteArray} {i : Nat} (h : i < s.size) : ∃ c, s.data.toList[i]? = some c ∧ byteN s (i : Int) = (c.toNat : Int) := by
 have hl : i < s.data.toList.length := by simpa using h
 exact ⟨_, List.getElem?_eq_getElem hl, byteN_at (List.getElem?_eq_getElem hl)⟩
theorem idxV_long {s : ByteArray} (h : s.size = 0 ∨ 4 < s.size) : idxV s = (0, false) := by
 refine idxV_none ?_
 have e : s.data.toList.length = s.size := by simp
 unfold idxK idxL
 rw [if_pos]
 rcases h with q | q
 · left; exact List.eq_nil_of_length_eq_zero (by omega)
 · right; left; omega
theorem idxV_zero {s : ByteArray} (h : byteN s 0 = 48) (h1 : 1 < s.size) : idxV s = (0, false) := by
 refine idxV_none ?_
 obtain ⟨c, hc, hb⟩ := byteN_some (s := s) (i := 0) (by omega)
 have e : s.data.toList.length = s.size := by simp
 unfold idxK idxL
 rw [if_pos]
 right; right
 refine ⟨?_, by omega⟩
 rw [List.head?_eq_getElem?, hc]
 have e2 : byteN s 0 = (c.toNat : Int) := hb
 show some c.toNat = some 48
 rw [show c.toNat = 48 by omega]
theorem idxV_fail {s : ByteArray} {i n : Nat} (hi : i < s.size) (h : digL 0 (s.data.toList.take i) = some n) (hb : ¬ (48 ≤ byteN s (i : Int) ∧ byteN s (i : Int) ≤ 57)) : idxV s = (0, false) := by
 refine idxV_none ?_
 obtain ⟨c, hc, hb2⟩ := byteN_some hi
 have e := digL_next h hc
 rw [if_neg (by omega)] at e
 unfold idxK idxL
 split
 · rfl
 · rw [digL_none e]
theorem idxV_next {s : ByteArray} {i n : Nat} (hi : i < s.size) (h : digL 0 (s.data.toList.take i) = some n) (hb : 48 ≤ byteN s (i : Int) ∧ byteN s (i : Int) ≤ 57) : digL 0 (s.data.toList.take (i + 1)) = some (n * 10 + (byteN s (i : Int) - 48).toNat) := by
 obtain ⟨c, hc, hb2⟩ := byteN_some hi
 rw [digL_next h hc, if_pos (by omega), show (byteN s (i : Int) - 48).toNat = c.toNat - 48 by omega]
theorem idxV_end {s : ByteArray} {n : Nat} (h0 : s.size ≠ 0) (h4 : s.size ≤ 4) (hz : byteN s 0 ≠ 48 ∨ s.size ≤ 1) (h : digL 0 (s.data.toList.take s.size) = some n) : idxV s = if n < 4096 then ((n : Int), true) else (0, false) := by
 have e : s.data.toList.length = s.size := by simp
 rw [← e, List.take_length] at h
 have ei : idxK s = if n < 4096 then some n else none := by
   unfold idxK idxL
   rw [if_neg, h]
   rintro (q | q | ⟨q, r⟩)
   · rw [q] at e; exact h0 e.symm
   · omega
   · obtain ⟨c, hc, hb⟩ := byteN_some (s := s) (i := 0) (by omega)
     rw [List.head?_eq_getElem?, hc] at q
     have q2 : c.toNat = 48 := Option.some.inj q
     rcases hz with z | z
     · exact z (by have e2 : byteN s 0 = (c.toNat : Int) := hb; omega)
     · omega
 by_cases hn : n < 4096
 · rw [if_pos hn] at ei ⊢; exact idxV_some ei
 · rw [if_neg hn] at ei ⊢; exact idxV_none ei
def lookP (l : List ObjS) (key : ByteArray) : Nat → Int → Option (Int × DescP)
 | 0, _ => none
 | k + 1, w => match ownQ l w key with | some d => some (w, d) | none => lookP l key k (protoW l w)
def lookQ (l : List ObjS) (w : Int) (key : ByteArray) : Option (Int × DescP) := lookP l key l.length w
theorem lookP_null (key : ByteArray) : ∀ k, lookP l key k nullW = none
 | 0 => rfl
 | k + 1 => by
   show (match ownQ l nullW key with | some d => some (nullW, d) | none => lookP l key k (protoW l nullW)) = none
   rw [ownQ_none (objAt_null _), protoW_none (objAt_null _)]; exact lookP_null key k
theorem lookP_none (h : objAt w l.length = none) (key : ByteArray) : ∀ k, lookP l key k w = none
 | 0 => rfl
 | k + 1 => by
   show (match ownQ l w key with | some d => some (w, d) | none => lookP l key k (protoW l w)) = none
   rw [ownQ_none h, protoW_none h]; exact lookP_null key k
theorem lookP_step {d : Nat} (h : ownQ l w key = none) : lookP l key (d + 1) w = lookP l key d (protoW l w) := by
 show (match ownQ l w key with | some d => some (w, d) | none => lookP l key d (protoW l w)) = _
 rw [h]
theorem lookP_hit {d : Nat} {x : DescP} (h : ownQ l w key = some x) : lookP l key (d + 1) w = some (w, x) := by
 show (match ownQ l w key with | some d => some (w, d) | none => lookP l key d (protoW l w)) = _
 rw [h]
theorem lookP_up (l : List ObjS) (key : ByteArray) (w : Int) : ∀ (i j : Nat), (∀ k, k < i → ownQ l (upN l w k) key = none) → lookP l key (i + j) w = lookP l key j (upN l w i)
 | 0, j, _ => by rw [Nat.zero_add]; rfl
 | i + 1, j, h => by
   rw [show i + 1 + j = i + (j + 1) by omega, lookP_up l key w i (j + 1) fun k hk => h k (by omega), lookP_step (h i (by omega))]
   rfl
theorem look_hit {d : DescP} {i : Nat} (hi : i < l.length) (hn : ∀ j, j < i → ownQ l (upN l w j) key = none) (hd : ownQ l (upN l w i) key = some d) : lookQ l w key = some (upN l w i, d) := by
 unfold lookQ
 rw [show l.length = i + (l.length - i - 1 + 1) by omega, lookP_up l key w i _ hn, lookP_hit hd]
theorem look_out {i : Nat} (hi : i ≤ l.length) (hn : ∀ j, j < i → ownQ l (upN l w j) key = none) (hq : i = l.length ∨ objAt (upN l w i) l.length = none) : lookQ l w key = none := by
 unfold lookQ
 rw [show l.length = i + (l.length - i) by omega, lookP_up l key w i _ hn]
 rcases hq with q | q
 · rw [q, Nat.sub_self]; rfl
 · exact lookP_none q key _
theorem some_of {q : Option DescP} (h : q.isSome = true) : q = some (descG q) := by cases q <;> first | rfl | cases h
theorem none_of {α : Type} {q : Option α} (h : q.isSome = false) : q = none := by cases q <;> first | rfl | cases h
abbrev lookV (q : Option (Int × DescP)) : Int × DescP := q.getD (undefW, (0, 0, 0))
def zeroD : DescP := (undefW, undefW, 0)
def isI (w : Int) : Option Int := (tagOf w 65529).map fun n => IntKind.wrap .i32 (n : Int)
def lenGo (l : List ObjS) (w v : Int) : List ObjS × Bool := match isI v with | some m => (modP l w (lenO m), lenQ l w m) | none => (l, false)
def defD (l : List ObjS) (w : Int) (key : ByteArray) (x : WishP) : DescP := wishP ((ownQ l w key).getD zeroD) x
def defNo (l : List ObjS) (w : Int) (key : ByteArray) (x : WishP) : Prop :=
 (kindQ l w).2 = false ∨ bothP x = true ∨ ((ownQ l w key).isSome = false ∧ openQ l w = false) ∨ ((ownQ l w key).isSome = true ∧ mayW ((ownQ l w key).getD zeroD) (defD l w key x) = false)
instance (l : List ObjS) (w : Int) (key : ByteArray) (x : WishP) : Decidable (defNo l w key x) := by unfold defNo; infer_instance
def defGo (l : List ObjS) (w : Int) (key : ByteArray) (d : DescP) : List ObjS × Bool :=
 if arrP l w = true ∧ key = lenK then (if d.2.2 = 1 then lenGo l w d.1 else (l, false))
 else if arrP l w = true ∧ (idxV key).2 = true then (if d.2.2 = 7 then (modP l w (setO (idxV key).1 d.1), setQ l w (idxV key).1) else (l, false))
 else (modP l w (putO key d), true)
def defP (l : List ObjS) (w : Int) (key : ByteArray) (x : WishP) : List ObjS × Bool := if defNo l w key x then (l, false) else defGo l w key (defD l w key x)
theorem defP_no {x : WishP} (h : defNo l w key x) : defP l w key x = (l, false) := if_pos h
theorem defP_go {x : WishP} (h : ¬ defNo l w key x) : defP l w key x = defGo l w key (defD l w key x) := if_neg h
theorem defGo_len {d : DescP} (ha : arrP l w = true) (hk : key = lenK) (hf : (d.2.2 == 1) = true) : defGo l w key d = lenGo l w d.1 := by unfold defGo; rw [if_pos ⟨ha, hk⟩, if_pos (by simpa using hf)]
theorem defGo_len' {d : DescP} (ha : arrP l w = true) (hk : key = lenK) (hf : (d.2.2 == 1) = false) : defGo l w key d = (l, false) := by unfold defGo; rw [if_pos ⟨ha, hk⟩, if_neg (by simpa using hf)]
theorem defGo_ix {d : DescP} (ha : arrP l w = true) (hk : ¬ key = lenK) (hi : (idxV key).2 = true) (hf : (d.2.2 == 7) = true) : defGo l w key d = (modP l w (setO (idxV key).1 d.1), setQ l w (idxV key).1) := by
 unfold defGo; rw [if_neg (fun z => hk z.2), if_pos ⟨ha, hi⟩, if_pos (by simpa using hf)]
theorem defGo_ix' {d : DescP} (ha : arrP l w = true) (hk : ¬ key = lenK) (hi : (idxV key).2 = true) (hf : (d.2.2 == 7) = false) : defGo l w key d = (l, false) := by
 unfold defGo; rw [if_neg (fun z => hk z.2), if_pos ⟨ha, hi⟩, if_neg (by simpa using hf)]
theorem defGo_put {d : DescP} (ha : arrP l w = true) (hk : ¬ key = lenK) (hi : (idxV key).2 = false) : defGo l w key d = (modP l w (putO key d), true) := by
 unfold defGo; rw [if_neg (fun z => hk z.2), if_neg (fun z => by rw [hi] at z; cases z.2)]
theorem defGo_plain {d : DescP} (ha : arrP l w = false) : defGo l w key d = (modP l w (putO key d), true) := by
 unfold defGo; rw [if_neg (fun z => by rw [ha] at z; cases z.1), if_neg (fun z => by rw [ha] at z; cases z.1)]
theorem getD_some {q : Option DescP} (h : q.isSome = true) : q.getD zeroD = descG q := by cases q <;> first | rfl | cases h
theorem getD_none {q : Option DescP} (h : q.isSome = false) : q.getD zeroD = zeroD := by cases q <;> first | rfl | cases h
theorem put_same {d : DescP} (hf : ∀ o ∈ l, ∀ d ∈ o.descs, normF d.2.2 = d.2.2) (h : getQ l w key = some d) : modP l w (putO key d) = l := by
 unfold getQ at h
 rcases objOf_cases l w with ⟨_, q⟩ | ⟨n, o, h0, ho, q⟩
 · rw [q] at h; cases h
 · rw [q] at h; simp only [] at h
   rw [modP_some h0 ho]
   unfold getP at h
   split at h
   · cases h
   · next hn =>
     have e1 : putNm o.names key = o.names := if_neg hn
     have e2 : normD d = d := by unfold normD; rw [hf o (List.mem_of_getElem? ho) d (List.mem_of_getElem? h)]
     have e3 : putDs o.names o.descs key (normD d) = o.descs := by unfold putDs; rw [if_neg hn, e2]; exact set_same h
     have e4 : putO key d o = o := by show (⟨_, _, _, putNm o.names key, putDs o.names o.descs key (normD d), _, _⟩ : ObjS) = o; rw [e1, e3]
     rw [e4]; exact set_same ho
def delP (l : List ObjS) (w : Int) (key : ByteArray) : List ObjS × Bool :=
 if (ownQ l w key).isSome = false then (l, true)
 else if (band (descG (ownQ l w key)).2.2 4 == 0) = true then (l, false)
 else if (idxV key).2 = true ∧ arrP l w = true then (modP l w (setO (idxV key).1 holeW), setQ l w (idxV key).1)
 else (modP l w (dropO key), hasQ l w key)
theorem delP_none (h : (ownQ l w key).isSome = false) : delP l w key = (l, true) := by unfold delP; rw [if_pos h]
theorem delP_no (h : (ownQ l w key).isSome = true) (h2 : (band (descG (ownQ l w key)).2.2 4 == 0) = true) : delP l w key = (l, false) := by unfold delP; rw [if_neg (by rw [h]; simp), if_pos h2]
theorem delP_ix (h : (ownQ l w key).isSome = true) (h2 : (band (descG (ownQ l w key)).2.2 4 == 0) = false) (hi : (idxV key).2 = true) (ha : arrP l w = true) : delP l w key = (modP l w (setO (idxV key).1 holeW), setQ l w (idxV key).1) := by
 unfold delP; rw [if_neg (by rw [h]; simp), if_neg (by rw [h2]; simp), if_pos ⟨hi, ha⟩]
theorem delP_drop (h : (ownQ l w key).isSome = true) (h2 : (band (descG (ownQ l w key)).2.2 4 == 0) = false) (hi : (idxV key).2 = false ∨ arrP l w = false) : delP l w key = (modP l w (dropO key), hasQ l w key) := by
 unfold delP; rw [if_neg (by rw [h]; simp), if_neg (by rw [h2]; simp), if_neg]
 rintro ⟨a, b⟩
 rcases hi with q | q
 · rw [q] at a; cases a
 · rw [q] at b; cases b
def asgW (l : List ObjS) (w : Int) (key : ByteArray) (v : Int) : WishP := if (lookQ l w key).isSome = false ∨ (lookV (lookQ l w key)).1 ≠ w then ⟨15, v, 0, 0, 7⟩ else ⟨1, v, 0, 0, 0⟩
def asgP (l : List ObjS) (w : Int) (key : ByteArray) (v : Int) : List ObjS × Int × Int :=
 if (lookQ l w key).isSome = true ∧ (band (lookV (lookQ l w key)).2.2.2 8 != 0) = true then
   (if (lookV (lookQ l w key)).2.2.1 = undefW then (l, undefW, 1) else (l, (lookV (lookQ l w key)).2.2.1, 2))
 else if (lookQ l w key).isSome = true ∧ (band (lookV (lookQ l w key)).2.2.2 1 == 0) = true then (l, undefW, 1)
 else ((defP l w key (asgW l w key v)).1, undefW, if (defP l w key (asgW l w key v)).2 = true then 0 else 1)
theorem asgP_ref {v : Int} (h1 : (lookQ l w key).isSome = true) (h2 : (band (lookV (lookQ l w key)).2.2.2 8 != 0) = true) (h3 : ((lookV (lookQ l w key)).2.2.1 == undefW) = true) : asgP l w key v = (l, undefW, 1) := by
 unfold asgP; rw [if_pos ⟨h1, h2⟩, if_pos (by simpa using h3)]
theorem asgP_call {v : Int} (h1 : (lookQ l w key).isSome = true) (h2 : (band (lookV (lookQ l w key)).2.2.2 8 != 0) = true) (h3 : ((lookV (lookQ l w key)).2.2.1 == undefW) = false) : asgP l w key v = (l, (lookV (lookQ l w key)).2.2.1, 2) := by
 unfold asgP; rw [if_pos ⟨h1, h2⟩, if_neg (by simpa using h3)]
theorem asgP_ro {v : Int} (h1 : (lookQ l w key).isSome = true) (h2 : (band (lookV (lookQ l w key)).2.2.2 8 != 0) = false) (h3 : (band (lookV (lookQ l w key)).2.2.2 1 == 0) = true) : asgP l w key v = (l, undefW, 1) := by
 unfold asgP; rw [if_neg (by rw [h2]; simp), if_pos ⟨h1, h3⟩]
theorem asgP_def {v : Int} (h2 : (lookQ l w key).isSome = false ∨ ((band (lookV (lookQ l w key)).2.2.2 8 != 0) = false ∧ (band (lookV (lookQ l w key)).2.2.2 1 == 0) = false)) :
   asgP l w key v = ((defP l w key (asgW l w key v)).1, undefW, if (defP l w key (asgW l w key v)).2 = true then 0 else 1) := by
 unfold asgP
 rw [if_neg, if_neg]
 · rintro ⟨a, b⟩
   rcases h2 with q | ⟨_, q⟩
   · rw [q] at a; cases a
   · rw [q] at b; cases b
 · rintro ⟨a, b⟩
   rcases h2 with q | ⟨q, _⟩
   · rw [q] at a; cases a
   · rw [q] at b; cases b
theorem asgW_new {v : Int} (h : (lookQ l w key).isSome = false ∨ ((lookV (lookQ l w key)).1 != w) = true) : asgW l w key v = ⟨15, v, 0, 0, 7⟩ := by
 unfold asgW; rw [if_pos (h.imp id fun q => by simpa using q)]
theorem asgW_own {v : Int} (h : (lookQ l w key).isSome = true) (h2 : ((lookV (lookQ l w key)).1 != w) = false) : asgW l w key v = ⟨1, v, 0, 0, 0⟩ := by
 unfold asgW; rw [if_neg]
 rintro (q | q)
 · rw [h] at q; cases q
 · exact q (by simpa using h2)
def spP (l : List ObjS) (w p : Int) : List ObjS × Bool :=
 if (kindQ l w).2 = false ∨ (p ≠ nullW ∧ (kindQ l p).2 = false) then (l, false)
 else if protoW l w = p then (l, true)
 else if openQ l w = false then (l, false)
 else if hitP l p w = true then (l, false)
 else (reproP l w p, true)
theorem upN_in (hP : ProtosIn l) {p : Int} (hp : p = nullW ∨ objAt p l.length ≠ none) : ∀ i, upN l p i = nullW ∨ objAt (upN l p i) l.length ≠ none
 | 0 => hp
 | i + 1 => by
   show protoW l (upN l p i) = nullW ∨ objAt (protoW l (upN l p i)) l.length ≠ none
   rcases upN_in hP hp i with q | q
   · rw [q, protoW_none (objAt_null _)]; exact .inl rfl
   · rcases objOf_cases l (upN l p i) with ⟨z, _⟩ | ⟨n, o, h0, ho, _⟩
     · exact absurd z q
     · rw [protoW_some h0 ho]; exact hP o (List.mem_of_getElem? ho)
theorem kindQ_some : (kindQ l w).2 = true ↔ objAt w l.length ≠ none := by
 unfold kindQ
 rcases objOf_cases l w with ⟨h, q⟩ | ⟨n, o, h, _, q⟩ <;> rw [q, h] <;> simp
theorem spP_kind {p : Int} (h : (kindQ l w).2 = false) : spP l w p = (l, false) := by unfold spP; rw [if_pos (.inl h)]
theorem spP_up {p : Int} (h : (kindQ l p).2 = false) (h2 : (p != nullW) = true) : spP l w p = (l, false) := by unfold spP; rw [if_pos (.inr ⟨by simpa using h2, h⟩)]
theorem spP_ok {p : Int} (h : (kindQ l w).2 = true) (h2 : (kindQ l p).2 = true ∨ (p != nullW) = false) : spP l w p = if protoW l w = p then (l, true) else if openQ l w = false then (l, false) else if hitP l p w = true then (l, false) else (reproP l w p, true) := by
 unfold spP; rw [if_neg]
 rintro (q | ⟨q, r⟩)
 · rw [h] at q; cases q
 · rcases h2 with z | z
   · rw [r] at z; cases z
   · exact q (by simpa using z)
theorem hit_yes {p : Int} {i : Nat} (hi : i ≤ l.length) (h : upN l p i = w) : hitP l p w = true := hitP_iff.2 ⟨i, hi, h⟩
theorem upN_stay {p : Int} {i : Nat} (h : upN l p i = nullW) : ∀ j, upN l p (i + j) = nullW
 | 0 => h
 | j + 1 => by show protoW l (upN l p (i + j)) = nullW; rw [upN_stay h j, protoW_none (objAt_null _)]
theorem hit_no {p : Int} {i : Nat} (hw : objAt w l.length ≠ none) (hn : ∀ j, j < i → upN l p j ≠ w) (h : upN l p i = nullW) : hitP l p w = false := by
 rw [← Bool.not_eq_true]
 intro q
 obtain ⟨j, _, hj⟩ := hitP_iff.1 q
 by_cases hji : j < i
 · exact hn j hji hj
 · have := upN_stay h (j - i)
   rw [show i + (j - i) = j by omega, hj] at this
   rw [this] at hw
   exact hw (objAt_null _)
theorem up_lt (hP : ProtosIn l) {p : Int} (hp : p = nullW ∨ objAt p l.length ≠ none) (hE : Ends l p) {i : Nat} (hi : upN l p i ≠ nullW) (hl : i ≤ l.length) : i < l.length := by
 apply Classical.byContradiction
 intro hc
 have e : i = l.length := by omega
 subst e
 rcases upN_in hP hp l.length with q | q
 · exact hi q
 · exact q hE.bound
abbrev byteS (l : List UInt8) : ByteArray := ⟨l.toArray⟩
def keysE (l : List ObjS) (w : Int) (m : Nat) : List ByteArray := (List.range m).filterMap fun (i : Nat) => if (elemQ l w (i : Int)).2 = true then some (byteS (Lib.itoa (i : Int))) else none
def keysN (l : List ObjS) (w : Int) (ks : List ByteArray) : List ByteArray := ks.filter fun k => band (descG (getQ l w k)).2.2 2 != 0
def keysP' (l : List ObjS) (w : Int) : List ByteArray := keysE l w (lenN l w) ++ keysN l w (namesQ l w)
theorem keysE_succ (l : List ObjS) (w : Int) (i : Nat) : keysE l w (i + 1) = keysE l w i ++ if (elemQ l w (i : Int)).2 = true then [byteS (Lib.itoa (i : Int))] else [] := by
 unfold keysE
 rw [List.range_succ, List.filterMap_append]
 congr 1
 by_cases h : (elemQ l w (i : Int)).2 = true
 · simp [h]
 · simp [h]
theorem keysE_len (l : List ObjS) (w : Int) (i : Nat) : (keysE l w i).length ≤ i := by
 unfold keysE
 exact Nat.le_trans (List.length_filterMap_le _ _) (by simp)
theorem keysN_succ (l : List ObjS) (w : Int) (ks : List ByteArray) {i : Nat} {k : ByteArray} (h : ks[i]? = some k) : keysN l w (ks.take (i + 1)) = keysN l w (ks.take i) ++ if (band (descG (getQ l w k)).2.2 2 != 0) = true then [k] else [] := by
 unfold keysN
 rw [List.take_add_one, h, List.filter_append]
 congr 1
 by_cases h : (band (descG (getQ l w k)).2.2 2 != 0) = true
 · simp [h]
 · rw [Bool.not_eq_true] at h; simp [h]
theorem keysN_len (l : List ObjS) (w : Int) (ks : List ByteArray) : (keysN l w ks).length ≤ ks.length := List.length_filter_le _ _
end Go.Proofs.YthflblophelioaaGreatDoor
namespace Go.Proofs.YthflblophelioaaGreatDoor
open Go.Sl
variable {W0 : World} {k : Nat} {H : HeapV} {F : HeapF} {R : RSt}
theorem hz_Kind (h : HInv k H F) (w : Int) : SC Tryz.prog W0 62 #[.pointer (some ⟨F.p, 0, none⟩), .int .u64 w] (H.ent F) (Ret (fun _ : Unit => H.ent F) (fun v _ => v = two (kindQ (H.pub F) w))) := by
 rcases objOf_cases (H.pub F) w with ⟨h0, e⟩ | ⟨n, o, h0, ho, e⟩
 · rw [HeapV.pub_len] at h0
   unfold kindQ; rw [e]; exact heap_Kind_none h.ok h0
 · obtain ⟨x, hx, rfl⟩ := pub_obj ho
   have h1 := h0
   rw [HeapV.pub_len] at h0
   unfold kindQ; rw [e]; exact heap_Kind_some h.ok h0 hx
theorem hz_Proto (h : HInv k H F) (w : Int) : SC Tryz.prog W0 18 #[.pointer (some ⟨F.p, 0, none⟩), .int .u64 w] (H.ent F) (Ret (fun _ : Unit => H.ent F) (fun v _ => v = .int .u64 (protoW (H.pub F) w))) := by
 rcases objOf_cases (H.pub F) w with ⟨h0, e⟩ | ⟨n, o, h0, ho, e⟩
 · rw [HeapV.pub_len] at h0
   rw [protoW_none (by rw [HeapV.pub_len]; exact h0)]; exact heap_Proto_none h.ok h0
 · obtain ⟨x, hx, rfl⟩ := pub_obj ho
   have h1 := h0
   rw [HeapV.pub_len] at h0
   rw [protoW_some h1 ho]; exact heap_Proto_some h.ok h0 hx
theorem hz_Open (h : HInv k H F) (w : Int) : SC Tryz.prog W0 45 #[.pointer (some ⟨F.p, 0, none⟩), .int .u64 w] (H.ent F) (Ret (fun _ : Unit => H.ent F) (fun v _ => v = .bool (openQ (H.pub F) w))) := by
 rcases objOf_cases (H.pub F) w with ⟨h0, e⟩ | ⟨n, o, h0, ho, e⟩
 · rw [HeapV.pub_len] at h0
   unfold openQ; rw [e]; exact heap_Open_none h.ok h0
 · obtain ⟨x, hx, rfl⟩ := pub_obj ho
   have h1 := h0
   rw [HeapV.pub_len] at h0
   unfold openQ; rw [e]; exact heap_Open_some h.ok h0 hx
theorem hz_Len (h : HInv k H F) (w : Int) : SC Tryz.prog W0 52 #[.pointer (some ⟨F.p, 0, none⟩), .int .u64 w] (H.ent F) (Ret (fun _ : Unit => H.ent F) (fun v _ => v = .int .i64 (lenN (H.pub F) w : Int))) := by
 rcases objOf_cases (H.pub F) w with ⟨h0, e⟩ | ⟨n, o, h0, ho, e⟩
 · rw [HeapV.pub_len] at h0
   unfold lenN; rw [e]; exact heap_Len_none h.ok h0
 · obtain ⟨x, hx, rfl⟩ := pub_obj ho
   have h1 := h0
   rw [HeapV.pub_len] at h0
   unfold lenN; rw [e]; exact heap_Len_some h.ok h0 hx
theorem hz_Elem (h : HInv k H F) (w : Int) (m : Int) : SC Tryz.prog W0 54 #[.pointer (some ⟨F.p, 0, none⟩), .int .u64 w, .int .i64 m] (H.ent F) (Ret (fun _ : Unit => H.ent F) (fun v _ => v = .tuple #[.int .u64 (elemQ (H.pub F) w m).1, .bool (elemQ (H.pub F) w m).2])) := by
 rcases objOf_cases (H.pub F) w with ⟨h0, e⟩ | ⟨n, o, h0, ho, e⟩
 · rw [HeapV.pub_len] at h0
   unfold elemQ; rw [e]; exact heap_Elem_none h.ok h0 m
 · obtain ⟨x, hx, rfl⟩ := pub_obj ho
   have h1 := h0
   rw [HeapV.pub_len] at h0
   unfold elemQ; rw [e]; exact heap_Elem_some h.ok h0 hx m
theorem hz_Get (h : HInv k H F) (w : Int) (key : ByteArray) : SC Tryz.prog W0 55 #[.pointer (some ⟨F.p, 0, none⟩), .int .u64 w, .string key] (H.ent F) (Ret (fun _ : Unit => H.ent F) (fun v _ => v = descR (getQ (H.pub F) w key))) := by
 rcases objOf_cases (H.pub F) w with ⟨h0, e⟩ | ⟨n, o, h0, ho, e⟩
 · rw [HeapV.pub_len] at h0
   unfold getQ; rw [e]; exact heap_Get_none h.ok h0 key
 · obtain ⟨x, hx, rfl⟩ := pub_obj ho
   have h1 := h0
   rw [HeapV.pub_len] at h0
   unfold getQ; rw [e]; exact hp_Get h h1 ho key
theorem hz_Objects (h : HInv k H F) : SC Tryz.prog W0 58 #[.pointer (some ⟨F.p, 0, none⟩)] (H.ent F) (Ret (fun _ : Unit => H.ent F) (fun v _ => v = .int .i64 ((H.pub F).length : Int))) := by
 rw [HeapV.pub_len]; exact heap_Objects h.ok
theorem hz_Keys (hk : k ≤ 8000000) (h : HInv k H F) (w : Int) : SC Tryz.prog W0 57 #[.pointer (some ⟨F.p, 0, none⟩), .int .u64 w] (H.ent F)
   (Ret (fun g : Gs => g.ent 9 1 ((namesQ (H.pub F) w).map encS) ++ H.ent F) (fun v g => v = g.val (namesQ (H.pub F) w).length ∧ g.ok 1 (namesQ (H.pub F) w).length ((namesQ (H.pub F) w).map encS))) := by
 rcases objOf_cases (H.pub F) w with ⟨h0, e⟩ | ⟨n, o, h0, ho, e⟩
 · rw [HeapV.pub_len] at h0
   unfold namesQ; rw [e]
   exact SC.ret (heap_Keys_none h.ok h0) fun v _ hv => ⟨.nil, rfl, hv, rfl, rfl⟩
 · unfold namesQ; rw [e]; exact hp_Keys hk h h0 ho
theorem arrP_eq (l : List ObjS) (w : Int) : arrP l w = ((kindQ l w).2 && (kindQ l w).1 == 1) := by unfold arrP kindQ; cases objOf l w <;> simp
theorem rz_Len (hR : R.ok) (hL : LOk k R.pub) {w : Int} (hw : wordOk w) : SC Tryz.prog W0 79 #[R.val, .int .u64 w] R.ent (Ret (fun _ : Unit => R.ent) (fun v _ => v = .int .i64 (lenN R.pub w : Int))) := by
 rcases objOf_cases R.pub w with ⟨h0, e⟩ | ⟨n, o, h0, ho, e⟩
 · unfold lenN; rw [e]; exact rf_Len_none hR hw (at_pub h0)
 · obtain ⟨x, hx, rfl⟩ := robj_of ho
   unfold lenN; rw [e]; exact rf_Len_some hR hw (at_pub h0) hx
theorem rz_Get (hR : R.ok) (hL : LOk k R.pub) {w : Int} (hw : wordOk w) (key : ByteArray) : SC Tryz.prog W0 81 #[R.val, .int .u64 w, .string key] R.ent (Ret (fun _ : Unit => R.ent) (fun v _ => v = descR (getQ R.pub w key))) := by
 rcases objOf_cases R.pub w with ⟨h0, e⟩ | ⟨n, o, h0, ho, e⟩
 · unfold getQ; rw [e]; exact rf_Get_none hR hw (at_pub h0) key
 · obtain ⟨x, hx, rfl⟩ := robj_of ho
   unfold getQ; rw [e]; exact rf_Get_some hR hw (at_pub h0) hx (hL.same _ (List.mem_of_getElem? ho)) key
def atoQ (s : ByteArray) : Option Int := match Lib.atoiAll s.data.toList with | .ok n => some n | _ => none
theorem atoQ_some {s : ByteArray} {n : Int} (h : atoQ s = some n) : Lib.atoiAll s.data.toList = .ok n := by
 unfold atoQ at h
 split at h
 · next e => cases h; exact e
 · cases h
theorem atoQ_none {s : ByteArray} (h : atoQ s = none) : ∀ n, Lib.atoiAll s.data.toList ≠ .ok n := by
 intro n q
 unfold atoQ at h; rw [q] at h; cases h
theorem str_Atoi_some {σ : Qp} (hL : Laid W0) {s : ByteArray} (hs : s.size ≤ 281474976710656) {n : Int} (h : atoQ s = some n) : SC Tryz.prog W0 87 #[.string s] σ (Ret (fun _ : Unit => σ) (fun v _ => v = .tuple #[.int .i64 n, .nilIface])) := by
 refine SC.ret (str_Atoi hL s hs) fun v _ hv => ⟨(), rfl, ?_⟩
 rcases hv with ⟨m, e, q⟩ | ⟨q, _⟩
 · rw [atoQ_some h] at e; cases e; exact q
 · exact absurd (atoQ_some h) (q n)
theorem str_Atoi_none {σ : Qp} (hL : Laid W0) {s : ByteArray} (hs : s.size ≤ 281474976710656) (h : atoQ s = none) : SC Tryz.prog W0 87 #[.string s] σ (Ret (fun _ : Int × _ × _ => σ) (fun v r => v = .tuple #[.int .i64 r.1, .iface r.2.1 r.2.2])) := by
 refine SC.ret (str_Atoi hL s hs) fun v _ hv => ?_
 rcases hv with ⟨m, e, q⟩ | ⟨_, z, t, p, q⟩
 · exact absurd e (atoQ_none h m)
 · exact ⟨(z, t, p), rfl, q⟩
theorem idxV_bad {s : ByteArray} (h : atoQ s = none) : idxV s = (0, false) := idxV_none (idx_bad (atoQ_none h))
theorem atoQ_range {s : ByteArray} {n : Int} (h : atoQ s = some n) (hn : 0 ≤ n ∧ n < 4096) (hk : ((⟨(Lib.itoa n).toArray⟩ : ByteArray) = s)) : idxV s = (n, true) := by
 have e : idxK s = some n.toNat := by
   have e2 : Lib.itoa n = s.data.toList := by rw [← hk]
   unfold idxK; rw [idx_prog (atoQ_some h), if_pos ⟨hn.1, hn.2, e2⟩]
 rw [idxV_some e, Int.toNat_of_nonneg hn.1]
theorem atoQ_out {s : ByteArray} {n : Int} (h : atoQ s = some n) (hn : ¬ (0 ≤ n ∧ n < 4096 ∧ (⟨(Lib.itoa n).toArray⟩ : ByteArray) = s)) : idxV s = (0, false) := by
 refine idxV_none ?_
 unfold idxK; rw [idx_prog (atoQ_some h), if_neg]
 rintro ⟨a, b, c⟩
 exact hn ⟨a, b, by rw [c]⟩
theorem own_elem {l : List ObjS} {w : Int} {key : ByteArray} (ha : arrP l w = true) (hk : ¬ key = lenK) (hi : (idxV key).2 = true) : ownQ l w key = if (elemQ l w (idxV key).1).2 = true then some ((elemQ l w (idxV key).1).1, undefW, 7) else none := by
 cases hm : idxK key with
 | none => rw [idxV_none hm] at hi; cases hi
 | some m => rw [ownQ_elem ha hk hm, idxV_some hm]
theorem own_get {l : List ObjS} {w : Int} {key : ByteArray} (ha : arrP l w = true) (hk : ¬ key = lenK) (hi : (idxV key).2 = false) : ownQ l w key = getQ l w key := by
 cases hm : idxK key with
 | some m => rw [idxV_some hm] at hi; cases hi
 | none => exact ownQ_get ha hk hm
theorem LOk.lenN {l : List ObjS} (h : LOk k l) (w : Int) : lenN l w ≤ 4096 := by
 unfold Proofs.YthflblophelioaaGreatDoor.lenN
 split
 · omega
 · next o e => exact h.elems o (objOf_mem e)
abbrev deqB (d e : DescP) : Bool := (d.1 == e.1) && ((d.2.1 == e.2.1) && (d.2.2 == e.2.2))
theorem deq_iff {d e : DescP} : deqB d e = true ↔ d = e := by
 constructor
 · intro h
   simp only [deqB, Bool.and_eq_true, beq_iff_eq] at h
   exact Prod.ext h.1 (Prod.ext h.2.1 h.2.2)
 · rintro rfl; simp [deqB]
theorem deq_ff {d e : DescP} : deqB d e = false ↔ d ≠ e := by rw [← Bool.not_eq_true, deq_iff]
theorem mayW_eq (d e : DescP) : mayW d e = (((band d.2.2 4 != 0) || deqB d e) || (!((bandn d.2.2 1 != bandn e.2.2 1) || (band d.2.2 8 != 0)) && ((band d.2.2 1 != 0) && (bor e.2.2 1 == d.2.2)))) := by
 unfold mayW
 by_cases h1 : (band d.2.2 4 != 0) = true
 · rw [if_pos (.inl h1), h1]; rfl
 · rw [Bool.not_eq_true] at h1
   by_cases h2 : d = e
   · rw [if_pos (.inr h2), deq_iff.2 h2, h1]; rfl
   · rw [if_neg (by rintro (z | z); (rw [h1] at z; cases z); exact h2 z), h1, deq_ff.2 h2]
     by_cases h3 : (bandn d.2.2 1 != bandn e.2.2 1) = true
     · rw [if_pos (.inl h3), h3]; rfl
     · rw [Bool.not_eq_true] at h3
       by_cases h4 : (band d.2.2 8 != 0) = true
       · rw [if_pos (.inr h4), h3, h4]; rfl
       · rw [Bool.not_eq_true] at h4
         rw [if_neg (by rintro (z | z); (rw [h3] at z; cases z); (rw [h4] at z; cases z)), h3, h4]; rfl
theorem isI_range {w n : Int} (h : isI w = some n) : -2147483648 ≤ n ∧ n ≤ 2147483647 := by
 unfold isI at h
 cases hq : tagOf w 65529 with
 | none => rw [hq] at h; cases h
 | some m =>
   rw [hq] at h
   have h2 : IntKind.wrap .i32 (m : Int) = n := Option.some.inj h
   rw [← h2, IntKind.wrap_i32]
   omega
theorem LOk.namesN {l : List ObjS} (h : LOk k l) (w : Int) : (namesQ l w).length ≤ k := by
 unfold namesQ
 split
 · exact Nat.zero_le _
 · next o e => have a := h.same o (objOf_mem e); have b := h.descs o (objOf_mem e); omega
structure PStp (k : Nat) (H H' : HeapV) (F : HeapF) (l : List ObjS) : Prop where
  inv : HInv k H' F
  pub : H'.pub F = l
  texts : H'.texts = H.texts
theorem Stp.p {H' : HeapV} {l : List ObjS} {w : Int} {m : Prop} (h : Stp k H H' F l H.texts w m) : PStp k H H' F l := ⟨h.inv, h.pub, h.texts⟩
theorem PStp.same (h : HInv k H F) : PStp k H H F (H.pub F) := ⟨h, rfl, rfl⟩
theorem PStp.mono {H' : HeapV} {l : List ObjS} {k' : Nat} (h : PStp k H H' F l) (hk : k ≤ k') : PStp k' H H' F l := ⟨h.inv.mono hk, h.pub, h.texts⟩
theorem payload_i32 (w : Int) : IntKind.wrap .i32 (IntKind.wrap .u32 w) = IntKind.wrap .i32 (((w % 4294967296).toNat : Nat) : Int) := by
 simp only [IntKind.wrap, IntKind.bits, IntKind.signed]
 rw [Int.toNat_of_nonneg (by omega)]
 simp
end Go.Proofs.YthflblophelioaaGreatDoor
namespace Go.Proofs.YthflblophelioaaGreatDoor
open Go.Sl

theorem rf_Array_none {W0 : World} {R : RSt} (hR : R.ok) {w : Int} (hw : wordOk w) (h0 : objAt w R.objs.length = none)  : SC Tryz.prog W0 20 #[R.val, .int .u64 w] R.ent (Ret (fun _ : Unit => R.ent) (fun v _ => v = .bool false)) := by
 refine SC_body (fn := Tryz.f20) (n := 20) Tryz.func20 rfl (by kernel_rfl) (ρ := [(0, .agg #[Gs.val R.s R.objs.length, Gs.val R.ts R.texts.length]), (1, .int .u64 w)]) rfl ?_
 refine SW_sig _ RSt.eq0 ?_
 refine sr ?_
 refine L (nw 28 2 [Gs.val R.s R.objs.length, Gs.val R.ts R.texts.length] ?_)
 intro b1
 refine os 1 ?_
 refine nsr ?_
 refine L (lds 2 ?_)
 refine os 1 ?_
 refine L (cl (rf_At (R := RSt.mk R.s R.objs R.ts R.texts) hw (w := w)) ?_)
 rintro v1 _ hv1
 obtain rfl : v1 = .int .i64 (-1) := hv1.trans (by simp only []; unfold atI; rw [h0])
 refine un ?_
 refine os 1 ?_
 refine kp [5, 4, 2, 0, 1] ?_
 refine nsr ?_
 refine os 1 ?_
 refine oV (.bool false) ?_
 refine os 10 ?_
 refine kp [4, 5, 2, 0, 1] ?_
 refine nt ?_
 refine Qi ?_
 refine Qg (.bool false) (fun _ => rfl) ?_
 exact ⟨(), RSt.own, rfl⟩

theorem rf_Array_some {W0 : World} {R : RSt} (hR : R.ok) {w : Int} (hw : wordOk w) {n : Nat} {x : RObj} (h0 : objAt w R.objs.length = some n) (hx : R.objs[n]? = some x)  : SC Tryz.prog W0 20 #[R.val, .int .u64 w] R.ent (Ret (fun _ : Unit => R.ent) (fun v _ => v = .bool (x.kind == 1))) := by
 have hnl := (List.getElem?_eq_some_iff.1 hx).1
 refine SC_body (fn := Tryz.f20) (n := 20) Tryz.func20 rfl (by kernel_rfl) (ρ := [(0, .agg #[Gs.val R.s R.objs.length, Gs.val R.ts R.texts.length]), (1, .int .u64 w)]) rfl ?_
 refine SW_sig _ RSt.eq0 ?_
 refine sr ?_
 refine L (nw 28 2 [Gs.val R.s R.objs.length, Gs.val R.ts R.texts.length] ?_)
 intro b1
 refine os 1 ?_
 refine nsr ?_
 refine L (lds 2 ?_)
 refine os 1 ?_
 refine L (cl (rf_At (R := RSt.mk R.s R.objs R.ts R.texts) hw (w := w)) ?_)
 rintro v1 _ hv1
 obtain rfl : v1 = .int .i64 (n : Int) := hv1.trans (by simp only []; unfold atI; rw [h0])
 refine un ?_
 refine os 1 ?_
 refine kp [5, 4, 2, 0, 1] ?_
 refine nsr ?_
 refine os 3 ?_
 refine pn 11 (show (decide ((n : Int) ≥ 0)) = true from (decide_eq_true (by omega))) ?_
 refine os 1 ?_
 refine L (ld ?_)
 refine os 1 ?_
 refine L (ixg (n : Int) (n * 7) hR.row Tryz.underlying25 ?_)
 refine os 1 ?_
 refine kp [16, 11, 5, 4, 2, 0, 1] ?_
 refine L (ld ?_ (hc := Gs.cell hR.row (fun e he => (Qc (mem_h he))) (Qh RObj.len hx (j := 0) (by decide) rfl)))
 refine os 3 ?_
 refine kp [4, 5, 2, 0, 1] ?_
 refine nt ?_
 refine Qi ?_
 refine Qg (.bool (x.kind == 1)) (fun _ => rfl) ?_
 exact ⟨(), RSt.own, rfl⟩

theorem rf_Open_none {W0 : World} {R : RSt} (hR : R.ok) {w : Int} (hw : wordOk w) (h0 : objAt w R.objs.length = none)  : SC Tryz.prog W0 46 #[R.val, .int .u64 w] R.ent (Ret (fun _ : Unit => R.ent) (fun v _ => v = .bool false)) := by
 refine SC_body (fn := Tryz.f46) (n := 20) Tryz.func46 rfl (by kernel_rfl) (ρ := [(0, .agg #[Gs.val R.s R.objs.length, Gs.val R.ts R.texts.length]), (1, .int .u64 w)]) rfl ?_
 refine SW_sig _ RSt.eq0 ?_
 refine sr ?_
 refine L (nw 28 2 [Gs.val R.s R.objs.length, Gs.val R.ts R.texts.length] ?_)
 intro b1
 refine os 1 ?_
 refine nsr ?_
 refine L (lds 2 ?_)
 refine os 1 ?_
 refine L (cl (rf_At (R := RSt.mk R.s R.objs R.ts R.texts) hw (w := w)) ?_)
 rintro v1 _ hv1
 obtain rfl : v1 = .int .i64 (-1) := hv1.trans (by simp only []; unfold atI; rw [h0])
 refine un ?_
 refine os 1 ?_
 refine kp [5, 4, 2, 0, 1] ?_
 refine nsr ?_
 refine os 1 ?_
 refine oV (.bool false) ?_
 refine os 10 ?_
 refine kp [4, 5, 2, 0, 1] ?_
 refine nt ?_
 refine Qi ?_
 refine Qg (.bool false) (fun _ => rfl) ?_
 exact ⟨(), RSt.own, rfl⟩

theorem rf_Open_some {W0 : World} {R : RSt} (hR : R.ok) {w : Int} (hw : wordOk w) {n : Nat} {x : RObj} (h0 : objAt w R.objs.length = some n) (hx : R.objs[n]? = some x)  : SC Tryz.prog W0 46 #[R.val, .int .u64 w] R.ent (Ret (fun _ : Unit => R.ent) (fun v _ => v = .bool (!x.shut))) := by
 have hnl := (List.getElem?_eq_some_iff.1 hx).1
 refine SC_body (fn := Tryz.f46) (n := 20) Tryz.func46 rfl (by kernel_rfl) (ρ := [(0, .agg #[Gs.val R.s R.objs.length, Gs.val R.ts R.texts.length]), (1, .int .u64 w)]) rfl ?_
 refine SW_sig _ RSt.eq0 ?_
 refine sr ?_
 refine L (nw 28 2 [Gs.val R.s R.objs.length, Gs.val R.ts R.texts.length] ?_)
 intro b1
 refine os 1 ?_
 refine nsr ?_
 refine L (lds 2 ?_)
 refine os 1 ?_
 refine L (cl (rf_At (R := RSt.mk R.s R.objs R.ts R.texts) hw (w := w)) ?_)
 rintro v1 _ hv1
 obtain rfl : v1 = .int .i64 (n : Int) := hv1.trans (by simp only []; unfold atI; rw [h0])
 refine un ?_
 refine os 1 ?_
 refine kp [5, 4, 2, 0, 1] ?_
 refine nsr ?_
 refine os 3 ?_
 refine pn 11 (show (decide ((n : Int) ≥ 0)) = true from (decide_eq_true (by omega))) ?_
 refine os 1 ?_
 refine L (ld ?_)
 refine os 1 ?_
 refine L (ixg (n : Int) (n * 7) hR.row Tryz.underlying25 ?_)
 refine os 1 ?_
 refine kp [16, 11, 5, 4, 2, 0, 1] ?_
 refine L (ld ?_ (hc := Gs.cell hR.row (fun e he => (Qc (mem_h he))) (Qh RObj.len hx (j := 2) (by decide) rfl)))
 refine os 3 ?_
 refine kp [4, 5, 2, 0, 1] ?_
 refine nt ?_
 refine Qi ?_
 refine Qg (.bool (!x.shut)) (fun _ => rfl) ?_
 exact ⟨(), RSt.own, rfl⟩

theorem rf_Index {W0 : World} (key : ByteArray) : SC Tryz.prog W0 27 #[.string key] [] (Ret (fun _ : Unit => []) (fun v _ => v = two (idxV key))) := by
 refine SC_body (fn := Tryz.f27) (n := 50) Tryz.func27 rfl (by kernel_rfl) (ρ := [(0, .string key)]) rfl ?_
 refine sr ?_
 refine os 2 ?_
 refine nq ?_
 refine sr ?_
 refine os 1 ?_
 refine oX (.bool (key.toList == (ByteArray.mk (List.toArray List.nil)).toList)) (.bool (decide (key = (ByteArray.mk (List.toArray List.nil))))) (congrArg Value.bool (by rw [str_eq])) ?_
 refine os 1 ?_
 refine tbp 8 (fun hg1 => ?_) (fun hg1 => ?_)
 ·replace hg1 : key = (ByteArray.mk (List.toArray List.nil)) := hg1
  have hsz : key.size = 0 := by rw [hg1]; rfl
  refine os 14 ?_
  refine kp [22, 3, 2, 0] ?_
  refine nt ?_
  refine ct ?_
  refine sr ?_
  refine os 2 ?_
  refine nt ?_
  refine Qi (Qm ?_)
  refine Qg (.tuple #[.int .i64 0, .bool false]) (fun _ => rfl) ?_
  first
  | (exact ⟨(), ⟨_, List.Perm.refl _⟩, by rw [idxV_long (.inl hsz)]⟩)
  | (exact ⟨(), ⟨_, List.Perm.refl _⟩, by rw [idxV_long (.inr (by omega))]⟩)
  | (exact ⟨(), ⟨_, List.Perm.refl _⟩, by rw [idxV_zero (by assumption) (by omega)]⟩)
 replace hg1 : ¬ (key = (ByteArray.mk (List.toArray List.nil))) := hg1
 have hsz : key.size ≠ 0 := fun z_ => hg1 (ByteArray.ext (Array.eq_empty_of_size_eq_zero z_))
 refine os 5 ?_
 refine kp [13, 3, 2, 0] ?_
 refine tbp 13 (fun hg2 => ?_) (fun hg2 => ?_)
 ·replace hg2 : (key.size : Int) > 4 := hg2
  refine os 9 ?_
  refine kp [22, 3, 2, 0] ?_
  refine nt ?_
  refine ct ?_
  refine sr ?_
  refine os 2 ?_
  refine nt ?_
  refine Qi (Qm ?_)
  refine Qg (.tuple #[.int .i64 0, .bool false]) (fun _ => rfl) ?_
  first
  | (exact ⟨(), ⟨_, List.Perm.refl _⟩, by rw [idxV_long (.inl hsz)]⟩)
  | (exact ⟨(), ⟨_, List.Perm.refl _⟩, by rw [idxV_long (.inr (by omega))]⟩)
  | (exact ⟨(), ⟨_, List.Perm.refl _⟩, by rw [idxV_zero (by assumption) (by omega)]⟩)
 replace hg2 : ¬ ((key.size : Int) > 4) := hg2
 refine os 1 ?_
 refine ixs 0 key .i64 Tryz.underlying9 ?_
 refine os 2 ?_
 refine tb 17 (fun hg3 => ?_) (fun hg3 => ?_)
 ·replace hg3 : ((byteN key 0) == 48) = true := hg3
  simp only [beq_iff_eq, beq_eq_false_iff_ne, ne_eq] at hg3
  refine os 5 ?_
  refine kp [22, 3, 2, 0] ?_
  refine nt ?_
  refine cdp (fun hc4 : (key.size : Int) > 1 => ?_) (fun hc4 => ?_)
  ·refine sr ?_
   refine os 2 ?_
   refine nt ?_
   refine Qi (Qm ?_)
   refine Qg (.tuple #[.int .i64 0, .bool false]) (fun _ => rfl) ?_
   first
   | (exact ⟨(), ⟨_, List.Perm.refl _⟩, by rw [idxV_long (.inl hsz)]⟩)
   | (exact ⟨(), ⟨_, List.Perm.refl _⟩, by rw [idxV_long (.inr (by omega))]⟩)
   | (exact ⟨(), ⟨_, List.Perm.refl _⟩, by rw [idxV_zero (by assumption) (by omega)]⟩)
  refine Ql (Qj ?_)
  refine sr ?_
  refine os 1 ?_
  refine nq ?_
  refine sr ?_
  refine os 1 ?_
  refine nt ?_
  refine SW_block ?_
  have hz : byteN key 0 ≠ 48 ∨ key.size ≤ 1 := by first | exact .inl (by assumption) | (right; omega)
  refine SW_loop (α := Nat × Nat) (fun z_ ρ_ σ_ => Fits ρ_ σ_ [(0, .string key), (2, .int .i64 0), (3, .bool false), (4, .int .i64 (z_.2 : Int)), (5, .int .i64 (z_.1 : Int))] ([]) ∧ z_.1 ≤ key.size ∧ digL 0 (key.data.toList.take z_.1) = some z_.2 ∧ z_.2 < 10 ^ z_.1) (fun z_ => key.size - z_.1) (0, 0) ⟨⟨fun _ => rfl, ⟨_, List.Perm.refl _⟩⟩, Nat.zero_le _, rfl, by decide⟩ ?_
  rintro ⟨i, n⟩ ρ_ σ_ ⟨hfit, hi0, hi1, hi2⟩
  refine SW_fits hfit ?_
  clear hfit
  simp only [] at hi0 hi1 hi2 ⊢
  have hp10 : 10 ^ i ≤ 10000 := Nat.le_trans (Nat.pow_le_pow_right (by decide) (show i ≤ 4 by omega)) (by decide)
  have hbl := byteN_lt key (i : Int)
  refine SW_seq ?_
  refine sr ?_
  refine os 4 ?_
  refine kp [26, 0, 2, 3, 4, 5] ?_
  refine nt ?_
  refine cdp (fun hc5 : (i : Int) < (key.size : Int) => ?_) (fun hc5 => ?_)
  ·refine Ql (Qj ?_)
   refine SW_seq ?_
   refine SW_block ?_
   refine SW_seq ?_
   refine sr ?_
   refine os 2 ?_
   refine ixs (i : Int) key .i64 Tryz.underlying9 ?_
   refine os 2 ?_
   refine tbp 33 (fun hg6 => ?_) (fun hg6 => ?_)
   ·replace hg6 : (byteN key (i : Int)) < 48 := hg6
    refine os 5 ?_
    refine kp [38, 26, 0, 2, 3, 4, 5] ?_
    refine nt ?_
    refine ct ?_
    refine sr ?_
    refine os 2 ?_
    refine nt ?_
    refine Qi (Qm (r_in (Qm (Qm (r_in (Qm ?_))))))
    refine Qg (.tuple #[.int .i64 0, .bool false]) (fun _ => rfl) ?_
    exact ⟨(), ⟨_, List.Perm.refl _⟩, by rw [idxV_fail (i := i) (by omega) hi1 (by omega)]⟩
   replace hg6 : ¬ ((byteN key (i : Int)) < 48) := hg6
   refine os 2 ?_
   refine ixs (i : Int) key .i64 Tryz.underlying9 ?_
   refine os 2 ?_
   refine kp [38, 26, 0, 2, 3, 4, 5] ?_
   refine nt ?_
   refine cdp (fun hc7 : (byteN key (i : Int)) > 57 => ?_) (fun hc7 => ?_)
   ·refine sr ?_
    refine os 2 ?_
    refine nt ?_
    refine Qi (Qm (r_in (Qm (Qm (r_in (Qm ?_))))))
    refine Qg (.tuple #[.int .i64 0, .bool false]) (fun _ => rfl) ?_
    exact ⟨(), ⟨_, List.Perm.refl _⟩, by rw [idxV_fail (i := i) (by omega) hi1 (by omega)]⟩
   refine Ql (Qj ?_)
   refine Qn ?_
   refine os 4 ?_
   refine ixs (i : Int) key .i64 Tryz.underlying9 ?_
   refine os 4 ?_
   refine kp [4, 38, 26, 0, 2, 3, 5] ?_
   refine SL_nil (n_in (Qj ?_))
   refine Qn ?_
   refine os 3 ?_
   refine nt ?_
   have en := idxV_next (s := key) (i := i) (by omega) hi1 ⟨by omega, by omega⟩
   have ep : 10 ^ (i + 1) = 10 ^ i * 10 := Nat.pow_succ ..
   have ee : ((n * 10 + (byteN key (i : Int) - 48).toNat : Nat) : Int) = (n : Int) * 10 + (byteN key (i : Int) - 48) := by omega
   refine ⟨(i + 1, n * 10 + (byteN key (i : Int) - 48).toNat), by simp only []; omega, ?_⟩
   simp only []
   rw [ee]
   exact ⟨⟨fun _ => rfl, ⟨_, List.Perm.refl _⟩⟩, by omega, en, by omega⟩
  refine SW_exit (x_then (x_then (x_in (Qj ?_))))
  refine SW_seq ?_
  refine sr ?_
  refine os 2 ?_
  refine nt ?_
  refine cdp (fun hc8 : (n : Int) ≥ 4096 => ?_) (fun hc8 => ?_)
  ·refine sr ?_
   refine os 2 ?_
   refine nt ?_
   refine Qi (Qm ?_)
   refine Qg (.tuple #[.int .i64 0, .bool false]) (fun _ => rfl) ?_
   have hie : i = key.size := by omega
   rw [hie] at hi1
   exact ⟨(), ⟨_, List.Perm.refl _⟩, by rw [idxV_end hsz (by omega) hz hi1, if_neg (by omega)]⟩
  refine Ql (Qj ?_)
  refine sr ?_
  refine os 3 ?_
  refine nt ?_
  refine Qi ?_
  refine Qg (.tuple #[.int .i64 (n : Int), .bool true]) (fun _ => rfl) ?_
  have hie : i = key.size := by omega
  rw [hie] at hi1
  exact ⟨(), ⟨_, List.Perm.refl _⟩, by rw [idxV_end hsz (by omega) hz hi1, if_pos (by omega)]⟩
 replace hg3 : ((byteN key 0) == 48) = false := hg3
 simp only [beq_iff_eq, beq_eq_false_iff_ne, ne_eq] at hg3
 refine os 5 ?_
 refine kp [22, 3, 2, 0] ?_
 refine nt ?_
 refine cf ?_
 refine Ql (Qj ?_)
 refine sr ?_
 refine os 1 ?_
 refine nq ?_
 refine sr ?_
 refine os 1 ?_
 refine nt ?_
 refine SW_block ?_
 have hz : byteN key 0 ≠ 48 ∨ key.size ≤ 1 := by first | exact .inl (by assumption) | (right; omega)
 refine SW_loop (α := Nat × Nat) (fun z_ ρ_ σ_ => Fits ρ_ σ_ [(0, .string key), (2, .int .i64 0), (3, .bool false), (4, .int .i64 (z_.2 : Int)), (5, .int .i64 (z_.1 : Int))] ([]) ∧ z_.1 ≤ key.size ∧ digL 0 (key.data.toList.take z_.1) = some z_.2 ∧ z_.2 < 10 ^ z_.1) (fun z_ => key.size - z_.1) (0, 0) ⟨⟨fun _ => rfl, ⟨_, List.Perm.refl _⟩⟩, Nat.zero_le _, rfl, by decide⟩ ?_
 rintro ⟨i, n⟩ ρ_ σ_ ⟨hfit, hi0, hi1, hi2⟩
 refine SW_fits hfit ?_
 clear hfit
 simp only [] at hi0 hi1 hi2 ⊢
 have hp10 : 10 ^ i ≤ 10000 := Nat.le_trans (Nat.pow_le_pow_right (by decide) (show i ≤ 4 by omega)) (by decide)
 have hbl := byteN_lt key (i : Int)
 refine SW_seq ?_
 refine sr ?_
 refine os 4 ?_
 refine kp [26, 0, 2, 3, 4, 5] ?_
 refine nt ?_
 refine cdp (fun hc9 : (i : Int) < (key.size : Int) => ?_) (fun hc9 => ?_)
 ·refine Ql (Qj ?_)
  refine SW_seq ?_
  refine SW_block ?_
  refine SW_seq ?_
  refine sr ?_
  refine os 2 ?_
  refine ixs (i : Int) key .i64 Tryz.underlying9 ?_
  refine os 2 ?_
  refine tbp 33 (fun hg10 => ?_) (fun hg10 => ?_)
  ·replace hg10 : (byteN key (i : Int)) < 48 := hg10
   refine os 5 ?_
   refine kp [38, 26, 0, 2, 3, 4, 5] ?_
   refine nt ?_
   refine ct ?_
   refine sr ?_
   refine os 2 ?_
   refine nt ?_
   refine Qi (Qm (r_in (Qm (Qm (r_in (Qm ?_))))))
   refine Qg (.tuple #[.int .i64 0, .bool false]) (fun _ => rfl) ?_
   exact ⟨(), ⟨_, List.Perm.refl _⟩, by rw [idxV_fail (i := i) (by omega) hi1 (by omega)]⟩
  replace hg10 : ¬ ((byteN key (i : Int)) < 48) := hg10
  refine os 2 ?_
  refine ixs (i : Int) key .i64 Tryz.underlying9 ?_
  refine os 2 ?_
  refine kp [38, 26, 0, 2, 3, 4, 5] ?_
  refine nt ?_
  refine cdp (fun hc11 : (byteN key (i : Int)) > 57 => ?_) (fun hc11 => ?_)
  ·refine sr ?_
   refine os 2 ?_
   refine nt ?_
   refine Qi (Qm (r_in (Qm (Qm (r_in (Qm ?_))))))
   refine Qg (.tuple #[.int .i64 0, .bool false]) (fun _ => rfl) ?_
   exact ⟨(), ⟨_, List.Perm.refl _⟩, by rw [idxV_fail (i := i) (by omega) hi1 (by omega)]⟩
  refine Ql (Qj ?_)
  refine Qn ?_
  refine os 4 ?_
  refine ixs (i : Int) key .i64 Tryz.underlying9 ?_
  refine os 4 ?_
  refine kp [4, 38, 26, 0, 2, 3, 5] ?_
  refine SL_nil (n_in (Qj ?_))
  refine Qn ?_
  refine os 3 ?_
  refine nt ?_
  have en := idxV_next (s := key) (i := i) (by omega) hi1 ⟨by omega, by omega⟩
  have ep : 10 ^ (i + 1) = 10 ^ i * 10 := Nat.pow_succ ..
  have ee : ((n * 10 + (byteN key (i : Int) - 48).toNat : Nat) : Int) = (n : Int) * 10 + (byteN key (i : Int) - 48) := by omega
  refine ⟨(i + 1, n * 10 + (byteN key (i : Int) - 48).toNat), by simp only []; omega, ?_⟩
  simp only []
  rw [ee]
  exact ⟨⟨fun _ => rfl, ⟨_, List.Perm.refl _⟩⟩, by omega, en, by omega⟩
 refine SW_exit (x_then (x_then (x_in (Qj ?_))))
 refine SW_seq ?_
 refine sr ?_
 refine os 2 ?_
 refine nt ?_
 refine cdp (fun hc12 : (n : Int) ≥ 4096 => ?_) (fun hc12 => ?_)
 ·refine sr ?_
  refine os 2 ?_
  refine nt ?_
  refine Qi (Qm ?_)
  refine Qg (.tuple #[.int .i64 0, .bool false]) (fun _ => rfl) ?_
  have hie : i = key.size := by omega
  rw [hie] at hi1
  exact ⟨(), ⟨_, List.Perm.refl _⟩, by rw [idxV_end hsz (by omega) hz hi1, if_neg (by omega)]⟩
 refine Ql (Qj ?_)
 refine sr ?_
 refine os 3 ?_
 refine nt ?_
 refine Qi ?_
 refine Qg (.tuple #[.int .i64 (n : Int), .bool true]) (fun _ => rfl) ?_
 have hie : i = key.size := by omega
 rw [hie] at hi1
 exact ⟨(), ⟨_, List.Perm.refl _⟩, by rw [idxV_end hsz (by omega) hz hi1, if_pos (by omega)]⟩

end Go.Proofs.YthflblophelioaaGreatDoor
