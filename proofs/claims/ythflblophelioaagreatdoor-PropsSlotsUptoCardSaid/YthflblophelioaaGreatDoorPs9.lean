/-
  What the document's own functions do to the memory they own, step by step: each theorem is one function's contract. Conditions: those that each theorem names.
-/
import Derived.Test.YthflblophelioaaGreatDoorPs8
import Derived.Test.YthflblophelioaaGreatDoorPs6
set_option linter.unusedVariables false
set_option linter.unusedSimpArgs false
set_option maxRecDepth 100000
set_option maxHeartbeats 4000000
namespace Go.Proofs.YthflblophelioaaGreatDoor
open Go.Sl

theorem rf_Digits {W0 : World} : ∀ n : Nat, n < 10000 → SC Tryz.prog W0 108 #[.int .i64 (n : Int)] [] (Ret (fun _ : Unit => []) (fun v _ => v = .string (⟨(Lib.decDigits n).toArray⟩ : ByteArray))) := by
 intro n
 induction n using Nat.strongRecOn with
 | _ n ih =>
   intro hn
   refine SC_body (fn := Tryz.f108) (n := 20) Tryz.func108 rfl (by kernel_rfl) (ρ := [(0, .int .i64 (n : Int))]) rfl ?_
   refine sr ?_
   refine os 1 ?_
   refine nq ?_
   refine sr ?_
   refine os 2 ?_
   refine nt ?_
   refine cdp (fun hc1 : (n : Int) < 10 => ?_) (fun hc1 => ?_)
   ·refine sr ?_
    refine os 3 ?_
    refine L (nws 5 1 1 [.int .u8 (48 + (n : Int))] ?_)
    intro b2
    refine L (O_bytes [48 + (n : Int)] b2 0 1 Tryz.underlying185 Tryz.underlying5 Tryz.underlying9 (Qb (Cell.own Qe rfl) Qo) (fun _ => rfl) rfl ?_)
    refine os 1 ?_
    refine kp [2, 4, 0] ?_
    refine nt ?_
    refine Qi (Qm ?_)
    refine Qg (.string (strOfNums [48 + (n : Int)])) (fun _ => rfl) ?_
    exact ⟨(), ⟨_, List.Perm.refl _⟩, by rw [dig_small (by omega)]⟩
   refine Ql (Qj ?_)
   refine SW_seq ?_
   have ih2 := ih (n / 10) (by omega) (by omega)
   rw [show ((n / 10 : Nat) : Int) = (n : Int) / 10 from by omega] at ih2
   refine SW_draw [] [] (by kernel_rfl) rd_nil ?_
   refine aS 0 ?_
   refine tk 1 (.int .i64 (IntKind.wrap .i64 (Int.tdiv (n : Int) 10))) ?_
   rw [show IntKind.wrap .i64 (Int.tdiv (n : Int) 10) = (n : Int) / 10 from IntWalk.i64_quo _ _ (by omega)]
   refine aS 3 ?_
   refine tk 4 (.int .i64 (Int.tmod (n : Int) 10)) ?_
   rw [show Int.tmod (n : Int) 10 = (n : Int) % 10 from rem_nn (by omega)]
   refine tk 5 (.int .i64 (IntKind.wrap .i64 (48 + ((n : Int) % 10)))) ?_
   rw [show IntKind.wrap .i64 (48 + ((n : Int) % 10)) = 48 + ((n : Int) % 10) from IntWalk.i64_in _ (by omega)]
   refine tk 6 (.int .u8 (IntKind.wrap .u8 (48 + ((n : Int) % 10)))) ?_
   rw [show IntKind.wrap .u8 (48 + ((n : Int) % 10)) = 48 + ((n : Int) % 10) from IntWalk.u8_in _ (by omega)]
   refine SA_two false false (li1 := #[true, true, true, true, true, true, true, false, false, false, false]) (li2 := #[true, true, false, true, true, true, true, true, false, false, false]) 2 7 _ _ rfl rfl rfl (by kernel_rfl) ⟨rfl, fun _ => rfl⟩ ⟨rfl, fun _ => rfl⟩ rfl rfl ?_ ?_
   ·refine cl (ih2) ?_
    rintro _ _ rfl
    try simp only [List.cons_append, List.append_assoc, List.nil_append]
    refine ⟨fun hnd => (by cases hnd), ?_⟩
    refine sa1 false 7 (h := nws 5 1 1 [.int .u8 (48 + ((n : Int) % 10))] ?_)
    intro b3
    refine ⟨fun hnd => (by cases hnd), ?_⟩
    refine sa1 false 8 (h := O_bytes [48 + ((n : Int) % 10)] b3 0 1 Tryz.underlying185 Tryz.underlying5 Tryz.underlying9 (Qb (Cell.own Qe rfl) Qo) (fun _ => rfl) rfl ?_)
    refine ⟨fun hnd => (by cases hnd), ?_⟩
    refine kpA [18, 12, 4, 2, 0] ?_
    refine tk 9 (.string ((⟨(Lib.decDigits (n / 10)).toArray⟩ : ByteArray) ++ (strOfNums [48 + ((n : Int) % 10)]))) ?_ (hy := (fun δ w_ => run_cat (⟨(Lib.decDigits (n / 10)).toArray⟩ : ByteArray) (strOfNums [48 + ((n : Int) % 10)]) (dig_cat hn _) rfl rfl))
    refine aS 10 ?_
    refine SA_done (by kernel_rfl) (Qj ?_)
    refine Qi ?_
    refine Qg (.string ((⟨(Lib.decDigits (n / 10)).toArray⟩ : ByteArray) ++ (strOfNums [48 + ((n : Int) % 10)]))) (fun _ => rfl) ?_
    exact ⟨(), ⟨_, List.Perm.refl _⟩, by rw [dig_big (by omega)]⟩
   refine nws 5 1 1 [.int .u8 (48 + ((n : Int) % 10))] ?_
   intro b4
   refine ⟨fun hnd => (by cases hnd), ?_⟩
   refine SA_two false false (li1 := #[true, true, true, true, true, true, true, true, false, false, false]) (li2 := #[true, true, false, true, true, true, true, true, true, false, false]) 2 8 _ _ rfl rfl rfl (by kernel_rfl) ⟨rfl, fun _ => rfl⟩ ⟨rfl, fun _ => rfl⟩ rfl rfl ?_ ?_
   ·refine cl (ih2) ?_
    rintro _ _ rfl
    try simp only [List.cons_append, List.append_assoc, List.nil_append]
    refine ⟨fun hnd => (by cases hnd), ?_⟩
    refine sa1 false 8 (h := O_bytes [48 + ((n : Int) % 10)] b4 0 1 Tryz.underlying185 Tryz.underlying5 Tryz.underlying9 (Qb (Cell.own Qe rfl) Qo) (fun _ => rfl) rfl ?_)
    refine ⟨fun hnd => (by cases hnd), ?_⟩
    refine kpA [18, 12, 4, 2, 0] ?_
    refine tk 9 (.string ((⟨(Lib.decDigits (n / 10)).toArray⟩ : ByteArray) ++ (strOfNums [48 + ((n : Int) % 10)]))) ?_ (hy := (fun δ w_ => run_cat (⟨(Lib.decDigits (n / 10)).toArray⟩ : ByteArray) (strOfNums [48 + ((n : Int) % 10)]) (dig_cat hn _) rfl rfl))
    refine aS 10 ?_
    refine SA_done (by kernel_rfl) (Qj ?_)
    refine Qi ?_
    refine Qg (.string ((⟨(Lib.decDigits (n / 10)).toArray⟩ : ByteArray) ++ (strOfNums [48 + ((n : Int) % 10)]))) (fun _ => rfl) ?_
    exact ⟨(), ⟨_, List.Perm.refl _⟩, by rw [dig_big (by omega)]⟩
   refine O_bytes [48 + ((n : Int) % 10)] b4 0 1 Tryz.underlying185 Tryz.underlying5 Tryz.underlying9 (Qb (Cell.own Qe rfl) Qo) (fun _ => rfl) rfl ?_
   refine ⟨fun hnd => (by cases hnd), ?_⟩
   refine sa1 false 2 (h := cl (ih2) ?_)
   rintro _ _ rfl
   try simp only [List.cons_append, List.append_assoc, List.nil_append]
   refine ⟨fun hnd => (by cases hnd), ?_⟩
   refine kpA [12, 18, 4, 2, 0] ?_
   refine tk 9 (.string ((⟨(Lib.decDigits (n / 10)).toArray⟩ : ByteArray) ++ (strOfNums [48 + ((n : Int) % 10)]))) ?_ (hy := (fun δ w_ => run_cat (⟨(Lib.decDigits (n / 10)).toArray⟩ : ByteArray) (strOfNums [48 + ((n : Int) % 10)]) (dig_cat hn _) rfl rfl))
   refine aS 10 ?_
   refine SA_done (by kernel_rfl) (Qj ?_)
   refine Qi ?_
   refine Qg (.string ((⟨(Lib.decDigits (n / 10)).toArray⟩ : ByteArray) ++ (strOfNums [48 + ((n : Int) % 10)]))) (fun _ => rfl) ?_
   exact ⟨(), ⟨_, List.Perm.refl _⟩, by rw [dig_big (by omega)]⟩

end Go.Proofs.YthflblophelioaaGreatDoor
namespace Go.Proofs.YthflblophelioaaGreatDoor
open Go.Sl

theorem rf_Elem_none {W0 : World} {R : RSt} (hR : R.ok) {w : Int} (hw : wordOk w) (h0 : objAt w R.objs.length = none) (m : Int) : SC Tryz.prog W0 80 #[R.val, .int .u64 w, .int .i64 m] R.ent (Ret (fun _ : Unit => R.ent) (fun v _ => v = .tuple #[.int .u64 18445336698825998336, .bool false])) := by
 refine SC_body (fn := Tryz.f80) (n := 32) Tryz.func80 rfl (by kernel_rfl) (ρ := [(0, .agg #[Gs.val R.s R.objs.length, Gs.val R.ts R.texts.length]), (1, .int .u64 w), (2, .int .i64 m)]) rfl ?_
 refine SW_sig _ RSt.eq0 ?_
 refine sr ?_
 refine L (nw 28 2 [Gs.val R.s R.objs.length, Gs.val R.ts R.texts.length] ?_)
 intro b1
 refine os 2 ?_
 refine nq ?_
 refine sr ?_
 refine os 3 ?_
 refine tbp 11 (fun hg2 => ?_) (fun hg2 => ?_)
 ·replace hg2 : m < 0 := hg2
  refine os 6 ?_
  refine kp [17, 7, 6, 3, 0, 1, 2] ?_
  refine nt ?_
  refine ct ?_
  refine sr ?_
  refine os 2 ?_
  refine nt ?_
  refine Qi (Qm ?_)
  refine Qg (.tuple #[.int .u64 18445336698825998336, .bool false]) (fun _ => rfl) ?_
  exact ⟨(), RSt.own, rfl⟩
 replace hg2 : ¬ (m < 0) := hg2
 refine os 1 ?_
 refine L (lds 2 ?_)
 refine os 1 ?_
 refine L (cl (rf_Len_none hR hw h0) ?_ (hp := RSt.pm))
 rintro _ _ rfl
 refine SL_sig _ RSt.eq ?_
 refine os 2 ?_
 refine kp [17, 7, 6, 3, 0, 1, 2] ?_
 refine nt ?_
 refine SW_true (fun _ => (congrArg Value.bool (show (decide (m ≥ 0)) = true from (decide_eq_true (by omega))))) ?_
 refine sr ?_
 refine os 2 ?_
 refine nt ?_
 refine Qi (Qm ?_)
 refine Qg (.tuple #[.int .u64 18445336698825998336, .bool false]) (fun _ => rfl) ?_
 exact ⟨(), RSt.own, rfl⟩

end Go.Proofs.YthflblophelioaaGreatDoor
namespace Go.Proofs.YthflblophelioaaGreatDoor
open Go.Sl
theorem refInt_intW {n : Int} (h : 0 ≤ n ∧ n < 2147483648) : refInt n = intW n := by
 unfold refInt
 rw [IntWalk.u32_in n (by omega), IntWalk.u64_in n (by omega), IntWalk.u64_in _ (by omega)]
theorem mayR_eq (d e : DescP) : mayR d e = ((deqB d e || (band d.2.2 4 != 0)) || (!(((band d.2.2 8 != 0) || (band e.2.2 8 != 0)) || (band d.2.2 6 != band e.2.2 6)) && (band d.2.2 1 != 0))) := by
 unfold mayR
 by_cases h2 : d = e
 · rw [if_pos (.inl h2), deq_iff.2 h2]; rfl
 · rw [deq_ff.2 h2]
   by_cases h1 : (band d.2.2 4 != 0) = true
   · rw [if_pos (.inr h1), h1]; rfl
   · rw [Bool.not_eq_true] at h1
     rw [if_neg (by rintro (z | z); exact h2 z; (rw [h1] at z; cases z)), h1]
     by_cases h3 : (band d.2.2 8 != 0) = true
     · rw [if_pos (.inl h3), h3]; rfl
     · rw [Bool.not_eq_true] at h3
       by_cases h4 : (band e.2.2 8 != 0) = true
       · rw [if_pos (.inr (.inl h4)), h3, h4]; rfl
       · rw [Bool.not_eq_true] at h4
         by_cases h5 : (band d.2.2 6 != band e.2.2 6) = true
         · rw [if_pos (.inr (.inr h5)), h3, h4, h5]; rfl
         · rw [Bool.not_eq_true] at h5
           rw [if_neg (by rintro (z | z | z); (rw [h3] at z; cases z); (rw [h4] at z; cases z); (rw [h5] at z; cases z)), h3, h4, h5]; rfl
theorem flOk_norm {f : Int} (h : normF f = f) : flOk f = true := by
 obtain ⟨k, hk, e⟩ := fl15_lt f
 rw [← h]; unfold normF; rw [e]
 have q : ∀ k : Fin 16, flOk (if (IntKind.wrap .i64 ((BitVec.ofInt 64 ((k.val : Nat) : Int) &&& BitVec.ofInt 64 8).toNat) != 0) = true then IntKind.wrap .i64 ((BitVec.ofInt 64 ((k.val : Nat) : Int) &&& ~~~BitVec.ofInt 64 1).toNat) else ((k.val : Nat) : Int)) = true := by decide +kernel
 exact q ⟨k, hk⟩
theorem own_flags {l : List ObjS} {w : Int} {key : ByteArray} (hfl : ∀ o ∈ l, ∀ d ∈ o.descs, normF d.2.2 = d.2.2) : flOk ((ownQ l w key).getD zeroD).2.2 = true := by
 have hg : ∀ o ∈ l, flOk ((getP o.names o.descs key).getD zeroD).2.2 = true := fun o ho => by
   unfold getP
   split
   · decide
   · cases hq : o.descs[(ixS o.names key).toNat]? with
     | none => decide
     | some d => exact flOk_norm (hfl o ho d (List.mem_of_getElem? hq))
 unfold ownQ
 cases hq : objOf l w with
 | none => exact (by decide : flOk 0 = true)
 | some o =>
   simp only []
   unfold ownO
   split
   · split
     · exact (by decide : flOk 1 = true)
     · split
       · split
         · exact (by decide : flOk 7 = true)
         · exact (by decide : flOk 0 = true)
       · exact hg o (objOf_mem hq)
   · exact hg o (objOf_mem hq)
theorem flOk_range {f : Int} (h : flOk f = true) : 0 ≤ f ∧ f < 16 := by
 unfold flOk at h
 rw [Bool.and_eq_true] at h
 exact of_decide_eq_true h.1
theorem both_ref (x : WishP) : bothP x = ((hasR x 16 || hasR x 32) && (hasR x 1 || hasR x 2)) := by
 obtain ⟨h1, h2, h3, h4, h5, h6, h7, h8⟩ := has_bits x
 unfold bothP
 rw [h1, h2]
 first | (rw [h3, h4, h7, h8]) | simp [*]
theorem wish_word {d : DescP} {x : WishP} (h : wordOk d.1) (hv : wordOk x.value) (hg : wordOk x.get) : wordOk (wishP d x).1 := by
 have h0 : wordOk undefW := by unfold wordOk; decide
 have e1 : wordOk (wish1 d x).1 := by unfold wish1; split <;> assumption
 have e2 : wordOk (wish2 (wish1 d x) x).1 := by unfold wish2; split <;> assumption
 have e3 : wordOk (wish3 (wish2 (wish1 d x) x) x).1 := e2
 have e4 : wordOk (wish4 (wish3 (wish2 (wish1 d x) x) x) x).1 := by unfold wish4; split <;> assumption
 have e5 : wordOk (wish5 (wish4 (wish3 (wish2 (wish1 d x) x) x) x) x).1 := by unfold wish5; split <;> assumption
 unfold wishP wish6
 split <;> assumption
theorem kind_at {l : List ObjS} {w : Int} : (kindQ l w).2 = false ↔ atW l w < 0 := by
 rw [atW_neg, ← Bool.not_eq_true, kindQ_some, Classical.not_not]
variable {W0 : World} {k : Nat} {R : RSt}
theorem rz_Array (hR : R.ok) {w : Int} (hw : wordOk w) : SC Tryz.prog W0 20 #[R.val, .int .u64 w] R.ent (Ret (fun _ : Unit => R.ent) (fun v _ => v = .bool (arrP R.pub w))) := by
 rcases objOf_cases R.pub w with ⟨h0, e⟩ | ⟨n, o, h0, ho, e⟩
 · unfold arrP; rw [e]; exact rf_Array_none hR hw (at_pub h0)
 · obtain ⟨x, hx, rfl⟩ := robj_of ho
   unfold arrP; rw [e]; exact rf_Array_some hR hw (at_pub h0) hx
theorem rz_Open (hR : R.ok) {w : Int} (hw : wordOk w) : SC Tryz.prog W0 46 #[R.val, .int .u64 w] R.ent (Ret (fun _ : Unit => R.ent) (fun v _ => v = .bool (openQ R.pub w))) := by
 rcases objOf_cases R.pub w with ⟨h0, e⟩ | ⟨n, o, h0, ho, e⟩
 · unfold openQ; rw [e]; exact rf_Open_none hR hw (at_pub h0)
 · obtain ⟨x, hx, rfl⟩ := robj_of ho
   unfold openQ; rw [e]; exact rf_Open_some hR hw (at_pub h0) hx
theorem rz_Elem (hR : R.ok) {w : Int} (hw : wordOk w) (m : Int) : SC Tryz.prog W0 80 #[R.val, .int .u64 w, .int .i64 m] R.ent (Ret (fun _ : Unit => R.ent) (fun v _ => v = .tuple #[.int .u64 (elemQ R.pub w m).1, .bool (elemQ R.pub w m).2])) := by
 rcases objOf_cases R.pub w with ⟨h0, e⟩ | ⟨n, o, h0, ho, e⟩
 · unfold elemQ; rw [e]; exact rf_Elem_none hR hw (at_pub h0) m
 · obtain ⟨x, hx, rfl⟩ := robj_of ho
   unfold elemQ; rw [e]; exact rf_Elem_some hR hw (at_pub h0) hx m
end Go.Proofs.YthflblophelioaaGreatDoor
namespace Go.Proofs.YthflblophelioaaGreatDoor
open Go.Sl
structure OpW where
  kind : Int
  o : Int
  p : Int
  key : ByteArray
  w : WishP
  v : Int
  n : Int
def OpW.cells (x : OpW) : List Value := [.int .i64 x.kind, .int .u64 x.o, .int .u64 x.p, .string x.key, .int .i64 x.w.has, .int .u64 x.w.value, .int .u64 x.w.get, .int .u64 x.w.set, .int .i64 x.w.flags, .int .u64 x.v, .int .i64 x.n]
theorem OpW.len (x : OpW) : x.cells.length = 11 := rfl
structure OwOk (x : OpW) : Prop where
  o : wordOk x.o
  p : wordOk x.p
  value : wordOk x.w.value
  get : wordOk x.w.get
  v : wordOk x.v
  key : x.key.size ≤ 281474976710656
def pStep (l : List ObjS) (x : OpW) : List ObjS :=
 if x.kind = 0 then makeL l x.n x.p
 else if x.kind = 1 then (defP l x.o x.key x.w).1
 else if x.kind = 2 then (delP l x.o x.key).1
 else if x.kind = 3 then (asgP l x.o x.key x.v).1
 else if x.kind = 4 then (spP l x.o x.p).1
 else if x.kind = 8 then modP l x.o shutO
 else l
variable {l l' : List ObjS} {w o : Int} {key : ByteArray} {x : OpW}
theorem ps0 (h : x.kind = 0) : pStep l x = makeL l x.n x.p := by unfold pStep; simp [h]
theorem ps1 (h : x.kind = 1) : pStep l x = (defP l x.o x.key x.w).1 := by unfold pStep; simp [h]
theorem ps2 (h : x.kind = 2) : pStep l x = (delP l x.o x.key).1 := by unfold pStep; simp [h]
theorem ps3 (h : x.kind = 3) : pStep l x = (asgP l x.o x.key x.v).1 := by unfold pStep; simp [h]
theorem ps4 (h : x.kind = 4) : pStep l x = (spP l x.o x.p).1 := by unfold pStep; simp [h]
theorem ps8 (h : x.kind = 8) : pStep l x = modP l x.o shutO := by unfold pStep; simp [h]
theorem psE (h0 : x.kind ≠ 0) (h1 : x.kind ≠ 1) (h2 : x.kind ≠ 2) (h3 : x.kind ≠ 3) (h4 : x.kind ≠ 4) (h8 : x.kind ≠ 8) : pStep l x = l := by unfold pStep; simp [*]
def Named (l : List ObjS) : Prop := ∀ o ∈ l, (o.kind = 1 → ∀ k ∈ o.names, k ≠ lenK ∧ idxK k = none) ∧ (o.kind ≠ 1 → o.elems = []) ∧ ∀ k ∈ o.names, k.size ≤ 281474976710656
inductive ChgP (l : List ObjS) : List ObjS → Prop
  | same : ChgP l l
  | make (n p : Int) : wordOk p → ChgP l (makeL l n p)
  | put (w : Int) (key : ByteArray) (d : DescP) : key.size ≤ 281474976710656 → (arrP l w = true → key ≠ lenK ∧ (idxV key).2 = false) → ChgP l (modP l w (putO key d))
  | drop (w : Int) (key : ByteArray) : ChgP l (modP l w (dropO key))
  | set (w m v : Int) : arrP l w = true → ChgP l (modP l w (setO m v))
  | len (w m : Int) : arrP l w = true → ChgP l (modP l w (lenO m))
  | proto (w p : Int) : wordOk p → ChgP l (reproP l w p)
  | shut (w : Int) : ChgP l (modP l w shutO)
def opK (kind o p : Int) (key : ByteArray) (d : DescP) (n : Int) (w : List Int) : OpP := ⟨kind, o, p, key, d, n, none, w, 0⟩
theorem ChgP.doc (h : ChgP l l') (hD : DOk l) : DOk l' := by
 cases h with
 | same => exact hD
 | make n p hp => exact DOk.step (D := (l, [])) hD (opK 0 0 p lenK (0, 0, 0) n []) hp
 | put w key d _ _ => exact DOk.step (D := (l, [])) hD (opK 1 w 0 key d 0 []) (show wordOk 0 from ⟨by decide, by decide⟩)
 | drop w key => exact DOk.step (D := (l, [])) hD (opK 2 w 0 key (0, 0, 0) 0 []) (show wordOk 0 from ⟨by decide, by decide⟩)
 | set w m v _ => exact DOk.step (D := (l, [])) hD (opK 4 w 0 lenK (0, 0, 0) m [v]) (show wordOk 0 from ⟨by decide, by decide⟩)
 | len w m _ => exact DOk.step (D := (l, [])) hD (opK 5 w 0 lenK (0, 0, 0) m []) (show wordOk 0 from ⟨by decide, by decide⟩)
 | proto w p hp => exact DOk.step (D := (l, [])) hD (opK 3 w p lenK (0, 0, 0) 0 []) hp
 | shut w => exact DOk.step (D := (l, [])) hD (opK 6 w 0 lenK (0, 0, 0) 0 []) (show wordOk 0 from ⟨by decide, by decide⟩)
theorem arrP_of {n : Nat} {y : ObjS} (h0 : objAt w l.length = some n) (hy : l[n]? = some y) : arrP l w = (y.kind == 1) := by unfold arrP; rw [objOf_some h0 hy]
theorem modP_mem2 {f : ObjS → ObjS} {o' : ObjS} (h : o' ∈ modP l w f) : o' ∈ l ∨ ∃ n y, objAt w l.length = some n ∧ l[n]? = some y ∧ o' = f y := by
 cases h0 : objAt w l.length with
 | none => rw [modP_none h0] at h; exact .inl h
 | some n =>
   obtain ⟨y, hy⟩ := obj_of h0
   rw [modP_some h0 hy] at h
   rcases List.mem_or_eq_of_mem_set h with q | q
   · exact .inl q
   · exact .inr ⟨n, y, rfl, hy, q⟩
theorem putNm_mem {names : List ByteArray} {k : ByteArray} (h : k ∈ putNm names key) : k ∈ names ∨ k = key := by
 unfold putNm at h
 split at h
 · rcases List.mem_append.1 h with q | q
   · exact .inl q
   · exact .inr (List.mem_singleton.1 q)
 · exact .inl h
theorem dropNm_mem {names : List ByteArray} {k : ByteArray} (h : k ∈ dropNm names key) : k ∈ names := by
 unfold dropNm at h
 split at h
 · exact h
 · exact List.mem_of_mem_eraseIdx h
theorem idx_none (h : (idxV key).2 = false) : idxK key = none := by
 cases hm : idxK key with
 | none => rfl
 | some m => rw [idxV_some hm] at h; cases h
theorem ChgP.named (h : ChgP l l') (hN : Named l) : Named l' := by
 have keep : ∀ {w : Int} {f : ObjS → ObjS}, (∀ y, (f y).kind = y.kind) → (∀ y, ∀ k ∈ (f y).names, k ∈ y.names) → (∀ y, (f y).elems = y.elems) → Named (modP l w f) := fun h1 h2 h3 o ho => by
   rcases modP_mem ho with q | ⟨a, q, rfl⟩
   · exact hN o q
   · exact ⟨fun z k hk => (hN a q).1 (by rw [← h1]; exact z) k (h2 a k hk), fun z => by rw [h3]; exact (hN a q).2.1 (by rw [← h1]; exact z), fun k hk => (hN a q).2.2 k (h2 a k hk)⟩
 have elems : ∀ {w : Int} {f : ObjS → ObjS}, arrP l w = true → (∀ y, (f y).kind = y.kind) → (∀ y, (f y).names = y.names) → Named (modP l w f) := fun ha h1 h2 o ho => by
   rcases modP_mem2 ho with q | ⟨n, y, h0, hy, rfl⟩
   · exact hN o q
   · rw [arrP_of h0 hy] at ha
     exact ⟨fun z k hk => (hN y (List.mem_of_getElem? hy)).1 (by rw [← h1]; exact z) k (by rw [← h2]; exact hk), fun z => absurd (by rw [h1]; simpa using ha) z, fun k hk => (hN y (List.mem_of_getElem? hy)).2.2 k (by rw [← h2]; exact hk)⟩
 cases h with
 | same => exact hN
 | make n p hp =>
   unfold makeL
   split
   · intro o ho
     rcases List.mem_append.1 ho with q | q
     · exact hN o q
     · rw [List.mem_singleton.1 q]; exact ⟨fun _ k hk => (by cases hk), fun _ => rfl, fun k hk => (by cases hk)⟩
   · exact hN
 | put w key d hks hk =>
   intro o ho
   rcases modP_mem2 ho with q | ⟨n, y, h0, hy, rfl⟩
   · exact hN o q
   · rw [arrP_of h0 hy] at hk
     refine ⟨fun z k q => ?_, fun z => (hN y (List.mem_of_getElem? hy)).2.1 z, fun k q => (putNm_mem q).elim (fun r => (hN y (List.mem_of_getElem? hy)).2.2 k r) (fun r => by rw [r]; exact hks)⟩
     rcases putNm_mem q with r | r
     · exact (hN y (List.mem_of_getElem? hy)).1 z k r
     · obtain ⟨a, b⟩ := hk (by simpa using z)
       rw [r]; exact ⟨a, idx_none b⟩
 | drop w key => exact keep (fun _ => rfl) (fun _ k hk => dropNm_mem hk) (fun _ => rfl)
 | set w m v ha => exact elems ha (fun _ => rfl) (fun _ => rfl)
 | len w m ha => exact elems ha (fun _ => rfl) (fun _ => rfl)
 | proto w p hp =>
   unfold reproP
   split
   · exact hN
   · split
     · exact hN
     · split
       · exact hN
       · next n h0 y hy _ =>
         intro o ho
         rcases List.mem_or_eq_of_mem_set ho with q | q
         · exact hN o q
         · rw [q]; exact hN y (List.mem_of_getElem? hy)
 | shut w => exact keep (fun _ => rfl) (fun _ k hk => hk) (fun _ => rfl)
theorem lenGo_chg {v : Int} (ha : arrP l w = true) : ChgP l (lenGo l w v).1 := by
 unfold lenGo
 split
 · exact .len _ _ ha
 · exact .same
theorem defGo_chg (hks : key.size ≤ 281474976710656) (d : DescP) : ChgP l (defGo l w key d).1 := by
 unfold defGo
 split
 · next h =>
   split
   · exact lenGo_chg h.1
   · exact .same
 · next h1 =>
   split
   · next h =>
     split
     · exact .set _ _ _ h.1
     · exact .same
   · next h2 =>
     refine .put _ _ _ hks fun ha => ⟨fun z => h1 ⟨ha, z⟩, ?_⟩
     rw [← Bool.not_eq_true]
     exact fun z => h2 ⟨ha, z⟩
theorem defP_chg (hks : key.size ≤ 281474976710656) (y : WishP) : ChgP l (defP l w key y).1 := by
 unfold defP
 split
 · exact .same
 · exact defGo_chg hks _
theorem delP_chg : ChgP l (delP l w key).1 := by
 unfold delP
 split
 · exact .same
 · split
   · exact .same
   · split
     · next h => exact .set _ _ _ h.2
     · exact .drop _ _
theorem asgP_chg (hks : key.size ≤ 281474976710656) (v : Int) : ChgP l (asgP l w key v).1 := by
 unfold asgP
 split
 · split <;> exact .same
 · split
   · exact .same
   · exact defP_chg hks _
theorem spP_chg {p : Int} (hp : wordOk p) : ChgP l (spP l w p).1 := by
 unfold spP
 split
 · exact .same
 · split
   · exact .same
   · split
     · exact .same
     · split
       · exact .same
       · exact .proto _ _ hp
theorem pStep_chg (hp : wordOk x.p) (hks : x.key.size ≤ 281474976710656) : ChgP l (pStep l x) := by
 unfold pStep
 split
 · exact .make _ _ hp
 split
 · exact defP_chg hks _
 split
 · exact delP_chg
 split
 · exact asgP_chg hks _
 split
 · exact spP_chg hp
 split
 · exact .shut _
 · exact .same
end Go.Proofs.YthflblophelioaaGreatDoor
namespace Go.Proofs.YthflblophelioaaGreatDoor
open Go.Sl
structure TextR (T : List ByteArray) (key : ByteArray) (r : List ByteArray × Int × Bool) : Prop where
  yes : r.2.2 = true → 0 ≤ ixS r.1 key ∧ r.2.1 = txtW (ixS r.1 key).toNat
  no : r.2.2 = false → r.1 = T
  len : r.1.length ≤ T.length + 1
  sub : ∀ s ∈ T, s ∈ r.1
  small : (∀ s ∈ T, s.size ≤ 4096) → ∀ s ∈ r.1, s.size ≤ 4096
  old : key ∈ T → r.1 = T ∧ r.2.2 = true
  big : 4096 < key.size → key ∉ T → r.1 = T ∧ r.2.2 = false
  fits : key.size ≤ 4096 → r.2.2 = false → 16384 ≤ T.length ∧ key ∉ T
structure TxI (l : List ByteArray) (i : Nat) (T : List ByteArray) : Prop where
  len : T.length ≤ i
  small : ∀ s ∈ T, s.size ≤ 4096
  head : 0 < i → ∀ s, l[0]? = some s → s.size ≤ 4096 → s ∈ T
theorem TxI.start (l : List ByteArray) : TxI l 0 [] := ⟨Nat.le_refl _, fun s h => (by cases h), fun h => by omega⟩
end Go.Proofs.YthflblophelioaaGreatDoor
namespace Go.Proofs.YthflblophelioaaGreatDoor
open Go.Sl
variable {l l' : List ObjS} {w o : Int} {key k : ByteArray} {x : OpW} {y : ObjS} {f : ObjS → ObjS}
theorem getP_at {names : List ByteArray} {descs : List DescP} {i : Nat} (hn : names.Nodup) (h : names[i]? = some k) : getP names descs k = descs[i]? := by
 unfold getP
 rw [ixS_at hn h, if_neg (by omega)]
 rfl
structure Nice (l : List ObjS) : Prop where
  doc : DOk l
  named : Named l
  nodup : ∀ o ∈ l, o.names.Nodup
  same : ∀ o ∈ l, o.names.length = o.descs.length
  elems : ∀ o ∈ l, o.elems.length ≤ 4096
  len : l.length ≤ 65536
theorem itoa_nat (i : Nat) : Lib.decDigits i = Lib.itoa (i : Int) := by simp [Lib.itoa]
end Go.Proofs.YthflblophelioaaGreatDoor
namespace Go.Proofs.YthflblophelioaaGreatDoor
open Go.Sl

theorem rz_Own {W0 : World} {k : Nat} {R : RSt} (hR : R.ok) (hL : LOk k R.pub) {w : Int} (hw : wordOk w) (key : ByteArray) : SC Tryz.prog W0 41 #[R.val, .int .u64 w, .string key] (RSt.ent R) (Ret (fun _ : Unit => RSt.ent R) (fun v _ => v = descR (ownQ R.pub w key))) := by
 have hln := hL.lenN w
 refine SC_body (fn := Tryz.f41) (n := 47) Tryz.func41 rfl (by kernel_rfl) (ρ := [(0, .agg #[Gs.val R.s R.objs.length, Gs.val R.ts R.texts.length]), (1, .int .u64 w), (2, .string key)]) rfl ?_
 refine SW_sig ((RSt.ent R) ++ ([])) (by simp only [List.append_nil, List.append_assoc]) ?_
 refine sr ?_
 refine L (nw 28 2 [Gs.val R.s R.objs.length, Gs.val R.ts R.texts.length] ?_)
 intro b1
 refine L (nw 45 3 [.int .u64 0, .int .u64 0, .int .i64 0] ?_)
 intro b2
 refine os 1 ?_
 refine nq ?_
 refine sr ?_
 refine L (lds 2 ?_)
 refine os 1 ?_
 refine L (cl (rz_Array hR (w := w) hw) ?_)
 rintro _ _ rfl
 refine nt ?_
 refine cd (fun hc3 : ((arrP R.pub w)) = true => ?_) (fun hc3 => ?_)
 ·refine SW_seq ?_
  refine sr ?_
  refine os 1 ?_
  refine oX (.bool (key.toList == (ByteArray.mk (List.toArray (List.cons 108 (List.cons 101 (List.cons 110 (List.cons 103 (List.cons 116 (List.cons 104 List.nil)))))))).toList)) (.bool (decide (key = (ByteArray.mk (List.toArray (List.cons 108 (List.cons 101 (List.cons 110 (List.cons 103 (List.cons 116 (List.cons 104 List.nil))))))))))) (congrArg Value.bool (by rw [str_eq])) ?_
  refine kp [16, 14, 7, 6, 3, 0, 1, 2] ?_
  refine nt ?_
  refine cdp (fun hc4 : key = (ByteArray.mk (List.toArray (List.cons 108 (List.cons 101 (List.cons 110 (List.cons 103 (List.cons 116 (List.cons 104 List.nil)))))))) => ?_) (fun hc4 => ?_)
  ·refine sr ?_
   refine L (lds 2 ?_)
   refine os 1 ?_
   refine L (cl (rz_Len hR hL (w := w) hw) ?_)
   rintro _ _ rfl
   refine os 1 ?_
   refine L (cl (rf_Int (n := (lenN R.pub w : Int))) ?_)
   rintro v3 _ hv3
   obtain rfl : v3 = .int .u64 (intW (lenN R.pub w : Int)) := hv3.trans (congrArg (Value.int .u64) (refInt_intW (by have q_ := hL.lenN w; omega)))
   refine un ?_
   refine oV (.agg #[.int .u64 (intW (lenN R.pub w : Int)), .int .u64 18445336698825998336, .int .i64 1]) ?_
   refine L (st [.int .u64 (intW (lenN R.pub w : Int)), .int .u64 18445336698825998336, .int .i64 1] ?_)
   refine os 1 ?_
   refine kp [7, 16, 14, 6, 3, 0, 1, 2] ?_
   refine nt ?_
   refine Qi (Qm (Qm ?_))
   refine body_endC [.agg #[.int .u64 (intW (lenN R.pub w : Int)), .int .u64 18445336698825998336, .int .i64 1], .bool true] (fun _ => (.cons ⟨b2, 0, rfl, .inl ⟨[.int .u64 (intW (lenN R.pub w : Int)), .int .u64 18445336698825998336, .int .i64 1], by kernel_rfl, (Qb (Cell.own Qe rfl) (Qb (Cell.own Qe rfl) (Qb (Cell.own Qe rfl) Qo))), rfl⟩⟩ (.cons rfl .nil))) ?_
   exact ⟨(), ow, by first | (rw [ownQ_len (by assumption) (by assumption)]; rfl) | (rw [own_elem (by assumption) (by assumption) (by assumption), if_pos (by assumption)]; rfl) | (rw [own_elem (by assumption) (by assumption) (by assumption), if_neg (by simp [*])]; rfl) | (rw [own_get (by assumption) (by assumption) (by assumption)]; exact (descR_eq _).symm) | (rw [ownQ_plain (by assumption)]; exact (descR_eq _).symm)⟩
  refine Ql (Qj ?_)
  refine sr ?_
  refine os 1 ?_
  refine L (cl (rf_Index key) ?_)
  rintro _ _ rfl
  refine un ?_
  refine os 5 ?_
  refine kp [9, 8, 16, 14, 7, 6, 3, 0, 1, 2] ?_
  refine nsr ?_
  refine os 1 ?_
  refine nt ?_
  refine cd (fun hc5 : ((idxV key).2) = true => ?_) (fun hc5 => ?_)
  ·refine sr ?_
   refine L (lds 2 ?_)
   refine os 2 ?_
   refine L (cl (rz_Elem hR (w := w) hw ((idxV key).1)) ?_)
   rintro _ _ rfl
   refine os 5 ?_
   refine kp [11, 10, 28, 9, 8, 16, 14, 7, 6, 3, 0, 1, 2] ?_
   refine nq ?_
   refine sr ?_
   refine os 2 ?_
   refine nt ?_
   refine cd (fun hc6 : (!((elemQ R.pub w ((idxV key).1)).2)) = true => ?_) (fun hc6 => ?_)
   ·replace hc6 := bnot_t hc6
    refine sr ?_
    refine oV (.agg #[.int .u64 0, .int .u64 0, .int .i64 0]) ?_
    refine L (st [.int .u64 0, .int .u64 0, .int .i64 0] ?_)
    refine os 1 ?_
    refine nt ?_
    refine Qi (Qm (Qm ?_))
    refine body_endC [.agg #[.int .u64 0, .int .u64 0, .int .i64 0], .bool false] (fun _ => (.cons ⟨b2, 0, rfl, .inl ⟨[.int .u64 0, .int .u64 0, .int .i64 0], by kernel_rfl, (Qb (Cell.own Qe rfl) (Qb (Cell.own Qe rfl) (Qb (Cell.own Qe rfl) Qo))), rfl⟩⟩ (.cons rfl .nil))) ?_
    exact ⟨(), ow, by first | (rw [ownQ_len (by assumption) (by assumption)]; rfl) | (rw [own_elem (by assumption) (by assumption) (by assumption), if_pos (by assumption)]; rfl) | (rw [own_elem (by assumption) (by assumption) (by assumption), if_neg (by simp [*])]; rfl) | (rw [own_get (by assumption) (by assumption) (by assumption)]; exact (descR_eq _).symm) | (rw [ownQ_plain (by assumption)]; exact (descR_eq _).symm)⟩
   replace hc6 := bnot_f hc6
   refine Ql (Qj ?_)
   refine sr ?_
   refine os 1 ?_
   refine oV (.agg #[.int .u64 ((elemQ R.pub w ((idxV key).1)).1), .int .u64 18445336698825998336, .int .i64 7]) ?_
   refine L (st [.int .u64 ((elemQ R.pub w ((idxV key).1)).1), .int .u64 18445336698825998336, .int .i64 7] ?_)
   refine os 1 ?_
   refine kp [7, 37, 11, 10, 28, 9, 8, 16, 14, 6, 3, 0, 1, 2] ?_
   refine nt ?_
   refine Qi (Qm ?_)
   refine body_endC [.agg #[.int .u64 ((elemQ R.pub w ((idxV key).1)).1), .int .u64 18445336698825998336, .int .i64 7], .bool true] (fun _ => (.cons ⟨b2, 0, rfl, .inl ⟨[.int .u64 ((elemQ R.pub w ((idxV key).1)).1), .int .u64 18445336698825998336, .int .i64 7], by kernel_rfl, (Qb (Cell.own Qe rfl) (Qb (Cell.own Qe rfl) (Qb (Cell.own Qe rfl) Qo))), rfl⟩⟩ (.cons rfl .nil))) ?_
   exact ⟨(), ow, by first | (rw [ownQ_len (by assumption) (by assumption)]; rfl) | (rw [own_elem (by assumption) (by assumption) (by assumption), if_pos (by assumption)]; rfl) | (rw [own_elem (by assumption) (by assumption) (by assumption), if_neg (by simp [*])]; rfl) | (rw [own_get (by assumption) (by assumption) (by assumption)]; exact (descR_eq _).symm) | (rw [ownQ_plain (by assumption)]; exact (descR_eq _).symm)⟩
  refine Ql (Qj ?_)
  refine sr ?_
  refine L (lds 2 ?_)
  refine os 2 ?_
  refine L (cl (rz_Get hR hL (w := w) hw key) ?_)
  rintro v6 _ hv6
  obtain rfl : v6 = .tuple #[.agg #[.int .u64 ((descG (getQ R.pub w key)).1), .int .u64 ((descG (getQ R.pub w key)).2.1), .int .i64 ((descG (getQ R.pub w key)).2.2)], .bool ((getQ R.pub w key).isSome)] := hv6.trans (descR_eq _)
  refine os 2 ?_
  refine L (st [.int .u64 ((descG (getQ R.pub w key)).1), .int .u64 ((descG (getQ R.pub w key)).2.1), .int .i64 ((descG (getQ R.pub w key)).2.2)] ?_)
  refine os 1 ?_
  refine kp [7, 28, 9, 8, 16, 14, 6, 3, 0, 1, 2] ?_
  refine nt ?_
  refine Qi ?_
  refine body_endC [.agg #[.int .u64 ((descG (getQ R.pub w key)).1), .int .u64 ((descG (getQ R.pub w key)).2.1), .int .i64 ((descG (getQ R.pub w key)).2.2)], .bool ((getQ R.pub w key).isSome)] (fun _ => (.cons ⟨b2, 0, rfl, .inl ⟨[.int .u64 ((descG (getQ R.pub w key)).1), .int .u64 ((descG (getQ R.pub w key)).2.1), .int .i64 ((descG (getQ R.pub w key)).2.2)], by kernel_rfl, (Qb (Cell.own Qe rfl) (Qb (Cell.own Qe rfl) (Qb (Cell.own Qe rfl) Qo))), rfl⟩⟩ (.cons rfl .nil))) ?_
  exact ⟨(), ow, by first | (rw [ownQ_len (by assumption) (by assumption)]; rfl) | (rw [own_elem (by assumption) (by assumption) (by assumption), if_pos (by assumption)]; rfl) | (rw [own_elem (by assumption) (by assumption) (by assumption), if_neg (by simp [*])]; rfl) | (rw [own_get (by assumption) (by assumption) (by assumption)]; exact (descR_eq _).symm) | (rw [ownQ_plain (by assumption)]; exact (descR_eq _).symm)⟩
 refine Ql (Qj ?_)
 refine sr ?_
 refine L (lds 2 ?_)
 refine os 2 ?_
 refine L (cl (rz_Get hR hL (w := w) hw key) ?_)
 rintro v7 _ hv7
 obtain rfl : v7 = .tuple #[.agg #[.int .u64 ((descG (getQ R.pub w key)).1), .int .u64 ((descG (getQ R.pub w key)).2.1), .int .i64 ((descG (getQ R.pub w key)).2.2)], .bool ((getQ R.pub w key).isSome)] := hv7.trans (descR_eq _)
 refine os 2 ?_
 refine kp [46, 45, 14, 7, 6, 3, 0, 1, 2] ?_
 refine L (st [.int .u64 ((descG (getQ R.pub w key)).1), .int .u64 ((descG (getQ R.pub w key)).2.1), .int .i64 ((descG (getQ R.pub w key)).2.2)] ?_)
 refine os 1 ?_
 refine nt ?_
 refine Qi ?_
 refine body_endC [.agg #[.int .u64 ((descG (getQ R.pub w key)).1), .int .u64 ((descG (getQ R.pub w key)).2.1), .int .i64 ((descG (getQ R.pub w key)).2.2)], .bool ((getQ R.pub w key).isSome)] (fun _ => (.cons ⟨b2, 0, rfl, .inl ⟨[.int .u64 ((descG (getQ R.pub w key)).1), .int .u64 ((descG (getQ R.pub w key)).2.1), .int .i64 ((descG (getQ R.pub w key)).2.2)], by kernel_rfl, (Qb (Cell.own Qe rfl) (Qb (Cell.own Qe rfl) (Qb (Cell.own Qe rfl) Qo))), rfl⟩⟩ (.cons rfl .nil))) ?_
 exact ⟨(), ow, by first | (rw [ownQ_len (by assumption) (by assumption)]; rfl) | (rw [own_elem (by assumption) (by assumption) (by assumption), if_pos (by assumption)]; rfl) | (rw [own_elem (by assumption) (by assumption) (by assumption), if_neg (by simp [*])]; rfl) | (rw [own_get (by assumption) (by assumption) (by assumption)]; exact (descR_eq _).symm) | (rw [ownQ_plain (by assumption)]; exact (descR_eq _).symm)⟩

end Go.Proofs.YthflblophelioaaGreatDoor
namespace Go.Proofs.YthflblophelioaaGreatDoor
open Go.Sl

theorem rz_Lookup {W0 : World} {k : Nat} {R : RSt} (hR : R.ok) (hL : LOk k R.pub) {w : Int} (hw : wordOk w) (key : ByteArray) (hE : Ends R.pub w) (hP : protosOk R.pub) : SC Tryz.prog W0 42 #[R.val, .int .u64 w, .string key] (RSt.ent R) (Ret (fun _ : Unit => RSt.ent R) (fun v _ => v = .tuple #[.int .u64 (lookV (lookQ R.pub w key)).1, descV (lookV (lookQ R.pub w key)).2, .bool (lookQ R.pub w key).isSome])) := by
 have hlp : R.pub.length = R.objs.length := RSt.pub_len R
 have hln := hL.len
 refine SC_body (fn := Tryz.f42) (n := 39) Tryz.func42 rfl (by kernel_rfl) (ρ := [(0, .agg #[Gs.val R.s R.objs.length, Gs.val R.ts R.texts.length]), (1, .int .u64 w), (2, .string key)]) rfl ?_
 refine SW_sig ((RSt.ent R) ++ ([])) (by simp only [List.append_nil, List.append_assoc]) ?_
 refine sr ?_
 refine L (nw 28 2 [Gs.val R.s R.objs.length, Gs.val R.ts R.texts.length] ?_)
 intro b1
 refine os 1 ?_
 refine L (nw 45 3 [.int .u64 0, .int .u64 0, .int .i64 0] ?_)
 intro b2
 refine os 1 ?_
 refine nq ?_
 refine sr ?_
 refine os 1 ?_
 refine nt ?_
 refine SW_block ?_
 refine SW_loop (α := Nat) (fun z_ ρ_ σ_ => Fits ρ_ σ_ [(2, .string key), (3, pt b1 0), (6, .int .u64 0), (7, pt b2 0), (8, .bool false), (1, .int .u64 (upN R.pub w z_)), (9, .int .i64 (z_ : Int))] ((b2, .cells 45 3 [.int .u64 0, .int .u64 0, .int .i64 0]) :: ((b1, .cells 28 2 [Gs.val R.s R.objs.length, Gs.val R.ts R.texts.length]) :: ((RSt.ent R) ++ ([])))) ∧ z_ ≤ R.pub.length + 1 ∧ (∀ j, j < z_ → ownQ R.pub (upN R.pub w j) key = none)) (fun z_ => R.pub.length + 1 - z_) 0 ⟨⟨fun _ => rfl, ow⟩, Nat.zero_le _, fun j hj => absurd hj (Nat.not_lt_zero j)⟩ ?_
 rintro i ρ_ σ_ ⟨hfit, hi0, hi1⟩
 refine SW_fits hfit ?_
 clear hfit
 refine SW_seq ?_
 refine sr ?_
 refine os 2 ?_
 refine L (ld ?_)
 refine os 3 ?_
 refine tbp 17 (fun hg3 => ?_) (fun hg3 => ?_)
 ·replace hg3 : (i : Int) ≤ (R.objs.length : Int) := hg3
  refine L (lds 2 ?_)
  refine os 1 ?_
  refine L (cl (rq_At (R := R) (w := (upN R.pub w i)) (upN_ok hP hw _)) ?_)
  rintro _ _ rfl
  refine un ?_
  refine os 2 ?_
  refine kp [22, 2, 3, 6, 7, 8, 1, 9] ?_
  refine nt ?_
  refine cdp (fun hc4 : (atW R.pub (upN R.pub w i)) ≥ 0 => ?_) (fun hc4 => ?_)
  ·refine Ql (Qj ?_)
   refine SW_seq ?_
   refine SW_block ?_
   refine sr ?_
   refine L (lds 2 ?_)
   refine os 2 ?_
   refine L (cl (rz_Own hR hL (w := (upN R.pub w i)) (upN_ok hP hw _) key) ?_)
   rintro v2 _ hv2
   obtain rfl : v2 = .tuple #[.agg #[.int .u64 ((descG (ownQ R.pub (upN R.pub w i) key)).1), .int .u64 ((descG (ownQ R.pub (upN R.pub w i) key)).2.1), .int .i64 ((descG (ownQ R.pub (upN R.pub w i) key)).2.2)], .bool ((ownQ R.pub (upN R.pub w i) key).isSome)] := hv2.trans (descR_eq _)
   refine os 3 ?_
   refine L (nw 45 3 [.int .u64 0, .int .u64 0, .int .i64 0] ?_)
   intro b5
   refine L (st [.int .u64 ((descG (ownQ R.pub (upN R.pub w i) key)).1), .int .u64 ((descG (ownQ R.pub (upN R.pub w i) key)).2.1), .int .i64 ((descG (ownQ R.pub (upN R.pub w i) key)).2.2)] ?_)
   refine os 1 ?_
   refine kp [11, 10, 22, 2, 3, 6, 7, 8, 1, 9] ?_
   refine nq ?_
   refine sr ?_
   refine os 1 ?_
   refine nt ?_
   refine cd (fun hc6 : ((ownQ R.pub (upN R.pub w i) key).isSome) = true => ?_) (fun hc6 => ?_)
   ·refine SW_seq ?_
    refine SW_draw [(b5, 0, .int .u64 ((descG (ownQ R.pub (upN R.pub w i) key)).1)), (b5, 1, .int .u64 ((descG (ownQ R.pub (upN R.pub w i) key)).2.1)), (b5, 2, .int .i64 ((descG (ownQ R.pub (upN R.pub w i) key)).2.2))] [0, 2] (by kernel_rfl) (Qf (Cell.own Qe rfl) (Qf (Cell.own Qe rfl) (Qf (Cell.own Qe rfl) rd_nil))) ?_
    refine aS 0 ?_
    refine tr 1 (.agg #[.int .u64 ((descG (ownQ R.pub (upN R.pub w i) key)).1), .int .u64 ((descG (ownQ R.pub (upN R.pub w i) key)).2.1), .int .i64 ((descG (ownQ R.pub (upN R.pub w i) key)).2.2)]) ?_ (hy := fun δ w_ hr => Rd_loads b5 0 [.int .u64 ((descG (ownQ R.pub (upN R.pub w i) key)).1), .int .u64 ((descG (ownQ R.pub (upN R.pub w i) key)).2.1), .int .i64 ((descG (ownQ R.pub (upN R.pub w i) key)).2.2)] rfl (by kernel_rfl) (rdm_cons List.mem_cons_self (rdm_cons (List.mem_cons_of_mem _ List.mem_cons_self) (rdm_cons (List.mem_cons_of_mem _ (List.mem_cons_of_mem _ List.mem_cons_self)) rdm_nil))) hr)
    refine aS 2 ?_
    refine sa1 false 3 (h := st [.int .u64 ((descG (ownQ R.pub (upN R.pub w i) key)).1), .int .u64 ((descG (ownQ R.pub (upN R.pub w i) key)).2.1), .int .i64 ((descG (ownQ R.pub (upN R.pub w i) key)).2.2)] ?_)
    refine ⟨fun hnd => (by cases hnd), ?_⟩
    refine aS 4 ?_
    refine SA_done (by kernel_rfl) (Qj ?_)
    refine Qi (Qm (r_in (Qm (Qm (r_in (Qm ?_))))))
    refine body_endC [.int .u64 (upN R.pub w i), .agg #[.int .u64 ((descG (ownQ R.pub (upN R.pub w i) key)).1), .int .u64 ((descG (ownQ R.pub (upN R.pub w i) key)).2.1), .int .i64 ((descG (ownQ R.pub (upN R.pub w i) key)).2.2)], .bool true] (fun _ => (.cons rfl (.cons ⟨b2, 0, rfl, .inl ⟨[.int .u64 ((descG (ownQ R.pub (upN R.pub w i) key)).1), .int .u64 ((descG (ownQ R.pub (upN R.pub w i) key)).2.1), .int .i64 ((descG (ownQ R.pub (upN R.pub w i) key)).2.2)], by kernel_rfl, (Qb (Cell.own Qe rfl) (Qb (Cell.own Qe rfl) (Qb (Cell.own Qe rfl) Qo))), rfl⟩⟩ (.cons rfl .nil)))) ?_
    have hlt : i < R.pub.length := by
      apply Classical.byContradiction
      intro z_
      have y_ : i = R.pub.length := by omega
      have u_ := atW_neg.2 hE.bound
      rw [← y_] at u_
      omega
    exact ⟨(), ow, by rw [look_hit (i := i) hlt hi1 (some_of (by assumption))] <;> rfl⟩
   refine Ql (Qj ?_)
   refine Qn ?_
   refine L (lds 2 ?_)
   refine os 1 ?_
   refine L (cl (rf_ProtoW hR (w := (upN R.pub w i)) (upN_ok hP hw _)) ?_)
   rintro _ _ rfl
   refine os 1 ?_
   refine kp [1, 32, 11, 10, 22, 2, 3, 6, 7, 8, 9] ?_
   refine SL_nil (n_in (Qj ?_))
   refine Qn ?_
   refine os 3 ?_
   refine nt ?_
   exact ⟨i + 1, by omega, ⟨fun _ => rfl, ow⟩, by omega, fun j hj => by by_cases q_ : j = i; (subst q_; exact none_of (by assumption)); exact hi1 j (by omega)⟩
  refine SW_exit (x_then (x_then (x_in (Qj ?_))))
  refine sr ?_
  refine oV (.agg #[.int .u64 0, .int .u64 0, .int .i64 0]) ?_
  refine os 1 ?_
  refine L (st [.int .u64 0, .int .u64 0, .int .i64 0] ?_)
  refine os 1 ?_
  refine nt ?_
  refine Qi ?_
  refine body_endC [.int .u64 18445336698825998336, .agg #[.int .u64 0, .int .u64 0, .int .i64 0], .bool false] (fun _ => (.cons rfl (.cons ⟨b2, 0, rfl, .inl ⟨[.int .u64 0, .int .u64 0, .int .i64 0], by kernel_rfl, (Qb (Cell.own Qe rfl) (Qb (Cell.own Qe rfl) (Qb (Cell.own Qe rfl) Qo))), rfl⟩⟩ (.cons rfl .nil)))) ?_
  exact ⟨(), ow, by rw [look_out (i := if i ≤ R.pub.length then i else R.pub.length) (by split <;> omega) (fun j hj => hi1 j (by split at hj <;> omega)) (.inr (by rw [if_pos (by omega)]; exact atW_neg.1 (by omega)))] <;> rfl⟩
 replace hg3 : ¬ ((i : Int) ≤ (R.objs.length : Int)) := hg3
 refine os 5 ?_
 refine kp [22, 2, 3, 6, 7, 8, 1, 9] ?_
 refine nt ?_
 refine cf ?_
 refine SW_exit (x_then (x_then (x_in (Qj ?_))))
 refine sr ?_
 refine oV (.agg #[.int .u64 0, .int .u64 0, .int .i64 0]) ?_
 refine os 1 ?_
 refine L (st [.int .u64 0, .int .u64 0, .int .i64 0] ?_)
 refine os 1 ?_
 refine nt ?_
 refine Qi ?_
 refine body_endC [.int .u64 18445336698825998336, .agg #[.int .u64 0, .int .u64 0, .int .i64 0], .bool false] (fun _ => (.cons rfl (.cons ⟨b2, 0, rfl, .inl ⟨[.int .u64 0, .int .u64 0, .int .i64 0], by kernel_rfl, (Qb (Cell.own Qe rfl) (Qb (Cell.own Qe rfl) (Qb (Cell.own Qe rfl) Qo))), rfl⟩⟩ (.cons rfl .nil)))) ?_
 exact ⟨(), ow, by rw [look_out (i := R.pub.length) (Nat.le_refl _) (fun j hj => hi1 j (by omega)) (.inl rfl)] <;> rfl⟩

end Go.Proofs.YthflblophelioaaGreatDoor
namespace Go.Proofs.YthflblophelioaaGreatDoor
open Go.Sl

theorem rf_has {W0 : World} (x : WishP) (b : Int) : SC Tryz.prog W0 69 #[.agg #[.int .i64 x.has, .int .u64 x.value, .int .u64 x.get, .int .u64 x.set, .int .i64 x.flags], .int .i64 b] [] (Ret (fun _ : Unit => []) (fun v _ => v = .bool (hasR x b))) := by
 refine SC_body (fn := Tryz.f69) (n := 10) Tryz.func69 rfl (by kernel_rfl) (ρ := [(0, .agg #[.int .i64 x.has, .int .u64 x.value, .int .u64 x.get, .int .u64 x.set, .int .i64 x.flags]), (1, .int .i64 b)]) rfl ?_
 refine sr ?_
 refine L (nw 35 5 [.int .i64 x.has, .int .u64 x.value, .int .u64 x.get, .int .u64 x.set, .int .i64 x.flags] ?_)
 intro b1
 refine os 1 ?_
 refine nsr ?_
 refine os 1 ?_
 refine L (ld ?_)
 refine os 1 ?_
 refine oV (.int .i64 (band x.has b)) ?_
 refine os 2 ?_
 refine kp [4, 2, 0, 1] ?_
 refine nt ?_
 refine Qi ?_
 refine Qg (.bool ((band x.has b) != 0)) (fun _ => rfl) ?_
 exact ⟨(), ⟨_, List.Perm.refl _⟩, rfl⟩

theorem rf_flag {W0 : World} (f : Int) (x : WishP) (b c : Int) : SC Tryz.prog W0 102 #[.int .i64 f, .agg #[.int .i64 x.has, .int .u64 x.value, .int .u64 x.get, .int .u64 x.set, .int .i64 x.flags], .int .i64 b, .int .i64 c] [] (Ret (fun _ : Unit => []) (fun v _ => v = .int .i64 (flagR f x b c))) := by
 refine SC_body (fn := Tryz.f102) (n := 19) Tryz.func102 rfl (by kernel_rfl) (ρ := [(0, .int .i64 f), (1, .agg #[.int .i64 x.has, .int .u64 x.value, .int .u64 x.get, .int .u64 x.set, .int .i64 x.flags]), (2, .int .i64 b), (3, .int .i64 c)]) rfl ?_
 refine sr ?_
 refine L (nw 35 5 [.int .i64 x.has, .int .u64 x.value, .int .u64 x.get, .int .u64 x.set, .int .i64 x.flags] ?_)
 intro b1
 refine os 1 ?_
 refine nq ?_
 refine sr ?_
 refine L (lds 5 ?_)
 refine os 1 ?_
 refine L (cl (rf_has x b) ?_)
 rintro _ _ rfl
 refine un ?_
 refine nt ?_
 refine cd (fun hc2 : ((hasR x b)) = true => ?_) (fun hc2 => ?_)
 ·refine sr ?_
  refine os 1 ?_
  refine L (ld ?_)
  refine os 1 ?_
  refine oV (.int .i64 (band x.flags c)) ?_
  refine os 1 ?_
  refine kp [8, 11, 5, 0, 1, 2, 3] ?_
  refine nt ?_
  refine Qi (Qm ?_)
  refine Qg (.int .i64 (band x.flags c)) (fun _ => rfl) ?_
  exact ⟨(), ⟨_, List.Perm.refl _⟩, by unfold flagR; first | rw [if_pos (by assumption)] | rw [ite_ff (by assumption)]⟩
 refine Ql (Qj ?_)
 refine sr ?_
 refine os 2 ?_
 refine oV (.int .i64 (band f c)) ?_
 refine os 1 ?_
 refine kp [8, 11, 5, 0, 1, 2, 3] ?_
 refine nt ?_
 refine Qi ?_
 refine Qg (.int .i64 (band f c)) (fun _ => rfl) ?_
 exact ⟨(), ⟨_, List.Perm.refl _⟩, by unfold flagR; first | rw [if_pos (by assumption)] | rw [ite_ff (by assumption)]⟩

end Go.Proofs.YthflblophelioaaGreatDoor
namespace Go.Proofs.YthflblophelioaaGreatDoor
open Go.Sl

theorem rf_Wished {W0 : World} (d : DescP) (x : WishP) : SC Tryz.prog W0 70 #[.agg #[.int .u64 d.1, .int .u64 d.2.1, .int .i64 d.2.2], .agg #[.int .i64 x.has, .int .u64 x.value, .int .u64 x.get, .int .u64 x.set, .int .i64 x.flags]] [] (Ret (fun _ : Unit => []) (fun v _ => v = descV (wishR d x))) := by
 obtain ⟨p, hp⟩ : ∃ z : DescP, z = if (band d.2.2 8 != 0) = true then d else (undefW, undefW, 0) := ⟨_, rfl⟩
 obtain ⟨v1, hv1⟩ : ∃ z, z = if hasR x 16 = true then x.get else p.1 := ⟨_, rfl⟩
 obtain ⟨g1, hg1⟩ : ∃ z, z = bor (bor 8 (flagR d.2.2 x 4 2)) (flagR d.2.2 x 8 4) := ⟨_, rfl⟩
 obtain ⟨q, hq⟩ : ∃ z : DescP, z = if (band d.2.2 8 != 0) = true ∧ (hasR x 1 || hasR x 2) = true then (undefW, undefW, band d.2.2 6) else d := ⟨_, rfl⟩
 obtain ⟨g2, hg2⟩ : ∃ z, z = bor (bor (bor (band q.2.2 8) (flagR q.2.2 x 2 1)) (flagR d.2.2 x 4 2)) (flagR d.2.2 x 8 4) := ⟨_, rfl⟩
 obtain ⟨g3, hg3⟩ : ∃ z, z = if (band q.2.2 8 != 0) = true then bor g2 8 else g2 := ⟨_, rfl⟩
 refine SC_body (fn := Tryz.f70) (n := 90) Tryz.func70 rfl (by kernel_rfl) (ρ := [(0, .agg #[.int .u64 d.1, .int .u64 d.2.1, .int .i64 d.2.2]), (1, .agg #[.int .i64 x.has, .int .u64 x.value, .int .u64 x.get, .int .u64 x.set, .int .i64 x.flags])]) rfl ?_
 refine sr ?_
 refine L (nw 45 3 [.int .u64 d.1, .int .u64 d.2.1, .int .i64 d.2.2] ?_)
 intro b1
 refine L (nw 35 5 [.int .i64 x.has, .int .u64 x.value, .int .u64 x.get, .int .u64 x.set, .int .i64 x.flags] ?_)
 intro b2
 refine L (nw 45 3 [.int .u64 0, .int .u64 0, .int .i64 0] ?_)
 intro b3
 refine nsr ?_
 refine os 1 ?_
 refine L (ld ?_)
 refine oV (.int .i64 (band d.2.2 8)) ?_
 refine os 2 ?_
 refine kp [5, 4, 3, 2, 0, 1] ?_
 refine nq ?_
 refine sr ?_
 refine L (lds 5 ?_)
 refine L (cl (rf_has x 16) ?_)
 rintro _ _ rfl
 refine un ?_
 refine os 1 ?_
 refine tb 15 (fun hg4 => ?_) (fun hg4 => ?_)
 ·replace hg4 : (hasR x 16) = true := hg4
  refine os 3 ?_
  refine kp [18, 5, 4, 3, 2, 0, 1] ?_
  refine nt ?_
  refine ct ?_
  refine sr ?_
  refine oV (.agg #[.int .u64 18445336698825998336, .int .u64 18445336698825998336, .int .i64 0]) ?_
  refine L (nw 45 3 [.int .u64 0, .int .u64 0, .int .i64 0] ?_)
  intro b5
  refine L (st [.int .u64 18445336698825998336, .int .u64 18445336698825998336, .int .i64 0] ?_)
  refine nq ?_
  refine sr ?_
  refine os 1 ?_
  refine nt ?_
  refine SW_cut (fun ρ_ σ_ => Fits ρ_ σ_ [(6, pt b5 0), (4, pt b3 0), (3, pt b2 0), (2, pt b1 0)] ((b5, .cells 45 3 [.int .u64 p.1, .int .u64 p.2.1, .int .i64 p.2.2]) :: ((b3, .cells 45 3 [.int .u64 0, .int .u64 0, .int .i64 0]) :: ((b2, .cells 35 5 [.int .i64 x.has, .int .u64 x.value, .int .u64 x.get, .int .u64 x.set, .int .i64 x.flags]) :: ((b1, .cells 45 3 [.int .u64 d.1, .int .u64 d.2.1, .int .i64 d.2.2]) :: ([])))))) ?_ ?_
  ·refine cd (fun hc6 : ((band d.2.2 8) != 0) = true => ?_) (fun hc6 => ?_)
   ·refine Qn ?_
    refine L (lds 3 ?_)
    refine L (st [.int .u64 d.1, .int .u64 d.2.1, .int .i64 d.2.2] ?_)
    refine nt ?_
    have en : p = (d.1, d.2.1, d.2.2) := hp.trans (by first | exact if_pos (by assumption) | exact if_pos ⟨by assumption, by simp [*]⟩ | exact ite_ff (by assumption) | exact ite_f1 (by assumption) | exact ite_f2 (by simp [*]))
    rw [en]
    exact ⟨fun _ => rfl, ow⟩
   refine Ql (Qj ?_)
   have en : p = (18445336698825998336, 18445336698825998336, 0) := hp.trans (by first | exact if_pos (by assumption) | exact if_pos ⟨by assumption, by simp [*]⟩ | exact ite_ff (by assumption) | exact ite_f1 (by assumption) | exact ite_f2 (by simp [*]))
   rw [en]
   exact ⟨fun _ => rfl, ow⟩
  ·rintro ρ_ σ_ hfit
   refine SW_fits hfit ?_
   clear hfit
   refine SW_seq ?_
   refine SW_draw [(b1, 2, .int .i64 d.2.2), (b2, 0, .int .i64 x.has), (b2, 1, .int .u64 x.value), (b2, 2, .int .u64 x.get), (b2, 3, .int .u64 x.set), (b2, 4, .int .i64 x.flags), (b1, 2, .int .i64 d.2.2), (b2, 0, .int .i64 x.has), (b2, 1, .int .u64 x.value), (b2, 2, .int .u64 x.get), (b2, 3, .int .u64 x.set), (b2, 4, .int .i64 x.flags)] [0, 1, 2, 3, 4, 5, 6, 7] (by kernel_rfl) (Qf (Cell.own (Qc (Qc (Qc Qe))) rfl) (Qf (Cell.own (Qc (Qc Qe)) rfl) (Qf (Cell.own (Qc (Qc Qe)) rfl) (Qf (Cell.own (Qc (Qc Qe)) rfl) (Qf (Cell.own (Qc (Qc Qe)) rfl) (Qf (Cell.own (Qc (Qc Qe)) rfl) (Qf (Cell.own (Qc (Qc (Qc Qe))) rfl) (Qf (Cell.own (Qc (Qc Qe)) rfl) (Qf (Cell.own (Qc (Qc Qe)) rfl) (Qf (Cell.own (Qc (Qc Qe)) rfl) (Qf (Cell.own (Qc (Qc Qe)) rfl) (Qf (Cell.own (Qc (Qc Qe)) rfl) rd_nil)))))))))))) ?_
   refine aF 0 ?_
   refine aL 1 ?_
   refine tr 2 (.agg #[.int .i64 x.has, .int .u64 x.value, .int .u64 x.get, .int .u64 x.set, .int .i64 x.flags]) ?_ (hy := fun δ w_ hr => Rd_loads b2 0 [.int .i64 x.has, .int .u64 x.value, .int .u64 x.get, .int .u64 x.set, .int .i64 x.flags] rfl (by kernel_rfl) (rdm_cons (List.mem_cons_of_mem _ List.mem_cons_self) (rdm_cons (List.mem_cons_of_mem _ (List.mem_cons_of_mem _ List.mem_cons_self)) (rdm_cons (List.mem_cons_of_mem _ (List.mem_cons_of_mem _ (List.mem_cons_of_mem _ List.mem_cons_self))) (rdm_cons (List.mem_cons_of_mem _ (List.mem_cons_of_mem _ (List.mem_cons_of_mem _ (List.mem_cons_of_mem _ List.mem_cons_self)))) (rdm_cons (List.mem_cons_of_mem _ (List.mem_cons_of_mem _ (List.mem_cons_of_mem _ (List.mem_cons_of_mem _ (List.mem_cons_of_mem _ List.mem_cons_self))))) rdm_nil))))) hr)
   refine aF 5 ?_
   refine aL 6 ?_
   refine tr 7 (.agg #[.int .i64 x.has, .int .u64 x.value, .int .u64 x.get, .int .u64 x.set, .int .i64 x.flags]) ?_ (hy := fun δ w_ hr => Rd_loads b2 0 [.int .i64 x.has, .int .u64 x.value, .int .u64 x.get, .int .u64 x.set, .int .i64 x.flags] rfl (by kernel_rfl) (rdm_cons (List.mem_cons_of_mem _ List.mem_cons_self) (rdm_cons (List.mem_cons_of_mem _ (List.mem_cons_of_mem _ List.mem_cons_self)) (rdm_cons (List.mem_cons_of_mem _ (List.mem_cons_of_mem _ (List.mem_cons_of_mem _ List.mem_cons_self))) (rdm_cons (List.mem_cons_of_mem _ (List.mem_cons_of_mem _ (List.mem_cons_of_mem _ (List.mem_cons_of_mem _ List.mem_cons_self)))) (rdm_cons (List.mem_cons_of_mem _ (List.mem_cons_of_mem _ (List.mem_cons_of_mem _ (List.mem_cons_of_mem _ (List.mem_cons_of_mem _ List.mem_cons_self))))) rdm_nil))))) hr)
   refine sa1 true 3 (h := cl (rf_flag d.2.2 x 4 2) ?_)
   rintro _ _ rfl
   try simp only [List.cons_append, List.append_assoc, List.nil_append]
   refine ⟨fun hnd => (Qf (Cell.own (Qc (Qc (Qc Qe))) rfl) (Qf (Cell.own (Qc (Qc Qe)) rfl) (Qf (Cell.own (Qc (Qc Qe)) rfl) (Qf (Cell.own (Qc (Qc Qe)) rfl) (Qf (Cell.own (Qc (Qc Qe)) rfl) (Qf (Cell.own (Qc (Qc Qe)) rfl) (Qf (Cell.own (Qc (Qc (Qc Qe))) rfl) (Qf (Cell.own (Qc (Qc Qe)) rfl) (Qf (Cell.own (Qc (Qc Qe)) rfl) (Qf (Cell.own (Qc (Qc Qe)) rfl) (Qf (Cell.own (Qc (Qc Qe)) rfl) (Qf (Cell.own (Qc (Qc Qe)) rfl) rd_nil)))))))))))), ?_⟩
   refine tk 4 (.int .i64 (bor 8 (flagR d.2.2 x 4 2))) ?_
   refine sa1 false 8 (h := cl (rf_flag d.2.2 x 8 4) ?_)
   rintro _ _ rfl
   try simp only [List.cons_append, List.append_assoc, List.nil_append]
   refine ⟨fun hnd => (by cases hnd), ?_⟩
   refine tk 9 (.int .i64 (bor (bor 8 (flagR d.2.2 x 4 2)) (flagR d.2.2 x 8 4))) ?_
   refine kpA [31, 6, 4, 3, 2] ?_
   refine aF 10 ?_
   refine sa1 false 11 (h := st [.int .u64 p.1, .int .u64 p.2.1, .int .i64 (bor (bor 8 (flagR d.2.2 x 4 2)) (flagR d.2.2 x 8 4))] ?_)
   refine ⟨fun hnd => (by cases hnd), ?_⟩
   refine SA_done (by kernel_rfl) (Qj ?_)
   refine SW_seq ?_
   refine SW_seq ?_
   refine SW_sig ((b5, .cells 45 3 [.int .u64 p.1, .int .u64 p.2.1, .int .i64 g1]) :: ((b3, .cells 45 3 [.int .u64 0, .int .u64 0, .int .i64 0]) :: ((b2, .cells 35 5 [.int .i64 x.has, .int .u64 x.value, .int .u64 x.get, .int .u64 x.set, .int .i64 x.flags]) :: ((b1, .cells 45 3 [.int .u64 d.1, .int .u64 d.2.1, .int .i64 d.2.2]) :: ([]))))) (by rw [show g1 = bor (bor 8 (flagR d.2.2 x 4 2)) (flagR d.2.2 x 8 4) from hg1]) ?_
   refine Qn ?_
   refine L (lds 5 ?_)
   refine L (cl (rf_has x 16) ?_)
   rintro _ _ rfl
   refine un ?_
   refine nt ?_
   refine SW_cut (fun ρ_ σ_ => Fits ρ_ σ_ [(6, pt b5 0), (4, pt b3 0), (3, pt b2 0), (2, pt b1 0)] ((b5, .cells 45 3 [.int .u64 v1, .int .u64 p.2.1, .int .i64 g1]) :: ((b3, .cells 45 3 [.int .u64 0, .int .u64 0, .int .i64 0]) :: ((b2, .cells 35 5 [.int .i64 x.has, .int .u64 x.value, .int .u64 x.get, .int .u64 x.set, .int .i64 x.flags]) :: ((b1, .cells 45 3 [.int .u64 d.1, .int .u64 d.2.1, .int .i64 d.2.2]) :: ([])))))) ?_ ?_
   ·refine SW_true (fun _ => (congrArg Value.bool (show (hasR x 16) = true from (by assumption)))) ?_
    refine Qn ?_
    refine os 1 ?_
    refine L (ld ?_)
    refine os 1 ?_
    refine L (st [.int .u64 x.get, .int .u64 p.2.1, .int .i64 g1] ?_)
    refine nt ?_
    have en : v1 = x.get := hv1.trans (by first | exact if_pos (by assumption) | exact ite_ff (by assumption))
    rw [en]
    exact ⟨fun _ => rfl, ow⟩
   ·rintro ρ_ σ_ hfit
    refine SW_fits hfit ?_
    clear hfit
    refine SW_seq ?_
    refine sr ?_
    refine L (lds 5 ?_)
    refine L (cl (rf_has x 32) ?_)
    rintro _ _ rfl
    refine un ?_
    refine nt ?_
    refine cd (fun hc7 : ((hasR x 32)) = true => ?_) (fun hc7 => ?_)
    ·refine Qn ?_
     refine os 1 ?_
     refine L (ld ?_)
     refine os 1 ?_
     refine L (st [.int .u64 v1, .int .u64 x.set, .int .i64 g1] ?_)
     refine nsr ?_
     refine L (lds 3 ?_)
     refine L (st [.int .u64 v1, .int .u64 x.set, .int .i64 g1] ?_)
     refine nt ?_
     refine Qi (Qm ?_)
     refine body_endC [.agg #[.int .u64 v1, .int .u64 x.set, .int .i64 g1]] (fun _ => (.cons ⟨b3, 0, rfl, .inl ⟨[.int .u64 v1, .int .u64 x.set, .int .i64 g1], by kernel_rfl, (Qb (Cell.own Qe rfl) (Qb (Cell.own Qe rfl) (Qb (Cell.own Qe rfl) Qo))), rfl⟩⟩ .nil)) ?_
     have ha : (hasR x 16 || hasR x 32) = true := by simp [*]
     have hv2 : wishR d x = (v1, if hasR x 32 = true then x.set else p.2.1, g1) := by rw [hv1, hg1, hp]; unfold wishR; rw [if_pos ha] <;> rfl
     exact ⟨(), ⟨_, List.Perm.refl _⟩, by rw [hv2]; first | (rw [if_pos (by assumption)] <;> rfl) | (rw [ite_ff (by assumption)] <;> rfl)⟩
    refine Ql (Qj ?_)
    refine sr ?_
    refine L (lds 3 ?_)
    refine L (st [.int .u64 v1, .int .u64 p.2.1, .int .i64 g1] ?_)
    refine nt ?_
    refine Qi (Qm ?_)
    refine body_endC [.agg #[.int .u64 v1, .int .u64 p.2.1, .int .i64 g1]] (fun _ => (.cons ⟨b3, 0, rfl, .inl ⟨[.int .u64 v1, .int .u64 p.2.1, .int .i64 g1], by kernel_rfl, (Qb (Cell.own Qe rfl) (Qb (Cell.own Qe rfl) (Qb (Cell.own Qe rfl) Qo))), rfl⟩⟩ .nil)) ?_
    have ha : (hasR x 16 || hasR x 32) = true := by simp [*]
    have hv2 : wishR d x = (v1, if hasR x 32 = true then x.set else p.2.1, g1) := by rw [hv1, hg1, hp]; unfold wishR; rw [if_pos ha] <;> rfl
    exact ⟨(), ⟨_, List.Perm.refl _⟩, by rw [hv2]; first | (rw [if_pos (by assumption)] <;> rfl) | (rw [ite_ff (by assumption)] <;> rfl)⟩
 replace hg4 : (hasR x 16) = false := hg4
 refine L (lds 5 ?_)
 refine L (cl (rf_has x 32) ?_)
 rintro _ _ rfl
 refine un ?_
 refine os 1 ?_
 refine kp [18, 5, 4, 3, 2, 0, 1] ?_
 refine nt ?_
 refine cd (fun hc8 : ((hasR x 32)) = true => ?_) (fun hc8 => ?_)
 ·refine sr ?_
  refine oV (.agg #[.int .u64 18445336698825998336, .int .u64 18445336698825998336, .int .i64 0]) ?_
  refine L (nw 45 3 [.int .u64 0, .int .u64 0, .int .i64 0] ?_)
  intro b9
  refine L (st [.int .u64 18445336698825998336, .int .u64 18445336698825998336, .int .i64 0] ?_)
  refine nq ?_
  refine sr ?_
  refine os 1 ?_
  refine nt ?_
  refine SW_cut (fun ρ_ σ_ => Fits ρ_ σ_ [(6, pt b9 0), (4, pt b3 0), (3, pt b2 0), (2, pt b1 0)] ((b9, .cells 45 3 [.int .u64 p.1, .int .u64 p.2.1, .int .i64 p.2.2]) :: ((b3, .cells 45 3 [.int .u64 0, .int .u64 0, .int .i64 0]) :: ((b2, .cells 35 5 [.int .i64 x.has, .int .u64 x.value, .int .u64 x.get, .int .u64 x.set, .int .i64 x.flags]) :: ((b1, .cells 45 3 [.int .u64 d.1, .int .u64 d.2.1, .int .i64 d.2.2]) :: ([])))))) ?_ ?_
  ·refine cd (fun hc10 : ((band d.2.2 8) != 0) = true => ?_) (fun hc10 => ?_)
   ·refine Qn ?_
    refine L (lds 3 ?_)
    refine L (st [.int .u64 d.1, .int .u64 d.2.1, .int .i64 d.2.2] ?_)
    refine nt ?_
    have en : p = (d.1, d.2.1, d.2.2) := hp.trans (by first | exact if_pos (by assumption) | exact if_pos ⟨by assumption, by simp [*]⟩ | exact ite_ff (by assumption) | exact ite_f1 (by assumption) | exact ite_f2 (by simp [*]))
    rw [en]
    exact ⟨fun _ => rfl, ow⟩
   refine Ql (Qj ?_)
   have en : p = (18445336698825998336, 18445336698825998336, 0) := hp.trans (by first | exact if_pos (by assumption) | exact if_pos ⟨by assumption, by simp [*]⟩ | exact ite_ff (by assumption) | exact ite_f1 (by assumption) | exact ite_f2 (by simp [*]))
   rw [en]
   exact ⟨fun _ => rfl, ow⟩
  ·rintro ρ_ σ_ hfit
   refine SW_fits hfit ?_
   clear hfit
   refine SW_seq ?_
   refine SW_draw [(b1, 2, .int .i64 d.2.2), (b2, 0, .int .i64 x.has), (b2, 1, .int .u64 x.value), (b2, 2, .int .u64 x.get), (b2, 3, .int .u64 x.set), (b2, 4, .int .i64 x.flags), (b1, 2, .int .i64 d.2.2), (b2, 0, .int .i64 x.has), (b2, 1, .int .u64 x.value), (b2, 2, .int .u64 x.get), (b2, 3, .int .u64 x.set), (b2, 4, .int .i64 x.flags)] [0, 1, 2, 3, 4, 5, 6, 7] (by kernel_rfl) (Qf (Cell.own (Qc (Qc (Qc Qe))) rfl) (Qf (Cell.own (Qc (Qc Qe)) rfl) (Qf (Cell.own (Qc (Qc Qe)) rfl) (Qf (Cell.own (Qc (Qc Qe)) rfl) (Qf (Cell.own (Qc (Qc Qe)) rfl) (Qf (Cell.own (Qc (Qc Qe)) rfl) (Qf (Cell.own (Qc (Qc (Qc Qe))) rfl) (Qf (Cell.own (Qc (Qc Qe)) rfl) (Qf (Cell.own (Qc (Qc Qe)) rfl) (Qf (Cell.own (Qc (Qc Qe)) rfl) (Qf (Cell.own (Qc (Qc Qe)) rfl) (Qf (Cell.own (Qc (Qc Qe)) rfl) rd_nil)))))))))))) ?_
   refine aF 0 ?_
   refine aL 1 ?_
   refine tr 2 (.agg #[.int .i64 x.has, .int .u64 x.value, .int .u64 x.get, .int .u64 x.set, .int .i64 x.flags]) ?_ (hy := fun δ w_ hr => Rd_loads b2 0 [.int .i64 x.has, .int .u64 x.value, .int .u64 x.get, .int .u64 x.set, .int .i64 x.flags] rfl (by kernel_rfl) (rdm_cons (List.mem_cons_of_mem _ List.mem_cons_self) (rdm_cons (List.mem_cons_of_mem _ (List.mem_cons_of_mem _ List.mem_cons_self)) (rdm_cons (List.mem_cons_of_mem _ (List.mem_cons_of_mem _ (List.mem_cons_of_mem _ List.mem_cons_self))) (rdm_cons (List.mem_cons_of_mem _ (List.mem_cons_of_mem _ (List.mem_cons_of_mem _ (List.mem_cons_of_mem _ List.mem_cons_self)))) (rdm_cons (List.mem_cons_of_mem _ (List.mem_cons_of_mem _ (List.mem_cons_of_mem _ (List.mem_cons_of_mem _ (List.mem_cons_of_mem _ List.mem_cons_self))))) rdm_nil))))) hr)
   refine aF 5 ?_
   refine aL 6 ?_
   refine tr 7 (.agg #[.int .i64 x.has, .int .u64 x.value, .int .u64 x.get, .int .u64 x.set, .int .i64 x.flags]) ?_ (hy := fun δ w_ hr => Rd_loads b2 0 [.int .i64 x.has, .int .u64 x.value, .int .u64 x.get, .int .u64 x.set, .int .i64 x.flags] rfl (by kernel_rfl) (rdm_cons (List.mem_cons_of_mem _ List.mem_cons_self) (rdm_cons (List.mem_cons_of_mem _ (List.mem_cons_of_mem _ List.mem_cons_self)) (rdm_cons (List.mem_cons_of_mem _ (List.mem_cons_of_mem _ (List.mem_cons_of_mem _ List.mem_cons_self))) (rdm_cons (List.mem_cons_of_mem _ (List.mem_cons_of_mem _ (List.mem_cons_of_mem _ (List.mem_cons_of_mem _ List.mem_cons_self)))) (rdm_cons (List.mem_cons_of_mem _ (List.mem_cons_of_mem _ (List.mem_cons_of_mem _ (List.mem_cons_of_mem _ (List.mem_cons_of_mem _ List.mem_cons_self))))) rdm_nil))))) hr)
   refine sa1 true 3 (h := cl (rf_flag d.2.2 x 4 2) ?_)
   rintro _ _ rfl
   try simp only [List.cons_append, List.append_assoc, List.nil_append]
   refine ⟨fun hnd => (Qf (Cell.own (Qc (Qc (Qc Qe))) rfl) (Qf (Cell.own (Qc (Qc Qe)) rfl) (Qf (Cell.own (Qc (Qc Qe)) rfl) (Qf (Cell.own (Qc (Qc Qe)) rfl) (Qf (Cell.own (Qc (Qc Qe)) rfl) (Qf (Cell.own (Qc (Qc Qe)) rfl) (Qf (Cell.own (Qc (Qc (Qc Qe))) rfl) (Qf (Cell.own (Qc (Qc Qe)) rfl) (Qf (Cell.own (Qc (Qc Qe)) rfl) (Qf (Cell.own (Qc (Qc Qe)) rfl) (Qf (Cell.own (Qc (Qc Qe)) rfl) (Qf (Cell.own (Qc (Qc Qe)) rfl) rd_nil)))))))))))), ?_⟩
   refine tk 4 (.int .i64 (bor 8 (flagR d.2.2 x 4 2))) ?_
   refine sa1 false 8 (h := cl (rf_flag d.2.2 x 8 4) ?_)
   rintro _ _ rfl
   try simp only [List.cons_append, List.append_assoc, List.nil_append]
   refine ⟨fun hnd => (by cases hnd), ?_⟩
   refine tk 9 (.int .i64 (bor (bor 8 (flagR d.2.2 x 4 2)) (flagR d.2.2 x 8 4))) ?_
   refine kpA [31, 6, 4, 3, 2] ?_
   refine aF 10 ?_
   refine sa1 false 11 (h := st [.int .u64 p.1, .int .u64 p.2.1, .int .i64 (bor (bor 8 (flagR d.2.2 x 4 2)) (flagR d.2.2 x 8 4))] ?_)
   refine ⟨fun hnd => (by cases hnd), ?_⟩
   refine SA_done (by kernel_rfl) (Qj ?_)
   refine SW_seq ?_
   refine SW_seq ?_
   refine SW_sig ((b9, .cells 45 3 [.int .u64 p.1, .int .u64 p.2.1, .int .i64 g1]) :: ((b3, .cells 45 3 [.int .u64 0, .int .u64 0, .int .i64 0]) :: ((b2, .cells 35 5 [.int .i64 x.has, .int .u64 x.value, .int .u64 x.get, .int .u64 x.set, .int .i64 x.flags]) :: ((b1, .cells 45 3 [.int .u64 d.1, .int .u64 d.2.1, .int .i64 d.2.2]) :: ([]))))) (by rw [show g1 = bor (bor 8 (flagR d.2.2 x 4 2)) (flagR d.2.2 x 8 4) from hg1]) ?_
   refine Qn ?_
   refine L (lds 5 ?_)
   refine L (cl (rf_has x 16) ?_)
   rintro _ _ rfl
   refine un ?_
   refine nt ?_
   refine SW_cut (fun ρ_ σ_ => Fits ρ_ σ_ [(6, pt b9 0), (4, pt b3 0), (3, pt b2 0), (2, pt b1 0)] ((b9, .cells 45 3 [.int .u64 v1, .int .u64 p.2.1, .int .i64 g1]) :: ((b3, .cells 45 3 [.int .u64 0, .int .u64 0, .int .i64 0]) :: ((b2, .cells 35 5 [.int .i64 x.has, .int .u64 x.value, .int .u64 x.get, .int .u64 x.set, .int .i64 x.flags]) :: ((b1, .cells 45 3 [.int .u64 d.1, .int .u64 d.2.1, .int .i64 d.2.2]) :: ([])))))) ?_ ?_
   ·refine SW_false (fun _ => (congrArg Value.bool (show (hasR x 16) = false from (by assumption)))) ?_
    refine Ql (Qj ?_)
    have en : v1 = p.1 := hv1.trans (by first | exact if_pos (by assumption) | exact ite_ff (by assumption))
    rw [en]
    exact ⟨fun _ => rfl, ow⟩
   ·rintro ρ_ σ_ hfit
    refine SW_fits hfit ?_
    clear hfit
    refine SW_seq ?_
    refine sr ?_
    refine L (lds 5 ?_)
    refine L (cl (rf_has x 32) ?_)
    rintro _ _ rfl
    refine un ?_
    refine nt ?_
    refine SW_true (fun _ => (congrArg Value.bool (show (hasR x 32) = true from (by assumption)))) ?_
    refine Qn ?_
    refine os 1 ?_
    refine L (ld ?_)
    refine os 1 ?_
    refine L (st [.int .u64 v1, .int .u64 x.set, .int .i64 g1] ?_)
    refine nsr ?_
    refine L (lds 3 ?_)
    refine L (st [.int .u64 v1, .int .u64 x.set, .int .i64 g1] ?_)
    refine nt ?_
    refine Qi (Qm ?_)
    refine body_endC [.agg #[.int .u64 v1, .int .u64 x.set, .int .i64 g1]] (fun _ => (.cons ⟨b3, 0, rfl, .inl ⟨[.int .u64 v1, .int .u64 x.set, .int .i64 g1], by kernel_rfl, (Qb (Cell.own Qe rfl) (Qb (Cell.own Qe rfl) (Qb (Cell.own Qe rfl) Qo))), rfl⟩⟩ .nil)) ?_
    have ha : (hasR x 16 || hasR x 32) = true := by simp [*]
    have hv2 : wishR d x = (v1, if hasR x 32 = true then x.set else p.2.1, g1) := by rw [hv1, hg1, hp]; unfold wishR; rw [if_pos ha] <;> rfl
    exact ⟨(), ⟨_, List.Perm.refl _⟩, by rw [hv2]; first | (rw [if_pos (by assumption)] <;> rfl) | (rw [ite_ff (by assumption)] <;> rfl)⟩
 refine Ql (Qj ?_)
 refine sr ?_
 refine L (lds 3 ?_)
 refine L (nw 45 3 [.int .u64 0, .int .u64 0, .int .i64 0] ?_)
 intro b11
 refine L (st [.int .u64 d.1, .int .u64 d.2.1, .int .i64 d.2.2] ?_)
 refine nq ?_
 refine SW_seq ?_
 refine SW_cut3 (fun ρ_ σ_ => Fits ρ_ σ_ [(7, pt b11 0), (4, pt b3 0), (3, pt b2 0), (2, pt b1 0)] ((b11, .cells 45 3 [.int .u64 q.1, .int .u64 q.2.1, .int .i64 q.2.2]) :: ((b3, .cells 45 3 [.int .u64 0, .int .u64 0, .int .i64 0]) :: ((b2, .cells 35 5 [.int .i64 x.has, .int .u64 x.value, .int .u64 x.get, .int .u64 x.set, .int .i64 x.flags]) :: ((b1, .cells 45 3 [.int .u64 d.1, .int .u64 d.2.1, .int .i64 d.2.2]) :: ([])))))) ?_ ?_
 ·refine Qn ?_
  refine os 2 ?_
  refine tb 46 (fun hg12 => ?_) (fun hg12 => ?_)
  ·replace hg12 : ((band d.2.2 8) != 0) = true := hg12
   refine L (lds 5 ?_)
   refine L (cl (rf_has x 1) ?_)
   rintro _ _ rfl
   refine un ?_
   refine os 1 ?_
   refine tb 49 (fun hg13 => ?_) (fun hg13 => ?_)
   ·replace hg13 : (hasR x 1) = true := hg13
    refine os 4 ?_
    refine kp [53, 7, 18, 5, 4, 3, 2, 0, 1] ?_
    refine nt ?_
    refine ct ?_
    refine Qn ?_
    refine os 1 ?_
    refine L (ld ?_)
    refine oV (.int .i64 (band d.2.2 6)) ?_
    refine oV (.agg #[.int .u64 18445336698825998336, .int .u64 18445336698825998336, .int .i64 (band d.2.2 6)]) ?_
    refine L (st [.int .u64 18445336698825998336, .int .u64 18445336698825998336, .int .i64 (band d.2.2 6)] ?_)
    refine nt ?_
    have en : q = (18445336698825998336, 18445336698825998336, band d.2.2 6) := hq.trans (by first | exact if_pos (by assumption) | exact if_pos ⟨by assumption, by simp [*]⟩ | exact ite_ff (by assumption) | exact ite_f1 (by assumption) | exact ite_f2 (by simp [*]))
    rw [en]
    exact ⟨fun _ => rfl, ow⟩
   replace hg13 : (hasR x 1) = false := hg13
   refine L (lds 5 ?_)
   refine L (cl (rf_has x 2) ?_)
   rintro _ _ rfl
   refine un ?_
   refine os 2 ?_
   refine kp [53, 7, 18, 5, 4, 3, 2, 0, 1] ?_
   refine nt ?_
   refine cd (fun hc14 : ((hasR x 2)) = true => ?_) (fun hc14 => ?_)
   ·refine Qn ?_
    refine os 1 ?_
    refine L (ld ?_)
    refine oV (.int .i64 (band d.2.2 6)) ?_
    refine oV (.agg #[.int .u64 18445336698825998336, .int .u64 18445336698825998336, .int .i64 (band d.2.2 6)]) ?_
    refine L (st [.int .u64 18445336698825998336, .int .u64 18445336698825998336, .int .i64 (band d.2.2 6)] ?_)
    refine nt ?_
    have en : q = (18445336698825998336, 18445336698825998336, band d.2.2 6) := hq.trans (by first | exact if_pos (by assumption) | exact if_pos ⟨by assumption, by simp [*]⟩ | exact ite_ff (by assumption) | exact ite_f1 (by assumption) | exact ite_f2 (by simp [*]))
    rw [en]
    exact ⟨fun _ => rfl, ow⟩
   refine Ql (Qj ?_)
   have en : q = (d.1, d.2.1, d.2.2) := hq.trans (by first | exact if_pos (by assumption) | exact if_pos ⟨by assumption, by simp [*]⟩ | exact ite_ff (by assumption) | exact ite_f1 (by assumption) | exact ite_f2 (by simp [*]))
   rw [en]
   exact ⟨fun _ => rfl, ow⟩
  replace hg12 : ((band d.2.2 8) != 0) = false := hg12
  refine os 7 ?_
  refine kp [53, 7, 18, 5, 4, 3, 2, 0, 1] ?_
  refine nt ?_
  refine cf ?_
  refine Ql (Qj ?_)
  have en : q = (d.1, d.2.1, d.2.2) := hq.trans (by first | exact if_pos (by assumption) | exact if_pos ⟨by assumption, by simp [*]⟩ | exact ite_ff (by assumption) | exact ite_f1 (by assumption) | exact ite_f2 (by simp [*]))
  rw [en]
  exact ⟨fun _ => rfl, ow⟩
 ·rintro ρ_ σ_ hfit
  refine SW_fits hfit ?_
  clear hfit
  refine sr ?_
  refine os 1 ?_
  refine L (ld ?_)
  refine oV (.int .i64 (band q.2.2 8)) ?_
  refine os 1 ?_
  refine kp [8, 7, 4, 3, 2] ?_
  refine nq ?_
  refine SW_draw [(b11, 2, .int .i64 q.2.2), (b2, 0, .int .i64 x.has), (b2, 1, .int .u64 x.value), (b2, 2, .int .u64 x.get), (b2, 3, .int .u64 x.set), (b2, 4, .int .i64 x.flags), (b1, 2, .int .i64 d.2.2), (b2, 0, .int .i64 x.has), (b2, 1, .int .u64 x.value), (b2, 2, .int .u64 x.get), (b2, 3, .int .u64 x.set), (b2, 4, .int .i64 x.flags), (b1, 2, .int .i64 d.2.2), (b2, 0, .int .i64 x.has), (b2, 1, .int .u64 x.value), (b2, 2, .int .u64 x.get), (b2, 3, .int .u64 x.set), (b2, 4, .int .i64 x.flags)] [0, 1, 2, 3, 4, 5, 6, 7, 8, 9, 10, 11, 12, 13] (by kernel_rfl) (Qf (Cell.own Qe rfl) (Qf (Cell.own (Qc (Qc Qe)) rfl) (Qf (Cell.own (Qc (Qc Qe)) rfl) (Qf (Cell.own (Qc (Qc Qe)) rfl) (Qf (Cell.own (Qc (Qc Qe)) rfl) (Qf (Cell.own (Qc (Qc Qe)) rfl) (Qf (Cell.own (Qc (Qc (Qc Qe))) rfl) (Qf (Cell.own (Qc (Qc Qe)) rfl) (Qf (Cell.own (Qc (Qc Qe)) rfl) (Qf (Cell.own (Qc (Qc Qe)) rfl) (Qf (Cell.own (Qc (Qc Qe)) rfl) (Qf (Cell.own (Qc (Qc Qe)) rfl) (Qf (Cell.own (Qc (Qc (Qc Qe))) rfl) (Qf (Cell.own (Qc (Qc Qe)) rfl) (Qf (Cell.own (Qc (Qc Qe)) rfl) (Qf (Cell.own (Qc (Qc Qe)) rfl) (Qf (Cell.own (Qc (Qc Qe)) rfl) (Qf (Cell.own (Qc (Qc Qe)) rfl) rd_nil)))))))))))))))))) ?_
  refine aS 0 ?_
  refine aF 1 ?_
  refine aL 2 ?_
  refine tr 3 (.agg #[.int .i64 x.has, .int .u64 x.value, .int .u64 x.get, .int .u64 x.set, .int .i64 x.flags]) ?_ (hy := fun δ w_ hr => Rd_loads b2 0 [.int .i64 x.has, .int .u64 x.value, .int .u64 x.get, .int .u64 x.set, .int .i64 x.flags] rfl (by kernel_rfl) (rdm_cons (List.mem_cons_of_mem _ List.mem_cons_self) (rdm_cons (List.mem_cons_of_mem _ (List.mem_cons_of_mem _ List.mem_cons_self)) (rdm_cons (List.mem_cons_of_mem _ (List.mem_cons_of_mem _ (List.mem_cons_of_mem _ List.mem_cons_self))) (rdm_cons (List.mem_cons_of_mem _ (List.mem_cons_of_mem _ (List.mem_cons_of_mem _ (List.mem_cons_of_mem _ List.mem_cons_self)))) (rdm_cons (List.mem_cons_of_mem _ (List.mem_cons_of_mem _ (List.mem_cons_of_mem _ (List.mem_cons_of_mem _ (List.mem_cons_of_mem _ List.mem_cons_self))))) rdm_nil))))) hr)
  refine aF 6 ?_
  refine aL 7 ?_
  refine tr 8 (.agg #[.int .i64 x.has, .int .u64 x.value, .int .u64 x.get, .int .u64 x.set, .int .i64 x.flags]) ?_ (hy := fun δ w_ hr => Rd_loads b2 0 [.int .i64 x.has, .int .u64 x.value, .int .u64 x.get, .int .u64 x.set, .int .i64 x.flags] rfl (by kernel_rfl) (rdm_cons (List.mem_cons_of_mem _ List.mem_cons_self) (rdm_cons (List.mem_cons_of_mem _ (List.mem_cons_of_mem _ List.mem_cons_self)) (rdm_cons (List.mem_cons_of_mem _ (List.mem_cons_of_mem _ (List.mem_cons_of_mem _ List.mem_cons_self))) (rdm_cons (List.mem_cons_of_mem _ (List.mem_cons_of_mem _ (List.mem_cons_of_mem _ (List.mem_cons_of_mem _ List.mem_cons_self)))) (rdm_cons (List.mem_cons_of_mem _ (List.mem_cons_of_mem _ (List.mem_cons_of_mem _ (List.mem_cons_of_mem _ (List.mem_cons_of_mem _ List.mem_cons_self))))) rdm_nil))))) hr)
  refine aF 11 ?_
  refine aL 12 ?_
  refine tr 13 (.agg #[.int .i64 x.has, .int .u64 x.value, .int .u64 x.get, .int .u64 x.set, .int .i64 x.flags]) ?_ (hy := fun δ w_ hr => Rd_loads b2 0 [.int .i64 x.has, .int .u64 x.value, .int .u64 x.get, .int .u64 x.set, .int .i64 x.flags] rfl (by kernel_rfl) (rdm_cons (List.mem_cons_of_mem _ List.mem_cons_self) (rdm_cons (List.mem_cons_of_mem _ (List.mem_cons_of_mem _ List.mem_cons_self)) (rdm_cons (List.mem_cons_of_mem _ (List.mem_cons_of_mem _ (List.mem_cons_of_mem _ List.mem_cons_self))) (rdm_cons (List.mem_cons_of_mem _ (List.mem_cons_of_mem _ (List.mem_cons_of_mem _ (List.mem_cons_of_mem _ List.mem_cons_self)))) (rdm_cons (List.mem_cons_of_mem _ (List.mem_cons_of_mem _ (List.mem_cons_of_mem _ (List.mem_cons_of_mem _ (List.mem_cons_of_mem _ List.mem_cons_self))))) rdm_nil))))) hr)
  refine sa1 true 4 (h := cl (rf_flag q.2.2 x 2 1) ?_)
  rintro _ _ rfl
  try simp only [List.cons_append, List.append_assoc, List.nil_append]
  refine ⟨fun hnd => (Qf (Cell.own Qe rfl) (Qf (Cell.own (Qc (Qc Qe)) rfl) (Qf (Cell.own (Qc (Qc Qe)) rfl) (Qf (Cell.own (Qc (Qc Qe)) rfl) (Qf (Cell.own (Qc (Qc Qe)) rfl) (Qf (Cell.own (Qc (Qc Qe)) rfl) (Qf (Cell.own (Qc (Qc (Qc Qe))) rfl) (Qf (Cell.own (Qc (Qc Qe)) rfl) (Qf (Cell.own (Qc (Qc Qe)) rfl) (Qf (Cell.own (Qc (Qc Qe)) rfl) (Qf (Cell.own (Qc (Qc Qe)) rfl) (Qf (Cell.own (Qc (Qc Qe)) rfl) (Qf (Cell.own (Qc (Qc (Qc Qe))) rfl) (Qf (Cell.own (Qc (Qc Qe)) rfl) (Qf (Cell.own (Qc (Qc Qe)) rfl) (Qf (Cell.own (Qc (Qc Qe)) rfl) (Qf (Cell.own (Qc (Qc Qe)) rfl) (Qf (Cell.own (Qc (Qc Qe)) rfl) rd_nil)))))))))))))))))), ?_⟩
  refine tk 5 (.int .i64 (bor (band q.2.2 8) (flagR q.2.2 x 2 1))) ?_
  refine sa1 true 9 (h := cl (rf_flag d.2.2 x 4 2) ?_)
  rintro _ _ rfl
  try simp only [List.cons_append, List.append_assoc, List.nil_append]
  refine ⟨fun hnd => (Qf (Cell.own Qe rfl) (Qf (Cell.own (Qc (Qc Qe)) rfl) (Qf (Cell.own (Qc (Qc Qe)) rfl) (Qf (Cell.own (Qc (Qc Qe)) rfl) (Qf (Cell.own (Qc (Qc Qe)) rfl) (Qf (Cell.own (Qc (Qc Qe)) rfl) (Qf (Cell.own (Qc (Qc (Qc Qe))) rfl) (Qf (Cell.own (Qc (Qc Qe)) rfl) (Qf (Cell.own (Qc (Qc Qe)) rfl) (Qf (Cell.own (Qc (Qc Qe)) rfl) (Qf (Cell.own (Qc (Qc Qe)) rfl) (Qf (Cell.own (Qc (Qc Qe)) rfl) (Qf (Cell.own (Qc (Qc (Qc Qe))) rfl) (Qf (Cell.own (Qc (Qc Qe)) rfl) (Qf (Cell.own (Qc (Qc Qe)) rfl) (Qf (Cell.own (Qc (Qc Qe)) rfl) (Qf (Cell.own (Qc (Qc Qe)) rfl) (Qf (Cell.own (Qc (Qc Qe)) rfl) rd_nil)))))))))))))))))), ?_⟩
  refine kpA [70, 66, 74, 73, 8, 7, 4, 3, 2] ?_
  refine tk 10 (.int .i64 (bor (bor (band q.2.2 8) (flagR q.2.2 x 2 1)) (flagR d.2.2 x 4 2))) ?_
  refine sa1 false 14 (h := cl (rf_flag d.2.2 x 8 4) ?_)
  rintro _ _ rfl
  try simp only [List.cons_append, List.append_assoc, List.nil_append]
  refine ⟨fun hnd => (by cases hnd), ?_⟩
  refine tk 15 (.int .i64 (bor (bor (bor (band q.2.2 8) (flagR q.2.2 x 2 1)) (flagR d.2.2 x 4 2)) (flagR d.2.2 x 8 4))) ?_
  refine aF 16 ?_
  refine sa1 false 17 (h := st [.int .u64 q.1, .int .u64 q.2.1, .int .i64 (bor (bor (bor (band q.2.2 8) (flagR q.2.2 x 2 1)) (flagR d.2.2 x 4 2)) (flagR d.2.2 x 8 4))] ?_)
  refine ⟨fun hnd => (by cases hnd), ?_⟩
  refine kpA [8, 7, 4, 3, 2] ?_
  refine SA_done (by kernel_rfl) (Qj ?_)
  refine SW_seq ?_
  refine SW_seq ?_
  refine SW_sig ((b11, .cells 45 3 [.int .u64 q.1, .int .u64 q.2.1, .int .i64 g2]) :: ((b3, .cells 45 3 [.int .u64 0, .int .u64 0, .int .i64 0]) :: ((b2, .cells 35 5 [.int .i64 x.has, .int .u64 x.value, .int .u64 x.get, .int .u64 x.set, .int .i64 x.flags]) :: ((b1, .cells 45 3 [.int .u64 d.1, .int .u64 d.2.1, .int .i64 d.2.2]) :: ([]))))) (by rw [show g2 = bor (bor (bor (band q.2.2 8) (flagR q.2.2 x 2 1)) (flagR d.2.2 x 4 2)) (flagR d.2.2 x 8 4) from hg2]) ?_
  refine Qn ?_
  refine os 2 ?_
  refine nt ?_
  refine SW_cut (fun ρ_ σ_ => Fits ρ_ σ_ [(7, pt b11 0), (4, pt b3 0), (3, pt b2 0), (2, pt b1 0)] ((b11, .cells 45 3 [.int .u64 q.1, .int .u64 q.2.1, .int .i64 g3]) :: ((b3, .cells 45 3 [.int .u64 0, .int .u64 0, .int .i64 0]) :: ((b2, .cells 35 5 [.int .i64 x.has, .int .u64 x.value, .int .u64 x.get, .int .u64 x.set, .int .i64 x.flags]) :: ((b1, .cells 45 3 [.int .u64 d.1, .int .u64 d.2.1, .int .i64 d.2.2]) :: ([])))))) ?_ ?_
  ·refine cd (fun hc15 : ((band q.2.2 8) != 0) = true => ?_) (fun hc15 => ?_)
   ·refine Qn ?_
    refine os 1 ?_
    refine L (ld ?_)
    refine oV (.int .i64 (bor g2 8)) ?_
    refine os 1 ?_
    refine L (st [.int .u64 q.1, .int .u64 q.2.1, .int .i64 (bor g2 8)] ?_)
    refine nt ?_
    have en : g3 = bor g2 8 := hg3.trans (by first | exact if_pos (by assumption) | exact ite_ff (by assumption))
    rw [en]
    exact ⟨fun _ => rfl, ow⟩
   refine Ql (Qj ?_)
   have en : g3 = g2 := hg3.trans (by first | exact if_pos (by assumption) | exact ite_ff (by assumption))
   rw [en]
   exact ⟨fun _ => rfl, ow⟩
  ·rintro ρ_ σ_ hfit
   refine SW_fits hfit ?_
   clear hfit
   refine SW_seq ?_
   refine sr ?_
   refine L (lds 5 ?_)
   refine L (cl (rf_has x 1) ?_)
   rintro _ _ rfl
   refine un ?_
   refine nt ?_
   refine cd (fun hc16 : ((hasR x 1)) = true => ?_) (fun hc16 => ?_)
   ·refine Qn ?_
    refine os 1 ?_
    refine L (ld ?_)
    refine os 1 ?_
    refine L (st [.int .u64 x.value, .int .u64 q.2.1, .int .i64 g3] ?_)
    refine nsr ?_
    refine L (lds 3 ?_)
    refine L (st [.int .u64 x.value, .int .u64 q.2.1, .int .i64 g3] ?_)
    refine nt ?_
    refine Qi ?_
    refine body_endC [.agg #[.int .u64 x.value, .int .u64 q.2.1, .int .i64 g3]] (fun _ => (.cons ⟨b3, 0, rfl, .inl ⟨[.int .u64 x.value, .int .u64 q.2.1, .int .i64 g3], by kernel_rfl, (Qb (Cell.own Qe rfl) (Qb (Cell.own Qe rfl) (Qb (Cell.own Qe rfl) Qo))), rfl⟩⟩ .nil)) ?_
    have ha : (hasR x 16 || hasR x 32) = false := by simp [*]
    have hv2 : wishR d x = (if hasR x 1 = true then x.value else q.1, q.2.1, g3) := by rw [hg3, hg2, hq]; unfold wishR; rw [if_neg (by rw [ha]; simp)] <;> rfl
    exact ⟨(), ⟨_, List.Perm.refl _⟩, by rw [hv2]; first | (rw [if_pos (by assumption)] <;> rfl) | (rw [ite_ff (by assumption)] <;> rfl)⟩
   refine Ql (Qj ?_)
   refine sr ?_
   refine L (lds 3 ?_)
   refine L (st [.int .u64 q.1, .int .u64 q.2.1, .int .i64 g3] ?_)
   refine nt ?_
   refine Qi ?_
   refine body_endC [.agg #[.int .u64 q.1, .int .u64 q.2.1, .int .i64 g3]] (fun _ => (.cons ⟨b3, 0, rfl, .inl ⟨[.int .u64 q.1, .int .u64 q.2.1, .int .i64 g3], by kernel_rfl, (Qb (Cell.own Qe rfl) (Qb (Cell.own Qe rfl) (Qb (Cell.own Qe rfl) Qo))), rfl⟩⟩ .nil)) ?_
   have ha : (hasR x 16 || hasR x 32) = false := by simp [*]
   have hv2 : wishR d x = (if hasR x 1 = true then x.value else q.1, q.2.1, g3) := by rw [hg3, hg2, hq]; unfold wishR; rw [if_neg (by rw [ha]; simp)] <;> rfl
   exact ⟨(), ⟨_, List.Perm.refl _⟩, by rw [hv2]; first | (rw [if_pos (by assumption)] <;> rfl) | (rw [ite_ff (by assumption)] <;> rfl)⟩

end Go.Proofs.YthflblophelioaaGreatDoor
namespace Go.Proofs.YthflblophelioaaGreatDoor
open Go.Sl

theorem rf_May {W0 : World} (d e : DescP) : SC Tryz.prog W0 71 #[.agg #[.int .u64 d.1, .int .u64 d.2.1, .int .i64 d.2.2], .agg #[.int .u64 e.1, .int .u64 e.2.1, .int .i64 e.2.2]] [] (Ret (fun _ : Unit => []) (fun v _ => v = .bool (mayR d e))) := by
 refine SC_body (fn := Tryz.f71) (n := 37) Tryz.func71 rfl (by kernel_rfl) (ρ := [(0, .agg #[.int .u64 d.1, .int .u64 d.2.1, .int .i64 d.2.2]), (1, .agg #[.int .u64 e.1, .int .u64 e.2.1, .int .i64 e.2.2])]) rfl ?_
 refine sr ?_
 refine L (nw 45 3 [.int .u64 d.1, .int .u64 d.2.1, .int .i64 d.2.2] ?_)
 intro b1
 refine L (nw 45 3 [.int .u64 e.1, .int .u64 e.2.1, .int .i64 e.2.2] ?_)
 intro b2
 refine os 1 ?_
 refine nq ?_
 refine sr ?_
 refine L (lds 3 ?_)
 refine L (lds 3 ?_)
 refine oV (.bool ((d.1 == e.1) && ((d.2.1 == e.2.1) && (d.2.2 == e.2.2)))) ?_ (hs := eqlD)
 refine os 1 ?_
 refine tb 8 (fun hg3 => ?_) (fun hg3 => ?_)
 ·replace hg3 : ((d.1 == e.1) && ((d.2.1 == e.2.1) && (d.2.2 == e.2.2))) = true := hg3
  refine os 5 ?_
  refine kp [13, 4, 3, 2, 0, 1] ?_
  refine nt ?_
  refine ct ?_
  refine sr ?_
  refine os 1 ?_
  refine nt ?_
  refine Qi (Qm ?_)
  refine Qg (.bool true) (fun _ => rfl) ?_
  exact ⟨(), ⟨_, List.Perm.refl _⟩, congrArg Value.bool (by rw [mayR_eq]; unfold deqB; simp only [*, Bool.or_true, Bool.true_or, Bool.false_or, Bool.or_false, Bool.not_true, Bool.not_false, Bool.true_and, Bool.false_and, Bool.and_true, Bool.and_false])⟩
 replace hg3 : ((d.1 == e.1) && ((d.2.1 == e.2.1) && (d.2.2 == e.2.2))) = false := hg3
 refine os 1 ?_
 refine L (ld ?_)
 refine oV (.int .i64 (band d.2.2 4)) ?_
 refine os 2 ?_
 refine kp [13, 4, 3, 2, 0, 1] ?_
 refine nt ?_
 refine cd (fun hc4 : ((band d.2.2 4) != 0) = true => ?_) (fun hc4 => ?_)
 ·refine sr ?_
  refine os 1 ?_
  refine nt ?_
  refine Qi (Qm ?_)
  refine Qg (.bool true) (fun _ => rfl) ?_
  exact ⟨(), ⟨_, List.Perm.refl _⟩, congrArg Value.bool (by rw [mayR_eq]; unfold deqB; simp only [*, Bool.or_true, Bool.true_or, Bool.false_or, Bool.or_false, Bool.not_true, Bool.not_false, Bool.true_and, Bool.false_and, Bool.and_true, Bool.and_false])⟩
 refine Ql (Qj ?_)
 refine SW_seq ?_
 refine sr ?_
 refine os 1 ?_
 refine L (ld ?_)
 refine oV (.int .i64 (band d.2.2 8)) ?_
 refine os 2 ?_
 refine tb 18 (fun hg5 => ?_) (fun hg5 => ?_)
 ·replace hg5 : ((band d.2.2 8) != 0) = true := hg5
  refine os 14 ?_
  refine kp [32, 13, 4, 3, 2, 0, 1] ?_
  refine nt ?_
  refine ct ?_
  refine sr ?_
  refine os 1 ?_
  refine nt ?_
  refine Qi (Qm ?_)
  refine Qg (.bool false) (fun _ => rfl) ?_
  exact ⟨(), ⟨_, List.Perm.refl _⟩, congrArg Value.bool (by rw [mayR_eq]; unfold deqB; simp only [*, Bool.or_true, Bool.true_or, Bool.false_or, Bool.or_false, Bool.not_true, Bool.not_false, Bool.true_and, Bool.false_and, Bool.and_true, Bool.and_false])⟩
 replace hg5 : ((band d.2.2 8) != 0) = false := hg5
 refine os 1 ?_
 refine L (ld ?_)
 refine oV (.int .i64 (band e.2.2 8)) ?_
 refine os 3 ?_
 refine kp [24, 13, 4, 3, 2, 0, 1] ?_
 refine tb 24 (fun hg6 => ?_) (fun hg6 => ?_)
 ·replace hg6 : ((band e.2.2 8) != 0) = true := hg6
  refine os 8 ?_
  refine kp [32, 13, 4, 3, 2, 0, 1] ?_
  refine nt ?_
  refine ct ?_
  refine sr ?_
  refine os 1 ?_
  refine nt ?_
  refine Qi (Qm ?_)
  refine Qg (.bool false) (fun _ => rfl) ?_
  exact ⟨(), ⟨_, List.Perm.refl _⟩, congrArg Value.bool (by rw [mayR_eq]; unfold deqB; simp only [*, Bool.or_true, Bool.true_or, Bool.false_or, Bool.or_false, Bool.not_true, Bool.not_false, Bool.true_and, Bool.false_and, Bool.and_true, Bool.and_false])⟩
 replace hg6 : ((band e.2.2 8) != 0) = false := hg6
 refine os 1 ?_
 refine L (ld ?_)
 refine oV (.int .i64 (band d.2.2 6)) ?_
 refine os 1 ?_
 refine L (ld ?_)
 refine oV (.int .i64 (band e.2.2 6)) ?_
 refine os 2 ?_
 refine kp [32, 13, 4, 3, 2, 0, 1] ?_
 refine nt ?_
 refine cd (fun hc7 : ((band d.2.2 6) != (band e.2.2 6)) = true => ?_) (fun hc7 => ?_)
 ·refine sr ?_
  refine os 1 ?_
  refine nt ?_
  refine Qi (Qm ?_)
  refine Qg (.bool false) (fun _ => rfl) ?_
  exact ⟨(), ⟨_, List.Perm.refl _⟩, congrArg Value.bool (by rw [mayR_eq]; unfold deqB; simp only [*, Bool.or_true, Bool.true_or, Bool.false_or, Bool.or_false, Bool.not_true, Bool.not_false, Bool.true_and, Bool.false_and, Bool.and_true, Bool.and_false])⟩
 refine Ql (Qj ?_)
 refine sr ?_
 refine os 1 ?_
 refine L (ld ?_)
 refine oV (.int .i64 (band d.2.2 1)) ?_
 refine os 2 ?_
 refine kp [4, 32, 13, 3, 2, 0, 1] ?_
 refine nt ?_
 refine Qi ?_
 refine Qg (.bool ((band d.2.2 1) != 0)) (fun _ => rfl) ?_
 exact ⟨(), ⟨_, List.Perm.refl _⟩, congrArg Value.bool (by rw [mayR_eq]; unfold deqB; simp only [*, Bool.or_true, Bool.true_or, Bool.false_or, Bool.or_false, Bool.not_true, Bool.not_false, Bool.true_and, Bool.false_and, Bool.and_true, Bool.and_false])⟩

end Go.Proofs.YthflblophelioaaGreatDoor
namespace Go.Proofs.YthflblophelioaaGreatDoor
open Go.Sl

theorem rz_Define {W0 : World} {k : Nat} {R : RSt} (hR : R.ok) (hL : LOk k R.pub) (hk : k ≤ 8000000) (hfl : ∀ o ∈ R.pub, ∀ d ∈ o.descs, normF d.2.2 = d.2.2) {w : Int} (hw : wordOk w) (key : ByteArray) (x : WishP) (hxv : wordOk x.value) (hxg : wordOk x.get) : SC Tryz.prog W0 35 #[R.val, .int .u64 w, .string key, .agg #[.int .i64 x.has, .int .u64 x.value, .int .u64 x.get, .int .u64 x.set, .int .i64 x.flags]] (RSt.ent R) (Ret (fun R2 : RSt => RSt.ent R2) (fun v R2 => v = .tuple #[R2.val, .bool (defP R.pub w key x).2] ∧ R2.ok ∧ R2.pub = (defP R.pub w key x).1 ∧ R2.texts = R.texts)) := by
 obtain ⟨e, he⟩ : ∃ z : DescP, z = (ownQ R.pub w key).getD zeroD := ⟨_, rfl⟩
 obtain ⟨d, hd⟩ : ∃ z : DescP, z = defD R.pub w key x := ⟨_, rfl⟩
 have hef : flOk e.2.2 = true := by rw [he]; exact own_flags hfl
 have hdr : 0 ≤ d.2.2 ∧ d.2.2 < 16 := by rw [hd, defD, ← he]; exact wishP_small x (flOk_range hef)
 have hln := hL.lenN w
 refine SC_body (fn := Tryz.f35) (n := 116) Tryz.func35 rfl (by kernel_rfl) (ρ := [(0, .agg #[Gs.val R.s R.objs.length, Gs.val R.ts R.texts.length]), (1, .int .u64 w), (2, .string key), (3, .agg #[.int .i64 x.has, .int .u64 x.value, .int .u64 x.get, .int .u64 x.set, .int .i64 x.flags])]) rfl ?_
 refine SW_sig ((RSt.ent R) ++ ([])) (by simp only [List.append_nil, List.append_assoc]) ?_
 refine sr ?_
 refine L (nw 28 2 [Gs.val R.s R.objs.length, Gs.val R.ts R.texts.length] ?_)
 intro b1
 refine L (nw 35 5 [.int .i64 x.has, .int .u64 x.value, .int .u64 x.get, .int .u64 x.set, .int .i64 x.flags] ?_)
 intro b2
 refine L (nw 28 2 [.slice none 0 0, .slice none 0 0] ?_)
 intro b3
 refine os 1 ?_
 refine nq ?_
 refine SW_seq ?_
 refine SW_cut3 (fun ρ_ σ_ => Fits ρ_ σ_ [(9, .bool false), (8, pt b3 0), (7, pt b2 0), (4, pt b1 0), (1, .int .u64 w), (2, .string key)] ((b3, .cells 28 2 [.slice none 0 0, .slice none 0 0]) :: ((b2, .cells 35 5 [.int .i64 x.has, .int .u64 x.value, .int .u64 x.get, .int .u64 x.set, .int .i64 x.flags]) :: ((b1, .cells 28 2 [Gs.val R.s R.objs.length, Gs.val R.ts R.texts.length]) :: ((RSt.ent R) ++ ([]))))) ∧ (bothP x = false) ∧ (¬ atW R.pub w < 0)) ?_ ?_
 ·refine Qn ?_
  refine L (lds 2 ?_)
  refine os 1 ?_
  refine L (cl (rq_At (R := R) (w := w) hw) ?_)
  rintro _ _ rfl
  refine un ?_
  refine os 2 ?_
  refine tbp 22 (fun hg4 => ?_) (fun hg4 => ?_)
  ·replace hg4 : (atW R.pub w) < 0 := hg4
   refine os 15 ?_
   refine kp [37, 9, 8, 7, 4, 0, 1, 2, 3] ?_
   refine nt ?_
   refine ct ?_
   refine sr ?_
   refine L (lds 2 ?_)
   refine L (st [Gs.val R.s R.objs.length, Gs.val R.ts R.texts.length] ?_)
   refine os 1 ?_
   refine nt ?_
   refine Qi (Qm ?_)
   refine body_endC [.agg #[Gs.val R.s R.objs.length, Gs.val R.ts R.texts.length], .bool false] (fun _ => (.cons ⟨b3, 0, rfl, .inl ⟨[Gs.val R.s R.objs.length, Gs.val R.ts R.texts.length], by kernel_rfl, (Qb (Cell.own Qe rfl) (Qb (Cell.own Qe rfl) Qo)), rfl⟩⟩ (.cons rfl .nil))) ?_
   exact ⟨R, ow, by rw [defP_no (by first | exact .inl (kind_at.2 (by assumption)) | (right; left; rw [both_ref]; simp [*]))]; exact ⟨rfl, hR, rfl, rfl⟩⟩
  replace hg4 : ¬ ((atW R.pub w) < 0) := hg4
  refine L (lds 5 ?_)
  refine L (cl (rf_has x 16) ?_)
  rintro _ _ rfl
  refine un ?_
  refine os 1 ?_
  refine kp [25, 22, 9, 8, 7, 4, 0, 1, 2, 3] ?_
  refine tb 25 (fun hg5 => ?_) (fun hg5 => ?_)
  ·replace hg5 : (hasR x 16) = true := hg5
   refine os 4 ?_
   refine L (lds 5 ?_)
   refine L (cl (rf_has x 1) ?_)
   rintro _ _ rfl
   refine un ?_
   refine os 1 ?_
   refine kp [32, 29, 22, 9, 8, 7, 4, 0, 1, 2, 3] ?_
   refine tb 32 (fun hg6 => ?_) (fun hg6 => ?_)
   ·replace hg6 : (hasR x 1) = true := hg6
    refine os 5 ?_
    refine kp [37, 9, 8, 7, 4, 0, 1, 2, 3] ?_
    refine nt ?_
    refine ct ?_
    refine sr ?_
    refine L (lds 2 ?_)
    refine L (st [Gs.val R.s R.objs.length, Gs.val R.ts R.texts.length] ?_)
    refine os 1 ?_
    refine nt ?_
    refine Qi (Qm ?_)
    refine body_endC [.agg #[Gs.val R.s R.objs.length, Gs.val R.ts R.texts.length], .bool false] (fun _ => (.cons ⟨b3, 0, rfl, .inl ⟨[Gs.val R.s R.objs.length, Gs.val R.ts R.texts.length], by kernel_rfl, (Qb (Cell.own Qe rfl) (Qb (Cell.own Qe rfl) Qo)), rfl⟩⟩ (.cons rfl .nil))) ?_
    exact ⟨R, ow, by rw [defP_no (by first | exact .inl (kind_at.2 (by assumption)) | (right; left; rw [both_ref]; simp [*]))]; exact ⟨rfl, hR, rfl, rfl⟩⟩
   replace hg6 : (hasR x 1) = false := hg6
   refine L (lds 5 ?_)
   refine L (cl (rf_has x 2) ?_)
   rintro _ _ rfl
   refine un ?_
   refine os 3 ?_
   refine kp [37, 9, 8, 7, 4, 0, 1, 2, 3] ?_
   refine nt ?_
   refine cd (fun hc7 : ((hasR x 2)) = true => ?_) (fun hc7 => ?_)
   ·refine sr ?_
    refine L (lds 2 ?_)
    refine L (st [Gs.val R.s R.objs.length, Gs.val R.ts R.texts.length] ?_)
    refine os 1 ?_
    refine nt ?_
    refine Qi (Qm ?_)
    refine body_endC [.agg #[Gs.val R.s R.objs.length, Gs.val R.ts R.texts.length], .bool false] (fun _ => (.cons ⟨b3, 0, rfl, .inl ⟨[Gs.val R.s R.objs.length, Gs.val R.ts R.texts.length], by kernel_rfl, (Qb (Cell.own Qe rfl) (Qb (Cell.own Qe rfl) Qo)), rfl⟩⟩ (.cons rfl .nil))) ?_
    exact ⟨R, ow, by rw [defP_no (by first | exact .inl (kind_at.2 (by assumption)) | (right; left; rw [both_ref]; simp [*]))]; exact ⟨rfl, hR, rfl, rfl⟩⟩
   refine Ql (Qj ?_)
   exact ⟨⟨fun _ => rfl, ow⟩, by rw [both_ref]; simp [*], by first | assumption | omega⟩
  replace hg5 : (hasR x 16) = false := hg5
  refine L (lds 5 ?_)
  refine L (cl (rf_has x 32) ?_)
  rintro _ _ rfl
  refine un ?_
  refine os 2 ?_
  refine tb 29 (fun hg8 => ?_) (fun hg8 => ?_)
  ·replace hg8 : (hasR x 32) = true := hg8
   refine L (lds 5 ?_)
   refine L (cl (rf_has x 1) ?_)
   rintro _ _ rfl
   refine un ?_
   refine os 1 ?_
   refine kp [32, 29, 22, 9, 8, 7, 4, 0, 1, 2, 3] ?_
   refine tb 32 (fun hg9 => ?_) (fun hg9 => ?_)
   ·replace hg9 : (hasR x 1) = true := hg9
    refine os 5 ?_
    refine kp [37, 9, 8, 7, 4, 0, 1, 2, 3] ?_
    refine nt ?_
    refine ct ?_
    refine sr ?_
    refine L (lds 2 ?_)
    refine L (st [Gs.val R.s R.objs.length, Gs.val R.ts R.texts.length] ?_)
    refine os 1 ?_
    refine nt ?_
    refine Qi (Qm ?_)
    refine body_endC [.agg #[Gs.val R.s R.objs.length, Gs.val R.ts R.texts.length], .bool false] (fun _ => (.cons ⟨b3, 0, rfl, .inl ⟨[Gs.val R.s R.objs.length, Gs.val R.ts R.texts.length], by kernel_rfl, (Qb (Cell.own Qe rfl) (Qb (Cell.own Qe rfl) Qo)), rfl⟩⟩ (.cons rfl .nil))) ?_
    exact ⟨R, ow, by rw [defP_no (by first | exact .inl (kind_at.2 (by assumption)) | (right; left; rw [both_ref]; simp [*]))]; exact ⟨rfl, hR, rfl, rfl⟩⟩
   replace hg9 : (hasR x 1) = false := hg9
   refine L (lds 5 ?_)
   refine L (cl (rf_has x 2) ?_)
   rintro _ _ rfl
   refine un ?_
   refine os 3 ?_
   refine kp [37, 9, 8, 7, 4, 0, 1, 2, 3] ?_
   refine nt ?_
   refine cd (fun hc10 : ((hasR x 2)) = true => ?_) (fun hc10 => ?_)
   ·refine sr ?_
    refine L (lds 2 ?_)
    refine L (st [Gs.val R.s R.objs.length, Gs.val R.ts R.texts.length] ?_)
    refine os 1 ?_
    refine nt ?_
    refine Qi (Qm ?_)
    refine body_endC [.agg #[Gs.val R.s R.objs.length, Gs.val R.ts R.texts.length], .bool false] (fun _ => (.cons ⟨b3, 0, rfl, .inl ⟨[Gs.val R.s R.objs.length, Gs.val R.ts R.texts.length], by kernel_rfl, (Qb (Cell.own Qe rfl) (Qb (Cell.own Qe rfl) Qo)), rfl⟩⟩ (.cons rfl .nil))) ?_
    exact ⟨R, ow, by rw [defP_no (by first | exact .inl (kind_at.2 (by assumption)) | (right; left; rw [both_ref]; simp [*]))]; exact ⟨rfl, hR, rfl, rfl⟩⟩
   refine Ql (Qj ?_)
   exact ⟨⟨fun _ => rfl, ow⟩, by rw [both_ref]; simp [*], by first | assumption | omega⟩
  replace hg8 : (hasR x 32) = false := hg8
  refine os 8 ?_
  refine kp [37, 9, 8, 7, 4, 0, 1, 2, 3] ?_
  refine nt ?_
  refine cf ?_
  refine Ql (Qj ?_)
  exact ⟨⟨fun _ => rfl, ow⟩, by rw [both_ref]; simp [*], by first | assumption | omega⟩
 ·rintro ρ_ σ_ ⟨hfit, hb, hat⟩
  refine SW_fits hfit ?_
  clear hfit
  refine sr ?_
  refine L (lds 2 ?_)
  refine os 2 ?_
  refine L (cl (rz_Own hR hL (w := w) hw key) ?_)
  rintro v8 _ hv8
  obtain rfl : v8 = .tuple #[.agg #[.int .u64 ((descG (ownQ R.pub w key)).1), .int .u64 ((descG (ownQ R.pub w key)).2.1), .int .i64 ((descG (ownQ R.pub w key)).2.2)], .bool ((ownQ R.pub w key).isSome)] := hv8.trans (descR_eq _)
  refine os 3 ?_
  refine L (nw 45 3 [.int .u64 0, .int .u64 0, .int .i64 0] ?_)
  intro b11
  refine L (st [.int .u64 ((descG (ownQ R.pub w key)).1), .int .u64 ((descG (ownQ R.pub w key)).2.1), .int .i64 ((descG (ownQ R.pub w key)).2.2)] ?_)
  refine os 1 ?_
  refine kp [11, 10, 9, 8, 7, 4, 1, 2] ?_
  refine nsr ?_
  refine L (lds 2 ?_)
  refine os 1 ?_
  refine L (cl (rz_Open hR (w := w) hw) ?_)
  rintro _ _ rfl
  refine os 1 ?_
  refine kp [12, 11, 10, 9, 8, 7, 4, 1, 2] ?_
  refine nq ?_
  refine SW_seq ?_
  refine SW_cut3 (fun ρ_ σ_ => Fits ρ_ σ_ [(12, .bool (openQ R.pub w)), (11, .bool ((ownQ R.pub w key).isSome)), (10, pt b11 0), (9, .bool false), (8, pt b3 0), (7, pt b2 0), (4, pt b1 0), (1, .int .u64 w), (2, .string key)] ((RSt.ent R) ++ ((b11, .cells 45 3 [.int .u64 e.1, .int .u64 e.2.1, .int .i64 e.2.2]) :: ((b3, .cells 28 2 [.slice none 0 0, .slice none 0 0]) :: ((b2, .cells 35 5 [.int .i64 x.has, .int .u64 x.value, .int .u64 x.get, .int .u64 x.set, .int .i64 x.flags]) :: ((b1, .cells 28 2 [Gs.val R.s R.objs.length, Gs.val R.ts R.texts.length]) :: ([])))))) ∧ ((ownQ R.pub w key).isSome = true ∨ openQ R.pub w = true)) ?_ ?_
  ·refine Qn ?_
   refine os 2 ?_
   refine nt ?_
   refine cd (fun hc12 : (!((ownQ R.pub w key).isSome)) = true => ?_) (fun hc12 => ?_)
   ·replace hc12 := bnot_t hc12
    refine SW_seq ?_
    refine sr ?_
    refine os 2 ?_
    refine nt ?_
    refine cd (fun hc13 : (!(openQ R.pub w)) = true => ?_) (fun hc13 => ?_)
    ·replace hc13 := bnot_t hc13
     refine sr ?_
     refine L (lds 2 ?_)
     refine L (st [Gs.val R.s R.objs.length, Gs.val R.ts R.texts.length] ?_)
     refine os 1 ?_
     refine kp [9, 52, 50, 12, 11, 10, 8, 7, 4, 1, 2] ?_
     refine nt ?_
     refine Qi (Qm (Qm ?_))
     refine body_endC [.agg #[Gs.val R.s R.objs.length, Gs.val R.ts R.texts.length], .bool false] (fun _ => (.cons ⟨b3, 0, rfl, .inl ⟨[Gs.val R.s R.objs.length, Gs.val R.ts R.texts.length], by kernel_rfl, (Qb (Cell.own Qe rfl) (Qb (Cell.own Qe rfl) Qo)), rfl⟩⟩ (.cons rfl .nil))) ?_
     exact ⟨R, ow, by rw [defP_no (by exact .inr (.inr (.inl ⟨by assumption, by assumption⟩)))]; exact ⟨rfl, hR, rfl, rfl⟩⟩
    replace hc13 := bnot_f hc13
    refine Ql (Qj ?_)
    refine Qn ?_
    refine oV (.agg #[.int .u64 18445336698825998336, .int .u64 18445336698825998336, .int .i64 0]) ?_
    refine L (st [.int .u64 18445336698825998336, .int .u64 18445336698825998336, .int .i64 0] ?_)
    refine nt ?_
    have en : e = (18445336698825998336, 18445336698825998336, 0) := he.trans (by first | exact getD_some (by assumption) | exact getD_none (by assumption))
    rw [en]
    exact ⟨⟨fun _ => rfl, ow⟩, by first | exact .inl (by assumption) | exact .inr (by assumption)⟩
   replace hc12 := bnot_f hc12
   refine Ql (Qj ?_)
   have en : e = ((descG (ownQ R.pub w key)).1, (descG (ownQ R.pub w key)).2.1, (descG (ownQ R.pub w key)).2.2) := he.trans (by first | exact getD_some (by assumption) | exact getD_none (by assumption))
   rw [en]
   exact ⟨⟨fun _ => rfl, ow⟩, by first | exact .inl (by assumption) | exact .inr (by assumption)⟩
  ·rintro ρ_ σ_ ⟨hfit, hop⟩
   refine SW_fits hfit ?_
   clear hfit
   refine sr ?_
   refine L (lds 3 ?_)
   refine L (lds 5 ?_)
   refine L (cl (rf_Wished e x) ?_)
   rintro v10 _ hv10
   obtain rfl : v10 = .agg #[.int .u64 d.1, .int .u64 d.2.1, .int .i64 d.2.2] := hv10.trans (by rw [hd, defD, ← he, ← wish_alike hef hb])
   refine un ?_
   refine L (nw 45 3 [.int .u64 0, .int .u64 0, .int .i64 0] ?_)
   intro b14
   refine L (st [.int .u64 d.1, .int .u64 d.2.1, .int .i64 d.2.2] ?_)
   refine nq ?_
   refine SW_seq ?_
   refine SW_cut3 (fun ρ_ σ_ => Fits ρ_ σ_ [(13, pt b14 0), (10, pt b11 0), (9, .bool false), (8, pt b3 0), (7, pt b2 0), (4, pt b1 0), (1, .int .u64 w), (2, .string key)] ((b14, .cells 45 3 [.int .u64 d.1, .int .u64 d.2.1, .int .i64 d.2.2]) :: ((RSt.ent R) ++ ((b11, .cells 45 3 [.int .u64 e.1, .int .u64 e.2.1, .int .i64 e.2.2]) :: ((b3, .cells 28 2 [.slice none 0 0, .slice none 0 0]) :: ((b2, .cells 35 5 [.int .i64 x.has, .int .u64 x.value, .int .u64 x.get, .int .u64 x.set, .int .i64 x.flags]) :: ((b1, .cells 28 2 [Gs.val R.s R.objs.length, Gs.val R.ts R.texts.length]) :: ([]))))))) ∧ (¬ defNo R.pub w key x)) ?_ ?_
   ·refine Qn ?_
    refine os 2 ?_
    refine tb 59 (fun hg15 => ?_) (fun hg15 => ?_)
    ·replace hg15 : ((ownQ R.pub w key).isSome) = true := hg15
     refine L (lds 3 ?_)
     refine L (lds 3 ?_)
     refine L (cl (rf_May e d) ?_)
     rintro v11 _ hv11
     obtain rfl : v11 = .bool (mayW e d) := hv11.trans (congrArg Value.bool (may_alike (flOk_range hef) hdr))
     refine un ?_
     refine os 2 ?_
     refine kp [64, 13, 12, 11, 10, 9, 8, 7, 4, 1, 2] ?_
     refine nt ?_
     refine cd (fun hc16 : (!(mayW e d)) = true => ?_) (fun hc16 => ?_)
     ·replace hc16 := bnot_t hc16
      refine sr ?_
      refine L (lds 2 ?_)
      refine L (st [Gs.val R.s R.objs.length, Gs.val R.ts R.texts.length] ?_)
      refine os 1 ?_
      refine nt ?_
      refine Qi (Qm ?_)
      refine body_endC [.agg #[Gs.val R.s R.objs.length, Gs.val R.ts R.texts.length], .bool false] (fun _ => (.cons ⟨b3, 0, rfl, .inl ⟨[Gs.val R.s R.objs.length, Gs.val R.ts R.texts.length], by kernel_rfl, (Qb (Cell.own Qe rfl) (Qb (Cell.own Qe rfl) Qo)), rfl⟩⟩ (.cons rfl .nil))) ?_
      exact ⟨R, ow, by rw [defP_no (by exact .inr (.inr (.inr ⟨by assumption, by rw [← he, ← hd]; assumption⟩)))]; exact ⟨rfl, hR, rfl, rfl⟩⟩
     replace hc16 := bnot_f hc16
     refine Ql (Qj ?_)
     exact ⟨⟨fun _ => rfl, ow⟩, by rintro (a_ | a_ | ⟨a_, b_⟩ | ⟨a_, b_⟩); (exact hat (kind_at.1 a_)); (rw [hb] at a_; cases a_); (rcases hop with q_ | q_; (rw [a_] at q_; cases q_); (rw [b_] at q_; cases q_)); (first | (have z_ : (ownQ R.pub w key).isSome = false := (by assumption); rw [a_] at z_; cases z_) | (rw [← he, ← hd] at b_; have z_ : mayW e d = true := (by assumption); rw [b_] at z_; cases z_))⟩
    replace hg15 : ((ownQ R.pub w key).isSome) = false := hg15
    refine os 5 ?_
    refine kp [64, 13, 12, 11, 10, 9, 8, 7, 4, 1, 2] ?_
    refine nt ?_
    refine cf ?_
    refine Ql (Qj ?_)
    exact ⟨⟨fun _ => rfl, ow⟩, by rintro (a_ | a_ | ⟨a_, b_⟩ | ⟨a_, b_⟩); (exact hat (kind_at.1 a_)); (rw [hb] at a_; cases a_); (rcases hop with q_ | q_; (rw [a_] at q_; cases q_); (rw [b_] at q_; cases q_)); (first | (have z_ : (ownQ R.pub w key).isSome = false := (by assumption); rw [a_] at z_; cases z_) | (rw [← he, ← hd] at b_; have z_ : mayW e d = true := (by assumption); rw [b_] at z_; cases z_))⟩
   ·rintro ρ_ σ_ ⟨hfit, hno⟩
    refine SW_fits hfit ?_
    clear hfit
    refine SW_seq ?_
    refine sr ?_
    refine L (lds 2 ?_)
    refine os 1 ?_
    refine L (cl (rz_Array hR (w := w) hw) ?_)
    rintro _ _ rfl
    refine nt ?_
    refine cd (fun hc17 : ((arrP R.pub w)) = true => ?_) (fun hc17 => ?_)
    ·refine sr ?_
     refine os 1 ?_
     refine L (cl (rf_Index key) ?_)
     rintro _ _ rfl
     refine un ?_
     refine os 5 ?_
     refine kp [15, 14, 68, 13, 10, 9, 8, 7, 4, 1, 2] ?_
     refine nq ?_
     refine sr ?_
     refine os 1 ?_
     refine oX (.bool (key.toList == (ByteArray.mk (List.toArray (List.cons 108 (List.cons 101 (List.cons 110 (List.cons 103 (List.cons 116 (List.cons 104 List.nil)))))))).toList)) (.bool (decide (key = (ByteArray.mk (List.toArray (List.cons 108 (List.cons 101 (List.cons 110 (List.cons 103 (List.cons 116 (List.cons 104 List.nil))))))))))) (congrArg Value.bool (by rw [str_eq])) ?_
     refine nt ?_
     refine cdp (fun hc18 : key = (ByteArray.mk (List.toArray (List.cons 108 (List.cons 101 (List.cons 110 (List.cons 103 (List.cons 116 (List.cons 104 List.nil)))))))) => ?_) (fun hc18 => ?_)
     ·refine SW_seq ?_
      have hdw : wordOk d.1 := by rw [hd]; exact wish_word (by rw [ownQ_len (by assumption) (by assumption)]; show 0 ≤ (18444773748872577024 : Int) + (lenN R.pub w : Int) ∧ (18444773748872577024 : Int) + (lenN R.pub w : Int) < 18446744073709551616; omega) hxv hxg
      refine Qn ?_
      refine os 1 ?_
      refine L (ld ?_)
      rcases hm1 : tagOf d.1 65529 with _ | m1
      ·refine L (cl (rf_IsTag (w := d.1) hdw (tag := 65529) (by omega)) ?_)
       rintro v14 _ hv14
       obtain rfl : v14 = .tuple #[.int .u32 0, .bool false] := hv14.trans (by unfold tagV; rw [hm1])
       refine un ?_
       refine os 5 ?_
       refine kp [17, 16, 75, 15, 14, 68, 13, 10, 9, 8, 7, 4, 1, 2] ?_
       refine nq ?_
       refine sr ?_
       refine os 1 ?_
       refine L (ld ?_)
       refine os 2 ?_
       refine tb 85 (fun hg19 => ?_) (fun hg19 => ?_)
       ·replace hg19 : (d.2.2 != 1) = true := hg19
        have hfe_ : (d.2.2 == 1) = false := by first | simpa using hg19
        refine os 3 ?_
        refine kp [88, 17, 16, 75, 15, 14, 68, 13, 10, 9, 8, 7, 4, 1, 2] ?_
        refine nt ?_
        refine ct ?_
        refine sr ?_
        refine L (lds 2 ?_)
        refine L (st [Gs.val R.s R.objs.length, Gs.val R.ts R.texts.length] ?_)
        refine os 1 ?_
        refine nt ?_
        refine Qi (Qm (Qm (Qm ?_)))
        refine body_endC [.agg #[Gs.val R.s R.objs.length, Gs.val R.ts R.texts.length], .bool false] (fun _ => (.cons ⟨b3, 0, rfl, .inl ⟨[Gs.val R.s R.objs.length, Gs.val R.ts R.texts.length], by kernel_rfl, (Qb (Cell.own Qe rfl) (Qb (Cell.own Qe rfl) Qo)), rfl⟩⟩ (.cons rfl .nil))) ?_
        rw [defP_go hno, ← hd]
        first
        | (exact ⟨R, ow, by rw [defGo_len' (by assumption) (by assumption) (by assumption)]; exact ⟨rfl, hR, rfl, rfl⟩⟩)
        | (exact ⟨R, ow, by rw [defGo_len (by assumption) (by assumption) (by assumption), show lenGo R.pub w d.1 = (R.pub, false) from by unfold lenGo isI; rw [hm1]; rfl]; exact ⟨rfl, hR, rfl, rfl⟩⟩)
       replace hg19 : (d.2.2 != 1) = false := hg19
       have hfe_ : (d.2.2 == 1) = true := by first | simpa using hg19
       refine os 1 ?_
       refine oV (.bool true) ?_
       refine os 1 ?_
       refine kp [88, 17, 16, 75, 15, 14, 68, 13, 10, 9, 8, 7, 4, 1, 2] ?_
       refine nt ?_
       refine ct ?_
       refine sr ?_
       refine L (lds 2 ?_)
       refine L (st [Gs.val R.s R.objs.length, Gs.val R.ts R.texts.length] ?_)
       refine os 1 ?_
       refine nt ?_
       refine Qi (Qm (Qm (Qm ?_)))
       refine body_endC [.agg #[Gs.val R.s R.objs.length, Gs.val R.ts R.texts.length], .bool false] (fun _ => (.cons ⟨b3, 0, rfl, .inl ⟨[Gs.val R.s R.objs.length, Gs.val R.ts R.texts.length], by kernel_rfl, (Qb (Cell.own Qe rfl) (Qb (Cell.own Qe rfl) Qo)), rfl⟩⟩ (.cons rfl .nil))) ?_
       rw [defP_go hno, ← hd]
       first
       | (exact ⟨R, ow, by rw [defGo_len' (by assumption) (by assumption) (by assumption)]; exact ⟨rfl, hR, rfl, rfl⟩⟩)
       | (exact ⟨R, ow, by rw [defGo_len (by assumption) (by assumption) (by assumption), show lenGo R.pub w d.1 = (R.pub, false) from by unfold lenGo isI; rw [hm1]; rfl]; exact ⟨rfl, hR, rfl, rfl⟩⟩)
      refine L (cl (rf_IsTag (w := d.1) hdw (tag := 65529) (by omega)) ?_)
      rintro v15 _ hv15
      obtain rfl : v15 = .tuple #[.int .u32 (m1 : Int), .bool true] := hv15.trans (by unfold tagV; rw [hm1])
      refine un ?_
      refine os 5 ?_
      refine kp [17, 16, 75, 15, 14, 68, 13, 10, 9, 8, 7, 4, 1, 2] ?_
      refine nq ?_
      refine sr ?_
      refine os 1 ?_
      refine L (ld ?_)
      refine os 2 ?_
      refine tb 85 (fun hg20 => ?_) (fun hg20 => ?_)
      ·replace hg20 : (d.2.2 != 1) = true := hg20
       have hfe_ : (d.2.2 == 1) = false := by first | simpa using hg20
       refine os 3 ?_
       refine kp [88, 17, 16, 75, 15, 14, 68, 13, 10, 9, 8, 7, 4, 1, 2] ?_
       refine nt ?_
       refine ct ?_
       refine sr ?_
       refine L (lds 2 ?_)
       refine L (st [Gs.val R.s R.objs.length, Gs.val R.ts R.texts.length] ?_)
       refine os 1 ?_
       refine nt ?_
       refine Qi (Qm (Qm (Qm ?_)))
       refine body_endC [.agg #[Gs.val R.s R.objs.length, Gs.val R.ts R.texts.length], .bool false] (fun _ => (.cons ⟨b3, 0, rfl, .inl ⟨[Gs.val R.s R.objs.length, Gs.val R.ts R.texts.length], by kernel_rfl, (Qb (Cell.own Qe rfl) (Qb (Cell.own Qe rfl) Qo)), rfl⟩⟩ (.cons rfl .nil))) ?_
       rw [defP_go hno, ← hd]
       first
       | (exact ⟨R, ow, by rw [defGo_len' (by assumption) (by assumption) (by assumption)]; exact ⟨rfl, hR, rfl, rfl⟩⟩)
       | (exact ⟨R, ow, by rw [defGo_len (by assumption) (by assumption) (by assumption), show lenGo R.pub w d.1 = (R.pub, false) from by unfold lenGo isI; rw [hm1]; rfl]; exact ⟨rfl, hR, rfl, rfl⟩⟩)
      replace hg20 : (d.2.2 != 1) = false := hg20
      have hfe_ : (d.2.2 == 1) = true := by first | simpa using hg20
      refine os 1 ?_
      refine oV (.bool false) ?_
      refine os 1 ?_
      refine kp [88, 17, 16, 75, 15, 14, 68, 13, 10, 9, 8, 7, 4, 1, 2] ?_
      refine nt ?_
      refine cf ?_
      refine Ql (Qj ?_)
      refine SW_seq ?_
      have hir_ : -2147483648 ≤ IntKind.wrap .i32 (m1 : Int) ∧ IntKind.wrap .i32 (m1 : Int) ≤ 2147483647 := by rw [IntKind.wrap_i32]; omega
      refine Qn ?_
      refine L (lds 2 ?_)
      refine os 2 ?_
      refine oV (.int .i32 (IntKind.wrap .i32 ((m1 : Int)))) ?_
      refine os 1 ?_
      refine L (cl (rq_SetLen hR hw (IntKind.wrap .i32 ((m1 : Int)))) ?_)
      rintro _ R2 ⟨rfl, hR2, hp2, ht2⟩
      refine os 2 ?_
      refine kp [97, 96, 88, 17, 16, 75, 15, 14, 68, 13, 10, 9, 8, 7, 4, 1, 2] ?_
      refine L (st [Gs.val R2.s R2.objs.length, Gs.val R2.ts R2.texts.length] ?_)
      refine os 1 ?_
      refine nt ?_
      refine Qi (Qm (Qm ?_))
      refine body_endC [.agg #[Gs.val R2.s R2.objs.length, Gs.val R2.ts R2.texts.length], .bool (lenQ R.pub w (IntKind.wrap .i32 ((m1 : Int))))] (fun _ => (.cons ⟨b3, 0, rfl, .inl ⟨[Gs.val R2.s R2.objs.length, Gs.val R2.ts R2.texts.length], by kernel_rfl, (Qb (Cell.own Qe rfl) (Qb (Cell.own Qe rfl) Qo)), rfl⟩⟩ (.cons rfl .nil))) ?_
      rw [defP_go hno, ← hd, defGo_len (by assumption) (by assumption) (by assumption), show lenGo R.pub w d.1 = (modP R.pub w (lenO (IntKind.wrap .i32 (m1 : Int))), lenQ R.pub w (IntKind.wrap .i32 (m1 : Int))) from by unfold lenGo isI; rw [hm1]; rfl]
      exact ⟨R2, ow, rfl, hR2, hp2, ht2⟩
     refine Ql (Qj ?_)
     refine sr ?_
     refine os 1 ?_
     refine nt ?_
     refine cd (fun hc21 : ((idxV key).2) = true => ?_) (fun hc21 => ?_)
     ·refine SW_seq ?_
      refine sr ?_
      refine os 1 ?_
      refine L (ld ?_)
      refine os 1 ?_
      refine kp [101, 98, 75, 15, 14, 68, 13, 10, 9, 8, 7, 4, 1, 2] ?_
      refine nt ?_
      refine cd (fun hc22 : (d.2.2 != 7) = true => ?_) (fun hc22 => ?_)
      ·have hfe_ : (d.2.2 == 7) = false := by first | simpa using hc22
       refine sr ?_
       refine L (lds 2 ?_)
       refine L (st [Gs.val R.s R.objs.length, Gs.val R.ts R.texts.length] ?_)
       refine os 1 ?_
       refine nt ?_
       refine Qi (Qm (Qm ?_))
       refine body_endC [.agg #[Gs.val R.s R.objs.length, Gs.val R.ts R.texts.length], .bool false] (fun _ => (.cons ⟨b3, 0, rfl, .inl ⟨[Gs.val R.s R.objs.length, Gs.val R.ts R.texts.length], by kernel_rfl, (Qb (Cell.own Qe rfl) (Qb (Cell.own Qe rfl) Qo)), rfl⟩⟩ (.cons rfl .nil))) ?_
       rw [defP_go hno, ← hd, defGo_ix' (by assumption) (by assumption) (by assumption) (by assumption)]
       exact ⟨R, ow, rfl, hR, rfl, rfl⟩
      have hfe_ : (d.2.2 == 7) = true := by first | simpa using hc22
      refine Ql (Qj ?_)
      refine sr ?_
      refine L (lds 2 ?_)
      refine os 3 ?_
      refine L (ld ?_)
      refine L (cl (rq_SetElem (k := k) hR hL hw ((idxV key).1) d.1) ?_)
      rintro _ R2 ⟨rfl, hR2, hp2, ht2⟩
      refine os 2 ?_
      refine kp [110, 109, 101, 98, 75, 15, 14, 68, 13, 10, 9, 8, 7, 4, 1, 2] ?_
      refine L (st [Gs.val R2.s R2.objs.length, Gs.val R2.ts R2.texts.length] ?_)
      refine os 1 ?_
      refine nt ?_
      refine Qi (Qm ?_)
      refine body_endC [.agg #[Gs.val R2.s R2.objs.length, Gs.val R2.ts R2.texts.length], .bool (setQ R.pub w ((idxV key).1))] (fun _ => (.cons ⟨b3, 0, rfl, .inl ⟨[Gs.val R2.s R2.objs.length, Gs.val R2.ts R2.texts.length], by kernel_rfl, (Qb (Cell.own Qe rfl) (Qb (Cell.own Qe rfl) Qo)), rfl⟩⟩ (.cons rfl .nil))) ?_
      rw [defP_go hno, ← hd, defGo_ix (by assumption) (by assumption) (by assumption) (by assumption)]
      exact ⟨R2, ow, rfl, hR2, hp2, ht2⟩
     refine Ql (Qj ?_)
     refine sr ?_
     refine L (lds 2 ?_)
     refine os 2 ?_
     refine L (lds 3 ?_)
     refine L (cl (rq_Put (k := k) hk hR hL hw key d) ?_)
     rintro _ R2 ⟨rfl, hR2, hp2, ht2⟩
     refine L (st [Gs.val R2.s R2.objs.length, Gs.val R2.ts R2.texts.length] ?_)
     refine os 1 ?_
     refine kp [9, 98, 75, 15, 14, 68, 13, 10, 8, 7, 4, 1, 2] ?_
     refine nt ?_
     refine Qi ?_
     refine body_endC [.agg #[Gs.val R2.s R2.objs.length, Gs.val R2.ts R2.texts.length], .bool true] (fun _ => (.cons ⟨b3, 0, rfl, .inl ⟨[Gs.val R2.s R2.objs.length, Gs.val R2.ts R2.texts.length], by kernel_rfl, (Qb (Cell.own Qe rfl) (Qb (Cell.own Qe rfl) Qo)), rfl⟩⟩ (.cons rfl .nil))) ?_
     rw [defP_go hno, ← hd]
     rw [defGo_put (by assumption) (by assumption) (by assumption)]
     exact ⟨R2, ow, rfl, hR2, hp2, ht2⟩
    refine Ql (Qj ?_)
    refine sr ?_
    refine L (lds 2 ?_)
    refine os 2 ?_
    refine L (lds 3 ?_)
    refine L (cl (rq_Put (k := k) hk hR hL hw key d) ?_)
    rintro _ R2 ⟨rfl, hR2, hp2, ht2⟩
    refine L (st [Gs.val R2.s R2.objs.length, Gs.val R2.ts R2.texts.length] ?_)
    refine os 1 ?_
    refine kp [9, 68, 13, 10, 8, 7, 4, 1, 2] ?_
    refine nt ?_
    refine Qi ?_
    refine body_endC [.agg #[Gs.val R2.s R2.objs.length, Gs.val R2.ts R2.texts.length], .bool true] (fun _ => (.cons ⟨b3, 0, rfl, .inl ⟨[Gs.val R2.s R2.objs.length, Gs.val R2.ts R2.texts.length], by kernel_rfl, (Qb (Cell.own Qe rfl) (Qb (Cell.own Qe rfl) Qo)), rfl⟩⟩ (.cons rfl .nil))) ?_
    rw [defP_go hno, ← hd]
    rw [defGo_plain (by assumption)]
    exact ⟨R2, ow, rfl, hR2, hp2, ht2⟩

end Go.Proofs.YthflblophelioaaGreatDoor
namespace Go.Proofs.YthflblophelioaaGreatDoor
open Go.Sl

theorem rz_Delete {W0 : World} {k : Nat} {R : RSt} (hR : R.ok) (hL : LOk k R.pub) (hk : k ≤ 8000000) {w : Int} (hw : wordOk w) (key : ByteArray) : SC Tryz.prog W0 37 #[R.val, .int .u64 w, .string key] (RSt.ent R) (Ret (fun R2 : RSt => RSt.ent R2) (fun v R2 => v = .tuple #[R2.val, .bool (delP R.pub w key).2] ∧ R2.ok ∧ R2.pub = (delP R.pub w key).1 ∧ R2.texts = R.texts)) := by
 refine SC_body (fn := Tryz.f37) (n := 50) Tryz.func37 rfl (by kernel_rfl) (ρ := [(0, .agg #[Gs.val R.s R.objs.length, Gs.val R.ts R.texts.length]), (1, .int .u64 w), (2, .string key)]) rfl ?_
 refine SW_sig ((RSt.ent R) ++ ([])) (by simp only [List.append_nil, List.append_assoc]) ?_
 refine sr ?_
 refine L (nw 28 2 [Gs.val R.s R.objs.length, Gs.val R.ts R.texts.length] ?_)
 intro b1
 refine L (nw 28 2 [.slice none 0 0, .slice none 0 0] ?_)
 intro b2
 refine os 1 ?_
 refine nsr ?_
 refine L (lds 2 ?_)
 refine os 2 ?_
 refine L (cl (rz_Own hR hL (w := w) hw key) ?_)
 rintro v1 _ hv1
 obtain rfl : v1 = .tuple #[.agg #[.int .u64 ((descG (ownQ R.pub w key)).1), .int .u64 ((descG (ownQ R.pub w key)).2.1), .int .i64 ((descG (ownQ R.pub w key)).2.2)], .bool ((ownQ R.pub w key).isSome)] := hv1.trans (descR_eq _)
 refine os 3 ?_
 refine L (nw 45 3 [.int .u64 0, .int .u64 0, .int .i64 0] ?_)
 intro b3
 refine L (st [.int .u64 ((descG (ownQ R.pub w key)).1), .int .u64 ((descG (ownQ R.pub w key)).2.1), .int .i64 ((descG (ownQ R.pub w key)).2.2)] ?_)
 refine os 1 ?_
 refine kp [9, 8, 7, 6, 3, 0, 1, 2] ?_
 refine nq ?_
 refine sr ?_
 refine os 2 ?_
 refine nt ?_
 refine cd (fun hc4 : (!((ownQ R.pub w key).isSome)) = true => ?_) (fun hc4 => ?_)
 ·replace hc4 := bnot_t hc4
  refine sr ?_
  refine L (lds 2 ?_)
  refine L (st [Gs.val R.s R.objs.length, Gs.val R.ts R.texts.length] ?_)
  refine os 1 ?_
  refine nt ?_
  refine Qi (Qm ?_)
  refine body_endC [.agg #[Gs.val R.s R.objs.length, Gs.val R.ts R.texts.length], .bool true] (fun _ => (.cons ⟨b2, 0, rfl, .inl ⟨[Gs.val R.s R.objs.length, Gs.val R.ts R.texts.length], by kernel_rfl, (Qb (Cell.own Qe rfl) (Qb (Cell.own Qe rfl) Qo)), rfl⟩⟩ (.cons rfl .nil))) ?_
  exact ⟨R, ow, by rw [delP_none (by assumption)]; exact ⟨rfl, hR, rfl, rfl⟩⟩
 replace hc4 := bnot_f hc4
 refine Ql (Qj ?_)
 refine SW_seq ?_
 refine sr ?_
 refine os 1 ?_
 refine L (ld ?_)
 refine oV (.int .i64 (band ((descG (ownQ R.pub w key)).2.2) 4)) ?_
 refine os 1 ?_
 refine kp [25, 20, 9, 8, 7, 6, 3, 0, 1, 2] ?_
 refine nt ?_
 refine cd (fun hc5 : ((band ((descG (ownQ R.pub w key)).2.2) 4) == 0) = true => ?_) (fun hc5 => ?_)
 ·refine sr ?_
  refine L (lds 2 ?_)
  refine L (st [Gs.val R.s R.objs.length, Gs.val R.ts R.texts.length] ?_)
  refine os 1 ?_
  refine nt ?_
  refine Qi (Qm ?_)
  refine body_endC [.agg #[Gs.val R.s R.objs.length, Gs.val R.ts R.texts.length], .bool false] (fun _ => (.cons ⟨b2, 0, rfl, .inl ⟨[Gs.val R.s R.objs.length, Gs.val R.ts R.texts.length], by kernel_rfl, (Qb (Cell.own Qe rfl) (Qb (Cell.own Qe rfl) Qo)), rfl⟩⟩ (.cons rfl .nil))) ?_
  exact ⟨R, ow, by rw [delP_no (by assumption) (by assumption)]; exact ⟨rfl, hR, rfl, rfl⟩⟩
 refine Ql (Qj ?_)
 refine sr ?_
 refine os 1 ?_
 refine L (cl (rf_Index key) ?_)
 rintro _ _ rfl
 refine un ?_
 refine os 5 ?_
 refine kp [11, 10, 25, 20, 9, 8, 7, 6, 3, 0, 1, 2] ?_
 refine nq ?_
 refine sr ?_
 refine os 2 ?_
 refine tb 33 (fun hg6 => ?_) (fun hg6 => ?_)
 ·replace hg6 : ((idxV key).2) = true := hg6
  refine L (lds 2 ?_)
  refine os 1 ?_
  refine L (cl (rz_Array hR (w := w) hw) ?_)
  rintro _ _ rfl
  refine os 1 ?_
  refine kp [37, 11, 10, 25, 20, 9, 8, 7, 6, 3, 0, 1, 2] ?_
  refine nt ?_
  refine cd (fun hc7 : ((arrP R.pub w)) = true => ?_) (fun hc7 => ?_)
  ·refine sr ?_
   refine L (lds 2 ?_)
   refine os 2 ?_
   refine L (cl (rq_SetElem (k := k) hR hL hw ((idxV key).1) 18445336698825998340) ?_)
   rintro _ R2 ⟨rfl, hR2, hp2, ht2⟩
   refine os 2 ?_
   refine L (st [Gs.val R2.s R2.objs.length, Gs.val R2.ts R2.texts.length] ?_)
   refine os 1 ?_
   refine kp [7, 37, 11, 10, 25, 20, 9, 8, 6, 3, 0, 1, 2] ?_
   refine nt ?_
   refine Qi (Qm ?_)
   refine body_endC [.agg #[Gs.val R2.s R2.objs.length, Gs.val R2.ts R2.texts.length], .bool (setQ R.pub w ((idxV key).1))] (fun _ => (.cons ⟨b2, 0, rfl, .inl ⟨[Gs.val R2.s R2.objs.length, Gs.val R2.ts R2.texts.length], by kernel_rfl, (Qb (Cell.own Qe rfl) (Qb (Cell.own Qe rfl) Qo)), rfl⟩⟩ (.cons rfl .nil))) ?_
   exact ⟨R2, ow, by rw [delP_ix (by assumption) (by assumption) (by assumption) (by assumption)]; exact ⟨rfl, hR2, hp2, ht2⟩⟩
  refine Ql (Qj ?_)
  refine sr ?_
  refine L (lds 2 ?_)
  refine os 2 ?_
  refine L (cl (rq_Drop (k := k) hk hR hL hw key) ?_)
  rintro _ R2 ⟨rfl, hR2, hp2, ht2⟩
  refine os 2 ?_
  refine L (st [Gs.val R2.s R2.objs.length, Gs.val R2.ts R2.texts.length] ?_)
  refine os 1 ?_
  refine kp [7, 37, 11, 10, 25, 20, 9, 8, 6, 3, 0, 1, 2] ?_
  refine nt ?_
  refine Qi ?_
  refine body_endC [.agg #[Gs.val R2.s R2.objs.length, Gs.val R2.ts R2.texts.length], .bool (hasQ R.pub w key)] (fun _ => (.cons ⟨b2, 0, rfl, .inl ⟨[Gs.val R2.s R2.objs.length, Gs.val R2.ts R2.texts.length], by kernel_rfl, (Qb (Cell.own Qe rfl) (Qb (Cell.own Qe rfl) Qo)), rfl⟩⟩ (.cons rfl .nil))) ?_
  exact ⟨R2, ow, by rw [delP_drop (by assumption) (by assumption) (by first | exact .inl (by assumption) | exact .inr (by assumption))]; exact ⟨rfl, hR2, hp2, ht2⟩⟩
 replace hg6 : ((idxV key).2) = false := hg6
 refine os 4 ?_
 refine kp [37, 11, 10, 25, 20, 9, 8, 7, 6, 3, 0, 1, 2] ?_
 refine nt ?_
 refine cf ?_
 refine Ql (Qj ?_)
 refine sr ?_
 refine L (lds 2 ?_)
 refine os 2 ?_
 refine L (cl (rq_Drop (k := k) hk hR hL hw key) ?_)
 rintro _ R2 ⟨rfl, hR2, hp2, ht2⟩
 refine os 2 ?_
 refine L (st [Gs.val R2.s R2.objs.length, Gs.val R2.ts R2.texts.length] ?_)
 refine os 1 ?_
 refine kp [7, 37, 11, 10, 25, 20, 9, 8, 6, 3, 0, 1, 2] ?_
 refine nt ?_
 refine Qi ?_
 refine body_endC [.agg #[Gs.val R2.s R2.objs.length, Gs.val R2.ts R2.texts.length], .bool (hasQ R.pub w key)] (fun _ => (.cons ⟨b2, 0, rfl, .inl ⟨[Gs.val R2.s R2.objs.length, Gs.val R2.ts R2.texts.length], by kernel_rfl, (Qb (Cell.own Qe rfl) (Qb (Cell.own Qe rfl) Qo)), rfl⟩⟩ (.cons rfl .nil))) ?_
 exact ⟨R2, ow, by rw [delP_drop (by assumption) (by assumption) (by first | exact .inl (by assumption) | exact .inr (by assumption))]; exact ⟨rfl, hR2, hp2, ht2⟩⟩

theorem rz_Assign {W0 : World} {k : Nat} {R : RSt} (hR : R.ok) (hL : LOk k R.pub) (hk : k ≤ 8000000) (hfl : ∀ o ∈ R.pub, ∀ d ∈ o.descs, normF d.2.2 = d.2.2) {w : Int} (hw : wordOk w) (key : ByteArray) {y : Int} (hy : wordOk y) (hE : Ends R.pub w) (hP : protosOk R.pub) : SC Tryz.prog W0 38 #[R.val, .int .u64 w, .string key, .int .u64 y] (RSt.ent R) (Ret (fun R2 : RSt => RSt.ent R2) (fun v R2 => v = .tuple #[R2.val, .int .u64 (asgP R.pub w key y).2.1, .int .i64 (asgP R.pub w key y).2.2] ∧ R2.ok ∧ R2.pub = (asgP R.pub w key y).1 ∧ R2.texts = R.texts)) := by
 refine SC_body (fn := Tryz.f38) (n := 68) Tryz.func38 rfl (by kernel_rfl) (ρ := [(0, .agg #[Gs.val R.s R.objs.length, Gs.val R.ts R.texts.length]), (1, .int .u64 w), (2, .string key), (3, .int .u64 y)]) rfl ?_
 refine SW_sig ((RSt.ent R) ++ ([])) (by simp only [List.append_nil, List.append_assoc]) ?_
 refine sr ?_
 refine L (nw 28 2 [Gs.val R.s R.objs.length, Gs.val R.ts R.texts.length] ?_)
 intro b1
 refine L (nw 28 2 [.slice none 0 0, .slice none 0 0] ?_)
 intro b2
 refine os 2 ?_
 refine nsr ?_
 refine L (lds 2 ?_)
 refine os 2 ?_
 refine L (cl (rz_Lookup hR hL hw key hE hP) ?_)
 rintro _ _ rfl
 refine os 4 ?_
 refine L (nw 45 3 [.int .u64 0, .int .u64 0, .int .i64 0] ?_)
 intro b3
 refine os 1 ?_
 refine kp [11, 12, 23, 22, 10, 9, 8, 4, 0, 1, 2, 3] ?_
 refine L (st [.int .u64 ((lookV (lookQ R.pub w key)).2.1), .int .u64 ((lookV (lookQ R.pub w key)).2.2.1), .int .i64 ((lookV (lookQ R.pub w key)).2.2.2)] ?_)
 refine os 1 ?_
 refine nq ?_
 refine sr ?_
 refine os 2 ?_
 refine tb 25 (fun hg4 => ?_) (fun hg4 => ?_)
 ·replace hg4 : ((lookQ R.pub w key).isSome) = true := hg4
  refine os 1 ?_
  refine L (ld ?_)
  refine oV (.int .i64 (band ((lookV (lookQ R.pub w key)).2.2.2) 8)) ?_
  refine os 2 ?_
  refine kp [30, 13, 11, 12, 10, 9, 8, 4, 0, 1, 2, 3] ?_
  refine nt ?_
  refine cd (fun hc5 : ((band ((lookV (lookQ R.pub w key)).2.2.2) 8) != 0) = true => ?_) (fun hc5 => ?_)
  ·refine SW_seq ?_
   refine sr ?_
   refine os 1 ?_
   refine L (ld ?_)
   refine os 1 ?_
   refine nt ?_
   refine cd (fun hc6 : (((lookV (lookQ R.pub w key)).2.2.1) == 18445336698825998336) = true => ?_) (fun hc6 => ?_)
   ·refine sr ?_
    refine L (lds 2 ?_)
    refine L (st [Gs.val R.s R.objs.length, Gs.val R.ts R.texts.length] ?_)
    refine os 2 ?_
    refine kp [10, 9, 33, 30, 13, 11, 12, 8, 4, 0, 1, 2, 3] ?_
    refine nt ?_
    refine Qi (Qm (Qm ?_))
    refine body_endC [.agg #[Gs.val R.s R.objs.length, Gs.val R.ts R.texts.length], .int .u64 18445336698825998336, .int .i64 1] (fun _ => (.cons ⟨b2, 0, rfl, .inl ⟨[Gs.val R.s R.objs.length, Gs.val R.ts R.texts.length], by kernel_rfl, (Qb (Cell.own Qe rfl) (Qb (Cell.own Qe rfl) Qo)), rfl⟩⟩ (.cons rfl (.cons rfl .nil)))) ?_
    exact ⟨R, ow, by rw [asgP_ref (by assumption) (by assumption) (by assumption)]; exact ⟨rfl, hR, rfl, rfl⟩⟩
   refine Ql (Qj ?_)
   refine SW_seq ?_
   refine SW_draw [(b1, 0, Gs.val R.s R.objs.length), (b1, 1, Gs.val R.ts R.texts.length), (b3, 1, .int .u64 ((lookV (lookQ R.pub w key)).2.2.1))] [0, 1, 2, 3] (by kernel_rfl) (Qf (Cell.own (Qc (Qa (Qc Qe))) rfl) (Qf (Cell.own (Qc (Qa (Qc Qe))) rfl) (Qf (Cell.own Qe rfl) rd_nil))) ?_
   refine tr 0 (.agg #[Gs.val R.s R.objs.length, Gs.val R.ts R.texts.length]) ?_ (hy := fun δ w_ hr => Rd_loads b1 0 [Gs.val R.s R.objs.length, Gs.val R.ts R.texts.length] rfl (by kernel_rfl) (rdm_cons List.mem_cons_self (rdm_cons (List.mem_cons_of_mem _ List.mem_cons_self) rdm_nil)) hr)
   refine aF 1 ?_
   refine aL 2 ?_
   refine sa1 true 3 (h := st [Gs.val R.s R.objs.length, Gs.val R.ts R.texts.length] ?_)
   refine ⟨fun hnd => (Qf (Cell.own (Qc (Qc (Qa Qe))) rfl) (Qf (Cell.own (Qc (Qc (Qa Qe))) rfl) (Qf (Cell.own (Qc Qe) rfl) rd_nil))), ?_⟩
   refine aS 4 ?_
   refine aS 5 ?_
   refine SA_done (by kernel_rfl) (Qj ?_)
   refine Qi (Qm ?_)
   refine body_endC [.agg #[Gs.val R.s R.objs.length, Gs.val R.ts R.texts.length], .int .u64 ((lookV (lookQ R.pub w key)).2.2.1), .int .i64 2] (fun _ => (.cons ⟨b2, 0, rfl, .inl ⟨[Gs.val R.s R.objs.length, Gs.val R.ts R.texts.length], by kernel_rfl, (Qb (Cell.own Qe rfl) (Qb (Cell.own Qe rfl) Qo)), rfl⟩⟩ (.cons rfl (.cons rfl .nil)))) ?_
   exact ⟨R, ow, by rw [asgP_call (by assumption) (by assumption) (by assumption)]; exact ⟨rfl, hR, rfl, rfl⟩⟩
  refine Ql (Qj ?_)
  refine SW_seq ?_
  refine sr ?_
  refine os 3 ?_
  refine L (ld ?_)
  refine oV (.int .i64 (band ((lookV (lookQ R.pub w key)).2.2.2) 1)) ?_
  refine os 2 ?_
  refine kp [44, 30, 13, 11, 12, 10, 9, 8, 4, 0, 1, 2, 3] ?_
  refine nt ?_
  refine cd (fun hc7 : ((band ((lookV (lookQ R.pub w key)).2.2.2) 1) == 0) = true => ?_) (fun hc7 => ?_)
  ·refine sr ?_
   refine L (lds 2 ?_)
   refine L (st [Gs.val R.s R.objs.length, Gs.val R.ts R.texts.length] ?_)
   refine os 2 ?_
   refine nt ?_
   refine Qi (Qm ?_)
   refine body_endC [.agg #[Gs.val R.s R.objs.length, Gs.val R.ts R.texts.length], .int .u64 18445336698825998336, .int .i64 1] (fun _ => (.cons ⟨b2, 0, rfl, .inl ⟨[Gs.val R.s R.objs.length, Gs.val R.ts R.texts.length], by kernel_rfl, (Qb (Cell.own Qe rfl) (Qb (Cell.own Qe rfl) Qo)), rfl⟩⟩ (.cons rfl (.cons rfl .nil)))) ?_
   exact ⟨R, ow, by rw [asgP_ro (by assumption) (by assumption) (by assumption)]; exact ⟨rfl, hR, rfl, rfl⟩⟩
  refine Ql (Qj ?_)
  refine sr ?_
  refine os 1 ?_
  refine oV (.agg #[.int .i64 15, .int .u64 y, .int .u64 0, .int .u64 0, .int .i64 7]) ?_
  refine L (nw 35 5 [.int .i64 0, .int .u64 0, .int .u64 0, .int .u64 0, .int .i64 0] ?_)
  intro b8
  refine L (st [.int .i64 15, .int .u64 y, .int .u64 0, .int .u64 0, .int .i64 7] ?_)
  refine nq ?_
  refine sr ?_
  refine os 6 ?_
  refine kp [53, 14, 44, 30, 13, 11, 12, 10, 9, 8, 4, 0, 1, 2, 3] ?_
  refine nt ?_
  refine cd (fun hc9 : (((lookV (lookQ R.pub w key)).1) == w) = true => ?_) (fun hc9 => ?_)
  ·have hne_ : ((lookV (lookQ R.pub w key)).1 != w) = false := by rw [bne, hc9]; rfl
   refine Qn ?_
   refine os 1 ?_
   refine oV (.agg #[.int .i64 1, .int .u64 y, .int .u64 0, .int .u64 0, .int .i64 0]) ?_
   refine L (st [.int .i64 1, .int .u64 y, .int .u64 0, .int .u64 0, .int .i64 0] ?_)
   refine nsr ?_
   refine L (lds 2 ?_)
   refine os 2 ?_
   refine L (lds 5 ?_)
   have hW : asgW R.pub w key y = ⟨1, y, 0, 0, 0⟩ := asgW_own (by assumption) (by assumption)
   refine L (cl (rz_Define hR hL hk hfl hw key ⟨1, y, 0, 0, 0⟩ hy (show wordOk 0 from ⟨by decide, by decide⟩)) ?_)
   rintro _ R2 ⟨rfl, hR2, hp2, ht2⟩
   rw [← hW] at hp2
   refine os 3 ?_
   refine kp [63, 62, 53, 14, 44, 30, 13, 11, 12, 10, 9, 8, 4, 0, 1, 2, 3] ?_
   refine L (st [Gs.val R2.s R2.objs.length, Gs.val R2.ts R2.texts.length] ?_)
   refine os 1 ?_
   refine nq ?_
   refine sr ?_
   refine os 2 ?_
   refine kp [65, 15, 53, 14, 44, 30, 13, 11, 12, 10, 9, 8, 4, 0, 1, 2, 3] ?_
   refine nt ?_
   refine cd (fun hc10 : (!((defP R.pub w key ⟨1, y, 0, 0, 0⟩).2)) = true => ?_) (fun hc10 => ?_)
   ·replace hc10 := bnot_t hc10
    refine sr ?_
    refine L (lds 2 ?_)
    refine L (st [Gs.val R2.s R2.objs.length, Gs.val R2.ts R2.texts.length] ?_)
    refine os 2 ?_
    refine nt ?_
    refine Qi (Qm ?_)
    refine body_endC [.agg #[Gs.val R2.s R2.objs.length, Gs.val R2.ts R2.texts.length], .int .u64 18445336698825998336, .int .i64 1] (fun _ => (.cons ⟨b2, 0, rfl, .inl ⟨[Gs.val R2.s R2.objs.length, Gs.val R2.ts R2.texts.length], by kernel_rfl, (Qb (Cell.own Qe rfl) (Qb (Cell.own Qe rfl) Qo)), rfl⟩⟩ (.cons rfl (.cons rfl .nil)))) ?_
    refine ⟨R2, ow, ?_⟩
    rw [asgP_def (by first | exact .inl (by assumption) | exact .inr ⟨by assumption, by assumption⟩)]
    exact ⟨by rw [hW, ite_ff (by assumption)] <;> rfl, hR2, hp2, ht2⟩
   replace hc10 := bnot_f hc10
   refine Ql (Qj ?_)
   refine sr ?_
   refine L (lds 2 ?_)
   refine L (st [Gs.val R2.s R2.objs.length, Gs.val R2.ts R2.texts.length] ?_)
   refine os 2 ?_
   refine nt ?_
   refine Qi ?_
   refine body_endC [.agg #[Gs.val R2.s R2.objs.length, Gs.val R2.ts R2.texts.length], .int .u64 18445336698825998336, .int .i64 0] (fun _ => (.cons ⟨b2, 0, rfl, .inl ⟨[Gs.val R2.s R2.objs.length, Gs.val R2.ts R2.texts.length], by kernel_rfl, (Qb (Cell.own Qe rfl) (Qb (Cell.own Qe rfl) Qo)), rfl⟩⟩ (.cons rfl (.cons rfl .nil)))) ?_
   refine ⟨R2, ow, ?_⟩
   rw [asgP_def (by first | exact .inl (by assumption) | exact .inr ⟨by assumption, by assumption⟩)]
   exact ⟨by rw [hW, if_pos (by assumption)] <;> rfl, hR2, hp2, ht2⟩
  have hne_ : ((lookV (lookQ R.pub w key)).1 != w) = true := by rw [bne, hc9]; rfl
  refine Ql (Qj ?_)
  refine sr ?_
  refine L (lds 2 ?_)
  refine os 2 ?_
  refine L (lds 5 ?_)
  have hW : asgW R.pub w key y = ⟨15, y, 0, 0, 7⟩ := asgW_new (by first | exact .inl (by assumption) | exact .inr (by assumption))
  refine L (cl (rz_Define hR hL hk hfl hw key ⟨15, y, 0, 0, 7⟩ hy (show wordOk 0 from ⟨by decide, by decide⟩)) ?_)
  rintro _ R2 ⟨rfl, hR2, hp2, ht2⟩
  rw [← hW] at hp2
  refine os 3 ?_
  refine kp [63, 62, 53, 14, 44, 30, 13, 11, 12, 10, 9, 8, 4, 0, 1, 2, 3] ?_
  refine L (st [Gs.val R2.s R2.objs.length, Gs.val R2.ts R2.texts.length] ?_)
  refine os 1 ?_
  refine nq ?_
  refine sr ?_
  refine os 2 ?_
  refine kp [65, 15, 53, 14, 44, 30, 13, 11, 12, 10, 9, 8, 4, 0, 1, 2, 3] ?_
  refine nt ?_
  refine cd (fun hc11 : (!((defP R.pub w key ⟨15, y, 0, 0, 7⟩).2)) = true => ?_) (fun hc11 => ?_)
  ·replace hc11 := bnot_t hc11
   refine sr ?_
   refine L (lds 2 ?_)
   refine L (st [Gs.val R2.s R2.objs.length, Gs.val R2.ts R2.texts.length] ?_)
   refine os 2 ?_
   refine nt ?_
   refine Qi (Qm ?_)
   refine body_endC [.agg #[Gs.val R2.s R2.objs.length, Gs.val R2.ts R2.texts.length], .int .u64 18445336698825998336, .int .i64 1] (fun _ => (.cons ⟨b2, 0, rfl, .inl ⟨[Gs.val R2.s R2.objs.length, Gs.val R2.ts R2.texts.length], by kernel_rfl, (Qb (Cell.own Qe rfl) (Qb (Cell.own Qe rfl) Qo)), rfl⟩⟩ (.cons rfl (.cons rfl .nil)))) ?_
   refine ⟨R2, ow, ?_⟩
   rw [asgP_def (by first | exact .inl (by assumption) | exact .inr ⟨by assumption, by assumption⟩)]
   exact ⟨by rw [hW, ite_ff (by assumption)] <;> rfl, hR2, hp2, ht2⟩
  replace hc11 := bnot_f hc11
  refine Ql (Qj ?_)
  refine sr ?_
  refine L (lds 2 ?_)
  refine L (st [Gs.val R2.s R2.objs.length, Gs.val R2.ts R2.texts.length] ?_)
  refine os 2 ?_
  refine nt ?_
  refine Qi ?_
  refine body_endC [.agg #[Gs.val R2.s R2.objs.length, Gs.val R2.ts R2.texts.length], .int .u64 18445336698825998336, .int .i64 0] (fun _ => (.cons ⟨b2, 0, rfl, .inl ⟨[Gs.val R2.s R2.objs.length, Gs.val R2.ts R2.texts.length], by kernel_rfl, (Qb (Cell.own Qe rfl) (Qb (Cell.own Qe rfl) Qo)), rfl⟩⟩ (.cons rfl (.cons rfl .nil)))) ?_
  refine ⟨R2, ow, ?_⟩
  rw [asgP_def (by first | exact .inl (by assumption) | exact .inr ⟨by assumption, by assumption⟩)]
  exact ⟨by rw [hW, if_pos (by assumption)] <;> rfl, hR2, hp2, ht2⟩
 replace hg4 : ((lookQ R.pub w key).isSome) = false := hg4
 refine os 5 ?_
 refine kp [30, 13, 11, 12, 10, 9, 8, 4, 0, 1, 2, 3] ?_
 refine nt ?_
 refine cf ?_
 refine Ql (Qj ?_)
 refine SW_seq ?_
 refine sr ?_
 refine os 7 ?_
 refine kp [44, 30, 13, 11, 12, 10, 9, 8, 4, 0, 1, 2, 3] ?_
 refine nt ?_
 refine cf ?_
 refine Ql (Qj ?_)
 refine sr ?_
 refine os 1 ?_
 refine oV (.agg #[.int .i64 15, .int .u64 y, .int .u64 0, .int .u64 0, .int .i64 7]) ?_
 refine L (nw 35 5 [.int .i64 0, .int .u64 0, .int .u64 0, .int .u64 0, .int .i64 0] ?_)
 intro b12
 refine L (st [.int .i64 15, .int .u64 y, .int .u64 0, .int .u64 0, .int .i64 7] ?_)
 refine nq ?_
 refine sr ?_
 refine os 6 ?_
 refine kp [53, 14, 44, 30, 13, 11, 12, 10, 9, 8, 4, 0, 1, 2, 3] ?_
 refine nt ?_
 refine cf ?_
 refine Ql (Qj ?_)
 refine sr ?_
 refine L (lds 2 ?_)
 refine os 2 ?_
 refine L (lds 5 ?_)
 have hW : asgW R.pub w key y = ⟨15, y, 0, 0, 7⟩ := asgW_new (by first | exact .inl (by assumption) | exact .inr (by assumption))
 refine L (cl (rz_Define hR hL hk hfl hw key ⟨15, y, 0, 0, 7⟩ hy (show wordOk 0 from ⟨by decide, by decide⟩)) ?_)
 rintro _ R2 ⟨rfl, hR2, hp2, ht2⟩
 rw [← hW] at hp2
 refine os 3 ?_
 refine kp [63, 62, 53, 14, 44, 30, 13, 11, 12, 10, 9, 8, 4, 0, 1, 2, 3] ?_
 refine L (st [Gs.val R2.s R2.objs.length, Gs.val R2.ts R2.texts.length] ?_)
 refine os 1 ?_
 refine nq ?_
 refine sr ?_
 refine os 2 ?_
 refine kp [65, 15, 53, 14, 44, 30, 13, 11, 12, 10, 9, 8, 4, 0, 1, 2, 3] ?_
 refine nt ?_
 refine cd (fun hc13 : (!((defP R.pub w key ⟨15, y, 0, 0, 7⟩).2)) = true => ?_) (fun hc13 => ?_)
 ·replace hc13 := bnot_t hc13
  refine sr ?_
  refine L (lds 2 ?_)
  refine L (st [Gs.val R2.s R2.objs.length, Gs.val R2.ts R2.texts.length] ?_)
  refine os 2 ?_
  refine nt ?_
  refine Qi (Qm ?_)
  refine body_endC [.agg #[Gs.val R2.s R2.objs.length, Gs.val R2.ts R2.texts.length], .int .u64 18445336698825998336, .int .i64 1] (fun _ => (.cons ⟨b2, 0, rfl, .inl ⟨[Gs.val R2.s R2.objs.length, Gs.val R2.ts R2.texts.length], by kernel_rfl, (Qb (Cell.own Qe rfl) (Qb (Cell.own Qe rfl) Qo)), rfl⟩⟩ (.cons rfl (.cons rfl .nil)))) ?_
  refine ⟨R2, ow, ?_⟩
  rw [asgP_def (by first | exact .inl (by assumption) | exact .inr ⟨by assumption, by assumption⟩)]
  exact ⟨by rw [hW, ite_ff (by assumption)] <;> rfl, hR2, hp2, ht2⟩
 replace hc13 := bnot_f hc13
 refine Ql (Qj ?_)
 refine sr ?_
 refine L (lds 2 ?_)
 refine L (st [Gs.val R2.s R2.objs.length, Gs.val R2.ts R2.texts.length] ?_)
 refine os 2 ?_
 refine nt ?_
 refine Qi ?_
 refine body_endC [.agg #[Gs.val R2.s R2.objs.length, Gs.val R2.ts R2.texts.length], .int .u64 18445336698825998336, .int .i64 0] (fun _ => (.cons ⟨b2, 0, rfl, .inl ⟨[Gs.val R2.s R2.objs.length, Gs.val R2.ts R2.texts.length], by kernel_rfl, (Qb (Cell.own Qe rfl) (Qb (Cell.own Qe rfl) Qo)), rfl⟩⟩ (.cons rfl (.cons rfl .nil)))) ?_
 refine ⟨R2, ow, ?_⟩
 rw [asgP_def (by first | exact .inl (by assumption) | exact .inr ⟨by assumption, by assumption⟩)]
 exact ⟨by rw [hW, if_pos (by assumption)] <;> rfl, hR2, hp2, ht2⟩

end Go.Proofs.YthflblophelioaaGreatDoor
