/-
  PropsGiven, within the bound on what it reads, and tied to the program's text: it returns true whatever it is given, and leaves its arguments as they were. Conditions: the arguments' bulk is at most 1048576; the listed library variables stand as their text lays them, as the statement says.
-/
import Derived.Test.YthflblophelioaaGreatDoorPa9
import Derived.Test.YthflblophelioaaGreatDoorPa11
set_option linter.unusedVariables false
set_option linter.unusedSimpArgs false
set_option maxRecDepth 100000
set_option maxHeartbeats 4000000
namespace Go.Proofs.YthflblophelioaaGreatDoor
open Go.Sl
variable {l l' : List ObjS} {w o : Int} {key k : ByteArray} {x : OpW} {y : ObjS} {f : ObjS → ObjS}
theorem defP_cases (l : List ObjS) (w : Int) (key : ByteArray) (q : WishP) : defP l w key q = (l, false) ∨ (¬ defNo l w key q ∧
   ((arrP l w = true ∧ key = lenK ∧ (defD l w key q).2.2 = 1 ∧ ∃ m, isI (defD l w key q).1 = some m ∧ defP l w key q = (modP l w (lenO m), lenQ l w m)) ∨
    (arrP l w = true ∧ key ≠ lenK ∧ (idxV key).2 = true ∧ (defD l w key q).2.2 = 7 ∧ defP l w key q = (modP l w (setO (idxV key).1 (defD l w key q).1), setQ l w (idxV key).1)) ∨
    ((arrP l w = true → key ≠ lenK ∧ (idxV key).2 = false) ∧ defP l w key q = (modP l w (putO key (defD l w key q)), true)))) := by
 by_cases hno : defNo l w key q
 · exact .inl (defP_no hno)
 · rw [defP_go hno]
   unfold defGo
   by_cases h1 : arrP l w = true ∧ key = lenK
   · rw [if_pos h1]
     by_cases h2 : (defD l w key q).2.2 = 1
     · rw [if_pos h2]
       unfold lenGo
       cases h3 : isI (defD l w key q).1 with
       | none => exact .inl rfl
       | some m => exact .inr ⟨hno, .inl ⟨h1.1, h1.2, h2, m, rfl, rfl⟩⟩
     · rw [if_neg h2]; exact .inl rfl
   · rw [if_neg h1]
     by_cases h2 : arrP l w = true ∧ (idxV key).2 = true
     · rw [if_pos h2]
       by_cases h3 : (defD l w key q).2.2 = 7
       · rw [if_pos h3]; exact .inr ⟨hno, .inr (.inl ⟨h2.1, fun z => h1 ⟨h2.1, z⟩, h2.2, h3, rfl⟩)⟩
       · rw [if_neg h3]; exact .inl rfl
     · rw [if_neg h2]
       exact .inr ⟨hno, .inr (.inr ⟨fun ha => ⟨fun z => h1 ⟨ha, z⟩, by rw [← Bool.not_eq_true]; exact fun z => h2 ⟨ha, z⟩⟩, rfl⟩)⟩
theorem defNo_obj {q : WishP} (h : ¬ defNo l w key q) : ∃ y, objOf l w = some y := by
 apply objOf_get
 rw [← kindQ_some]
 cases z : (kindQ l w).2 with
 | true => rfl
 | false => exact absurd (.inl z) h
theorem asgP_cases (l : List ObjS) (w : Int) (key : ByteArray) (v : Int) : ((asgP l w key v).1 = l ∧ (asgP l w key v).2.2 ≠ 0) ∨ asgP l w key v = ((defP l w key (asgW l w key v)).1, undefW, if (defP l w key (asgW l w key v)).2 = true then 0 else 1) := by
 unfold asgP
 split
 · split
   · exact .inl ⟨rfl, (by decide : (1 : Int) ≠ 0)⟩
   · exact .inl ⟨rfl, (by decide : (2 : Int) ≠ 0)⟩
 · split
   · exact .inl ⟨rfl, (by decide : (1 : Int) ≠ 0)⟩
   · exact .inr rfl
inductive StepO (l : List ObjS) (x : OpW) (o : Int) (y : ObjS) : ObjS → Prop
  | same : StepO l x o y y
  | len (q : WishP) (m : Int) : x.o = o → ¬ defNo l o x.key q → arrP l o = true → x.key = lenK → StepO l x o y (lenO m y)
  | set (m v : Int) : x.o = o → arrP l o = true → (QH l o x.key).isSome = true ∨ openQ l o = true → x.key ≠ lenK → (idxV x.key).2 = true → StepO l x o y (setO m v y)
  | put (q : WishP) : x.o = o → ¬ defNo l o x.key q → (arrP l o = true → x.key ≠ lenK ∧ (idxV x.key).2 = false) → StepO l x o y (putO x.key (defD l o x.key q) y)
  | drop : x.o = o → (QH l o x.key).isSome = true → (band (QB (QH l o x.key)).2.2 4 == 0) = false → StepO l x o y (dropO x.key y)
  | under (p : Int) : x.o = o → openQ l o = true → StepO l x o y (y.under p)
  | shut : StepO l x o y (shutO y)
theorem StepO.kind {z : ObjS} (h : StepO l x o y z) : z.kind = y.kind := by cases h <;> rfl
theorem isI_int {v m : Int} (h : isI v = some m) (hm : 0 ≤ m) : v = intW m := by
 unfold isI at h
 unfold tagOf at h
 split at h
 · next q =>
   have h2 : IntKind.wrap .i32 (((v % 4294967296).toNat : Nat) : Int) = m := Option.some.inj h
   rw [IntKind.wrap_i32] at h2
   unfold intW
   omega
 · cases h
theorem defP_false {q : WishP} (h : (defP l w key q).2 = false) : (defP l w key q).1 = l := by
 rcases defP_cases l w key q with e | ⟨hno, ⟨a, b, c, m, d, e⟩ | ⟨a, b, c, d, e⟩ | ⟨a, e⟩⟩ <;> rw [e] at h ⊢
 · obtain ⟨y, hy⟩ := defNo_obj hno
   have hs : (QA w l.length).isSome = true := by obtain ⟨n, h0, _⟩ := objOf_at hy; rw [h0]; rfl
   have hm : ¬ (0 ≤ m ∧ m ≤ 4096) := by
     have h' : lenQ l w m = false := h
     unfold lenQ at h'; rw [hs] at h'; simpa using h'
   obtain ⟨n, h0, hn⟩ := objOf_at hy
   show modP l w (lenO m) = l
   rw [modP_some h0 hn, show lenO m y = y from by show (⟨y.kind, y.proto, y.shut, y.names, y.descs, setLenQ y.elems m, y.inner⟩ : ObjS) = y; rw [show setLenQ y.elems m = y.elems from if_neg hm]]
   exact set_same hn
 · obtain ⟨y, hy⟩ := defNo_obj hno
   obtain ⟨n, h0, hn⟩ := objOf_at hy
   have hm : ¬ (0 ≤ (idxV key).1 ∧ (idxV key).1 < 4096) := by
     have h' : setQ l w (idxV key).1 = false := h
     unfold setQ at h'; rw [h0] at h'; simpa using h'
   show modP l w (setO (idxV key).1 (defD l w key q).1) = l
   rw [modP_some h0 hn, show setO (idxV key).1 (defD l w key q).1 y = y from by show (⟨y.kind, y.proto, y.shut, y.names, y.descs, setElemL y.elems (idxV key).1 (defD l w key q).1, y.inner⟩ : ObjS) = y; rw [show setElemL y.elems (idxV key).1 (defD l w key q).1 = y.elems from if_neg hm]]
   exact set_same hn
 · cases h
theorem elemO_set {es : List Int} {m v : Int} (hm : 0 ≤ m ∧ m < 4096) (hv : v ≠ holeW) : elemO (setElemL es m v) m = (v, true) := by
 have e : setElemL es m v = (Qu es (max es.length (m.toNat + 1))).set m.toNat v := if_pos hm
 rw [e]
 unfold elemO
 rw [List.length_set, setLenL_len, if_pos ⟨hm.1, by omega⟩, List.getElem?_set_self (by rw [setLenL_len]; omega)]
 simp only []
 rw [if_neg hv]
theorem setLenQ_len {es : List Int} {m : Int} (hm : 0 ≤ m ∧ m ≤ 4096) : ((setLenQ es m).length : Int) = m := by
 rw [show setLenQ es m = Qu es m.toNat from if_pos hm, setLenL_len]; omega
theorem idxV_lt (h : (idxV key).2 = true) : 0 ≤ (idxV key).1 ∧ (idxV key).1 < 4096 := by
 cases hm : idxK key with
 | none => rw [idxV_none hm] at h; cases h
 | some m =>
   rw [idxV_some hm]
   have := idx_lt hm
   exact ⟨by simp only []; omega, by simp only []; omega⟩
theorem defP_true (hl : Nice l) {q : WishP} (h : (defP l w key q).2 = true) : (arrP l w = true ∧ (defD l w key q).1 = holeW) ∨ ∃ d, QH (defP l w key q).1 w key = some d ∧ d.1 = (defD l w key q).1 := by
 rcases defP_cases l w key q with e | ⟨hno, ⟨a, b, c, m, d, e⟩ | ⟨a, b, c, d, e⟩ | ⟨a, e⟩⟩ <;> rw [e] at h ⊢
 · cases h
 · obtain ⟨y, hy⟩ := defNo_obj hno
   have hm : 0 ≤ m ∧ m ≤ 4096 := by
     have h' : lenQ l w m = true := h
     unfold lenQ at h'
     rw [Bool.and_eq_true] at h'
     exact of_decide_eq_true h'.1
   right
   refine ⟨(intW m, undefW, 1), ?_, (isI_int d hm.1).symm⟩
   rw [ownQ_of (objOf_mod hy)]
   unfold ownO
   rw [arrQ_of hy] at a
   rw [if_pos (by simpa using a), if_pos b, setLenQ_len hm]
 · obtain ⟨y, hy⟩ := defNo_obj hno
   by_cases hv : (defD l w key q).1 = holeW
   · exact .inl ⟨a, hv⟩
   · right
     refine ⟨((defD l w key q).1, undefW, 7), ?_, rfl⟩
     rw [ownQ_of (objOf_mod hy)]
     have hi := idxV_lt c
     cases hm : idxK key with
     | none => rw [idxV_none hm] at c; cases c
     | some m =>
       rw [idxV_some hm] at hi ⊢
       unfold ownO
       rw [arrQ_of hy] at a
       rw [if_pos (by simpa using a), if_neg b, hm]
       simp only []
       rw [elemO_set hi hv]
       rfl
 · obtain ⟨y, hy⟩ := defNo_obj hno
   right
   refine ⟨normD (defD l w key q), ?_, rfl⟩
   rw [ownQ_of (objOf_mod hy)]
   exact own_put hl hy a
theorem asgW_val {v : Int} : (defD l w key (asgW l w key v)).1 = v := by
 have e : ∀ d q, (q = ⟨15, v, 0, 0, 7⟩ ∨ q = ⟨1, v, 0, 0, 0⟩) → (wishP d q).1 = v := fun d q h => by
   have a1 : (band q.has 32 != 0) = false := by rcases h with rfl | rfl; exact (by decide : (band 15 32 != 0) = false); exact (by decide : (band 1 32 != 0) = false)
   have a2 : (band q.has 16 != 0) = false := by rcases h with rfl | rfl; exact (by decide : (band 15 16 != 0) = false); exact (by decide : (band 1 16 != 0) = false)
   have a3 : (band q.has 1 != 0) = true := by rcases h with rfl | rfl; exact (by decide : (band 15 1 != 0) = true); exact (by decide : (band 1 1 != 0) = true)
   have a4 : q.value = v := by rcases h with rfl | rfl <;> rfl
   unfold wishP wish6 wish5 wish4
   rw [ite_ff a1, ite_ff a2, if_pos a3]
   exact a4
 unfold defD
 refine e _ _ ?_
 unfold asgW
 split
 · exact .inl rfl
 · exact .inr rfl
theorem given_law (hl : Nice l) (v : Int) : ((asgP l w key v).2.2 ≠ 0 → (asgP l w key v).1 = l) ∧ ((asgP l w key v).2.2 = 0 → (arrP l w = true ∧ v = holeW) ∨ ∃ d, QH (asgP l w key v).1 w key = some d ∧ d.1 = v) := by
 rcases asgP_cases l w key v with ⟨e1, e2⟩ | e
 · exact ⟨fun _ => e1, fun z => absurd z e2⟩
 · rw [e]
   have hv := asgW_val (l := l) (w := w) (key := key) (v := v)
   cases h : (defP l w key (asgW l w key v)).2 with
   | true =>
     refine ⟨fun z => absurd rfl z, fun _ => ?_⟩
     have := defP_true hl h
     rw [hv] at this
     exact this
   | false => exact ⟨fun _ => defP_false h, fun z => by cases z⟩
end Go.Proofs.YthflblophelioaaGreatDoor
namespace Go.Proofs.YthflblophelioaaGreatDoor
open Go.Sl

theorem law_made {W0 : World} (hL : Laid W0) {A : Option Addr} {c : Nat} {l : List OpW} (hls : ∀ σ, Src W0 σ A (l.flatMap OpW.cells)) (hl : l.length ≤ 1048576) (hops : ∀ x ∈ l, OwOk x) : SC Tryz.prog W0 21 #[.slice A l.length c] [] (Ret (fun r : HeapV × HeapF × RSt => HeapV.ent r.1 r.2.1 ++ (RSt.ent r.2.2 ++ [])) (fun v r => v = .tuple #[.pointer (some ⟨r.2.1.p, 0, none⟩), r.2.2.val] ∧ SimW l.length r.1 r.2.1 r.2.2)) := by
 refine Qx (fn := Tryz.f21) (n := 29) Tryz.func21 rfl (by kernel_rfl) (ρ := [(0, .slice A l.length c)]) rfl ?_
 refine sr ?_
 refine os 1 ?_
 refine L (nw 28 2 [.slice none 0 0, .slice none 0 0] ?_)
 intro b1
 refine nsr ?_
 refine L (cl (hp_New 256) ?_)
 rintro _ ⟨H0, F⟩ ⟨rfl, hI0, hp0, ht0, htr0, ho0, hcl0⟩
 simp only [] at hp0 ht0 htr0 ho0 hcl0 hI0
 have hS0 := SimW.new hI0 hp0 ht0
 refine os 1 ?_
 refine nsr ?_
 refine oV (.agg #[.slice none 0 0, .slice none 0 0]) ?_
 refine L (nw 28 2 [.slice none 0 0, .slice none 0 0] ?_)
 intro b2
 refine L (st [.slice none 0 0, .slice none 0 0] ?_)
 refine nq ?_
 refine Qz ?_
 refine SW_perm _ (perm_c (perm_a perm_z)) ?_
 refine SW_perm _ (perm_c perm_z) ?_
 refine SW_perm _ (QC (QC QD)) ?_
 refine QG ((HeapV.ent H0 F) ++ ((RSt.ent RSt.none) ++ ((b2, .cells 28 2 [Gs.val RSt.none.s RSt.none.objs.length, Gs.val RSt.none.ts RSt.none.texts.length]) :: ((b1, .cells 28 2 [.slice none 0 0, .slice none 0 0]) :: ([]))))) rfl ?_
 refine Qn ?_
 refine os 1 ?_
 refine oV (.bool false) ?_
 refine kp [11, 5, 4, 3, 2, 0] ?_
 refine nt ?_
 refine cf ?_
 refine Ql (Qj ?_)
 refine Qz ?_
 refine sr ?_
 refine os 3 ?_
 refine nt ?_
 refine SW_block ?_
 refine SW_loop (α := Nat × HeapV × RSt) (fun z_ ρ_ σ_ => Fits ρ_ σ_ [(3, pt b1 0), (4, pt F.p 0), (5, pt b2 0), (13, .slice A l.length c), (14, .int .i64 (l.length : Int)), (15, .int .i64 (z_.1 : Int))] ((HeapV.ent z_.2.1 F) ++ ((RSt.ent z_.2.2) ++ ((b2, .cells 28 2 [Gs.val z_.2.2.s z_.2.2.objs.length, Gs.val z_.2.2.ts z_.2.2.texts.length]) :: ((b1, .cells 28 2 [.slice none 0 0, .slice none 0 0]) :: ([]))))) ∧ z_.1 ≤ l.length ∧ SimW (z_.1) z_.2.1 F z_.2.2) (fun z_ => l.length - z_.1) (0, H0, RSt.none) ⟨⟨fun _ => rfl, ow⟩, Nat.zero_le _, hS0⟩ ?_
 rintro ⟨i, H, R⟩ ρ_ σ_ ⟨hfit, hi0, hi1⟩
 refine SW_fits hfit ?_
 clear hfit
 simp only [] at hi0 hi1 ⊢
 refine sr ?_
 refine os 1 ?_
 refine nq ?_
 refine cdp (fun hc3 : (i : Int) < (l.length : Int) => ?_) (fun hc3 => ?_)
 ·refine Ql (Qj ?_)
  refine Qz ?_
  refine SW_block ?_
  refine Qz ?_
  obtain ⟨b0_, o0_, rfl, hqb0_⟩ := (hls []).resolve_left (by rw [QF OpW.len]; omega)
  refine Qn ?_
  refine L (O_indexAddr' (i : Int) (o0_ + i * 11) b0_ o0_ l.length c .i64 11 Tryz.underlying22 (by kernel_rfl) (fun _ => rfl) (fun _ => rfl) (by omega) (by omega) (by omega) rfl ?_)
  obtain ⟨e1, he1⟩ : ∃ y_, l[i]? = some y_ := ⟨_, List.getElem?_eq_getElem (by omega)⟩
  refine L (ldr [.int .i64 e1.kind, .int .u64 e1.o, .int .u64 e1.p, .string e1.key, .int .i64 e1.w.has, .int .u64 e1.w.value, .int .u64 e1.w.get, .int .u64 e1.w.set, .int .i64 e1.w.flags, .int .u64 e1.v, .int .i64 e1.n] (Qb (Cell.mono (hqb0_ _ _ (Qh OpW.len he1 (j := 0) (by decide) rfl)) (fun e he => absurd he List.not_mem_nil)) (Qb (Cell.mono (hqb0_ _ _ (Qh OpW.len he1 (j := 1) (by decide) rfl)) (fun e he => absurd he List.not_mem_nil)) (Qb (Cell.mono (hqb0_ _ _ (Qh OpW.len he1 (j := 2) (by decide) rfl)) (fun e he => absurd he List.not_mem_nil)) (Qb (Cell.mono (hqb0_ _ _ (Qh OpW.len he1 (j := 3) (by decide) rfl)) (fun e he => absurd he List.not_mem_nil)) (Qb (Cell.mono (hqb0_ _ _ (Qh OpW.len he1 (j := 4) (by decide) rfl)) (fun e he => absurd he List.not_mem_nil)) (Qb (Cell.mono (hqb0_ _ _ (Qh OpW.len he1 (j := 5) (by decide) rfl)) (fun e he => absurd he List.not_mem_nil)) (Qb (Cell.mono (hqb0_ _ _ (Qh OpW.len he1 (j := 6) (by decide) rfl)) (fun e he => absurd he List.not_mem_nil)) (Qb (Cell.mono (hqb0_ _ _ (Qh OpW.len he1 (j := 7) (by decide) rfl)) (fun e he => absurd he List.not_mem_nil)) (Qb (Cell.mono (hqb0_ _ _ (Qh OpW.len he1 (j := 8) (by decide) rfl)) (fun e he => absurd he List.not_mem_nil)) (Qb (Cell.mono (hqb0_ _ _ (Qh OpW.len he1 (j := 9) (by decide) rfl)) (fun e he => absurd he List.not_mem_nil)) (Qb (Cell.mono (hqb0_ _ _ (Qh OpW.len he1 (j := 10) (by decide) rfl)) (fun e he => absurd he List.not_mem_nil)) Qo))))))))))) ?_)
  refine L (nw 37 11 [.int .i64 0, .int .u64 0, .int .u64 0, .string ByteArray.empty, .int .i64 0, .int .u64 0, .int .u64 0, .int .u64 0, .int .i64 0, .int .u64 0, .int .i64 0] ?_)
  intro b4
  refine L (st [.int .i64 e1.kind, .int .u64 e1.o, .int .u64 e1.p, .string e1.key, .int .i64 e1.w.has, .int .u64 e1.w.value, .int .u64 e1.w.get, .int .u64 e1.w.set, .int .i64 e1.w.flags, .int .u64 e1.v, .int .i64 e1.n] ?_)
  refine nr ?_
  refine os 1 ?_
  refine L (lds 2 ?_)
  refine L (lds 11 ?_)
  have hop_ := hops _ (List.mem_of_getElem? he1)
  refine L (cl (law_step14 hL hi1 (by omega) hop_) ?_)
  rintro _ ⟨H4, R4⟩ ⟨rfl, hd4⟩
  refine un ?_
  simp only [] at hd4
  refine os 3 ?_
  refine kp [24, 7, 16, 3, 4, 5, 13, 14, 15] ?_
  refine L (st [Gs.val R4.s R4.objs.length, Gs.val R4.ts R4.texts.length] ?_)
  refine SL_nil (n_in (Qj ?_))
  refine Qn ?_
  refine os 2 ?_
  refine nt ?_
  exact ⟨(i + 1, H4, R4), by simp only []; omega, ⟨fun _ => rfl, ow⟩, by simp only []; omega, (by simp only []; exact hd4.sim)⟩
 refine SW_exit (x_then (x_then (x_in (Qj ?_))))
 refine Qz ?_
 refine SW_draw [(b2, 0, Gs.val R.s R.objs.length), (b2, 1, Gs.val R.ts R.texts.length)] [0, 2] (by kernel_rfl) (Qd (Cell.own (Qa (Qa Qe)) rfl) (Qd (Cell.own (Qa (Qa Qe)) rfl) rd_nil)) ?_
 refine aS 0 ?_
 refine tr 1 (.agg #[Gs.val R.s R.objs.length, Gs.val R.ts R.texts.length]) ?_ (hy := fun δ w_ hr => Rd_loads b2 0 [Gs.val R.s R.objs.length, Gs.val R.ts R.texts.length] rfl (by kernel_rfl) (Qy List.mem_cons_self (Qy (List.mem_cons_of_mem _ List.mem_cons_self) rdm_nil)) hr)
 refine aS 2 ?_
 refine sa1 false 3 (h := st [Gs.val R.s R.objs.length, Gs.val R.ts R.texts.length] ?_)
 refine ⟨fun hnd => (by cases hnd), ?_⟩
 refine SA_done (by kernel_rfl) (Qj ?_)
 refine Qi ?_
 refine Qr [pt F.p 0, .agg #[Gs.val R.s R.objs.length, Gs.val R.ts R.texts.length]] (fun _ => (.cons rfl (.cons ⟨b1, 0, rfl, .inl ⟨[Gs.val R.s R.objs.length, Gs.val R.ts R.texts.length], by kernel_rfl, (Qb (Cell.own Qe rfl) (Qb (Cell.own Qe rfl) Qo)), rfl⟩⟩ .nil))) ?_
 exact ⟨(H, F, R), ow, rfl, by rw [show l.length = i from by omega]; exact hi1⟩

end Go.Proofs.YthflblophelioaaGreatDoor
namespace Go.Proofs.YthflblophelioaaGreatDoor
open Go.Sl

theorem law_PropsGiven {W0 : World} (hL : Laid W0) {A : Option Addr} {c : Nat} {l : List OpW} (hls : ∀ σ, Src W0 σ A (l.flatMap OpW.cells)) (hl : l.length ≤ 1048576) (hops : ∀ x ∈ l, OwOk x) {x : OpW} (hx : OwOk x) : SC Tryz.prog W0 6 #[.slice A l.length c, .agg #[.int .i64 x.kind, .int .u64 x.o, .int .u64 x.p, .string x.key, .int .i64 x.w.has, .int .u64 x.w.value, .int .u64 x.w.get, .int .u64 x.w.set, .int .i64 x.w.flags, .int .u64 x.v, .int .i64 x.n]] [] (Ret (fun _ : Unit => []) (fun v _ => v = .bool true)) := by
 refine Qx (fn := Tryz.f6) (n := 89) Tryz.func6 rfl (by kernel_rfl) (ρ := [(0, .slice A l.length c), (1, .agg #[.int .i64 x.kind, .int .u64 x.o, .int .u64 x.p, .string x.key, .int .i64 x.w.has, .int .u64 x.w.value, .int .u64 x.w.get, .int .u64 x.w.set, .int .i64 x.w.flags, .int .u64 x.v, .int .i64 x.n])]) rfl ?_
 refine sr ?_
 refine L (nw 37 11 [.int .i64 x.kind, .int .u64 x.o, .int .u64 x.p, .string x.key, .int .i64 x.w.has, .int .u64 x.w.value, .int .u64 x.w.get, .int .u64 x.w.set, .int .i64 x.w.flags, .int .u64 x.v, .int .i64 x.n] ?_)
 intro b1
 refine os 1 ?_
 refine nsr ?_
 refine os 1 ?_
 refine L (cl (law_made hL hls hl hops) ?_)
 rintro _ ⟨H, F, R⟩ ⟨rfl, hS⟩
 refine un ?_
 simp only [] at hS
 refine os 3 ?_
 refine L (nw 28 2 [.slice none 0 0, .slice none 0 0] ?_)
 intro b2
 refine os 1 ?_
 refine L (st [Gs.val R.s R.objs.length, Gs.val R.ts R.texts.length] ?_)
 refine nq ?_
 refine sr ?_
 refine os 1 ?_
 refine oV (.bool false) ?_
 refine os 1 ?_
 refine kp [21, 5, 6, 4, 3, 0, 1] ?_
 refine L (cl (law_alive14 hL) ?_)
 rintro _ _ rfl
 refine un ?_
 refine oV (.bool false) ?_
 refine os 1 ?_
 refine kp [24, 5, 6, 4, 3, 0, 1] ?_
 refine nt ?_
 refine cf ?_
 refine Ql (Qj ?_)
 refine Qz ?_
 refine sr ?_
 refine L (lds 2 ?_)
 refine os 1 ?_
 refine L (ld ?_)
 refine L (cl (rq_At (R := R) hx.o) ?_)
 rintro _ _ rfl
 refine un ?_
 refine os 1 ?_
 refine kp [29, 24, 5, 6, 4, 3, 0, 1] ?_
 refine nt ?_
 refine cdp (fun hc3 : (atW R.pub x.o) < 0 => ?_) (fun hc3 => ?_)
 ·refine sr ?_
  refine os 1 ?_
  refine nt ?_
  refine Qi (Qm ?_)
  refine Qg (.bool true) (fun _ => rfl) ?_
  exact ⟨(), ⟨_, List.Perm.refl _⟩, rfl⟩
 refine Ql (Qj ?_)
 refine sr ?_
 refine os 2 ?_
 refine L (ld ?_)
 refine os 1 ?_
 refine L (ld ?_)
 have hcq_ := prop_Own hL hS.inv x.o hx.key
 rw [hS.objs] at hcq_
 refine L (cl (hcq_) ?_)
 rintro v4 _ hv4
 obtain rfl : v4 = .tuple #[.agg #[.int .u64 ((QB (QH R.pub x.o x.key)).1), .int .u64 ((QB (QH R.pub x.o x.key)).2.1), .int .i64 ((QB (QH R.pub x.o x.key)).2.2)], .bool ((QH R.pub x.o x.key).isSome)] := hv4.trans (descR_eq _)
 refine os 3 ?_
 refine kp [38, 37, 29, 24, 5, 6, 4, 3, 0, 1] ?_
 refine L (nw 45 3 [.int .u64 0, .int .u64 0, .int .i64 0] ?_)
 intro b4
 refine L (st [.int .u64 ((QB (QH R.pub x.o x.key)).1), .int .u64 ((QB (QH R.pub x.o x.key)).2.1), .int .i64 ((QB (QH R.pub x.o x.key)).2.2)] ?_)
 refine os 1 ?_
 refine nsr ?_
 refine os 2 ?_
 refine L (ld ?_)
 refine os 1 ?_
 refine L (ld ?_)
 refine os 1 ?_
 refine L (ld ?_)
 have hcq_ := prop_Assign hL hS.inv (by omega) hS.flags x.o hx.key x.v
 rw [hS.objs] at hcq_
 refine L (cl (hcq_) ?_)
 rintro _ H2 ⟨rfl, hst⟩
 refine os 5 ?_
 refine kp [10, 8, 7, 29, 24, 5, 6, 4, 3, 0, 1] ?_
 refine nsr ?_
 refine os 2 ?_
 refine L (ld ?_)
 refine os 1 ?_
 refine L (ld ?_)
 have hcq_ := prop_Own hL hst.inv x.o hx.key
 rw [hst.pub] at hcq_
 refine L (cl (hcq_) ?_)
 rintro v6 _ hv6
 obtain rfl : v6 = .tuple #[.agg #[.int .u64 ((QB (QH (asgP R.pub x.o x.key x.v).1 x.o x.key)).1), .int .u64 ((QB (QH (asgP R.pub x.o x.key x.v).1 x.o x.key)).2.1), .int .i64 ((QB (QH (asgP R.pub x.o x.key x.v).1 x.o x.key)).2.2)], .bool ((QH (asgP R.pub x.o x.key x.v).1 x.o x.key).isSome)] := hv6.trans (descR_eq _)
 refine os 3 ?_
 refine kp [58, 57, 10, 8, 7, 29, 24, 5, 6, 4, 3, 0, 1] ?_
 refine L (nw 45 3 [.int .u64 0, .int .u64 0, .int .i64 0] ?_)
 intro b5
 refine L (st [.int .u64 ((QB (QH (asgP R.pub x.o x.key x.v).1 x.o x.key)).1), .int .u64 ((QB (QH (asgP R.pub x.o x.key x.v).1 x.o x.key)).2.1), .int .i64 ((QB (QH (asgP R.pub x.o x.key x.v).1 x.o x.key)).2.2)] ?_)
 refine os 1 ?_
 refine nq ?_
 refine sr ?_
 refine os 2 ?_
 refine kp [60, 12, 11, 10, 8, 7, 29, 24, 5, 6, 4, 3, 0, 1] ?_
 refine nt ?_
 refine cd (fun hc6 : (((asgP R.pub x.o x.key x.v).2.2) != 0) = true => ?_) (fun hc6 => ?_)
 ·have hgl_ := given_law (l := R.pub) (w := x.o) (key := x.key) hS.nice x.v
  have hge_ := hgl_.1 (by simpa using hc6)
  refine sr ?_
  refine L (lds 3 ?_)
  refine L (lds 3 ?_)
  refine oV (.bool (((QB (QH (asgP R.pub x.o x.key x.v).1 x.o x.key)).1 == (QB (QH R.pub x.o x.key)).1) && (((QB (QH (asgP R.pub x.o x.key x.v).1 x.o x.key)).2.1 == (QB (QH R.pub x.o x.key)).2.1) && ((QB (QH (asgP R.pub x.o x.key x.v).1 x.o x.key)).2.2 == (QB (QH R.pub x.o x.key)).2.2)))) ?_ (hs := eqlD)
  refine os 1 ?_
  refine tb 64 (fun hg7 => ?_) (fun hg7 => ?_)
  ·replace hg7 : (((QB (QH (asgP R.pub x.o x.key x.v).1 x.o x.key)).1 == (QB (QH R.pub x.o x.key)).1) && (((QB (QH (asgP R.pub x.o x.key x.v).1 x.o x.key)).2.1 == (QB (QH R.pub x.o x.key)).2.1) && ((QB (QH (asgP R.pub x.o x.key x.v).1 x.o x.key)).2.2 == (QB (QH R.pub x.o x.key)).2.2))) = true := hg7
   refine os 5 ?_
   refine kp [4, 60, 12, 11, 10, 8, 7, 29, 24, 5, 6, 3, 0, 1] ?_
   refine nt ?_
   refine Qi (Qm ?_)
   refine Qg (.bool (((QH (asgP R.pub x.o x.key x.v).1 x.o x.key).isSome) == ((QH R.pub x.o x.key).isSome))) (fun _ => rfl) ?_
   refine ⟨(), ⟨_, List.Perm.refl _⟩, congrArg Value.bool ?_⟩
   first
   | (rw [hge_]; simp; done)
   | (exfalso; simp_all; done)
  replace hg7 : (((QB (QH (asgP R.pub x.o x.key x.v).1 x.o x.key)).1 == (QB (QH R.pub x.o x.key)).1) && (((QB (QH (asgP R.pub x.o x.key x.v).1 x.o x.key)).2.1 == (QB (QH R.pub x.o x.key)).2.1) && ((QB (QH (asgP R.pub x.o x.key x.v).1 x.o x.key)).2.2 == (QB (QH R.pub x.o x.key)).2.2))) = false := hg7
  refine os 5 ?_
  refine kp [4, 60, 12, 11, 10, 8, 7, 29, 24, 5, 6, 3, 0, 1] ?_
  refine nt ?_
  refine Qi (Qm ?_)
  refine Qg (.bool false) (fun _ => rfl) ?_
  refine ⟨(), ⟨_, List.Perm.refl _⟩, congrArg Value.bool ?_⟩
  first
  | (rw [hge_]; simp; done)
  | (exfalso; simp_all; done)
 have hgl_ := given_law (l := R.pub) (w := x.o) (key := x.key) hS.nice x.v
 have hge_ := hgl_.2 (by simpa using hc6)
 refine Ql (Qj ?_)
 refine sr ?_
 refine L (lds 2 ?_)
 refine os 1 ?_
 refine L (ld ?_)
 refine L (cl (rz_Array hS.ok (w := x.o) hx.o) ?_)
 rintro _ _ rfl
 refine os 1 ?_
 refine tb 73 (fun hg8 => ?_) (fun hg8 => ?_)
 ·replace hg8 : (arrP R.pub x.o) = true := hg8
  refine os 1 ?_
  refine L (ld ?_)
  refine os 3 ?_
  refine kp [13, 60, 12, 11, 10, 8, 7, 29, 24, 5, 6, 4, 3, 0, 1] ?_
  refine nsr ?_
  refine os 2 ?_
  refine tb 79 (fun hg9 => ?_) (fun hg9 => ?_)
  ·replace hg9 : (x.v == 18445336698825998340) = true := hg9
   refine os 10 ?_
   refine kp [4, 13, 60, 12, 11, 10, 8, 7, 29, 24, 5, 6, 3, 0, 1] ?_
   refine nt ?_
   refine Qi ?_
   refine Qg (.bool true) (fun _ => rfl) ?_
   exact ⟨(), ⟨_, List.Perm.refl _⟩, rfl⟩
  replace hg9 : (x.v == 18445336698825998340) = false := hg9
  refine os 2 ?_
  refine tb 81 (fun hg10 => ?_) (fun hg10 => ?_)
  ·replace hg10 : ((QH (asgP R.pub x.o x.key x.v).1 x.o x.key).isSome) = true := hg10
   refine os 1 ?_
   refine L (ld ?_)
   refine os 1 ?_
   refine L (ld ?_)
   refine os 4 ?_
   refine kp [4, 13, 60, 12, 11, 10, 8, 7, 29, 24, 5, 6, 3, 0, 1] ?_
   refine nt ?_
   refine Qi ?_
   refine Qg (.bool (((QB (QH (asgP R.pub x.o x.key x.v).1 x.o x.key)).1) == x.v)) (fun _ => rfl) ?_
   refine ⟨(), ⟨_, List.Perm.refl _⟩, congrArg Value.bool ?_⟩
   rcases hge_ with ⟨q1_, q2_⟩ | ⟨d_, q1_, q2_⟩
   · exfalso; simp_all
   · first | (rw [q1_]; simp [q2_]; done) | (exfalso; rw [q1_] at *; simp_all; done)
  replace hg10 : ((QH (asgP R.pub x.o x.key x.v).1 x.o x.key).isSome) = false := hg10
  refine os 8 ?_
  refine kp [4, 13, 60, 12, 11, 10, 8, 7, 29, 24, 5, 6, 3, 0, 1] ?_
  refine nt ?_
  refine Qi ?_
  refine Qg (.bool false) (fun _ => rfl) ?_
  refine ⟨(), ⟨_, List.Perm.refl _⟩, congrArg Value.bool ?_⟩
  rcases hge_ with ⟨q1_, q2_⟩ | ⟨d_, q1_, q2_⟩
  · exfalso; simp_all
  · first | (rw [q1_]; simp [q2_]; done) | (exfalso; rw [q1_] at *; simp_all; done)
 replace hg8 : (arrP R.pub x.o) = false := hg8
 refine os 5 ?_
 refine kp [13, 60, 12, 11, 10, 8, 7, 29, 24, 5, 6, 4, 3, 0, 1] ?_
 refine nsr ?_
 refine os 4 ?_
 refine tb 81 (fun hg11 => ?_) (fun hg11 => ?_)
 ·replace hg11 : ((QH (asgP R.pub x.o x.key x.v).1 x.o x.key).isSome) = true := hg11
  refine os 1 ?_
  refine L (ld ?_)
  refine os 1 ?_
  refine L (ld ?_)
  refine os 4 ?_
  refine kp [4, 13, 60, 12, 11, 10, 8, 7, 29, 24, 5, 6, 3, 0, 1] ?_
  refine nt ?_
  refine Qi ?_
  refine Qg (.bool (((QB (QH (asgP R.pub x.o x.key x.v).1 x.o x.key)).1) == x.v)) (fun _ => rfl) ?_
  refine ⟨(), ⟨_, List.Perm.refl _⟩, congrArg Value.bool ?_⟩
  rcases hge_ with ⟨q1_, q2_⟩ | ⟨d_, q1_, q2_⟩
  · exfalso; simp_all
  · first | (rw [q1_]; simp [q2_]; done) | (exfalso; rw [q1_] at *; simp_all; done)
 replace hg11 : ((QH (asgP R.pub x.o x.key x.v).1 x.o x.key).isSome) = false := hg11
 refine os 8 ?_
 refine kp [4, 13, 60, 12, 11, 10, 8, 7, 29, 24, 5, 6, 3, 0, 1] ?_
 refine nt ?_
 refine Qi ?_
 refine Qg (.bool false) (fun _ => rfl) ?_
 refine ⟨(), ⟨_, List.Perm.refl _⟩, congrArg Value.bool ?_⟩
 rcases hge_ with ⟨q1_, q2_⟩ | ⟨d_, q1_, q2_⟩
 · exfalso; simp_all
 · first | (rw [q1_]; simp [q2_]; done) | (exfalso; rw [q1_] at *; simp_all; done)

end Go.Proofs.YthflblophelioaaGreatDoor
namespace Go.Proofs.YthflblophelioaaGreatDoor
open Go.Sl Go.ChangeShapes Go.WideShapes Go.ChangeAt Go.RowKit

theorem PropsGiven_contract (H : Type) (enc : TypeId × Value → H) (W : World) (base : Nat) (args : Array Value) (ds gs : List (DataW H)) (before : List MemPlace)
   (hval : ∀ (j : Nat) t v, Tryz.f6.params[j]? = some t → args[j]? = some v → Value.okWide Tryz.prog W .any base t v)
   (hW : DataW.Whole enc Tryz.prog Tryz.f6.params.toList Rows.propsGivenSpec.vars false W args.toList ds gs before) (hk : Rows.uptoSmall H (ds ++ gs) = true) (hLd : laidMetH Tryz.prog Rows.propsGivenUptoRow.laid W) :
   Calls Tryz.prog 6 args W fun e W' => ∃ v, e = .returned v ∧ Rows.propsGivenSpec.post enc Tryz.prog Tryz.f6 false true false false W args v W' := by
 have hL : Laid W := laid_here hLd
 have hW' := hW
 obtain ⟨p, q, hA0, hV, rfl, hfz, hnd⟩ := hW
 have hA : DataW.TrodAll enc Tryz.prog W 0 (fun _ => true) true Tryz.f6.params.toList args.toList ds p := hA0
 rw [Tryz.params6] at hA hval
 obtain ⟨v0, vs0, d0, ds0, p0, q0, hargs, rfl, rfl, h0, r0⟩ := trodAll_cons hA
 obtain ⟨v1, vs1, d1, ds1, p1, q1, rfl, rfl, rfl, h1, r1⟩ := trodAll_cons r0
 obtain ⟨rfl, rfl, rfl⟩ := trodAll_nil r1
 obtain rfl : args = #[v0, v1] := by cases args; simp_all
 obtain ⟨rfl, rfl⟩ := trodVars_none hV
 obtain ⟨A0, c0, x0, rfl, hs0, hl0, hw0, hc0⟩ := arg_opsw (hval 0 22 v0 rfl rfl) h0 hk (by simp)
 obtain ⟨x1, rfl, hx1⟩ := arg_opw hk (by simp) h1
 refine (calls_law (law_PropsGiven hL hs0 hl0 hw0 hx1)).mono fun e W' ⟨he, hb⟩ => ?_
 subst he
 exact ⟨_, rfl, post_law (tb := 4) hW' (by rw [Tryz.params6]; decide) rfl rfl rfl rfl rfl Tryz.underlying4 hb⟩

theorem PropsGiven_reads (os : Os) {H : Type} (enc : TypeId × Value → H) : ∃ places, DataW.whole enc Tryz.prog ((laidWorld os).forCall (fun _ _ => 0) ⟨#[], #[.slice none 0 0, .agg #[.int .i64 0, .int .u64 0, .int .u64 0, .string .empty, .int .i64 0, .int .u64 0, .int .u64 0, .int .u64 0, .int .i64 0, .int .u64 0, .int .i64 0]], []⟩).memory Tryz.f6.params.toList Rows.propsGivenSpec.vars false #[.slice none 0 0, .agg #[.int .i64 0, .int .u64 0, .int .u64 0, .string .empty, .int .i64 0, .int .u64 0, .int .u64 0, .int .u64 0, .int .i64 0, .int .u64 0, .int .i64 0]].toList 8 = some ([.nil, .agg [.lit (.int .i64 0), .lit (.int .u64 0), .lit (.int .u64 0), .lit (.string []), .agg [.lit (.int .i64 0), .lit (.int .u64 0), .lit (.int .u64 0), .lit (.int .u64 0), .lit (.int .i64 0)], .lit (.int .u64 0), .lit (.int .i64 0)]], [], places) :=
 ⟨[], by kernel_rfl⟩
theorem PropsGiven_lifted (os : Os) (started : os.Started) (H : Type) (enc : TypeId × Value → H) (F : Stop.Interp) :
   ReturnsInHanded {} Tryz.checked os 6 .any ((Rows.OpenSpec.upto Rows.propsGivenSpec).preRow enc Tryz.prog Tryz.f6 Rows.propsGivenUptoRow.domain false Rows.propsGivenUptoRow.laid) (((Rows.OpenSpec.upto Rows.propsGivenSpec).at F).post enc Tryz.prog Tryz.f6 false true false false) := by
 obtain ⟨places, hx⟩ := PropsGiven_reads os enc
 refine returnsInHanded_of_row (C := Tryz.checked) (s := Rows.OpenSpec.upto Rows.propsGivenSpec) rown started (by kernel_rfl) Tryz.func6
   (witness_row_atRef (enc := enc) (C := Tryz.checked) false (laidWorld os) #[.slice none 0 0, .agg #[.int .i64 0, .int .u64 0, .int .u64 0, .string .empty, .int .i64 0, .int .u64 0, .int .u64 0, .int .u64 0, .int .i64 0, .int .u64 0, .int .i64 0]] rfl (by kernel_rfl) (by kernel_rfl) (by kernel_rfl)
     (OpenSpec.preRow_of_cond 8 hx (by kernel_rfl) (fun k hk => by cases hk; kernel_rfl) (by kernel_rfl) (laid_met os _))) ?_
 intro W base args ds gs before hval hW _ hcond _ hL _ _
 exact PropsGiven_contract H enc W base args ds gs before hval hW (hcond _ rfl) hL

theorem PropsGiven_row : Rows.PropsGivenUptoSaid :=
 OpenClaim.holds_of_cond 6 Tryz.f6 rfl rfl rfl rfl rfl rfl rfl ⟨rfl, rfl, rfl, rfl, rfl⟩ rfl rfl rfl rfl rfl (by kernel_rfl) Tryz.func6 (by kernel_rfl)
   (of_decide_eq_true (by kernel_rfl)) (by unfold Func.isWrapper; first | (rw [if_pos (by decide +kernel)]; kernel_rfl) | (rw [if_neg (by decide +kernel)]; exact ⟨rfl, rfl⟩))
   (fun os started H enc _ F => by rw [OpenClaim.pre_eq_preRow]; exact PropsGiven_lifted os started H enc F)
theorem PropsGiven_plain (f : FuncId) (fn : Func) (hf : Tryz.pinned.checked.prog.funcNamed "brazier/brazierlaw14.PropsGiven" = some f) (hfn : Tryz.pinned.checked.prog.funcs[f]? = some fn) :
   true = Tryz.pinned.checked.prog.looks [] ∧ ∀ (j : Nat) t, fn.params[j]? = some t → Tryz.pinned.checked.prog.wantsStandIn t = false := by
 obtain rfl : f = 6 := Option.some.inj ((show Tryz.prog.funcNamed "brazier/brazierlaw14.PropsGiven" = some 6 by kernel_rfl).symm.trans hf) |>.symm
 obtain rfl : fn = Tryz.f6 := (Option.some.inj (Tryz.func6.symm.trans hfn)).symm
 refine ⟨by kernel_rfl, fun j t ht => ?_⟩
 rw [Tryz.params6] at ht
 have hm : t = 22 ∨ t = 37 := by simpa using Array.mem_of_getElem? ht
 rcases hm with rfl | rfl
 · exact (show Tryz.prog.wantsStandIn 22 = false by kernel_rfl)
 · exact (show Tryz.prog.wantsStandIn 37 = false by kernel_rfl)
theorem PropsGiven_proved : Rows.PropsGivenUptoCardSaid :=
 Claim7.holds_tied_plain_at .later [] _ _ _ _ PropsGiven_row (fun _ h => by cases h) (by kernel_rfl) (fun _ h => by cases h) propsGivenUpto_row_tie rfl ⟨rfl, rfl⟩ (by kernel_rfl) rfl PropsGiven_plain (by kernel_rfl)
end Go.Proofs.YthflblophelioaaGreatDoor
