/-
  PropsShut, within the bound on what it reads, and tied to the program's text: it returns true whatever it is given, and leaves its arguments as they were. Conditions: the arguments' bulk is at most 1048576; the listed library variables stand as their text lays them, as the statement says.
-/
import Derived.Test.YthflblophelioaaGreatDoorPa9
import Derived.Test.YthflblophelioaaGreatDoorPa11
set_option linter.unusedVariables false
set_option linter.unusedSimpArgs false
set_option maxRecDepth 100000
set_option maxHeartbeats 4000000
namespace Go.Proofs.YthflblophelioaaGreatDoor
open Go.Sl
variable {l l' : List ObjS} {w o : Int} {key k : ByteArray} {x : OpW} {y : ObjS} {f : ObjS → ObjS}
theorem defP_cases (l : List ObjS) (w : Int) (key : ByteArray) (q : WishP) : defP l w key q = (l, false) ∨ (¬ defNo l w key q ∧
   ((arrP l w = true ∧ key = lenK ∧ (defD l w key q).2.2 = 1 ∧ ∃ m, isI (defD l w key q).1 = some m ∧ defP l w key q = (modP l w (lenO m), lenQ l w m)) ∨
    (arrP l w = true ∧ key ≠ lenK ∧ (idxV key).2 = true ∧ (defD l w key q).2.2 = 7 ∧ defP l w key q = (modP l w (setO (idxV key).1 (defD l w key q).1), setQ l w (idxV key).1)) ∨
    ((arrP l w = true → key ≠ lenK ∧ (idxV key).2 = false) ∧ defP l w key q = (modP l w (putO key (defD l w key q)), true)))) := by
 by_cases hno : defNo l w key q
 · exact .inl (defP_no hno)
 · rw [defP_go hno]
   unfold defGo
   by_cases h1 : arrP l w = true ∧ key = lenK
   · rw [if_pos h1]
     by_cases h2 : (defD l w key q).2.2 = 1
     · rw [if_pos h2]
       unfold lenGo
       cases h3 : isI (defD l w key q).1 with
       | none => exact .inl rfl
       | some m => exact .inr ⟨hno, .inl ⟨h1.1, h1.2, h2, m, rfl, rfl⟩⟩
     · rw [if_neg h2]; exact .inl rfl
   · rw [if_neg h1]
     by_cases h2 : arrP l w = true ∧ (idxV key).2 = true
     · rw [if_pos h2]
       by_cases h3 : (defD l w key q).2.2 = 7
       · rw [if_pos h3]; exact .inr ⟨hno, .inr (.inl ⟨h2.1, fun z => h1 ⟨h2.1, z⟩, h2.2, h3, rfl⟩)⟩
       · rw [if_neg h3]; exact .inl rfl
     · rw [if_neg h2]
       exact .inr ⟨hno, .inr (.inr ⟨fun ha => ⟨fun z => h1 ⟨ha, z⟩, by rw [← Bool.not_eq_true]; exact fun z => h2 ⟨ha, z⟩⟩, rfl⟩)⟩
theorem delP_cases (l : List ObjS) (w : Int) (key : ByteArray) : (delP l w key).1 = l ∨ ((QH l w key).isSome = true ∧ (band (QB (QH l w key)).2.2 4 == 0) = false ∧
   ((arrP l w = true ∧ (idxV key).2 = true ∧ delP l w key = (modP l w (setO (idxV key).1 holeW), setQ l w (idxV key).1)) ∨ delP l w key = (modP l w (dropO key), hasQ l w key))) := by
 by_cases h1 : (QH l w key).isSome = true
 · cases h2 : (band (QB (QH l w key)).2.2 4 == 0) with
   | true => left; rw [delP_no h1 h2]
   | false =>
     right
     refine ⟨h1, rfl, ?_⟩
     by_cases h3 : (idxV key).2 = true ∧ arrP l w = true
     · exact .inl ⟨h3.2, h3.1, delP_ix h1 h2 h3.1 h3.2⟩
     · refine .inr (delP_drop h1 h2 ?_)
       by_cases h4 : (idxV key).2 = true
       · exact .inr (by rw [← Bool.not_eq_true]; exact fun z => h3 ⟨h4, z⟩)
       · exact .inl (by rw [← Bool.not_eq_true]; exact h4)
 · rw [Bool.not_eq_true] at h1
   left; rw [delP_none h1]
theorem asgP_cases (l : List ObjS) (w : Int) (key : ByteArray) (v : Int) : ((asgP l w key v).1 = l ∧ (asgP l w key v).2.2 ≠ 0) ∨ asgP l w key v = ((defP l w key (asgW l w key v)).1, undefW, if (defP l w key (asgW l w key v)).2 = true then 0 else 1) := by
 unfold asgP
 split
 · split
   · exact .inl ⟨rfl, (by decide : (1 : Int) ≠ 0)⟩
   · exact .inl ⟨rfl, (by decide : (2 : Int) ≠ 0)⟩
 · split
   · exact .inl ⟨rfl, (by decide : (1 : Int) ≠ 0)⟩
   · exact .inr rfl
theorem spP_cases (l : List ObjS) (w p : Int) : (spP l w p).1 = l ∨ (openQ l w = true ∧ (spP l w p).1 = reproP l w p) := by
 unfold spP
 split
 · exact .inl rfl
 · split
   · exact .inl rfl
   · split
     · exact .inl rfl
     · next ho =>
       split
       · exact .inl rfl
       · exact .inr ⟨by simpa using ho, rfl⟩
inductive StepO (l : List ObjS) (x : OpW) (o : Int) (y : ObjS) : ObjS → Prop
  | same : StepO l x o y y
  | len (q : WishP) (m : Int) : x.o = o → ¬ defNo l o x.key q → arrP l o = true → x.key = lenK → StepO l x o y (lenO m y)
  | set (m v : Int) : x.o = o → arrP l o = true → (QH l o x.key).isSome = true ∨ openQ l o = true → x.key ≠ lenK → (idxV x.key).2 = true → StepO l x o y (setO m v y)
  | put (q : WishP) : x.o = o → ¬ defNo l o x.key q → (arrP l o = true → x.key ≠ lenK ∧ (idxV x.key).2 = false) → StepO l x o y (putO x.key (defD l o x.key q) y)
  | drop : x.o = o → (QH l o x.key).isSome = true → (band (QB (QH l o x.key)).2.2 4 == 0) = false → StepO l x o y (dropO x.key y)
  | under (p : Int) : x.o = o → openQ l o = true → StepO l x o y (y.under p)
  | shut : StepO l x o y (shutO y)
theorem own_len_key (ha : arrP l o = true) (h : (QH l o key).isSome = true) (h4 : (band (QB (QH l o key)).2.2 4 == 0) = false) : key ≠ lenK := fun z => by
 rw [ownQ_len ha z] at h4
 revert h4; simp only [QB, Option.getD]; decide
theorem defNo_open {q : WishP} (h : ¬ defNo l o key q) : (QH l o key).isSome = true ∨ openQ l o = true := by
 cases h1 : (QH l o key).isSome with
 | true => exact .inl rfl
 | false =>
   cases h2 : openQ l o with
   | true => exact .inr rfl
   | false => exact absurd (.inr (.inr (.inl ⟨h1, h2⟩))) h
theorem def_obj (h : objOf l o = some y) (q : WishP) (hx : x.o = o) : ∃ z, objOf (defP l o x.key q).1 o = some z ∧ StepO l x o y z := by
 rcases defP_cases l o x.key q with e | ⟨hno, ⟨a, b, c, m, d, e⟩ | ⟨a, b, c, d, e⟩ | ⟨a, e⟩⟩ <;> rw [e]
 · exact ⟨y, h, .same⟩
 · exact ⟨_, objOf_mod h, .len q m hx hno a b⟩
 · exact ⟨_, objOf_mod h, .set _ _ hx a (defNo_open hno) b c⟩
 · exact ⟨_, objOf_mod h, .put q hx hno a⟩
theorem def_ne (h : o ≠ w) (q : WishP) : objOf (defP l w key q).1 o = objOf l o := by
 rcases defP_cases l w key q with e | ⟨hno, ⟨a, b, c, m, d, e⟩ | ⟨a, b, c, d, e⟩ | ⟨a, e⟩⟩ <;> rw [e]
 all_goals exact objOf_mod_ne h
theorem step_obj (h : objOf l o = some y) : ∃ z, objOf (pStep l x) o = some z ∧ StepO l x o y z := by
 unfold pStep
 split
 · exact ⟨y, objOf_make h, .same⟩
 split
 · by_cases q : x.o = o
   · rw [q]; exact def_obj h _ q
   · rw [def_ne (fun z => q z.symm)]; exact ⟨y, h, .same⟩
 split
 · rcases delP_cases l x.o x.key with e | ⟨h1, h2, e⟩
   · rw [e]; exact ⟨y, h, .same⟩
   · by_cases q : x.o = o
     · rw [q] at h1 h2 e ⊢
       rcases e with ⟨a, b, e⟩ | e <;> rw [e]
       · exact ⟨_, objOf_mod h, .set _ _ q a (.inl h1) (own_len_key a h1 h2) b⟩
       · exact ⟨_, objOf_mod h, .drop q h1 h2⟩
     · rcases e with ⟨a, b, e⟩ | e <;> rw [e] <;> exact ⟨y, by rw [objOf_mod_ne (fun z => q z.symm)]; exact h, .same⟩
 split
 · rcases asgP_cases l x.o x.key x.v with ⟨e, _⟩ | e <;> rw [e]
   · exact ⟨y, h, .same⟩
   · by_cases q : x.o = o
     · rw [q]; exact def_obj h _ q
     · show ∃ z, objOf (defP l x.o x.key _).1 o = some z ∧ _
       rw [def_ne (fun z => q z.symm)]; exact ⟨y, h, .same⟩
 split
 · rcases spP_cases l x.o x.p with e | ⟨a, e⟩ <;> rw [e]
   · exact ⟨y, h, .same⟩
   · obtain ⟨q, e1, e2⟩ := objOf_repro (w := x.o) (p := x.p) h
     rw [e1]
     by_cases hq : x.o = o
     · exact ⟨_, rfl, .under q hq (hq ▸ a)⟩
     · rw [e2 fun z => hq z.symm]; exact ⟨_, rfl, .same⟩
 split
 · by_cases q : x.o = o
   · rw [q]; exact ⟨_, objOf_mod h, .shut⟩
   · rw [objOf_mod_ne (fun z => q z.symm)]; exact ⟨y, h, .same⟩
 · exact ⟨y, h, .same⟩
theorem StepO.kind {z : ObjS} (h : StepO l x o y z) : z.kind = y.kind := by cases h <;> rfl
theorem shut_law (hl : Nice l) (h : objOf l o = some y) (hs : openQ l o = false) : ∃ z, objOf (pStep l x) o = some z ∧ openQ (pStep l x) o = false ∧ protoW (pStep l x) o = protoW l o ∧ (arrP (pStep l x) o = false → (QH (pStep l x) o x.key).isSome = true → (QH l o x.key).isSome = true) := by
 obtain ⟨z, e, hz⟩ := step_obj (x := x) h
 have hsh : y.shut = true := by rw [openQ_of h] at hs; simpa using hs
 refine ⟨z, e, ?_, ?_, fun ha ho => ?_⟩
 · rw [openQ_of e]
   cases hz <;> simp [hsh]
 · rw [protoW_objOf, protoW_objOf, e, h]
   cases hz <;> first | rfl | (next hp => rw [hs] at hp; cases hp)
 · have hna : arrP l o = false := by rw [arrQ_of e] at ha; rw [arrQ_of h, ← hz.kind]; exact ha
   rw [ownQ_of e] at ho
   rw [ownQ_of h]
   cases hz with
   | same => exact ho
   | len q m _ _ a _ => rw [a] at hna; cases hna
   | set m v _ a _ _ _ => rw [a] at hna; cases hna
   | put q hx hno _ =>
     rcases defNo_open hno with r | r
     · rw [ownQ_of h] at r; exact r
     · rw [r] at hs; cases hs
   | drop hx r _ => rw [ownQ_of h] at r; exact r
   | under p _ hp => rw [hp] at hs; cases hs
   | shut => exact ho
def ShutAt (l : List ObjS) (o pr : Int) : Prop := QA o l.length ≠ none ∧ openQ l o = false ∧ protoW l o = pr
theorem shut_go {pr : Int} (hl : Nice l) (h : ShutAt l o pr) : ShutAt (pStep l x) o pr ∧ (arrP (pStep l x) o = false → (QH (pStep l x) o x.key).isSome = true → (QH l o x.key).isSome = true) := by
 obtain ⟨h1, h2, h3⟩ := h
 obtain ⟨y, hy⟩ := objOf_get h1
 obtain ⟨z, a, b, c, d⟩ := shut_law (x := x) hl hy h2
 exact ⟨⟨objOf_isSome.1 (by rw [a]; rfl), b, c.trans h3⟩, d⟩
theorem shut_new (h : QA o l.length ≠ none) : ShutAt (modP l o shutO) o (protoW (modP l o shutO) o) := by
 obtain ⟨y, hy⟩ := objOf_get h
 have e := objOf_mod (f := shutO) hy
 exact ⟨by rw [modP_len]; exact h, by rw [openQ_of e]; rfl, rfl⟩
end Go.Proofs.YthflblophelioaaGreatDoor
namespace Go.Proofs.YthflblophelioaaGreatDoor
open Go.Sl

theorem law_PropsShut {W0 : World} (hL : Laid W0) {A : Option Addr} {c : Nat} {l : List OpW} (hls : ∀ σ, Src W0 σ A (l.flatMap OpW.cells)) (hl : l.length ≤ 1048576) (hops : ∀ x ∈ l, OwOk x) {o : Int} (ho : wordOk o) {A2 : Option Addr} {c2 : Nat} {m : List OpW} (hls2 : ∀ σ, Src W0 σ A2 (m.flatMap OpW.cells)) (hl2 : m.length ≤ 1048576) (hops2 : ∀ x ∈ m, OwOk x) : SC Tryz.prog W0 4 #[.slice A l.length c, .int .u64 o, .slice A2 m.length c2] [] (Ret (fun _ : Unit => []) (fun v _ => v = .bool true)) := by
 refine Qx (fn := Tryz.f4) (n := 126) Tryz.func4 rfl (by kernel_rfl) (ρ := [(0, .slice A l.length c), (1, .int .u64 o), (2, .slice A2 m.length c2)]) rfl ?_
 refine sr ?_
 refine os 1 ?_
 refine nsr ?_
 refine L (cl (hp_New 256) ?_)
 rintro _ ⟨H0, F⟩ ⟨rfl, hI0, hp0, ht0, htr0, ho0, hcl0⟩
 simp only [] at hp0 ht0 htr0 ho0 hcl0 hI0
 have hS0 := SimW.new hI0 hp0 ht0
 refine os 1 ?_
 refine nsr ?_
 refine oV (.agg #[.slice none 0 0, .slice none 0 0]) ?_
 refine L (nw 28 2 [.slice none 0 0, .slice none 0 0] ?_)
 intro b1
 refine L (st [.slice none 0 0, .slice none 0 0] ?_)
 refine nq ?_
 refine Qz ?_
 refine SW_perm _ (QC QD) ?_
 refine QG ((HeapV.ent H0 F) ++ ((RSt.ent RSt.none) ++ ((b1, .cells 28 2 [Gs.val RSt.none.s RSt.none.objs.length, Gs.val RSt.none.ts RSt.none.texts.length]) :: ([])))) rfl ?_
 refine Qn ?_
 refine os 1 ?_
 refine oV (.bool false) ?_
 refine os 1 ?_
 refine L (cl (law_alive14 hL) ?_)
 rintro _ _ rfl
 refine un ?_
 refine oV (.bool false) ?_
 refine os 1 ?_
 refine kp [26, 8, 7, 6, 0, 1, 2] ?_
 refine nt ?_
 refine cf ?_
 refine Ql (Qj ?_)
 refine Qz ?_
 refine sr ?_
 refine os 3 ?_
 refine nt ?_
 refine SW_block ?_
 refine SW_loop (α := Nat × HeapV × RSt) (fun z_ ρ_ σ_ => Fits ρ_ σ_ [(1, .int .u64 o), (2, .slice A2 m.length c2), (7, pt F.p 0), (8, pt b1 0), (27, .slice A l.length c), (28, .int .i64 (l.length : Int)), (29, .int .i64 (z_.1 : Int))] ((HeapV.ent z_.2.1 F) ++ ((RSt.ent z_.2.2) ++ ((b1, .cells 28 2 [Gs.val z_.2.2.s z_.2.2.objs.length, Gs.val z_.2.2.ts z_.2.2.texts.length]) :: ([])))) ∧ z_.1 ≤ l.length ∧ SimW (z_.1) z_.2.1 F z_.2.2) (fun z_ => l.length - z_.1) (0, H0, RSt.none) ⟨⟨fun _ => rfl, ow⟩, Nat.zero_le _, hS0⟩ ?_
 rintro ⟨i, H, R⟩ ρ_ σ_ ⟨hfit, hi0, hi1⟩
 refine SW_fits hfit ?_
 clear hfit
 simp only [] at hi0 hi1 ⊢
 refine sr ?_
 refine os 1 ?_
 refine nq ?_
 refine cdp (fun hc2 : (i : Int) < (l.length : Int) => ?_) (fun hc2 => ?_)
 ·refine Ql (Qj ?_)
  refine Qz ?_
  refine SW_block ?_
  refine Qz ?_
  obtain ⟨b0_, o0_, rfl, hqb0_⟩ := (hls []).resolve_left (by rw [QF OpW.len]; omega)
  refine Qn ?_
  refine L (O_indexAddr' (i : Int) (o0_ + i * 11) b0_ o0_ l.length c .i64 11 Tryz.underlying22 (by kernel_rfl) (fun _ => rfl) (fun _ => rfl) (by omega) (by omega) (by omega) rfl ?_)
  obtain ⟨e1, he1⟩ : ∃ y_, l[i]? = some y_ := ⟨_, List.getElem?_eq_getElem (by omega)⟩
  refine L (ldr [.int .i64 e1.kind, .int .u64 e1.o, .int .u64 e1.p, .string e1.key, .int .i64 e1.w.has, .int .u64 e1.w.value, .int .u64 e1.w.get, .int .u64 e1.w.set, .int .i64 e1.w.flags, .int .u64 e1.v, .int .i64 e1.n] (Qb (Cell.mono (hqb0_ _ _ (Qh OpW.len he1 (j := 0) (by decide) rfl)) (fun e he => absurd he List.not_mem_nil)) (Qb (Cell.mono (hqb0_ _ _ (Qh OpW.len he1 (j := 1) (by decide) rfl)) (fun e he => absurd he List.not_mem_nil)) (Qb (Cell.mono (hqb0_ _ _ (Qh OpW.len he1 (j := 2) (by decide) rfl)) (fun e he => absurd he List.not_mem_nil)) (Qb (Cell.mono (hqb0_ _ _ (Qh OpW.len he1 (j := 3) (by decide) rfl)) (fun e he => absurd he List.not_mem_nil)) (Qb (Cell.mono (hqb0_ _ _ (Qh OpW.len he1 (j := 4) (by decide) rfl)) (fun e he => absurd he List.not_mem_nil)) (Qb (Cell.mono (hqb0_ _ _ (Qh OpW.len he1 (j := 5) (by decide) rfl)) (fun e he => absurd he List.not_mem_nil)) (Qb (Cell.mono (hqb0_ _ _ (Qh OpW.len he1 (j := 6) (by decide) rfl)) (fun e he => absurd he List.not_mem_nil)) (Qb (Cell.mono (hqb0_ _ _ (Qh OpW.len he1 (j := 7) (by decide) rfl)) (fun e he => absurd he List.not_mem_nil)) (Qb (Cell.mono (hqb0_ _ _ (Qh OpW.len he1 (j := 8) (by decide) rfl)) (fun e he => absurd he List.not_mem_nil)) (Qb (Cell.mono (hqb0_ _ _ (Qh OpW.len he1 (j := 9) (by decide) rfl)) (fun e he => absurd he List.not_mem_nil)) (Qb (Cell.mono (hqb0_ _ _ (Qh OpW.len he1 (j := 10) (by decide) rfl)) (fun e he => absurd he List.not_mem_nil)) Qo))))))))))) ?_)
  refine L (nw 37 11 [.int .i64 0, .int .u64 0, .int .u64 0, .string ByteArray.empty, .int .i64 0, .int .u64 0, .int .u64 0, .int .u64 0, .int .i64 0, .int .u64 0, .int .i64 0] ?_)
  intro b3
  refine L (st [.int .i64 e1.kind, .int .u64 e1.o, .int .u64 e1.p, .string e1.key, .int .i64 e1.w.has, .int .u64 e1.w.value, .int .u64 e1.w.get, .int .u64 e1.w.set, .int .i64 e1.w.flags, .int .u64 e1.v, .int .i64 e1.n] ?_)
  refine nr ?_
  refine os 1 ?_
  refine L (lds 2 ?_)
  refine L (lds 11 ?_)
  have hop_ := hops _ (List.mem_of_getElem? he1)
  refine L (cl (law_step14 hL hi1 (by omega) hop_) ?_)
  rintro _ ⟨H4, R4⟩ ⟨rfl, hd4⟩
  refine un ?_
  simp only [] at hd4
  refine os 3 ?_
  refine kp [38, 10, 30, 1, 2, 7, 8, 27, 28, 29] ?_
  refine L (st [Gs.val R4.s R4.objs.length, Gs.val R4.ts R4.texts.length] ?_)
  refine SL_nil (n_in (Qj ?_))
  refine Qn ?_
  refine os 2 ?_
  refine nt ?_
  exact ⟨(i + 1, H4, R4), by simp only []; omega, ⟨fun _ => rfl, ow⟩, by simp only []; omega, (by simp only []; exact hd4.sim)⟩
 refine SW_exit (x_then (x_then (x_in (Qj ?_))))
 refine Qz ?_
 refine sr ?_
 refine L (lds 2 ?_)
 refine os 1 ?_
 refine L (cl (rq_At (R := R) ho) ?_)
 rintro _ _ rfl
 refine un ?_
 refine os 1 ?_
 refine kp [44, 30, 1, 2, 7, 8, 27, 28, 29] ?_
 refine nt ?_
 refine cdp (fun hc4 : (atW R.pub o) < 0 => ?_) (fun hc4 => ?_)
 ·refine sr ?_
  refine os 1 ?_
  refine nt ?_
  refine Qi (Qm ?_)
  refine Qg (.bool true) (fun _ => rfl) ?_
  exact ⟨(), ⟨_, List.Perm.refl _⟩, rfl⟩
 refine Ql (Qj ?_)
 refine sr ?_
 refine os 2 ?_
 have hat_ : QA o R.pub.length ≠ none := fun z_ => absurd (atW_neg.2 z_) (by omega)
 have hcq_ := hq_Close (W0 := W0) hi1.inv o
 rw [hi1.objs] at hcq_
 refine L (cl (hcq_) ?_)
 rintro _ H2 ⟨rfl, hst, hgd2⟩
 refine nsr ?_
 refine L (lds 2 ?_)
 refine os 1 ?_
 refine L (cl (rq_Shut hi1.ok ho) ?_)
 rintro _ R2 ⟨rfl, hR2, hp2, ht2⟩
 obtain ⟨pr, hpr⟩ : ∃ z, z = protoW R2.pub o := ⟨_, rfl⟩
 have hsim2 : SimW (l.length + 1 + 0) H2 F R2 := (SimW.shut hi1 hst rfl hR2 hp2 ht2).mono (by omega)
 have hsh2 : ShutAt R2.pub o pr := by rw [hpr, hp2]; exact shut_new hat_
 refine L (st [Gs.val R2.s R2.objs.length, Gs.val R2.ts R2.texts.length] ?_)
 refine nsr ?_
 refine os 2 ?_
 refine kp [52, 51, 44, 30, 1, 2, 7, 8, 27, 28, 29] ?_
 have hcq_ := hz_Proto (W0 := W0) hsim2.inv o
 rw [hsim2.objs] at hcq_
 refine L (cl (hcq_) ?_)
 rintro v7 _ hv7
 obtain rfl : v7 = .int .u64 pr := hv7.trans (congrArg (Value.int .u64) hsh2.2.2)
 refine os 1 ?_
 refine kp [11, 44, 30, 1, 2, 7, 8, 27, 28, 29] ?_
 refine nq ?_
 refine sr ?_
 refine os 3 ?_
 refine nt ?_
 refine SW_block ?_
 refine SW_loop (α := Nat × HeapV × RSt) (fun z_ ρ_ σ_ => Fits ρ_ σ_ [(1, .int .u64 o), (7, pt F.p 0), (11, .int .u64 pr), (8, pt b1 0), (54, .slice A2 m.length c2), (55, .int .i64 (m.length : Int)), (56, .int .i64 (z_.1 : Int))] ((HeapV.ent z_.2.1 F) ++ ((RSt.ent z_.2.2) ++ ((b1, .cells 28 2 [Gs.val z_.2.2.s z_.2.2.objs.length, Gs.val z_.2.2.ts z_.2.2.texts.length]) :: ([])))) ∧ z_.1 ≤ m.length ∧ SimW (l.length + 1 + z_.1) z_.2.1 F z_.2.2 ∧ ShutAt (RSt.pub z_.2.2) o pr) (fun z_ => m.length - z_.1) (0, H2, R2) ⟨⟨fun _ => rfl, ow⟩, Nat.zero_le _, hsim2, hsh2⟩ ?_
 rintro ⟨j, H3, R3⟩ ρ_ σ_ ⟨hfit, hi0, hi1, hi2⟩
 refine SW_fits hfit ?_
 clear hfit
 simp only [] at hi0 hi1 hi2 ⊢
 refine sr ?_
 refine os 1 ?_
 refine nq ?_
 refine cdp (fun hc5 : (j : Int) < (m.length : Int) => ?_) (fun hc5 => ?_)
 ·refine Ql (Qj ?_)
  refine Qz ?_
  refine SW_block ?_
  refine Qz ?_
  obtain ⟨b1_, o1_, rfl, hqb1_⟩ := (hls2 []).resolve_left (by rw [QF OpW.len]; omega)
  refine Qn ?_
  refine L (O_indexAddr' (j : Int) (o1_ + j * 11) b1_ o1_ m.length c2 .i64 11 Tryz.underlying22 (by kernel_rfl) (fun _ => rfl) (fun _ => rfl) (by omega) (by omega) (by omega) rfl ?_)
  obtain ⟨e2, he2⟩ : ∃ y_, m[j]? = some y_ := ⟨_, List.getElem?_eq_getElem (by omega)⟩
  refine L (ldr [.int .i64 e2.kind, .int .u64 e2.o, .int .u64 e2.p, .string e2.key, .int .i64 e2.w.has, .int .u64 e2.w.value, .int .u64 e2.w.get, .int .u64 e2.w.set, .int .i64 e2.w.flags, .int .u64 e2.v, .int .i64 e2.n] (Qb (Cell.mono (hqb1_ _ _ (Qh OpW.len he2 (j := 0) (by decide) rfl)) (fun e he => absurd he List.not_mem_nil)) (Qb (Cell.mono (hqb1_ _ _ (Qh OpW.len he2 (j := 1) (by decide) rfl)) (fun e he => absurd he List.not_mem_nil)) (Qb (Cell.mono (hqb1_ _ _ (Qh OpW.len he2 (j := 2) (by decide) rfl)) (fun e he => absurd he List.not_mem_nil)) (Qb (Cell.mono (hqb1_ _ _ (Qh OpW.len he2 (j := 3) (by decide) rfl)) (fun e he => absurd he List.not_mem_nil)) (Qb (Cell.mono (hqb1_ _ _ (Qh OpW.len he2 (j := 4) (by decide) rfl)) (fun e he => absurd he List.not_mem_nil)) (Qb (Cell.mono (hqb1_ _ _ (Qh OpW.len he2 (j := 5) (by decide) rfl)) (fun e he => absurd he List.not_mem_nil)) (Qb (Cell.mono (hqb1_ _ _ (Qh OpW.len he2 (j := 6) (by decide) rfl)) (fun e he => absurd he List.not_mem_nil)) (Qb (Cell.mono (hqb1_ _ _ (Qh OpW.len he2 (j := 7) (by decide) rfl)) (fun e he => absurd he List.not_mem_nil)) (Qb (Cell.mono (hqb1_ _ _ (Qh OpW.len he2 (j := 8) (by decide) rfl)) (fun e he => absurd he List.not_mem_nil)) (Qb (Cell.mono (hqb1_ _ _ (Qh OpW.len he2 (j := 9) (by decide) rfl)) (fun e he => absurd he List.not_mem_nil)) (Qb (Cell.mono (hqb1_ _ _ (Qh OpW.len he2 (j := 10) (by decide) rfl)) (fun e he => absurd he List.not_mem_nil)) Qo))))))))))) ?_)
  refine L (nw 37 11 [.int .i64 0, .int .u64 0, .int .u64 0, .string ByteArray.empty, .int .i64 0, .int .u64 0, .int .u64 0, .int .u64 0, .int .i64 0, .int .u64 0, .int .i64 0] ?_)
  intro b6
  refine L (st [.int .i64 e2.kind, .int .u64 e2.o, .int .u64 e2.p, .string e2.key, .int .i64 e2.w.has, .int .u64 e2.w.value, .int .u64 e2.w.get, .int .u64 e2.w.set, .int .i64 e2.w.flags, .int .u64 e2.v, .int .i64 e2.n] ?_)
  refine nsr ?_
  refine os 3 ?_
  refine L (ld ?_)
  have hop_ := hops2 _ (List.mem_of_getElem? he2)
  have hcq_ := prop_Own hL hi1.inv o hop_.key
  rw [hi1.objs] at hcq_
  refine L (cl (hcq_) ?_)
  rintro v8 _ hv8
  obtain rfl : v8 = .tuple #[.agg #[.int .u64 ((QB (QH R3.pub o e2.key)).1), .int .u64 ((QB (QH R3.pub o e2.key)).2.1), .int .i64 ((QB (QH R3.pub o e2.key)).2.2)], .bool ((QH R3.pub o e2.key).isSome)] := hv8.trans (descR_eq _)
  refine os 3 ?_
  refine kp [67, 66, 13, 57, 1, 7, 11, 8, 54, 55, 56] ?_
  refine L (nw 45 3 [.int .u64 0, .int .u64 0, .int .i64 0] ?_)
  intro b7
  refine L (st [.int .u64 ((QB (QH R3.pub o e2.key)).1), .int .u64 ((QB (QH R3.pub o e2.key)).2.1), .int .i64 ((QB (QH R3.pub o e2.key)).2.2)] ?_)
  refine os 1 ?_
  refine kp [15, 13, 57, 1, 7, 11, 8, 54, 55, 56] ?_
  refine nsr ?_
  refine os 1 ?_
  refine L (lds 2 ?_)
  refine L (lds 11 ?_)
  refine L (cl (law_step14 hL hi1 (by omega) hop_) ?_)
  rintro _ ⟨H4, R4⟩ ⟨rfl, hd4⟩
  refine un ?_
  simp only [] at hd4
  obtain ⟨hsh4, hown4⟩ := shut_go (x := e2) hi1.nice hi2
  rw [← hd4.doc] at hsh4 hown4
  refine os 3 ?_
  refine kp [73, 15, 13, 57, 1, 7, 11, 8, 54, 55, 56] ?_
  refine L (st [Gs.val R4.s R4.objs.length, Gs.val R4.ts R4.texts.length] ?_)
  refine nsr ?_
  refine os 3 ?_
  refine L (ld ?_)
  have hcq_ := prop_Own hL hd4.sim.inv o hop_.key
  rw [hd4.sim.objs] at hcq_
  refine L (cl (hcq_) ?_)
  rintro v10 _ hv10
  obtain rfl : v10 = .tuple #[.agg #[.int .u64 ((QB (QH R4.pub o e2.key)).1), .int .u64 ((QB (QH R4.pub o e2.key)).2.1), .int .i64 ((QB (QH R4.pub o e2.key)).2.2)], .bool ((QH R4.pub o e2.key).isSome)] := hv10.trans (descR_eq _)
  refine os 3 ?_
  refine kp [82, 81, 15, 13, 57, 1, 7, 11, 8, 54, 55, 56] ?_
  refine L (nw 45 3 [.int .u64 0, .int .u64 0, .int .i64 0] ?_)
  intro b8
  refine L (st [.int .u64 ((QB (QH R4.pub o e2.key)).1), .int .u64 ((QB (QH R4.pub o e2.key)).2.1), .int .i64 ((QB (QH R4.pub o e2.key)).2.2)] ?_)
  refine os 1 ?_
  refine kp [17, 15, 13, 57, 1, 7, 11, 8, 54, 55, 56] ?_
  refine nsr ?_
  refine L (lds 2 ?_)
  refine os 1 ?_
  refine L (cl (rz_Array hd4.sim.ok (w := o) ho) ?_)
  rintro _ _ rfl
  refine os 1 ?_
  refine kp [18, 17, 15, 13, 57, 1, 7, 11, 8, 54, 55, 56] ?_
  refine nq ?_
  refine sr ?_
  refine os 2 ?_
  refine tb 87 (fun hg9 => ?_) (fun hg9 => ?_)
  ·replace hg9 : ((QH R4.pub o e2.key).isSome) = true := hg9
   refine os 4 ?_
   refine tb 91 (fun hg10 => ?_) (fun hg10 => ?_)
   ·replace hg10 : (!((QH R3.pub o e2.key).isSome)) = true := hg10
    replace hg10 := bnot_t hg10
    refine os 4 ?_
    refine kp [95, 18, 17, 15, 13, 57, 1, 7, 11, 8, 54, 55, 56] ?_
    refine pn 95 (show (!(arrP R4.pub o)) = false from (by cases q_ : arrP R4.pub o with | true => rfl | false => (have z_ := hown4 q_ (by assumption); have y_ : (QH R3.pub o e2.key).isSome = false := (by assumption); rw [z_] at y_; cases y_))) ?_
    refine os 10 ?_
    refine kp [105, 18, 17, 15, 13, 57, 1, 7, 11, 8, 54, 55, 56] ?_
    refine nt ?_
    refine cf ?_
    refine Ql (Qj ?_)
    refine Qz ?_
    refine sr ?_
    refine L (lds 2 ?_)
    refine os 1 ?_
    refine L (cl (rq_At (R := R4) ho) ?_)
    rintro _ _ rfl
    refine un ?_
    refine os 2 ?_
    refine tbp 110 (fun hg12 => ?_) (fun hg12 => ?_)
    ·replace hg12 : (atW R4.pub o) ≥ 0 := hg12
     refine os 1 ?_
     refine L (ld ?_)
     refine os 3 ?_
     refine kp [115, 105, 18, 17, 15, 13, 57, 1, 7, 11, 8, 54, 55, 56] ?_
     refine tb 115 (fun hg13 => ?_) (fun hg13 => ?_)
     ·replace hg13 : (e2.kind != 0) = true := hg13
      simp only [beq_iff_eq, bne_iff_ne, ne_eq, beq_eq_false_iff_ne, bne_eq_false_iff_eq] at hg13
      refine os 2 ?_
      have hcq_ := hz_Proto (W0 := W0) hd4.sim.inv o
      rw [hd4.sim.objs] at hcq_
      refine L (cl (hcq_) ?_)
      rintro v13 _ hv13
      obtain rfl : v13 = .int .u64 pr := hv13.trans (congrArg (Value.int .u64) hsh4.2.2)
      refine os 3 ?_
      refine kp [121, 105, 18, 17, 15, 13, 57, 1, 7, 11, 8, 54, 55, 56] ?_
      refine nt ?_
      refine SW_false (fun _ => (congrArg Value.bool (show (pr != pr) = false from (by simp)))) ?_
      refine Ql (Qj ?_)
      refine Qn ?_
      refine os 2 ?_
      have hcq_ := hz_Proto (W0 := W0) hd4.sim.inv o
      rw [hd4.sim.objs] at hcq_
      refine L (cl (hcq_) ?_)
      rintro v14 _ hv14
      obtain rfl : v14 = .int .u64 pr := hv14.trans (congrArg (Value.int .u64) hsh4.2.2)
      refine os 1 ?_
      refine kp [11, 121, 105, 18, 17, 15, 13, 57, 1, 7, 8, 54, 55, 56] ?_
      refine SL_nil (n_in (Qj ?_))
      refine Qn ?_
      refine os 2 ?_
      refine nt ?_
      exact ⟨(j + 1, H4, R4), by simp only []; omega, ⟨fun _ => rfl, ow⟩, by simp only []; omega, (by simp only []; exact hd4.sim), hsh4⟩
     replace hg13 : (e2.kind != 0) = false := hg13
     simp only [beq_iff_eq, bne_iff_ne, ne_eq, beq_eq_false_iff_ne, bne_eq_false_iff_eq] at hg13
     refine os 6 ?_
     refine kp [121, 105, 18, 17, 15, 13, 57, 1, 7, 11, 8, 54, 55, 56] ?_
     refine nt ?_
     refine cf ?_
     refine Ql (Qj ?_)
     refine Qn ?_
     refine os 2 ?_
     have hcq_ := hz_Proto (W0 := W0) hd4.sim.inv o
     rw [hd4.sim.objs] at hcq_
     refine L (cl (hcq_) ?_)
     rintro v15 _ hv15
     obtain rfl : v15 = .int .u64 pr := hv15.trans (congrArg (Value.int .u64) hsh4.2.2)
     refine os 1 ?_
     refine kp [11, 121, 105, 18, 17, 15, 13, 57, 1, 7, 8, 54, 55, 56] ?_
     refine SL_nil (n_in (Qj ?_))
     refine Qn ?_
     refine os 2 ?_
     refine nt ?_
     exact ⟨(j + 1, H4, R4), by simp only []; omega, ⟨fun _ => rfl, ow⟩, by simp only []; omega, (by simp only []; exact hd4.sim), hsh4⟩
    replace hg12 : ¬ ((atW R4.pub o) ≥ 0) := hg12
    refine os 11 ?_
    refine kp [121, 105, 18, 17, 15, 13, 57, 1, 7, 11, 8, 54, 55, 56] ?_
    refine nt ?_
    refine cf ?_
    refine Ql (Qj ?_)
    refine Qn ?_
    refine os 2 ?_
    have hcq_ := hz_Proto (W0 := W0) hd4.sim.inv o
    rw [hd4.sim.objs] at hcq_
    refine L (cl (hcq_) ?_)
    rintro v16 _ hv16
    obtain rfl : v16 = .int .u64 pr := hv16.trans (congrArg (Value.int .u64) hsh4.2.2)
    refine os 1 ?_
    refine kp [11, 121, 105, 18, 17, 15, 13, 57, 1, 7, 8, 54, 55, 56] ?_
    refine SL_nil (n_in (Qj ?_))
    refine Qn ?_
    refine os 2 ?_
    refine nt ?_
    exact ⟨(j + 1, H4, R4), by simp only []; omega, ⟨fun _ => rfl, ow⟩, by simp only []; omega, (by simp only []; exact hd4.sim), hsh4⟩
   replace hg10 : (!((QH R3.pub o e2.key).isSome)) = false := hg10
   replace hg10 := bnot_f hg10
   refine os 14 ?_
   refine kp [105, 18, 17, 15, 13, 57, 1, 7, 11, 8, 54, 55, 56] ?_
   refine nt ?_
   refine cf ?_
   refine Ql (Qj ?_)
   refine Qz ?_
   refine sr ?_
   refine L (lds 2 ?_)
   refine os 1 ?_
   refine L (cl (rq_At (R := R4) ho) ?_)
   rintro _ _ rfl
   refine un ?_
   refine os 2 ?_
   refine tbp 110 (fun hg14 => ?_) (fun hg14 => ?_)
   ·replace hg14 : (atW R4.pub o) ≥ 0 := hg14
    refine os 1 ?_
    refine L (ld ?_)
    refine os 3 ?_
    refine kp [115, 105, 18, 17, 15, 13, 57, 1, 7, 11, 8, 54, 55, 56] ?_
    refine tb 115 (fun hg15 => ?_) (fun hg15 => ?_)
    ·replace hg15 : (e2.kind != 0) = true := hg15
     simp only [beq_iff_eq, bne_iff_ne, ne_eq, beq_eq_false_iff_ne, bne_eq_false_iff_eq] at hg15
     refine os 2 ?_
     have hcq_ := hz_Proto (W0 := W0) hd4.sim.inv o
     rw [hd4.sim.objs] at hcq_
     refine L (cl (hcq_) ?_)
     rintro v18 _ hv18
     obtain rfl : v18 = .int .u64 pr := hv18.trans (congrArg (Value.int .u64) hsh4.2.2)
     refine os 3 ?_
     refine kp [121, 105, 18, 17, 15, 13, 57, 1, 7, 11, 8, 54, 55, 56] ?_
     refine nt ?_
     refine SW_false (fun _ => (congrArg Value.bool (show (pr != pr) = false from (by simp)))) ?_
     refine Ql (Qj ?_)
     refine Qn ?_
     refine os 2 ?_
     have hcq_ := hz_Proto (W0 := W0) hd4.sim.inv o
     rw [hd4.sim.objs] at hcq_
     refine L (cl (hcq_) ?_)
     rintro v19 _ hv19
     obtain rfl : v19 = .int .u64 pr := hv19.trans (congrArg (Value.int .u64) hsh4.2.2)
     refine os 1 ?_
     refine kp [11, 121, 105, 18, 17, 15, 13, 57, 1, 7, 8, 54, 55, 56] ?_
     refine SL_nil (n_in (Qj ?_))
     refine Qn ?_
     refine os 2 ?_
     refine nt ?_
     exact ⟨(j + 1, H4, R4), by simp only []; omega, ⟨fun _ => rfl, ow⟩, by simp only []; omega, (by simp only []; exact hd4.sim), hsh4⟩
    replace hg15 : (e2.kind != 0) = false := hg15
    simp only [beq_iff_eq, bne_iff_ne, ne_eq, beq_eq_false_iff_ne, bne_eq_false_iff_eq] at hg15
    refine os 6 ?_
    refine kp [121, 105, 18, 17, 15, 13, 57, 1, 7, 11, 8, 54, 55, 56] ?_
    refine nt ?_
    refine cf ?_
    refine Ql (Qj ?_)
    refine Qn ?_
    refine os 2 ?_
    have hcq_ := hz_Proto (W0 := W0) hd4.sim.inv o
    rw [hd4.sim.objs] at hcq_
    refine L (cl (hcq_) ?_)
    rintro v20 _ hv20
    obtain rfl : v20 = .int .u64 pr := hv20.trans (congrArg (Value.int .u64) hsh4.2.2)
    refine os 1 ?_
    refine kp [11, 121, 105, 18, 17, 15, 13, 57, 1, 7, 8, 54, 55, 56] ?_
    refine SL_nil (n_in (Qj ?_))
    refine Qn ?_
    refine os 2 ?_
    refine nt ?_
    exact ⟨(j + 1, H4, R4), by simp only []; omega, ⟨fun _ => rfl, ow⟩, by simp only []; omega, (by simp only []; exact hd4.sim), hsh4⟩
   replace hg14 : ¬ ((atW R4.pub o) ≥ 0) := hg14
   refine os 11 ?_
   refine kp [121, 105, 18, 17, 15, 13, 57, 1, 7, 11, 8, 54, 55, 56] ?_
   refine nt ?_
   refine cf ?_
   refine Ql (Qj ?_)
   refine Qn ?_
   refine os 2 ?_
   have hcq_ := hz_Proto (W0 := W0) hd4.sim.inv o
   rw [hd4.sim.objs] at hcq_
   refine L (cl (hcq_) ?_)
   rintro v21 _ hv21
   obtain rfl : v21 = .int .u64 pr := hv21.trans (congrArg (Value.int .u64) hsh4.2.2)
   refine os 1 ?_
   refine kp [11, 121, 105, 18, 17, 15, 13, 57, 1, 7, 8, 54, 55, 56] ?_
   refine SL_nil (n_in (Qj ?_))
   refine Qn ?_
   refine os 2 ?_
   refine nt ?_
   exact ⟨(j + 1, H4, R4), by simp only []; omega, ⟨fun _ => rfl, ow⟩, by simp only []; omega, (by simp only []; exact hd4.sim), hsh4⟩
  replace hg9 : ((QH R4.pub o e2.key).isSome) = false := hg9
  refine os 18 ?_
  refine kp [105, 18, 17, 15, 13, 57, 1, 7, 11, 8, 54, 55, 56] ?_
  refine nt ?_
  refine cf ?_
  refine Ql (Qj ?_)
  refine Qz ?_
  refine sr ?_
  refine L (lds 2 ?_)
  refine os 1 ?_
  refine L (cl (rq_At (R := R4) ho) ?_)
  rintro _ _ rfl
  refine un ?_
  refine os 2 ?_
  refine tbp 110 (fun hg16 => ?_) (fun hg16 => ?_)
  ·replace hg16 : (atW R4.pub o) ≥ 0 := hg16
   refine os 1 ?_
   refine L (ld ?_)
   refine os 3 ?_
   refine kp [115, 105, 18, 17, 15, 13, 57, 1, 7, 11, 8, 54, 55, 56] ?_
   refine tb 115 (fun hg17 => ?_) (fun hg17 => ?_)
   ·replace hg17 : (e2.kind != 0) = true := hg17
    simp only [beq_iff_eq, bne_iff_ne, ne_eq, beq_eq_false_iff_ne, bne_eq_false_iff_eq] at hg17
    refine os 2 ?_
    have hcq_ := hz_Proto (W0 := W0) hd4.sim.inv o
    rw [hd4.sim.objs] at hcq_
    refine L (cl (hcq_) ?_)
    rintro v23 _ hv23
    obtain rfl : v23 = .int .u64 pr := hv23.trans (congrArg (Value.int .u64) hsh4.2.2)
    refine os 3 ?_
    refine kp [121, 105, 18, 17, 15, 13, 57, 1, 7, 11, 8, 54, 55, 56] ?_
    refine nt ?_
    refine SW_false (fun _ => (congrArg Value.bool (show (pr != pr) = false from (by simp)))) ?_
    refine Ql (Qj ?_)
    refine Qn ?_
    refine os 2 ?_
    have hcq_ := hz_Proto (W0 := W0) hd4.sim.inv o
    rw [hd4.sim.objs] at hcq_
    refine L (cl (hcq_) ?_)
    rintro v24 _ hv24
    obtain rfl : v24 = .int .u64 pr := hv24.trans (congrArg (Value.int .u64) hsh4.2.2)
    refine os 1 ?_
    refine kp [11, 121, 105, 18, 17, 15, 13, 57, 1, 7, 8, 54, 55, 56] ?_
    refine SL_nil (n_in (Qj ?_))
    refine Qn ?_
    refine os 2 ?_
    refine nt ?_
    exact ⟨(j + 1, H4, R4), by simp only []; omega, ⟨fun _ => rfl, ow⟩, by simp only []; omega, (by simp only []; exact hd4.sim), hsh4⟩
   replace hg17 : (e2.kind != 0) = false := hg17
   simp only [beq_iff_eq, bne_iff_ne, ne_eq, beq_eq_false_iff_ne, bne_eq_false_iff_eq] at hg17
   refine os 6 ?_
   refine kp [121, 105, 18, 17, 15, 13, 57, 1, 7, 11, 8, 54, 55, 56] ?_
   refine nt ?_
   refine cf ?_
   refine Ql (Qj ?_)
   refine Qn ?_
   refine os 2 ?_
   have hcq_ := hz_Proto (W0 := W0) hd4.sim.inv o
   rw [hd4.sim.objs] at hcq_
   refine L (cl (hcq_) ?_)
   rintro v25 _ hv25
   obtain rfl : v25 = .int .u64 pr := hv25.trans (congrArg (Value.int .u64) hsh4.2.2)
   refine os 1 ?_
   refine kp [11, 121, 105, 18, 17, 15, 13, 57, 1, 7, 8, 54, 55, 56] ?_
   refine SL_nil (n_in (Qj ?_))
   refine Qn ?_
   refine os 2 ?_
   refine nt ?_
   exact ⟨(j + 1, H4, R4), by simp only []; omega, ⟨fun _ => rfl, ow⟩, by simp only []; omega, (by simp only []; exact hd4.sim), hsh4⟩
  replace hg16 : ¬ ((atW R4.pub o) ≥ 0) := hg16
  refine os 11 ?_
  refine kp [121, 105, 18, 17, 15, 13, 57, 1, 7, 11, 8, 54, 55, 56] ?_
  refine nt ?_
  refine cf ?_
  refine Ql (Qj ?_)
  refine Qn ?_
  refine os 2 ?_
  have hcq_ := hz_Proto (W0 := W0) hd4.sim.inv o
  rw [hd4.sim.objs] at hcq_
  refine L (cl (hcq_) ?_)
  rintro v26 _ hv26
  obtain rfl : v26 = .int .u64 pr := hv26.trans (congrArg (Value.int .u64) hsh4.2.2)
  refine os 1 ?_
  refine kp [11, 121, 105, 18, 17, 15, 13, 57, 1, 7, 8, 54, 55, 56] ?_
  refine SL_nil (n_in (Qj ?_))
  refine Qn ?_
  refine os 2 ?_
  refine nt ?_
  exact ⟨(j + 1, H4, R4), by simp only []; omega, ⟨fun _ => rfl, ow⟩, by simp only []; omega, (by simp only []; exact hd4.sim), hsh4⟩
 refine SW_exit (x_then (x_then (x_in (Qj ?_))))
 refine sr ?_
 refine os 1 ?_
 refine nt ?_
 refine Qi ?_
 refine Qg (.bool true) (fun _ => rfl) ?_
 exact ⟨(), ⟨_, List.Perm.refl _⟩, rfl⟩

end Go.Proofs.YthflblophelioaaGreatDoor
namespace Go.Proofs.YthflblophelioaaGreatDoor
open Go.Sl Go.ChangeShapes Go.WideShapes Go.ChangeAt Go.RowKit

theorem PropsShut_contract (H : Type) (enc : TypeId × Value → H) (W : World) (base : Nat) (args : Array Value) (ds gs : List (DataW H)) (before : List MemPlace)
   (hval : ∀ (j : Nat) t v, Tryz.f4.params[j]? = some t → args[j]? = some v → Value.okWide Tryz.prog W .any base t v)
   (hW : DataW.Whole enc Tryz.prog Tryz.f4.params.toList Rows.propsShutSpec.vars false W args.toList ds gs before) (hk : Rows.uptoSmall H (ds ++ gs) = true) (hLd : laidMetH Tryz.prog Rows.propsShutUptoRow.laid W) :
   Calls Tryz.prog 4 args W fun e W' => ∃ v, e = .returned v ∧ Rows.propsShutSpec.post enc Tryz.prog Tryz.f4 false true false false W args v W' := by
 have hL : Laid W := laid_here hLd
 have hW' := hW
 obtain ⟨p, q, hA0, hV, rfl, hfz, hnd⟩ := hW
 have hA : DataW.TrodAll enc Tryz.prog W 0 (fun _ => true) true Tryz.f4.params.toList args.toList ds p := hA0
 rw [Tryz.params4] at hA hval
 obtain ⟨v0, vs0, d0, ds0, p0, q0, hargs, rfl, rfl, h0, r0⟩ := trodAll_cons hA
 obtain ⟨v1, vs1, d1, ds1, p1, q1, rfl, rfl, rfl, h1, r1⟩ := trodAll_cons r0
 obtain ⟨v2, vs2, d2, ds2, p2, q2, rfl, rfl, rfl, h2, r2⟩ := trodAll_cons r1
 obtain ⟨rfl, rfl, rfl⟩ := trodAll_nil r2
 obtain rfl : args = #[v0, v1, v2] := by cases args; simp_all
 obtain ⟨rfl, rfl⟩ := trodVars_none hV
 obtain ⟨A0, c0, x0, rfl, hs0, hl0, hw0, hc0⟩ := arg_opsw (hval 0 22 v0 rfl rfl) h0 hk (by simp)
 obtain ⟨a1, rfl, rfl, rfl, w1⟩ := open_int Tryz.underlying33 (hval 1 33 v1 rfl rfl) h1
 obtain ⟨A2, c2, x2, rfl, hs2, hl2, hw2, hc2⟩ := arg_opsw (hval 2 22 v2 rfl rfl) h2 hk (by simp)
 refine (calls_law (law_PropsShut hL hs0 hl0 hw0 (wf_word w1) hs2 hl2 hw2)).mono fun e W' ⟨he, hb⟩ => ?_
 subst he
 exact ⟨_, rfl, post_law (tb := 4) hW' (by rw [Tryz.params4]; decide) rfl rfl rfl rfl rfl Tryz.underlying4 hb⟩

theorem PropsShut_reads (os : Os) {H : Type} (enc : TypeId × Value → H) : ∃ places, DataW.whole enc Tryz.prog ((laidWorld os).forCall (fun _ _ => 0) ⟨#[], #[.slice none 0 0, .int .u64 0, .slice none 0 0], []⟩).memory Tryz.f4.params.toList Rows.propsShutSpec.vars false #[.slice none 0 0, .int .u64 0, .slice none 0 0].toList 8 = some ([.nil, .lit (.int .u64 0), .nil], [], places) :=
 ⟨[], by kernel_rfl⟩
theorem PropsShut_lifted (os : Os) (started : os.Started) (H : Type) (enc : TypeId × Value → H) (F : Stop.Interp) :
   ReturnsInHanded {} Tryz.checked os 4 .any ((Rows.OpenSpec.upto Rows.propsShutSpec).preRow enc Tryz.prog Tryz.f4 Rows.propsShutUptoRow.domain false Rows.propsShutUptoRow.laid) (((Rows.OpenSpec.upto Rows.propsShutSpec).at F).post enc Tryz.prog Tryz.f4 false true false false) := by
 obtain ⟨places, hx⟩ := PropsShut_reads os enc
 refine returnsInHanded_of_row (C := Tryz.checked) (s := Rows.OpenSpec.upto Rows.propsShutSpec) rown started (by kernel_rfl) Tryz.func4
   (witness_row_atRef (enc := enc) (C := Tryz.checked) false (laidWorld os) #[.slice none 0 0, .int .u64 0, .slice none 0 0] rfl (by kernel_rfl) (by kernel_rfl) (by kernel_rfl)
     (OpenSpec.preRow_of_cond 8 hx (by kernel_rfl) (fun k hk => by cases hk; kernel_rfl) (by kernel_rfl) (laid_met os _))) ?_
 intro W base args ds gs before hval hW _ hcond _ hL _ _
 exact PropsShut_contract H enc W base args ds gs before hval hW (hcond _ rfl) hL

theorem PropsShut_row : Rows.PropsShutUptoSaid :=
 OpenClaim.holds_of_cond 4 Tryz.f4 rfl rfl rfl rfl rfl rfl rfl ⟨rfl, rfl, rfl, rfl, rfl⟩ rfl rfl rfl rfl rfl (by kernel_rfl) Tryz.func4 (by kernel_rfl)
   (of_decide_eq_true (by kernel_rfl)) (by unfold Func.isWrapper; first | (rw [if_pos (by decide +kernel)]; kernel_rfl) | (rw [if_neg (by decide +kernel)]; exact ⟨rfl, rfl⟩))
   (fun os started H enc _ F => by rw [OpenClaim.pre_eq_preRow]; exact PropsShut_lifted os started H enc F)
theorem PropsShut_plain (f : FuncId) (fn : Func) (hf : Tryz.pinned.checked.prog.funcNamed "brazier/brazierlaw14.PropsShut" = some f) (hfn : Tryz.pinned.checked.prog.funcs[f]? = some fn) :
   true = Tryz.pinned.checked.prog.looks [] ∧ ∀ (j : Nat) t, fn.params[j]? = some t → Tryz.pinned.checked.prog.wantsStandIn t = false := by
 obtain rfl : f = 4 := Option.some.inj ((show Tryz.prog.funcNamed "brazier/brazierlaw14.PropsShut" = some 4 by kernel_rfl).symm.trans hf) |>.symm
 obtain rfl : fn = Tryz.f4 := (Option.some.inj (Tryz.func4.symm.trans hfn)).symm
 refine ⟨by kernel_rfl, fun j t ht => ?_⟩
 rw [Tryz.params4] at ht
 have hm : t = 22 ∨ t = 33 ∨ t = 22 := by simpa using Array.mem_of_getElem? ht
 rcases hm with rfl | rfl | rfl
 · exact (show Tryz.prog.wantsStandIn 22 = false by kernel_rfl)
 · exact (show Tryz.prog.wantsStandIn 33 = false by kernel_rfl)
 · exact (show Tryz.prog.wantsStandIn 22 = false by kernel_rfl)
theorem PropsShut_proved : Rows.PropsShutUptoCardSaid :=
 Claim7.holds_tied_plain_at .later [] _ _ _ _ PropsShut_row (fun _ h => by cases h) (by kernel_rfl) (fun _ h => by cases h) propsShutUpto_row_tie rfl ⟨rfl, rfl⟩ (by kernel_rfl) rfl PropsShut_plain (by kernel_rfl)
end Go.Proofs.YthflblophelioaaGreatDoor
