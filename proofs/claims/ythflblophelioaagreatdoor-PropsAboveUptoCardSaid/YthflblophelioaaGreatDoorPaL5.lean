/-
  PropsAbove, within the bound on what it reads, and tied to the program's text: it returns true whatever it is given, and leaves its arguments as they were. Conditions: the arguments' bulk is at most 1048576; the listed library variables stand as their text lays them, as the statement says.
-/
import Derived.Test.YthflblophelioaaGreatDoorPa9
import Derived.Test.YthflblophelioaaGreatDoorPa11
set_option linter.unusedVariables false
set_option linter.unusedSimpArgs false
set_option maxRecDepth 100000
set_option maxHeartbeats 4000000
namespace Go.Proofs.YthflblophelioaaGreatDoor
open Go.Sl
variable {l l' : List ObjS} {w o : Int} {key k : ByteArray} {x : OpW} {y : ObjS} {f : ObjS → ObjS}
inductive StepO (l : List ObjS) (x : OpW) (o : Int) (y : ObjS) : ObjS → Prop
  | same : StepO l x o y y
  | len (q : WishP) (m : Int) : x.o = o → ¬ defNo l o x.key q → arrP l o = true → x.key = lenK → StepO l x o y (lenO m y)
  | set (m v : Int) : x.o = o → arrP l o = true → (QH l o x.key).isSome = true ∨ openQ l o = true → x.key ≠ lenK → (idxV x.key).2 = true → StepO l x o y (setO m v y)
  | put (q : WishP) : x.o = o → ¬ defNo l o x.key q → (arrP l o = true → x.key ≠ lenK ∧ (idxV x.key).2 = false) → StepO l x o y (putO x.key (defD l o x.key q) y)
  | drop : x.o = o → (QH l o x.key).isSome = true → (band (QB (QH l o x.key)).2.2 4 == 0) = false → StepO l x o y (dropO x.key y)
  | under (p : Int) : x.o = o → openQ l o = true → StepO l x o y (y.under p)
  | shut : StepO l x o y (shutO y)
theorem StepO.kind {z : ObjS} (h : StepO l x o y z) : z.kind = y.kind := by cases h <;> rfl
end Go.Proofs.YthflblophelioaaGreatDoor
namespace Go.Proofs.YthflblophelioaaGreatDoor
open Go.Sl

theorem law_made {W0 : World} (hL : Laid W0) {A : Option Addr} {c : Nat} {l : List OpW} (hls : ∀ σ, Src W0 σ A (l.flatMap OpW.cells)) (hl : l.length ≤ 1048576) (hops : ∀ x ∈ l, OwOk x) : SC Tryz.prog W0 21 #[.slice A l.length c] [] (Ret (fun r : HeapV × HeapF × RSt => HeapV.ent r.1 r.2.1 ++ (RSt.ent r.2.2 ++ [])) (fun v r => v = .tuple #[.pointer (some ⟨r.2.1.p, 0, none⟩), r.2.2.val] ∧ SimW l.length r.1 r.2.1 r.2.2)) := by
 refine Qx (fn := Tryz.f21) (n := 29) Tryz.func21 rfl (by kernel_rfl) (ρ := [(0, .slice A l.length c)]) rfl ?_
 refine sr ?_
 refine os 1 ?_
 refine L (nw 28 2 [.slice none 0 0, .slice none 0 0] ?_)
 intro b1
 refine nsr ?_
 refine L (cl (hp_New 256) ?_)
 rintro _ ⟨H0, F⟩ ⟨rfl, hI0, hp0, ht0, htr0, ho0, hcl0⟩
 simp only [] at hp0 ht0 htr0 ho0 hcl0 hI0
 have hS0 := SimW.new hI0 hp0 ht0
 refine os 1 ?_
 refine nsr ?_
 refine oV (.agg #[.slice none 0 0, .slice none 0 0]) ?_
 refine L (nw 28 2 [.slice none 0 0, .slice none 0 0] ?_)
 intro b2
 refine L (st [.slice none 0 0, .slice none 0 0] ?_)
 refine nq ?_
 refine Qz ?_
 refine SW_perm _ (perm_c (perm_a perm_z)) ?_
 refine SW_perm _ (perm_c perm_z) ?_
 refine SW_perm _ (QC (QC QD)) ?_
 refine QG ((HeapV.ent H0 F) ++ ((RSt.ent RSt.none) ++ ((b2, .cells 28 2 [Gs.val RSt.none.s RSt.none.objs.length, Gs.val RSt.none.ts RSt.none.texts.length]) :: ((b1, .cells 28 2 [.slice none 0 0, .slice none 0 0]) :: ([]))))) rfl ?_
 refine Qn ?_
 refine os 1 ?_
 refine oV (.bool false) ?_
 refine kp [11, 5, 4, 3, 2, 0] ?_
 refine nt ?_
 refine cf ?_
 refine Ql (Qj ?_)
 refine Qz ?_
 refine sr ?_
 refine os 3 ?_
 refine nt ?_
 refine SW_block ?_
 refine SW_loop (α := Nat × HeapV × RSt) (fun z_ ρ_ σ_ => Fits ρ_ σ_ [(3, pt b1 0), (4, pt F.p 0), (5, pt b2 0), (13, .slice A l.length c), (14, .int .i64 (l.length : Int)), (15, .int .i64 (z_.1 : Int))] ((HeapV.ent z_.2.1 F) ++ ((RSt.ent z_.2.2) ++ ((b2, .cells 28 2 [Gs.val z_.2.2.s z_.2.2.objs.length, Gs.val z_.2.2.ts z_.2.2.texts.length]) :: ((b1, .cells 28 2 [.slice none 0 0, .slice none 0 0]) :: ([]))))) ∧ z_.1 ≤ l.length ∧ SimW (z_.1) z_.2.1 F z_.2.2) (fun z_ => l.length - z_.1) (0, H0, RSt.none) ⟨⟨fun _ => rfl, ow⟩, Nat.zero_le _, hS0⟩ ?_
 rintro ⟨i, H, R⟩ ρ_ σ_ ⟨hfit, hi0, hi1⟩
 refine SW_fits hfit ?_
 clear hfit
 simp only [] at hi0 hi1 ⊢
 refine sr ?_
 refine os 1 ?_
 refine nq ?_
 refine cdp (fun hc3 : (i : Int) < (l.length : Int) => ?_) (fun hc3 => ?_)
 ·refine Ql (Qj ?_)
  refine Qz ?_
  refine SW_block ?_
  refine Qz ?_
  obtain ⟨b0_, o0_, rfl, hqb0_⟩ := (hls []).resolve_left (by rw [QF OpW.len]; omega)
  refine Qn ?_
  refine L (O_indexAddr' (i : Int) (o0_ + i * 11) b0_ o0_ l.length c .i64 11 Tryz.underlying22 (by kernel_rfl) (fun _ => rfl) (fun _ => rfl) (by omega) (by omega) (by omega) rfl ?_)
  obtain ⟨e1, he1⟩ : ∃ y_, l[i]? = some y_ := ⟨_, List.getElem?_eq_getElem (by omega)⟩
  refine L (ldr [.int .i64 e1.kind, .int .u64 e1.o, .int .u64 e1.p, .string e1.key, .int .i64 e1.w.has, .int .u64 e1.w.value, .int .u64 e1.w.get, .int .u64 e1.w.set, .int .i64 e1.w.flags, .int .u64 e1.v, .int .i64 e1.n] (Qb (Cell.mono (hqb0_ _ _ (Qh OpW.len he1 (j := 0) (by decide) rfl)) (fun e he => absurd he List.not_mem_nil)) (Qb (Cell.mono (hqb0_ _ _ (Qh OpW.len he1 (j := 1) (by decide) rfl)) (fun e he => absurd he List.not_mem_nil)) (Qb (Cell.mono (hqb0_ _ _ (Qh OpW.len he1 (j := 2) (by decide) rfl)) (fun e he => absurd he List.not_mem_nil)) (Qb (Cell.mono (hqb0_ _ _ (Qh OpW.len he1 (j := 3) (by decide) rfl)) (fun e he => absurd he List.not_mem_nil)) (Qb (Cell.mono (hqb0_ _ _ (Qh OpW.len he1 (j := 4) (by decide) rfl)) (fun e he => absurd he List.not_mem_nil)) (Qb (Cell.mono (hqb0_ _ _ (Qh OpW.len he1 (j := 5) (by decide) rfl)) (fun e he => absurd he List.not_mem_nil)) (Qb (Cell.mono (hqb0_ _ _ (Qh OpW.len he1 (j := 6) (by decide) rfl)) (fun e he => absurd he List.not_mem_nil)) (Qb (Cell.mono (hqb0_ _ _ (Qh OpW.len he1 (j := 7) (by decide) rfl)) (fun e he => absurd he List.not_mem_nil)) (Qb (Cell.mono (hqb0_ _ _ (Qh OpW.len he1 (j := 8) (by decide) rfl)) (fun e he => absurd he List.not_mem_nil)) (Qb (Cell.mono (hqb0_ _ _ (Qh OpW.len he1 (j := 9) (by decide) rfl)) (fun e he => absurd he List.not_mem_nil)) (Qb (Cell.mono (hqb0_ _ _ (Qh OpW.len he1 (j := 10) (by decide) rfl)) (fun e he => absurd he List.not_mem_nil)) Qo))))))))))) ?_)
  refine L (nw 37 11 [.int .i64 0, .int .u64 0, .int .u64 0, .string ByteArray.empty, .int .i64 0, .int .u64 0, .int .u64 0, .int .u64 0, .int .i64 0, .int .u64 0, .int .i64 0] ?_)
  intro b4
  refine L (st [.int .i64 e1.kind, .int .u64 e1.o, .int .u64 e1.p, .string e1.key, .int .i64 e1.w.has, .int .u64 e1.w.value, .int .u64 e1.w.get, .int .u64 e1.w.set, .int .i64 e1.w.flags, .int .u64 e1.v, .int .i64 e1.n] ?_)
  refine nr ?_
  refine os 1 ?_
  refine L (lds 2 ?_)
  refine L (lds 11 ?_)
  have hop_ := hops _ (List.mem_of_getElem? he1)
  refine L (cl (law_step14 hL hi1 (by omega) hop_) ?_)
  rintro _ ⟨H4, R4⟩ ⟨rfl, hd4⟩
  refine un ?_
  simp only [] at hd4
  refine os 3 ?_
  refine kp [24, 7, 16, 3, 4, 5, 13, 14, 15] ?_
  refine L (st [Gs.val R4.s R4.objs.length, Gs.val R4.ts R4.texts.length] ?_)
  refine SL_nil (n_in (Qj ?_))
  refine Qn ?_
  refine os 2 ?_
  refine nt ?_
  exact ⟨(i + 1, H4, R4), by simp only []; omega, ⟨fun _ => rfl, ow⟩, by simp only []; omega, (by simp only []; exact hd4.sim)⟩
 refine SW_exit (x_then (x_then (x_in (Qj ?_))))
 refine Qz ?_
 refine SW_draw [(b2, 0, Gs.val R.s R.objs.length), (b2, 1, Gs.val R.ts R.texts.length)] [0, 2] (by kernel_rfl) (Qd (Cell.own (Qa (Qa Qe)) rfl) (Qd (Cell.own (Qa (Qa Qe)) rfl) rd_nil)) ?_
 refine aS 0 ?_
 refine tr 1 (.agg #[Gs.val R.s R.objs.length, Gs.val R.ts R.texts.length]) ?_ (hy := fun δ w_ hr => Rd_loads b2 0 [Gs.val R.s R.objs.length, Gs.val R.ts R.texts.length] rfl (by kernel_rfl) (Qy List.mem_cons_self (Qy (List.mem_cons_of_mem _ List.mem_cons_self) rdm_nil)) hr)
 refine aS 2 ?_
 refine sa1 false 3 (h := st [Gs.val R.s R.objs.length, Gs.val R.ts R.texts.length] ?_)
 refine ⟨fun hnd => (by cases hnd), ?_⟩
 refine SA_done (by kernel_rfl) (Qj ?_)
 refine Qi ?_
 refine Qr [pt F.p 0, .agg #[Gs.val R.s R.objs.length, Gs.val R.ts R.texts.length]] (fun _ => (.cons rfl (.cons ⟨b1, 0, rfl, .inl ⟨[Gs.val R.s R.objs.length, Gs.val R.ts R.texts.length], by kernel_rfl, (Qb (Cell.own Qe rfl) (Qb (Cell.own Qe rfl) Qo)), rfl⟩⟩ .nil))) ?_
 exact ⟨(H, F, R), ow, rfl, by rw [show l.length = i from by omega]; exact hi1⟩

end Go.Proofs.YthflblophelioaaGreatDoor
namespace Go.Proofs.YthflblophelioaaGreatDoor
open Go.Sl

theorem law_PropsAbove {W0 : World} (hL : Laid W0) {A : Option Addr} {c : Nat} {l : List OpW} (hls : ∀ σ, Src W0 σ A (l.flatMap OpW.cells)) (hl : l.length ≤ 1048576) (hops : ∀ x ∈ l, OwOk x) {p : Int} (hp : wordOk p) {key : ByteArray} (hks : key.size ≤ 281474976710656) : SC Tryz.prog W0 9 #[.slice A l.length c, .int .u64 p, .string key] [] (Ret (fun _ : Unit => []) (fun v _ => v = .bool true)) := by
 refine Qx (fn := Tryz.f9) (n := 76) Tryz.func9 rfl (by kernel_rfl) (ρ := [(0, .slice A l.length c), (1, .int .u64 p), (2, .string key)]) rfl ?_
 refine sr ?_
 refine os 1 ?_
 refine nsr ?_
 refine os 1 ?_
 refine L (cl (law_made hL hls hl hops) ?_)
 rintro _ ⟨H, F, R⟩ ⟨rfl, hS⟩
 refine un ?_
 simp only [] at hS
 refine os 3 ?_
 refine L (nw 28 2 [.slice none 0 0, .slice none 0 0] ?_)
 intro b1
 refine os 1 ?_
 refine L (st [Gs.val R.s R.objs.length, Gs.val R.ts R.texts.length] ?_)
 refine nq ?_
 refine sr ?_
 refine os 1 ?_
 refine oV (.bool false) ?_
 refine os 1 ?_
 refine kp [21, 7, 8, 6, 0, 1, 2] ?_
 refine L (cl (law_alive14 hL) ?_)
 rintro _ _ rfl
 refine un ?_
 refine oV (.bool false) ?_
 refine os 1 ?_
 refine kp [24, 7, 8, 6, 0, 1, 2] ?_
 refine nt ?_
 refine cf ?_
 refine Ql (Qj ?_)
 refine sr ?_
 refine os 3 ?_
 have hln := hS.lok.len
 have hlp : R.pub.length = R.objs.length := RSt.pub_len R
 have hcq_ := prop_Lookup hL hS.inv p hks
 rw [hS.objs] at hcq_
 refine L (cl (hcq_) ?_)
 rintro _ _ rfl
 refine os 4 ?_
 refine L (nw 45 3 [.int .u64 0, .int .u64 0, .int .i64 0] ?_)
 intro b2
 refine os 1 ?_
 refine kp [9, 10, 32, 31, 24, 7, 8, 6, 0, 1, 2] ?_
 refine L (st [.int .u64 ((lookV (lookQ R.pub p key)).2.1), .int .u64 ((lookV (lookQ R.pub p key)).2.2.1), .int .i64 ((lookV (lookQ R.pub p key)).2.2.2)] ?_)
 refine os 1 ?_
 refine nq ?_
 refine sr ?_
 refine os 1 ?_
 refine L (ld ?_)
 refine os 3 ?_
 refine kp [37, 36, 11, 9, 10, 24, 7, 8, 6, 0, 1, 2] ?_
 refine nt ?_
 refine SW_block ?_
 refine SW_loop (α := Nat) (fun z_ ρ_ σ_ => Fits ρ_ σ_ [(2, .string key), (7, pt F.p 0), (8, pt b1 0), (9, .int .u64 ((lookV (lookQ R.pub p key)).1)), (10, pt b2 0), (11, .bool ((lookQ R.pub p key).isSome)), (36, .int .i64 ((R.objs.length : Int) + 1)), (1, .int .u64 (upN R.pub p z_)), (37, .int .i64 (z_ : Int))] ((b2, .cells 45 3 [.int .u64 ((lookV (lookQ R.pub p key)).2.1), .int .u64 ((lookV (lookQ R.pub p key)).2.2.1), .int .i64 ((lookV (lookQ R.pub p key)).2.2.2)]) :: ((HeapV.ent H F) ++ ((b1, .cells 28 2 [Gs.val R.s R.objs.length, Gs.val R.ts R.texts.length]) :: ((RSt.ent R) ++ ([]))))) ∧ z_ ≤ R.pub.length + 1 ∧ (∀ j, j < z_ → QH R.pub (upN R.pub p j) key = none) ∧ (∀ j, j < z_ → QA (upN R.pub p j) R.pub.length ≠ none)) (fun z_ => R.pub.length + 1 - z_) 0 ⟨⟨fun _ => rfl, ow⟩, Nat.zero_le _, fun j hj => absurd hj (Nat.not_lt_zero j), fun j hj => absurd hj (Nat.not_lt_zero j)⟩ ?_
 rintro i ρ_ σ_ ⟨hfit, hi0, hi1, hi2⟩
 refine SW_fits hfit ?_
 clear hfit
 refine sr ?_
 refine os 1 ?_
 refine nq ?_
 refine cdp (fun hc3 : (i : Int) < ((R.objs.length : Int) + 1) => ?_) (fun hc3 => ?_)
 ·refine Ql (Qj ?_)
  refine Qz ?_
  refine SW_block ?_
  refine sr ?_
  refine os 3 ?_
  have hcq_ := prop_Own hL hS.inv (upN R.pub p i) hks
  rw [hS.objs] at hcq_
  refine L (cl (hcq_) ?_)
  rintro v4 _ hv4
  obtain rfl : v4 = .tuple #[.agg #[.int .u64 ((QB (QH R.pub (upN R.pub p i) key)).1), .int .u64 ((QB (QH R.pub (upN R.pub p i) key)).2.1), .int .i64 ((QB (QH R.pub (upN R.pub p i) key)).2.2)], .bool ((QH R.pub (upN R.pub p i) key).isSome)] := hv4.trans (descR_eq _)
  refine os 3 ?_
  refine L (nw 45 3 [.int .u64 0, .int .u64 0, .int .i64 0] ?_)
  intro b4
  refine L (st [.int .u64 ((QB (QH R.pub (upN R.pub p i) key)).1), .int .u64 ((QB (QH R.pub (upN R.pub p i) key)).2.1), .int .i64 ((QB (QH R.pub (upN R.pub p i) key)).2.2)] ?_)
  refine os 1 ?_
  refine kp [13, 12, 38, 2, 7, 8, 9, 10, 11, 36, 1, 37] ?_
  refine nq ?_
  refine sr ?_
  refine os 2 ?_
  refine tb 47 (fun hg5 => ?_) (fun hg5 => ?_)
  ·replace hg5 : ((QH R.pub (upN R.pub p i) key).isSome) = true := hg5
   refine os 5 ?_
   refine kp [52, 13, 12, 38, 2, 7, 8, 9, 10, 11, 36, 1, 37] ?_
   refine nt ?_
   refine ct ?_
   refine Qz ?_
   have hil_ : i < R.pub.length := by
     apply Classical.byContradiction
     intro z_
     have y_ := (hS.doc.ends p).bound
     rcases Nat.lt_or_ge R.pub.length i with q_ | q_
     · exact hi2 _ q_ y_
     · have e_ : i = R.pub.length := by omega
       have x_ := ownQ_none (key := key) (show QA (upN R.pub p i) R.pub.length = none from by rw [e_]; exact y_)
       rw [x_] at hg5
       cases hg5
   have hlk_ : lookQ R.pub p key = some (upN R.pub p i, QB (QH R.pub (upN R.pub p i) key)) := look_hit (i := i) hil_ hi1 (some_of hg5)
   refine Qn ?_
   refine os 4 ?_
   refine tb 56 (fun hg6 => ?_) (fun hg6 => ?_)
   ·replace hg6 : (true == ((lookQ R.pub p key).isSome)) = true := hg6
    refine os 3 ?_
    refine tb 59 (fun hg7 => ?_) (fun hg7 => ?_)
    ·replace hg7 : (!((lookQ R.pub p key).isSome)) = true := hg7
     replace hg7 := bnot_t hg7
     refine os 11 ?_
     refine kp [6, 52, 13, 12, 38, 2, 7, 8, 9, 10, 11, 36, 1, 37] ?_
     refine nt ?_
     refine Qi (Qm (r_in (Qm (Qm (r_in (Qm ?_))))))
     refine Qg (.bool true) (fun _ => rfl) ?_
     refine ⟨(), ⟨_, List.Perm.refl _⟩, congrArg Value.bool ?_⟩
     first
     | rfl
     | (rw [hlk_]; simp [*]; done)
     | (exfalso; simp_all; done)
    replace hg7 : (!((lookQ R.pub p key).isSome)) = false := hg7
    replace hg7 := bnot_f hg7
    refine os 4 ?_
    refine kp [63, 59, 56, 52, 13, 12, 38, 2, 7, 8, 9, 10, 11, 36, 1, 37] ?_
    refine tb 63 (fun hg8 => ?_) (fun hg8 => ?_)
    ·replace hg8 : ((upN R.pub p i) == ((lookV (lookQ R.pub p key)).1)) = true := hg8
     refine L (lds 3 ?_)
     refine L (lds 3 ?_)
     refine oV (.bool (((lookV (lookQ R.pub p key)).2.1 == (QB (QH R.pub (upN R.pub p i) key)).1) && (((lookV (lookQ R.pub p key)).2.2.1 == (QB (QH R.pub (upN R.pub p i) key)).2.1) && ((lookV (lookQ R.pub p key)).2.2.2 == (QB (QH R.pub (upN R.pub p i) key)).2.2)))) ?_ (hs := eqlD)
     refine os 4 ?_
     refine kp [6, 52, 13, 12, 38, 2, 7, 8, 9, 10, 11, 36, 1, 37] ?_
     refine nt ?_
     refine Qi (Qm (r_in (Qm (Qm (r_in (Qm ?_))))))
     refine Qg (.bool (((lookV (lookQ R.pub p key)).2.1 == (QB (QH R.pub (upN R.pub p i) key)).1) && (((lookV (lookQ R.pub p key)).2.2.1 == (QB (QH R.pub (upN R.pub p i) key)).2.1) && ((lookV (lookQ R.pub p key)).2.2.2 == (QB (QH R.pub (upN R.pub p i) key)).2.2)))) (fun _ => rfl) ?_
     refine ⟨(), ⟨_, List.Perm.refl _⟩, congrArg Value.bool ?_⟩
     first
     | rfl
     | (rw [hlk_]; simp [*]; done)
     | (exfalso; simp_all; done)
    replace hg8 : ((upN R.pub p i) == ((lookV (lookQ R.pub p key)).1)) = false := hg8
    refine os 7 ?_
    refine kp [6, 52, 13, 12, 38, 2, 7, 8, 9, 10, 11, 36, 1, 37] ?_
    refine nt ?_
    refine Qi (Qm (r_in (Qm (Qm (r_in (Qm ?_))))))
    refine Qg (.bool false) (fun _ => rfl) ?_
    refine ⟨(), ⟨_, List.Perm.refl _⟩, congrArg Value.bool ?_⟩
    first
    | rfl
    | (rw [hlk_]; simp [*]; done)
    | (exfalso; simp_all; done)
   replace hg6 : (true == ((lookQ R.pub p key).isSome)) = false := hg6
   refine os 14 ?_
   refine kp [6, 52, 13, 12, 38, 2, 7, 8, 9, 10, 11, 36, 1, 37] ?_
   refine nt ?_
   refine Qi (Qm (r_in (Qm (Qm (r_in (Qm ?_))))))
   refine Qg (.bool false) (fun _ => rfl) ?_
   refine ⟨(), ⟨_, List.Perm.refl _⟩, congrArg Value.bool ?_⟩
   first
   | rfl
   | (rw [hlk_]; simp [*]; done)
   | (exfalso; simp_all; done)
  replace hg5 : ((QH R.pub (upN R.pub p i) key).isSome) = false := hg5
  refine L (lds 2 ?_)
  refine os 1 ?_
  refine L (cl (rq_At (R := R) (upN_ok hS.doc.words hp _)) ?_)
  rintro _ _ rfl
  refine un ?_
  refine os 2 ?_
  refine kp [52, 13, 12, 38, 2, 7, 8, 9, 10, 11, 36, 1, 37] ?_
  refine nt ?_
  refine cdp (fun hc9 : (atW R.pub (upN R.pub p i)) < 0 => ?_) (fun hc9 => ?_)
  ·refine Qz ?_
   have hlk_ : lookQ R.pub p key = none := look_out (i := if i ≤ R.pub.length then i else R.pub.length) (by split <;> omega) (fun j hj => hi1 j (by split at hj <;> omega)) (.inr (by rw [if_pos (by apply Classical.byContradiction; intro z_; exact hi2 _ (show R.pub.length < i from by omega) (hS.doc.ends p).bound)]; exact atW_neg.1 (by omega)))
   refine Qn ?_
   refine os 4 ?_
   refine tb 56 (fun hg10 => ?_) (fun hg10 => ?_)
   ·replace hg10 : (false == ((lookQ R.pub p key).isSome)) = true := hg10
    refine os 3 ?_
    refine tb 59 (fun hg11 => ?_) (fun hg11 => ?_)
    ·replace hg11 : (!((lookQ R.pub p key).isSome)) = true := hg11
     replace hg11 := bnot_t hg11
     refine os 11 ?_
     refine kp [6, 52, 13, 12, 38, 2, 7, 8, 9, 10, 11, 36, 1, 37] ?_
     refine nt ?_
     refine Qi (Qm (r_in (Qm (Qm (r_in (Qm ?_))))))
     refine Qg (.bool true) (fun _ => rfl) ?_
     refine ⟨(), ⟨_, List.Perm.refl _⟩, congrArg Value.bool ?_⟩
     first
     | rfl
     | (rw [hlk_]; simp [*]; done)
     | (exfalso; simp_all; done)
    replace hg11 : (!((lookQ R.pub p key).isSome)) = false := hg11
    replace hg11 := bnot_f hg11
    refine os 4 ?_
    refine kp [63, 59, 56, 52, 13, 12, 38, 2, 7, 8, 9, 10, 11, 36, 1, 37] ?_
    refine tb 63 (fun hg12 => ?_) (fun hg12 => ?_)
    ·replace hg12 : ((upN R.pub p i) == ((lookV (lookQ R.pub p key)).1)) = true := hg12
     refine L (lds 3 ?_)
     refine L (lds 3 ?_)
     refine oV (.bool (((lookV (lookQ R.pub p key)).2.1 == (QB (QH R.pub (upN R.pub p i) key)).1) && (((lookV (lookQ R.pub p key)).2.2.1 == (QB (QH R.pub (upN R.pub p i) key)).2.1) && ((lookV (lookQ R.pub p key)).2.2.2 == (QB (QH R.pub (upN R.pub p i) key)).2.2)))) ?_ (hs := eqlD)
     refine os 4 ?_
     refine kp [6, 52, 13, 12, 38, 2, 7, 8, 9, 10, 11, 36, 1, 37] ?_
     refine nt ?_
     refine Qi (Qm (r_in (Qm (Qm (r_in (Qm ?_))))))
     refine Qg (.bool (((lookV (lookQ R.pub p key)).2.1 == (QB (QH R.pub (upN R.pub p i) key)).1) && (((lookV (lookQ R.pub p key)).2.2.1 == (QB (QH R.pub (upN R.pub p i) key)).2.1) && ((lookV (lookQ R.pub p key)).2.2.2 == (QB (QH R.pub (upN R.pub p i) key)).2.2)))) (fun _ => rfl) ?_
     refine ⟨(), ⟨_, List.Perm.refl _⟩, congrArg Value.bool ?_⟩
     first
     | rfl
     | (rw [hlk_]; simp [*]; done)
     | (exfalso; simp_all; done)
    replace hg12 : ((upN R.pub p i) == ((lookV (lookQ R.pub p key)).1)) = false := hg12
    refine os 7 ?_
    refine kp [6, 52, 13, 12, 38, 2, 7, 8, 9, 10, 11, 36, 1, 37] ?_
    refine nt ?_
    refine Qi (Qm (r_in (Qm (Qm (r_in (Qm ?_))))))
    refine Qg (.bool false) (fun _ => rfl) ?_
    refine ⟨(), ⟨_, List.Perm.refl _⟩, congrArg Value.bool ?_⟩
    first
    | rfl
    | (rw [hlk_]; simp [*]; done)
    | (exfalso; simp_all; done)
   replace hg10 : (false == ((lookQ R.pub p key).isSome)) = false := hg10
   refine os 14 ?_
   refine kp [6, 52, 13, 12, 38, 2, 7, 8, 9, 10, 11, 36, 1, 37] ?_
   refine nt ?_
   refine Qi (Qm (r_in (Qm (Qm (r_in (Qm ?_))))))
   refine Qg (.bool false) (fun _ => rfl) ?_
   refine ⟨(), ⟨_, List.Perm.refl _⟩, congrArg Value.bool ?_⟩
   first
   | rfl
   | (rw [hlk_]; simp [*]; done)
   | (exfalso; simp_all; done)
  refine Ql (Qj ?_)
  refine Qn ?_
  refine os 2 ?_
  have hcq_ := hz_Proto (W0 := W0) hS.inv (upN R.pub p i)
  rw [hS.objs] at hcq_
  refine L (cl (hcq_) ?_)
  rintro _ _ rfl
  refine os 1 ?_
  refine kp [1, 52, 13, 12, 38, 2, 7, 8, 9, 10, 11, 36, 37] ?_
  refine SL_nil (n_in (Qj ?_))
  refine Qn ?_
  refine os 2 ?_
  refine nt ?_
  exact ⟨i + 1, by omega, ⟨fun _ => rfl, ow⟩, by omega, fun j hj => by by_cases q_ : j = i; (subst q_; exact none_of (by assumption)); exact hi1 j (by omega), fun j hj => by by_cases q_ : j = i; (subst q_; exact fun z => absurd (atW_neg.2 z) (by omega)); exact hi2 j (by omega)⟩
 refine SW_exit (x_then (x_then (x_in (Qj ?_))))
 refine sr ?_
 refine os 3 ?_
 refine nt ?_
 refine Qi ?_
 refine Qg (.bool (!((lookQ R.pub p key).isSome))) (fun _ => rfl) ?_
 refine ⟨(), ⟨_, List.Perm.refl _⟩, congrArg Value.bool ?_⟩
 rw [show lookQ R.pub p key = none from look_out (i := R.pub.length) (Nat.le_refl _) (fun j hj => hi1 j (by omega)) (.inl rfl)]
 rfl

end Go.Proofs.YthflblophelioaaGreatDoor
namespace Go.Proofs.YthflblophelioaaGreatDoor
open Go.Sl Go.ChangeShapes Go.WideShapes Go.ChangeAt Go.RowKit

theorem PropsAbove_contract (H : Type) (enc : TypeId × Value → H) (W : World) (base : Nat) (args : Array Value) (ds gs : List (DataW H)) (before : List MemPlace)
   (hval : ∀ (j : Nat) t v, Tryz.f9.params[j]? = some t → args[j]? = some v → Value.okWide Tryz.prog W .any base t v)
   (hW : DataW.Whole enc Tryz.prog Tryz.f9.params.toList Rows.propsAboveSpec.vars false W args.toList ds gs before) (hk : Rows.uptoSmall H (ds ++ gs) = true) (hLd : laidMetH Tryz.prog Rows.propsAboveUptoRow.laid W) :
   Calls Tryz.prog 9 args W fun e W' => ∃ v, e = .returned v ∧ Rows.propsAboveSpec.post enc Tryz.prog Tryz.f9 false true false false W args v W' := by
 have hL : Laid W := laid_here hLd
 have hW' := hW
 obtain ⟨p, q, hA0, hV, rfl, hfz, hnd⟩ := hW
 have hA : DataW.TrodAll enc Tryz.prog W 0 (fun _ => true) true Tryz.f9.params.toList args.toList ds p := hA0
 rw [Tryz.params9] at hA hval
 obtain ⟨v0, vs0, d0, ds0, p0, q0, hargs, rfl, rfl, h0, r0⟩ := trodAll_cons hA
 obtain ⟨v1, vs1, d1, ds1, p1, q1, rfl, rfl, rfl, h1, r1⟩ := trodAll_cons r0
 obtain ⟨v2, vs2, d2, ds2, p2, q2, rfl, rfl, rfl, h2, r2⟩ := trodAll_cons r1
 obtain ⟨rfl, rfl, rfl⟩ := trodAll_nil r2
 obtain rfl : args = #[v0, v1, v2] := by cases args; simp_all
 obtain ⟨rfl, rfl⟩ := trodVars_none hV
 obtain ⟨A0, c0, x0, rfl, hs0, hl0, hw0, hc0⟩ := arg_opsw (hval 0 22 v0 rfl rfl) h0 hk (by simp)
 obtain ⟨a1, rfl, rfl, rfl, w1⟩ := open_int Tryz.underlying33 (hval 1 33 v1 rfl rfl) h1
 obtain ⟨x2, rfl, hz2⟩ := arg_str hk (by simp) (hval 2 9 v2 rfl rfl) h2
 refine (calls_law (law_PropsAbove hL hs0 hl0 hw0 (wf_word w1) hz2)).mono fun e W' ⟨he, hb⟩ => ?_
 subst he
 exact ⟨_, rfl, post_law (tb := 4) hW' (by rw [Tryz.params9]; decide) rfl rfl rfl rfl rfl Tryz.underlying4 hb⟩

theorem PropsAbove_reads (os : Os) {H : Type} (enc : TypeId × Value → H) : ∃ places, DataW.whole enc Tryz.prog ((laidWorld os).forCall (fun _ _ => 0) ⟨#[], #[.slice none 0 0, .int .u64 0, .string .empty], []⟩).memory Tryz.f9.params.toList Rows.propsAboveSpec.vars false #[.slice none 0 0, .int .u64 0, .string .empty].toList 8 = some ([.nil, .lit (.int .u64 0), .lit (.string [])], [], places) :=
 ⟨[], by kernel_rfl⟩
theorem PropsAbove_lifted (os : Os) (started : os.Started) (H : Type) (enc : TypeId × Value → H) (F : Stop.Interp) :
   ReturnsInHanded {} Tryz.checked os 9 .any ((Rows.OpenSpec.upto Rows.propsAboveSpec).preRow enc Tryz.prog Tryz.f9 Rows.propsAboveUptoRow.domain false Rows.propsAboveUptoRow.laid) (((Rows.OpenSpec.upto Rows.propsAboveSpec).at F).post enc Tryz.prog Tryz.f9 false true false false) := by
 obtain ⟨places, hx⟩ := PropsAbove_reads os enc
 refine returnsInHanded_of_row (C := Tryz.checked) (s := Rows.OpenSpec.upto Rows.propsAboveSpec) rown started (by kernel_rfl) Tryz.func9
   (witness_row_atRef (enc := enc) (C := Tryz.checked) false (laidWorld os) #[.slice none 0 0, .int .u64 0, .string .empty] rfl (by kernel_rfl) (by kernel_rfl) (by kernel_rfl)
     (OpenSpec.preRow_of_cond 8 hx (by kernel_rfl) (fun k hk => by cases hk; kernel_rfl) (by kernel_rfl) (laid_met os _))) ?_
 intro W base args ds gs before hval hW _ hcond _ hL _ _
 exact PropsAbove_contract H enc W base args ds gs before hval hW (hcond _ rfl) hL

theorem PropsAbove_row : Rows.PropsAboveUptoSaid :=
 OpenClaim.holds_of_cond 9 Tryz.f9 rfl rfl rfl rfl rfl rfl rfl ⟨rfl, rfl, rfl, rfl, rfl⟩ rfl rfl rfl rfl rfl (by kernel_rfl) Tryz.func9 (by kernel_rfl)
   (of_decide_eq_true (by kernel_rfl)) (by unfold Func.isWrapper; first | (rw [if_pos (by decide +kernel)]; kernel_rfl) | (rw [if_neg (by decide +kernel)]; exact ⟨rfl, rfl⟩))
   (fun os started H enc _ F => by rw [OpenClaim.pre_eq_preRow]; exact PropsAbove_lifted os started H enc F)
theorem PropsAbove_plain (f : FuncId) (fn : Func) (hf : Tryz.pinned.checked.prog.funcNamed "brazier/brazierlaw14.PropsAbove" = some f) (hfn : Tryz.pinned.checked.prog.funcs[f]? = some fn) :
   true = Tryz.pinned.checked.prog.looks [] ∧ ∀ (j : Nat) t, fn.params[j]? = some t → Tryz.pinned.checked.prog.wantsStandIn t = false := by
 obtain rfl : f = 9 := Option.some.inj ((show Tryz.prog.funcNamed "brazier/brazierlaw14.PropsAbove" = some 9 by kernel_rfl).symm.trans hf) |>.symm
 obtain rfl : fn = Tryz.f9 := (Option.some.inj (Tryz.func9.symm.trans hfn)).symm
 refine ⟨by kernel_rfl, fun j t ht => ?_⟩
 rw [Tryz.params9] at ht
 have hm : t = 22 ∨ t = 33 ∨ t = 9 := by simpa using Array.mem_of_getElem? ht
 rcases hm with rfl | rfl | rfl
 · exact (show Tryz.prog.wantsStandIn 22 = false by kernel_rfl)
 · exact (show Tryz.prog.wantsStandIn 33 = false by kernel_rfl)
 · exact (show Tryz.prog.wantsStandIn 9 = false by kernel_rfl)
theorem PropsAbove_proved : Rows.PropsAboveUptoCardSaid :=
 Claim7.holds_tied_plain_at .later [] _ _ _ _ PropsAbove_row (fun _ h => by cases h) (by kernel_rfl) (fun _ h => by cases h) propsAboveUpto_row_tie rfl ⟨rfl, rfl⟩ (by kernel_rfl) rfl PropsAbove_plain (by kernel_rfl)
end Go.Proofs.YthflblophelioaaGreatDoor
