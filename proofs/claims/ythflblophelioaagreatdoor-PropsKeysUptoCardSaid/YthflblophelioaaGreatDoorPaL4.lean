/-
  PropsKeys, within the bound on what it reads, and tied to the program's text: it returns true whatever it is given, and leaves its arguments as they were. Conditions: the arguments' bulk is at most 1048576; the listed library variables stand as their text lays them, as the statement says.
-/
import Derived.Test.YthflblophelioaaGreatDoorPa9
import Derived.Test.YthflblophelioaaGreatDoorPa11
set_option linter.unusedVariables false
set_option linter.unusedSimpArgs false
set_option maxRecDepth 100000
set_option maxHeartbeats 4000000
namespace Go.Proofs.YthflblophelioaaGreatDoor
open Go.Sl
variable {l l' : List ObjS} {w o : Int} {key k : ByteArray} {x : OpW} {y : ObjS} {f : ObjS → ObjS}
inductive StepO (l : List ObjS) (x : OpW) (o : Int) (y : ObjS) : ObjS → Prop
  | same : StepO l x o y y
  | len (q : WishP) (m : Int) : x.o = o → ¬ defNo l o x.key q → arrP l o = true → x.key = lenK → StepO l x o y (lenO m y)
  | set (m v : Int) : x.o = o → arrP l o = true → (QH l o x.key).isSome = true ∨ openQ l o = true → x.key ≠ lenK → (idxV x.key).2 = true → StepO l x o y (setO m v y)
  | put (q : WishP) : x.o = o → ¬ defNo l o x.key q → (arrP l o = true → x.key ≠ lenK ∧ (idxV x.key).2 = false) → StepO l x o y (putO x.key (defD l o x.key q) y)
  | drop : x.o = o → (QH l o x.key).isSome = true → (band (QB (QH l o x.key)).2.2 4 == 0) = false → StepO l x o y (dropO x.key y)
  | under (p : Int) : x.o = o → openQ l o = true → StepO l x o y (y.under p)
  | shut : StepO l x o y (shutO y)
theorem StepO.kind {z : ObjS} (h : StepO l x o y z) : z.kind = y.kind := by cases h <;> rfl
theorem elemQ_lt (hl : Nice l) {i : Nat} (h : (elemQ l w (i : Int)).2 = true) : i < 4096 ∧ arrP l w = true := by
 unfold elemQ at h
 cases q : objOf l w with
 | none => rw [q] at h; cases h
 | some y =>
   rw [q] at h
   simp only [] at h
   have hm := objOf_mem q
   have hlt : i < y.elems.length := by
     unfold elemO at h
     split at h
     · next r => omega
     · cases h
   have := hl.elems y hm
   refine ⟨by omega, ?_⟩
   rw [arrQ_of q]
   by_cases hk : y.kind = 1
   · rw [hk]; rfl
   · rw [(hl.named y hm).2.1 hk] at hlt; simp at hlt
theorem idx_itoa {i : Nat} (h : i < 4096) : idxK (byteS (Lib.itoa (i : Int))) = some i := by
 show idxL (byteS (Lib.itoa (i : Int))).data.toList = some i
 rw [show (byteS (Lib.itoa (i : Int))).data.toList = Lib.decDigits i from by simp [byteS, Lib.itoa]]
 exact idx_dec h
theorem keysE_mem (hl : Nice l) {m : Nat} (h : k ∈ keysE l w m) : ∃ i : Nat, (elemQ l w (i : Int)).2 = true ∧ k = byteS (Lib.itoa (i : Int)) ∧ idxK k = some i := by
 unfold keysE at h
 obtain ⟨i, _, hi⟩ := List.mem_filterMap.1 h
 split at hi
 · next q => cases hi; exact ⟨i, q, rfl, idx_itoa (elemQ_lt hl q).1⟩
 · cases hi
theorem keysE_nodup (hl : Nice l) (m : Nat) : (keysE l w m).Nodup := by
 unfold keysE
 rw [List.Nodup, List.pairwise_filterMap]
 refine List.Pairwise.imp ?_ (List.nodup_range (n := m))
 intro a b hab c hc d hd hcd
 subst hcd
 split at hc
 · next q =>
   split at hd
   · next r =>
     cases hc
     have e1 := idx_itoa (elemQ_lt hl q).1
     have e2 := idx_itoa (elemQ_lt hl r).1
     rw [← Option.some.inj hd, e2] at e1
     exact hab (Option.some.inj e1).symm
   · cases hd
 · cases hc
theorem named_own (hl : Nice l) (h : k ∈ namesQ l w) : QH l w k = getQ l w k ∧ (arrP l w = true → idxK k = none) := by
 unfold namesQ at h
 cases q : objOf l w with
 | none => rw [q] at h; cases h
 | some y =>
   rw [q] at h
   have hm := objOf_mem q
   have e := (hl.named y hm).1
   refine ⟨?_, fun a => (e (by rw [arrQ_of q] at a; simpa using a) k h).2⟩
   unfold QH getQ
   rw [q]
   simp only []
   unfold ownO
   split
   · next hk =>
     obtain ⟨a, b⟩ := e hk k h
     rw [if_neg a, b]
   · rfl
theorem getQ_some (hl : Nice l) (h : k ∈ namesQ l w) : (getQ l w k).isSome = true := by
 unfold namesQ at h
 unfold getQ
 cases q : objOf l w with
 | none => rw [q] at h; cases h
 | some y =>
   rw [q] at h
   simp only [] at h ⊢
   have hm := objOf_mem q
   obtain ⟨i, hi⟩ := List.getElem?_of_mem h
   rw [getP_at (hl.nodup y hm) hi]
   have := (List.getElem?_eq_some_iff.1 hi).1
   rw [List.getElem?_eq_getElem (by rw [← hl.same y hm]; exact this)]
   rfl
theorem Lib_dec_len (i : Nat) (h : i < 4096) : (Lib.decDigits i).length ≤ 4 := dec_len 3 i (by omega)
theorem dec_small4 {i : Nat} (h : i < 4096) : (byteS (Lib.itoa (i : Int))).size ≤ 281474976710656 := by
 have h1 := Lib_dec_len i h
 have e : (byteS (Lib.itoa (i : Int))).size = (Lib.decDigits i).length := by rw [← itoa_nat]; simp [byteS, ByteArray.size]
 omega
theorem keys_size (hl : Nice l) (hk : k ∈ keysP' l w) : k.size ≤ 281474976710656 := by
 rcases List.mem_append.1 hk with q | q
 · obtain ⟨i, h1, h2, h3⟩ := keysE_mem hl q
   rw [h2]; exact dec_small4 (elemQ_lt hl h1).1
 · have h1 := (List.mem_filter.1 q).1
   unfold namesQ at h1
   split at h1
   · cases h1
   · next y hy => exact (hl.named y (objOf_mem hy)).2.2 k h1
theorem keys_law (hl : Nice l) : (keysP' l w).Nodup ∧ ∀ k ∈ keysP' l w, (QH l w k).isSome = true ∧ (band (QB (QH l w k)).2.2 2 == 0) = false := by
 unfold keysP'
 refine ⟨?_, fun k hk => ?_⟩
 · rw [List.nodup_append]
   refine ⟨keysE_nodup hl _, ?_, fun a ha b hb hab => ?_⟩
   · unfold keysN
     refine List.Pairwise.filter _ ?_
     show (namesQ l w).Nodup
     unfold namesQ
     split
     · exact List.nodup_nil
     · next y hy => exact hl.nodup y (objOf_mem hy)
   · subst hab
     obtain ⟨i, h1, h2, h3⟩ := keysE_mem hl ha
     have hb2 := (List.mem_filter.1 hb).1
     rw [(named_own hl hb2).2 (elemQ_lt hl h1).2] at h3
     cases h3
 · rcases List.mem_append.1 hk with q | q
   · obtain ⟨i, h1, h2, h3⟩ := keysE_mem hl q
     obtain ⟨a, b⟩ := elemQ_lt hl h1
     have hne : k ≠ lenK := fun z => by rw [z, show idxK lenK = none from by decide] at h3; cases h3
     rw [ownQ_elem b hne h3, if_pos h1]
     exact ⟨rfl, by simp only [QB, Option.getD]; decide⟩
   · obtain ⟨h1, h2⟩ := List.mem_filter.1 q
     rw [(named_own hl h1).1]
     refine ⟨getQ_some hl h1, ?_⟩
     simpa using h2
end Go.Proofs.YthflblophelioaaGreatDoor
namespace Go.Proofs.YthflblophelioaaGreatDoor
open Go.Sl

theorem law_made {W0 : World} (hL : Laid W0) {A : Option Addr} {c : Nat} {l : List OpW} (hls : ∀ σ, Src W0 σ A (l.flatMap OpW.cells)) (hl : l.length ≤ 1048576) (hops : ∀ x ∈ l, OwOk x) : SC Tryz.prog W0 21 #[.slice A l.length c] [] (Ret (fun r : HeapV × HeapF × RSt => HeapV.ent r.1 r.2.1 ++ (RSt.ent r.2.2 ++ [])) (fun v r => v = .tuple #[.pointer (some ⟨r.2.1.p, 0, none⟩), r.2.2.val] ∧ SimW l.length r.1 r.2.1 r.2.2)) := by
 refine Qx (fn := Tryz.f21) (n := 29) Tryz.func21 rfl (by kernel_rfl) (ρ := [(0, .slice A l.length c)]) rfl ?_
 refine sr ?_
 refine os 1 ?_
 refine L (nw 28 2 [.slice none 0 0, .slice none 0 0] ?_)
 intro b1
 refine nsr ?_
 refine L (cl (hp_New 256) ?_)
 rintro _ ⟨H0, F⟩ ⟨rfl, hI0, hp0, ht0, htr0, ho0, hcl0⟩
 simp only [] at hp0 ht0 htr0 ho0 hcl0 hI0
 have hS0 := SimW.new hI0 hp0 ht0
 refine os 1 ?_
 refine nsr ?_
 refine oV (.agg #[.slice none 0 0, .slice none 0 0]) ?_
 refine L (nw 28 2 [.slice none 0 0, .slice none 0 0] ?_)
 intro b2
 refine L (st [.slice none 0 0, .slice none 0 0] ?_)
 refine nq ?_
 refine Qz ?_
 refine SW_perm _ (perm_c (perm_a perm_z)) ?_
 refine SW_perm _ (perm_c perm_z) ?_
 refine SW_perm _ (QC (QC QD)) ?_
 refine QG ((HeapV.ent H0 F) ++ ((RSt.ent RSt.none) ++ ((b2, .cells 28 2 [Gs.val RSt.none.s RSt.none.objs.length, Gs.val RSt.none.ts RSt.none.texts.length]) :: ((b1, .cells 28 2 [.slice none 0 0, .slice none 0 0]) :: ([]))))) rfl ?_
 refine Qn ?_
 refine os 1 ?_
 refine oV (.bool false) ?_
 refine kp [11, 5, 4, 3, 2, 0] ?_
 refine nt ?_
 refine cf ?_
 refine Ql (Qj ?_)
 refine Qz ?_
 refine sr ?_
 refine os 3 ?_
 refine nt ?_
 refine SW_block ?_
 refine SW_loop (α := Nat × HeapV × RSt) (fun z_ ρ_ σ_ => Fits ρ_ σ_ [(3, pt b1 0), (4, pt F.p 0), (5, pt b2 0), (13, .slice A l.length c), (14, .int .i64 (l.length : Int)), (15, .int .i64 (z_.1 : Int))] ((HeapV.ent z_.2.1 F) ++ ((RSt.ent z_.2.2) ++ ((b2, .cells 28 2 [Gs.val z_.2.2.s z_.2.2.objs.length, Gs.val z_.2.2.ts z_.2.2.texts.length]) :: ((b1, .cells 28 2 [.slice none 0 0, .slice none 0 0]) :: ([]))))) ∧ z_.1 ≤ l.length ∧ SimW (z_.1) z_.2.1 F z_.2.2) (fun z_ => l.length - z_.1) (0, H0, RSt.none) ⟨⟨fun _ => rfl, ow⟩, Nat.zero_le _, hS0⟩ ?_
 rintro ⟨i, H, R⟩ ρ_ σ_ ⟨hfit, hi0, hi1⟩
 refine SW_fits hfit ?_
 clear hfit
 simp only [] at hi0 hi1 ⊢
 refine sr ?_
 refine os 1 ?_
 refine nq ?_
 refine cdp (fun hc3 : (i : Int) < (l.length : Int) => ?_) (fun hc3 => ?_)
 ·refine Ql (Qj ?_)
  refine Qz ?_
  refine SW_block ?_
  refine Qz ?_
  obtain ⟨b0_, o0_, rfl, hqb0_⟩ := (hls []).resolve_left (by rw [QF OpW.len]; omega)
  refine Qn ?_
  refine L (O_indexAddr' (i : Int) (o0_ + i * 11) b0_ o0_ l.length c .i64 11 Tryz.underlying22 (by kernel_rfl) (fun _ => rfl) (fun _ => rfl) (by omega) (by omega) (by omega) rfl ?_)
  obtain ⟨e1, he1⟩ : ∃ y_, l[i]? = some y_ := ⟨_, List.getElem?_eq_getElem (by omega)⟩
  refine L (ldr [.int .i64 e1.kind, .int .u64 e1.o, .int .u64 e1.p, .string e1.key, .int .i64 e1.w.has, .int .u64 e1.w.value, .int .u64 e1.w.get, .int .u64 e1.w.set, .int .i64 e1.w.flags, .int .u64 e1.v, .int .i64 e1.n] (Qb (Cell.mono (hqb0_ _ _ (Qh OpW.len he1 (j := 0) (by decide) rfl)) (fun e he => absurd he List.not_mem_nil)) (Qb (Cell.mono (hqb0_ _ _ (Qh OpW.len he1 (j := 1) (by decide) rfl)) (fun e he => absurd he List.not_mem_nil)) (Qb (Cell.mono (hqb0_ _ _ (Qh OpW.len he1 (j := 2) (by decide) rfl)) (fun e he => absurd he List.not_mem_nil)) (Qb (Cell.mono (hqb0_ _ _ (Qh OpW.len he1 (j := 3) (by decide) rfl)) (fun e he => absurd he List.not_mem_nil)) (Qb (Cell.mono (hqb0_ _ _ (Qh OpW.len he1 (j := 4) (by decide) rfl)) (fun e he => absurd he List.not_mem_nil)) (Qb (Cell.mono (hqb0_ _ _ (Qh OpW.len he1 (j := 5) (by decide) rfl)) (fun e he => absurd he List.not_mem_nil)) (Qb (Cell.mono (hqb0_ _ _ (Qh OpW.len he1 (j := 6) (by decide) rfl)) (fun e he => absurd he List.not_mem_nil)) (Qb (Cell.mono (hqb0_ _ _ (Qh OpW.len he1 (j := 7) (by decide) rfl)) (fun e he => absurd he List.not_mem_nil)) (Qb (Cell.mono (hqb0_ _ _ (Qh OpW.len he1 (j := 8) (by decide) rfl)) (fun e he => absurd he List.not_mem_nil)) (Qb (Cell.mono (hqb0_ _ _ (Qh OpW.len he1 (j := 9) (by decide) rfl)) (fun e he => absurd he List.not_mem_nil)) (Qb (Cell.mono (hqb0_ _ _ (Qh OpW.len he1 (j := 10) (by decide) rfl)) (fun e he => absurd he List.not_mem_nil)) Qo))))))))))) ?_)
  refine L (nw 37 11 [.int .i64 0, .int .u64 0, .int .u64 0, .string ByteArray.empty, .int .i64 0, .int .u64 0, .int .u64 0, .int .u64 0, .int .i64 0, .int .u64 0, .int .i64 0] ?_)
  intro b4
  refine L (st [.int .i64 e1.kind, .int .u64 e1.o, .int .u64 e1.p, .string e1.key, .int .i64 e1.w.has, .int .u64 e1.w.value, .int .u64 e1.w.get, .int .u64 e1.w.set, .int .i64 e1.w.flags, .int .u64 e1.v, .int .i64 e1.n] ?_)
  refine nr ?_
  refine os 1 ?_
  refine L (lds 2 ?_)
  refine L (lds 11 ?_)
  have hop_ := hops _ (List.mem_of_getElem? he1)
  refine L (cl (law_step14 hL hi1 (by omega) hop_) ?_)
  rintro _ ⟨H4, R4⟩ ⟨rfl, hd4⟩
  refine un ?_
  simp only [] at hd4
  refine os 3 ?_
  refine kp [24, 7, 16, 3, 4, 5, 13, 14, 15] ?_
  refine L (st [Gs.val R4.s R4.objs.length, Gs.val R4.ts R4.texts.length] ?_)
  refine SL_nil (n_in (Qj ?_))
  refine Qn ?_
  refine os 2 ?_
  refine nt ?_
  exact ⟨(i + 1, H4, R4), by simp only []; omega, ⟨fun _ => rfl, ow⟩, by simp only []; omega, (by simp only []; exact hd4.sim)⟩
 refine SW_exit (x_then (x_then (x_in (Qj ?_))))
 refine Qz ?_
 refine SW_draw [(b2, 0, Gs.val R.s R.objs.length), (b2, 1, Gs.val R.ts R.texts.length)] [0, 2] (by kernel_rfl) (Qd (Cell.own (Qa (Qa Qe)) rfl) (Qd (Cell.own (Qa (Qa Qe)) rfl) rd_nil)) ?_
 refine aS 0 ?_
 refine tr 1 (.agg #[Gs.val R.s R.objs.length, Gs.val R.ts R.texts.length]) ?_ (hy := fun δ w_ hr => Rd_loads b2 0 [Gs.val R.s R.objs.length, Gs.val R.ts R.texts.length] rfl (by kernel_rfl) (Qy List.mem_cons_self (Qy (List.mem_cons_of_mem _ List.mem_cons_self) rdm_nil)) hr)
 refine aS 2 ?_
 refine sa1 false 3 (h := st [Gs.val R.s R.objs.length, Gs.val R.ts R.texts.length] ?_)
 refine ⟨fun hnd => (by cases hnd), ?_⟩
 refine SA_done (by kernel_rfl) (Qj ?_)
 refine Qi ?_
 refine Qr [pt F.p 0, .agg #[Gs.val R.s R.objs.length, Gs.val R.ts R.texts.length]] (fun _ => (.cons rfl (.cons ⟨b1, 0, rfl, .inl ⟨[Gs.val R.s R.objs.length, Gs.val R.ts R.texts.length], by kernel_rfl, (Qb (Cell.own Qe rfl) (Qb (Cell.own Qe rfl) Qo)), rfl⟩⟩ .nil))) ?_
 exact ⟨(H, F, R), ow, rfl, by rw [show l.length = i from by omega]; exact hi1⟩

end Go.Proofs.YthflblophelioaaGreatDoor
namespace Go.Proofs.YthflblophelioaaGreatDoor
open Go.Sl

theorem law_PropsKeys {W0 : World} (hL : Laid W0) {A : Option Addr} {c : Nat} {l : List OpW} (hls : ∀ σ, Src W0 σ A (l.flatMap OpW.cells)) (hl : l.length ≤ 1048576) (hops : ∀ x ∈ l, OwOk x) {o : Int} (ho : wordOk o) : SC Tryz.prog W0 8 #[.slice A l.length c, .int .u64 o] [] (Ret (fun _ : Unit => []) (fun v _ => v = .bool true)) := by
 refine Qx (fn := Tryz.f8) (n := 64) Tryz.func8 rfl (by kernel_rfl) (ρ := [(0, .slice A l.length c), (1, .int .u64 o)]) rfl ?_
 refine sr ?_
 refine os 1 ?_
 refine nsr ?_
 refine os 1 ?_
 refine L (cl (law_made hL hls hl hops) ?_)
 rintro _ ⟨H, F, R⟩ ⟨rfl, hS⟩
 refine un ?_
 simp only [] at hS
 refine os 3 ?_
 refine L (nw 28 2 [.slice none 0 0, .slice none 0 0] ?_)
 intro b1
 refine os 1 ?_
 refine L (st [Gs.val R.s R.objs.length, Gs.val R.ts R.texts.length] ?_)
 refine nq ?_
 refine sr ?_
 refine os 1 ?_
 refine oV (.bool false) ?_
 refine os 1 ?_
 refine kp [19, 5, 4, 0, 1] ?_
 refine L (cl (law_alive14 hL) ?_)
 rintro _ _ rfl
 refine un ?_
 refine oV (.bool false) ?_
 refine os 1 ?_
 refine kp [22, 5, 4, 0, 1] ?_
 refine nt ?_
 refine cf ?_
 refine Ql (Qj ?_)
 refine sr ?_
 refine os 2 ?_
 have hKq_ := prop_Keys hL hS.inv (by omega) o
 rw [hS.objs] at hKq_
 refine L (cl (hKq_) ?_)
 rintro _ kg ⟨rfl, hkg⟩
 refine un ?_
 have hkl := hS.keysLen o
 obtain ⟨hnd_, hown_⟩ := keys_law (w := o) hS.nice
 refine os 1 ?_
 refine kp [7, 22, 5, 4, 0, 1] ?_
 refine nq ?_
 refine sr ?_
 refine os 3 ?_
 refine nt ?_
 refine SW_block ?_
 refine SW_loop (α := Nat) (fun z_ ρ_ σ_ => Fits ρ_ σ_ [(1, .int .u64 o), (5, pt F.p 0), (7, Gs.val kg ((keysP' R.pub o).length)), (27, .int .i64 ((((keysP' R.pub o).length : Nat)) : Int)), (28, .int .i64 (z_ : Int))] ((Gs.ent 9 1 kg ((keysP' R.pub o).map Qt)) ++ ((HeapV.ent H F) ++ ((b1, .cells 28 2 [Gs.val R.s R.objs.length, Gs.val R.ts R.texts.length]) :: ((RSt.ent R) ++ ([]))))) ∧ z_ ≤ (keysP' R.pub o).length) (fun z_ => (keysP' R.pub o).length - z_) 0 ⟨⟨fun _ => rfl, ow⟩, Nat.zero_le _⟩ ?_
 rintro i ρ_ σ_ ⟨hfit, hi0⟩
 refine SW_fits hfit ?_
 clear hfit
 refine sr ?_
 refine os 1 ?_
 refine nq ?_
 refine cdp (fun hc2 : (i : Int) < ((((keysP' R.pub o).length : Nat)) : Int) => ?_) (fun hc2 => ?_)
 ·refine Ql (Qj ?_)
  refine Qz ?_
  refine SW_block ?_
  refine sr ?_
  refine os 2 ?_
  refine nq ?_
  obtain ⟨e1, he1⟩ : ∃ y_, (keysP' R.pub o)[i]? = some y_ := ⟨_, List.getElem?_eq_getElem (by omega)⟩
  refine Qn ?_
  refine os 4 ?_
  refine L (ixg (i : Int) (i) hkg Tryz.underlying26 ?_)
  refine L (ld ?_ (hc := Gs.cell hkg (fun e he => (Qs he)) (map_cell he1 rfl)))
  obtain ⟨hw1_, hw2_⟩ := hown_ _ (List.mem_of_getElem? he1)
  have hcq_ := prop_Own hL hS.inv o (keys_size (w := o) hS.nice (List.mem_of_getElem? he1))
  rw [hS.objs] at hcq_
  refine L (cl (hcq_) ?_)
  rintro v4 _ hv4
  obtain rfl : v4 = .tuple #[.agg #[.int .u64 ((QB (QH R.pub o e1)).1), .int .u64 ((QB (QH R.pub o e1)).2.1), .int .i64 ((QB (QH R.pub o e1)).2.2)], .bool ((QH R.pub o e1).isSome)] := hv4.trans (descR_eq _)
  refine os 3 ?_
  refine kp [40, 39, 8, 29, 1, 5, 7, 27, 28] ?_
  refine L (nw 45 3 [.int .u64 0, .int .u64 0, .int .i64 0] ?_)
  intro b3
  refine L (st [.int .u64 ((QB (QH R.pub o e1)).1), .int .u64 ((QB (QH R.pub o e1)).2.1), .int .i64 ((QB (QH R.pub o e1)).2.2)] ?_)
  refine os 1 ?_
  refine nq ?_
  refine sr ?_
  refine os 3 ?_
  refine pn 43 (show (!((QH R.pub o e1).isSome)) = false from (by rw [hw1_]; rfl)) ?_
  refine os 1 ?_
  refine L (ld ?_)
  refine oV (.int .i64 (band ((QB (QH R.pub o e1)).2.2) 2)) ?_
  refine os 2 ?_
  refine kp [48, 10, 9, 8, 29, 1, 5, 7, 27, 28] ?_
  refine nt ?_
  refine SW_false (fun _ => (congrArg Value.bool (show ((band ((QB (QH R.pub o e1)).2.2) 2) == 0) = false from (by assumption)))) ?_
  refine Ql (Qj ?_)
  refine sr ?_
  refine os 2 ?_
  refine nt ?_
  refine SW_block ?_
  refine SW_loop (α := Nat) (fun z_ ρ_ σ_ => Fits ρ_ σ_ [(1, .int .u64 o), (5, pt F.p 0), (7, Gs.val kg ((keysP' R.pub o).length)), (8, .int .i64 (i : Int)), (27, .int .i64 ((((keysP' R.pub o).length : Nat)) : Int)), (28, .int .i64 (i : Int)), (49, .int .i64 (i : Int)), (50, .int .i64 (z_ : Int))] ((b3, .cells 45 3 [.int .u64 ((QB (QH R.pub o e1)).1), .int .u64 ((QB (QH R.pub o e1)).2.1), .int .i64 ((QB (QH R.pub o e1)).2.2)]) :: ((HeapV.ent H F) ++ ((Gs.ent 9 1 kg ((keysP' R.pub o).map Qt)) ++ ((b1, .cells 28 2 [Gs.val R.s R.objs.length, Gs.val R.ts R.texts.length]) :: ((RSt.ent R) ++ ([])))))) ∧ z_ ≤ i) (fun z_ => i - z_) 0 ⟨⟨fun _ => rfl, ow⟩, Nat.zero_le _⟩ ?_
  rintro u ρ_ σ_ ⟨hfit, hi0⟩
  refine SW_fits hfit ?_
  clear hfit
  refine sr ?_
  refine os 1 ?_
  refine nq ?_
  refine cdp (fun hc5 : (u : Int) < (i : Int) => ?_) (fun hc5 => ?_)
  ·refine Ql (Qj ?_)
   refine Qz ?_
   refine SW_block ?_
   refine sr ?_
   refine os 2 ?_
   refine nq ?_
   obtain ⟨e2, he2⟩ : ∃ y_, (keysP' R.pub o)[u]? = some y_ := ⟨_, List.getElem?_eq_getElem (by omega)⟩
   refine SW_draw [((Gs.blk kg), u, .string e2), ((Gs.blk kg), i, .string e1)] [0, 1, 2, 3, 4, 5, 6, 7] (by kernel_rfl) (Qd (Gs.cell hkg (fun e he => (Qc (Qa (Qs he)))) (map_cell he2 rfl)) (Qd (Gs.cell hkg (fun e he => (Qc (Qa (Qs he)))) (map_cell he1 rfl)) rd_nil)) ?_
   refine aS 0 ?_
   refine aS 1 ?_
   refine aI 2 (u : Int) (u) hkg Tryz.underlying26 ?_
   refine aL 3 ?_
   refine aS 4 ?_
   refine aS 5 ?_
   refine aI 6 (i : Int) (i) hkg Tryz.underlying26 ?_
   refine aL 7 ?_
   refine tk 8 (.bool (e2.toList == e1.toList)) ?_
   rw [show (e2.toList == e1.toList) = (decide (e2 = e1)) from by rw [str_eq]]
   refine kpA [61, 11, 51, 1, 5, 7, 8, 27, 28, 49, 50] ?_
   refine SA_done (by kernel_rfl) (Qj ?_)
   refine SW_false (fun _ => (congrArg Value.bool (show (decide (e2 = e1)) = false from (decide_eq_false (fun z_ => nodup_ne hnd_ he2 he1 (by omega) z_))))) ?_
   refine Ql (n_in (Qj ?_))
   refine Qn ?_
   refine os 2 ?_
   refine nt ?_
   exact ⟨u + 1, by omega, ⟨fun _ => rfl, ow⟩, by omega⟩
  refine SW_exit (x_then (x_then (x_in (n_in (Qj ?_)))))
  refine Qn ?_
  refine os 2 ?_
  refine nt ?_
  exact ⟨i + 1, by omega, ⟨fun _ => rfl, ow⟩, by omega⟩
 refine SW_exit (x_then (x_then (x_in (Qj ?_))))
 refine sr ?_
 refine os 1 ?_
 refine nt ?_
 refine Qi ?_
 refine Qg (.bool true) (fun _ => rfl) ?_
 exact ⟨(), ⟨_, List.Perm.refl _⟩, rfl⟩

end Go.Proofs.YthflblophelioaaGreatDoor
namespace Go.Proofs.YthflblophelioaaGreatDoor
open Go.Sl Go.ChangeShapes Go.WideShapes Go.ChangeAt Go.RowKit

theorem PropsKeys_contract (H : Type) (enc : TypeId × Value → H) (W : World) (base : Nat) (args : Array Value) (ds gs : List (DataW H)) (before : List MemPlace)
   (hval : ∀ (j : Nat) t v, Tryz.f8.params[j]? = some t → args[j]? = some v → Value.okWide Tryz.prog W .any base t v)
   (hW : DataW.Whole enc Tryz.prog Tryz.f8.params.toList Rows.propsKeysSpec.vars false W args.toList ds gs before) (hk : Rows.uptoSmall H (ds ++ gs) = true) (hLd : laidMetH Tryz.prog Rows.propsKeysUptoRow.laid W) :
   Calls Tryz.prog 8 args W fun e W' => ∃ v, e = .returned v ∧ Rows.propsKeysSpec.post enc Tryz.prog Tryz.f8 false true false false W args v W' := by
 have hL : Laid W := laid_here hLd
 have hW' := hW
 obtain ⟨p, q, hA0, hV, rfl, hfz, hnd⟩ := hW
 have hA : DataW.TrodAll enc Tryz.prog W 0 (fun _ => true) true Tryz.f8.params.toList args.toList ds p := hA0
 rw [Tryz.params8] at hA hval
 obtain ⟨v0, vs0, d0, ds0, p0, q0, hargs, rfl, rfl, h0, r0⟩ := trodAll_cons hA
 obtain ⟨v1, vs1, d1, ds1, p1, q1, rfl, rfl, rfl, h1, r1⟩ := trodAll_cons r0
 obtain ⟨rfl, rfl, rfl⟩ := trodAll_nil r1
 obtain rfl : args = #[v0, v1] := by cases args; simp_all
 obtain ⟨rfl, rfl⟩ := trodVars_none hV
 obtain ⟨A0, c0, x0, rfl, hs0, hl0, hw0, hc0⟩ := arg_opsw (hval 0 22 v0 rfl rfl) h0 hk (by simp)
 obtain ⟨a1, rfl, rfl, rfl, w1⟩ := open_int Tryz.underlying33 (hval 1 33 v1 rfl rfl) h1
 refine (calls_law (law_PropsKeys hL hs0 hl0 hw0 (wf_word w1))).mono fun e W' ⟨he, hb⟩ => ?_
 subst he
 exact ⟨_, rfl, post_law (tb := 4) hW' (by rw [Tryz.params8]; decide) rfl rfl rfl rfl rfl Tryz.underlying4 hb⟩

theorem PropsKeys_reads (os : Os) {H : Type} (enc : TypeId × Value → H) : ∃ places, DataW.whole enc Tryz.prog ((laidWorld os).forCall (fun _ _ => 0) ⟨#[], #[.slice none 0 0, .int .u64 0], []⟩).memory Tryz.f8.params.toList Rows.propsKeysSpec.vars false #[.slice none 0 0, .int .u64 0].toList 8 = some ([.nil, .lit (.int .u64 0)], [], places) :=
 ⟨[], by kernel_rfl⟩
theorem PropsKeys_lifted (os : Os) (started : os.Started) (H : Type) (enc : TypeId × Value → H) (F : Stop.Interp) :
   ReturnsInHanded {} Tryz.checked os 8 .any ((Rows.OpenSpec.upto Rows.propsKeysSpec).preRow enc Tryz.prog Tryz.f8 Rows.propsKeysUptoRow.domain false Rows.propsKeysUptoRow.laid) (((Rows.OpenSpec.upto Rows.propsKeysSpec).at F).post enc Tryz.prog Tryz.f8 false true false false) := by
 obtain ⟨places, hx⟩ := PropsKeys_reads os enc
 refine returnsInHanded_of_row (C := Tryz.checked) (s := Rows.OpenSpec.upto Rows.propsKeysSpec) rown started (by kernel_rfl) Tryz.func8
   (witness_row_atRef (enc := enc) (C := Tryz.checked) false (laidWorld os) #[.slice none 0 0, .int .u64 0] rfl (by kernel_rfl) (by kernel_rfl) (by kernel_rfl)
     (OpenSpec.preRow_of_cond 8 hx (by kernel_rfl) (fun k hk => by cases hk; kernel_rfl) (by kernel_rfl) (laid_met os _))) ?_
 intro W base args ds gs before hval hW _ hcond _ hL _ _
 exact PropsKeys_contract H enc W base args ds gs before hval hW (hcond _ rfl) hL

theorem PropsKeys_row : Rows.PropsKeysUptoSaid :=
 OpenClaim.holds_of_cond 8 Tryz.f8 rfl rfl rfl rfl rfl rfl rfl ⟨rfl, rfl, rfl, rfl, rfl⟩ rfl rfl rfl rfl rfl (by kernel_rfl) Tryz.func8 (by kernel_rfl)
   (of_decide_eq_true (by kernel_rfl)) (by unfold Func.isWrapper; first | (rw [if_pos (by decide +kernel)]; kernel_rfl) | (rw [if_neg (by decide +kernel)]; exact ⟨rfl, rfl⟩))
   (fun os started H enc _ F => by rw [OpenClaim.pre_eq_preRow]; exact PropsKeys_lifted os started H enc F)
theorem PropsKeys_plain (f : FuncId) (fn : Func) (hf : Tryz.pinned.checked.prog.funcNamed "brazier/brazierlaw14.PropsKeys" = some f) (hfn : Tryz.pinned.checked.prog.funcs[f]? = some fn) :
   true = Tryz.pinned.checked.prog.looks [] ∧ ∀ (j : Nat) t, fn.params[j]? = some t → Tryz.pinned.checked.prog.wantsStandIn t = false := by
 obtain rfl : f = 8 := Option.some.inj ((show Tryz.prog.funcNamed "brazier/brazierlaw14.PropsKeys" = some 8 by kernel_rfl).symm.trans hf) |>.symm
 obtain rfl : fn = Tryz.f8 := (Option.some.inj (Tryz.func8.symm.trans hfn)).symm
 refine ⟨by kernel_rfl, fun j t ht => ?_⟩
 rw [Tryz.params8] at ht
 have hm : t = 22 ∨ t = 33 := by simpa using Array.mem_of_getElem? ht
 rcases hm with rfl | rfl
 · exact (show Tryz.prog.wantsStandIn 22 = false by kernel_rfl)
 · exact (show Tryz.prog.wantsStandIn 33 = false by kernel_rfl)
theorem PropsKeys_proved : Rows.PropsKeysUptoCardSaid :=
 Claim7.holds_tied_plain_at .later [] _ _ _ _ PropsKeys_row (fun _ h => by cases h) (by kernel_rfl) (fun _ h => by cases h) propsKeysUpto_row_tie rfl ⟨rfl, rfl⟩ (by kernel_rfl) rfl PropsKeys_plain (by kernel_rfl)
end Go.Proofs.YthflblophelioaaGreatDoor
