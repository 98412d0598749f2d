/-
  PropsAll, within the bound on what it reads, and tied to the program's text: it returns true whatever it is given, and leaves its arguments as they were. Conditions: the arguments' bulk is at most 1048576; the listed library variables stand as their text lays them, as the statement says.
-/
import Derived.Test.YthflblophelioaaGreatDoorPa11
set_option linter.unusedVariables false
set_option linter.unusedSimpArgs false
set_option maxRecDepth 100000
set_option maxHeartbeats 4000000
namespace Go.Proofs.YthflblophelioaaGreatDoor
open Go.Sl

theorem law_PropsAll {W0 : World} (hL : Laid W0) (most : Int) {A : Option Addr} {c : Nat} {l : List OpW} (hls : ∀ σ, Src W0 σ A (l.flatMap OpW.cells)) (hl : l.length ≤ 1048576) (hops : ∀ x ∈ l, OwOk x) (hlc : l.length ≤ c) : SC Tryz.prog W0 3 #[.int .i64 most, .slice A l.length c] [] (Ret (fun _ : Unit => []) (fun v _ => v = .bool true)) := by
 refine Qx (fn := Tryz.f3) (n := 51) Tryz.func3 rfl (by kernel_rfl) (ρ := [(0, .int .i64 most), (1, .slice A l.length c)]) rfl ?_
 refine sr ?_
 refine os 1 ?_
 refine nsr ?_
 refine os 1 ?_
 refine L (cl (hp_New most) ?_)
 rintro _ ⟨H0, F⟩ ⟨rfl, hI0, hp0, ht0, htr0, ho0, hcl0⟩
 simp only [] at hp0 ht0 htr0 ho0 hcl0 hI0
 have hS0 := SimW.new hI0 hp0 ht0
 refine os 1 ?_
 refine nsr ?_
 refine oV (.agg #[.slice none 0 0, .slice none 0 0]) ?_
 refine L (nw 28 2 [.slice none 0 0, .slice none 0 0] ?_)
 intro b1
 refine L (st [.slice none 0 0, .slice none 0 0] ?_)
 refine nq ?_
 refine SW_perm _ (QC QD) ?_
 refine QG ((HeapV.ent H0 F) ++ ((RSt.ent RSt.none) ++ ((b1, .cells 28 2 [Gs.val RSt.none.s RSt.none.objs.length, Gs.val RSt.none.ts RSt.none.texts.length]) :: ([])))) rfl ?_
 refine Qn ?_
 refine L (cl (law_alive14 hL) ?_)
 rintro _ _ rfl
 refine un ?_
 refine os 2 ?_
 refine oV (.bool true) ?_
 refine os 2 ?_
 refine kp [7, 6, 5, 4, 0, 1] ?_
 refine nq ?_
 refine sr ?_
 refine os 1 ?_
 refine nt ?_
 refine SW_block ?_
 refine SW_loop (α := Nat × HeapV × RSt) (fun z_ ρ_ σ_ => Fits ρ_ σ_ [(0, .int .i64 most), (1, .slice A l.length c), (4, .bool false), (5, pt F.p 0), (6, pt b1 0), (7, .bool true), (8, .int .i64 (z_.1 : Int))] ((HeapV.ent z_.2.1 F) ++ ((RSt.ent z_.2.2) ++ ((b1, .cells 28 2 [Gs.val z_.2.2.s z_.2.2.objs.length, Gs.val z_.2.2.ts z_.2.2.texts.length]) :: ([])))) ∧ z_.1 ≤ l.length ∧ SimW (z_.1) z_.2.1 F z_.2.2) (fun z_ => l.length - z_.1) (0, H0, RSt.none) ⟨⟨fun _ => rfl, ow⟩, Nat.zero_le _, hS0⟩ ?_
 rintro ⟨i, H, R⟩ ρ_ σ_ ⟨hfit, hi0, hi1⟩
 refine SW_fits hfit ?_
 clear hfit
 simp only [] at hi0 hi1 ⊢
 refine Qz ?_
 refine sr ?_
 refine os 8 ?_
 refine kp [24, 0, 1, 4, 5, 6, 7, 8] ?_
 refine tbp 24 (fun hg2 => ?_) (fun hg2 => ?_)
 ·replace hg2 : (i : Int) < (l.length : Int) := hg2
  refine os 3 ?_
  refine kp [27, 0, 1, 4, 5, 6, 7, 8] ?_
  refine nt ?_
  refine cdp (fun hc3 : (i : Int) < 500 => ?_) (fun hc3 => ?_)
  ·refine Ql (Qj ?_)
   refine Qz ?_
   refine SW_block ?_
   obtain ⟨b0_, o0_, rfl, hqb0_⟩ := (hls []).resolve_left (by rw [QF OpW.len]; omega)
   obtain ⟨e1, he1⟩ : ∃ y_, l[i]? = some y_ := ⟨_, List.getElem?_eq_getElem (by omega)⟩
   refine SW_draw [(b1, 0, Gs.val R.s R.objs.length), (b1, 1, Gs.val R.ts R.texts.length), (b0_, o0_ + i * 11, .int .i64 e1.kind), (b0_, o0_ + i * 11 + 1, .int .u64 e1.o), (b0_, o0_ + i * 11 + 2, .int .u64 e1.p), (b0_, o0_ + i * 11 + 3, .string e1.key), (b0_, o0_ + i * 11 + 4, .int .i64 e1.w.has), (b0_, o0_ + i * 11 + 5, .int .u64 e1.w.value), (b0_, o0_ + i * 11 + 6, .int .u64 e1.w.get), (b0_, o0_ + i * 11 + 7, .int .u64 e1.w.set), (b0_, o0_ + i * 11 + 8, .int .i64 e1.w.flags), (b0_, o0_ + i * 11 + 9, .int .u64 e1.v), (b0_, o0_ + i * 11 + 10, .int .i64 e1.n)] [0, 1, 2, 3, 4, 5] (by kernel_rfl) (Qd (Cell.own (Qa (Qa Qe)) rfl) (Qd (Cell.own (Qa (Qa Qe)) rfl) (Qd (Cell.mono (hqb0_ _ _ (Qh OpW.len he1 (j := 0) (by decide) rfl)) (fun e he => absurd he List.not_mem_nil)) (Qd (Cell.mono (hqb0_ _ _ (Qh OpW.len he1 (j := 1) (by decide) rfl)) (fun e he => absurd he List.not_mem_nil)) (Qd (Cell.mono (hqb0_ _ _ (Qh OpW.len he1 (j := 2) (by decide) rfl)) (fun e he => absurd he List.not_mem_nil)) (Qd (Cell.mono (hqb0_ _ _ (Qh OpW.len he1 (j := 3) (by decide) rfl)) (fun e he => absurd he List.not_mem_nil)) (Qd (Cell.mono (hqb0_ _ _ (Qh OpW.len he1 (j := 4) (by decide) rfl)) (fun e he => absurd he List.not_mem_nil)) (Qd (Cell.mono (hqb0_ _ _ (Qh OpW.len he1 (j := 5) (by decide) rfl)) (fun e he => absurd he List.not_mem_nil)) (Qd (Cell.mono (hqb0_ _ _ (Qh OpW.len he1 (j := 6) (by decide) rfl)) (fun e he => absurd he List.not_mem_nil)) (Qd (Cell.mono (hqb0_ _ _ (Qh OpW.len he1 (j := 7) (by decide) rfl)) (fun e he => absurd he List.not_mem_nil)) (Qd (Cell.mono (hqb0_ _ _ (Qh OpW.len he1 (j := 8) (by decide) rfl)) (fun e he => absurd he List.not_mem_nil)) (Qd (Cell.mono (hqb0_ _ _ (Qh OpW.len he1 (j := 9) (by decide) rfl)) (fun e he => absurd he List.not_mem_nil)) (Qd (Cell.mono (hqb0_ _ _ (Qh OpW.len he1 (j := 10) (by decide) rfl)) (fun e he => absurd he List.not_mem_nil)) rd_nil))))))))))))) ?_
   refine aS 0 ?_
   refine tr 1 (.agg #[Gs.val R.s R.objs.length, Gs.val R.ts R.texts.length]) ?_ (hy := fun δ w_ hr => Rd_loads b1 0 [Gs.val R.s R.objs.length, Gs.val R.ts R.texts.length] rfl (by kernel_rfl) (Qy List.mem_cons_self (Qy (List.mem_cons_of_mem _ List.mem_cons_self) rdm_nil)) hr)
   refine aS 2 ?_
   refine aS 3 ?_
   refine tk 4 (pt b0_ (o0_ + i * 11)) ?_ (hy := fun δ w => run_indexAddr (i : Int) (o0_ + i * 11) b0_ o0_ l.length c .i64 11 Tryz.underlying22 (by kernel_rfl) (fun _ => rfl) (fun _ => rfl) (by omega) (by omega) (by omega))
   refine tr 5 (.agg #[.int .i64 e1.kind, .int .u64 e1.o, .int .u64 e1.p, .string e1.key, .int .i64 e1.w.has, .int .u64 e1.w.value, .int .u64 e1.w.get, .int .u64 e1.w.set, .int .i64 e1.w.flags, .int .u64 e1.v, .int .i64 e1.n]) ?_ (hy := fun δ w_ hr => Rd_loads b0_ (o0_ + i * 11) [.int .i64 e1.kind, .int .u64 e1.o, .int .u64 e1.p, .string e1.key, .int .i64 e1.w.has, .int .u64 e1.w.value, .int .u64 e1.w.get, .int .u64 e1.w.set, .int .i64 e1.w.flags, .int .u64 e1.v, .int .i64 e1.n] rfl (by kernel_rfl) (Qy (List.mem_cons_of_mem _ (List.mem_cons_of_mem _ List.mem_cons_self)) (Qy (List.mem_cons_of_mem _ (List.mem_cons_of_mem _ (List.mem_cons_of_mem _ List.mem_cons_self))) (Qy (List.mem_cons_of_mem _ (List.mem_cons_of_mem _ (List.mem_cons_of_mem _ (List.mem_cons_of_mem _ List.mem_cons_self)))) (Qy (List.mem_cons_of_mem _ (List.mem_cons_of_mem _ (List.mem_cons_of_mem _ (List.mem_cons_of_mem _ (List.mem_cons_of_mem _ List.mem_cons_self))))) (Qy (List.mem_cons_of_mem _ (List.mem_cons_of_mem _ (List.mem_cons_of_mem _ (List.mem_cons_of_mem _ (List.mem_cons_of_mem _ (List.mem_cons_of_mem _ List.mem_cons_self)))))) (Qy (List.mem_cons_of_mem _ (List.mem_cons_of_mem _ (List.mem_cons_of_mem _ (List.mem_cons_of_mem _ (List.mem_cons_of_mem _ (List.mem_cons_of_mem _ (List.mem_cons_of_mem _ List.mem_cons_self))))))) (Qy (List.mem_cons_of_mem _ (List.mem_cons_of_mem _ (List.mem_cons_of_mem _ (List.mem_cons_of_mem _ (List.mem_cons_of_mem _ (List.mem_cons_of_mem _ (List.mem_cons_of_mem _ (List.mem_cons_of_mem _ List.mem_cons_self)))))))) (Qy (List.mem_cons_of_mem _ (List.mem_cons_of_mem _ (List.mem_cons_of_mem _ (List.mem_cons_of_mem _ (List.mem_cons_of_mem _ (List.mem_cons_of_mem _ (List.mem_cons_of_mem _ (List.mem_cons_of_mem _ (List.mem_cons_of_mem _ List.mem_cons_self))))))))) (Qy (List.mem_cons_of_mem _ (List.mem_cons_of_mem _ (List.mem_cons_of_mem _ (List.mem_cons_of_mem _ (List.mem_cons_of_mem _ (List.mem_cons_of_mem _ (List.mem_cons_of_mem _ (List.mem_cons_of_mem _ (List.mem_cons_of_mem _ (List.mem_cons_of_mem _ List.mem_cons_self)))))))))) (Qy (List.mem_cons_of_mem _ (List.mem_cons_of_mem _ (List.mem_cons_of_mem _ (List.mem_cons_of_mem _ (List.mem_cons_of_mem _ (List.mem_cons_of_mem _ (List.mem_cons_of_mem _ (List.mem_cons_of_mem _ (List.mem_cons_of_mem _ (List.mem_cons_of_mem _ (List.mem_cons_of_mem _ List.mem_cons_self))))))))))) (Qy (List.mem_cons_of_mem _ (List.mem_cons_of_mem _ (List.mem_cons_of_mem _ (List.mem_cons_of_mem _ (List.mem_cons_of_mem _ (List.mem_cons_of_mem _ (List.mem_cons_of_mem _ (List.mem_cons_of_mem _ (List.mem_cons_of_mem _ (List.mem_cons_of_mem _ (List.mem_cons_of_mem _ (List.mem_cons_of_mem _ List.mem_cons_self)))))))))))) rdm_nil))))))))))) hr)
   have hop_ := hops _ (List.mem_of_getElem? he1)
   refine sa1 false 6 (h := cl (law_step14 hL hi1 (by omega) hop_) ?_)
   rintro _ ⟨H4, R4⟩ ⟨rfl, hd4⟩
   try simp only [List.cons_append, List.append_assoc, List.nil_append]
   refine ⟨fun hnd => (by cases hnd), ?_⟩
   simp only [] at hd4
   refine aS 7 ?_
   refine aS 8 ?_
   refine aS 9 ?_
   refine kpA [39, 38, 27, 0, 1, 4, 5, 6, 7, 8] ?_
   refine sa1 false 10 (h := st [Gs.val R4.s R4.objs.length, Gs.val R4.ts R4.texts.length] ?_)
   refine ⟨fun hnd => (by cases hnd), ?_⟩
   refine aS 11 ?_
   refine SA_done (by kernel_rfl) (n_in (Qj ?_))
   refine Qn ?_
   refine os 3 ?_
   refine kp [8, 7, 27, 0, 1, 4, 5, 6] ?_
   refine nt ?_
   exact ⟨(i + 1, H4, R4), by simp only []; omega, ⟨fun _ => rfl, ow⟩, by simp only []; omega, (by simp only []; exact hd4.sim)⟩
  refine SW_exit (x_then (x_then (x_in (Qj ?_))))
  refine Qz ?_
  refine SW_draw [(b1, 0, Gs.val R.s R.objs.length), (b1, 1, Gs.val R.ts R.texts.length)] [0, 1, 2, 4, 5, 6, 7, 8] (by kernel_rfl) (Qd (Cell.own (Qa (Qa Qe)) rfl) (Qd (Cell.own (Qa (Qa Qe)) rfl) rd_nil)) ?_
  refine aS 0 ?_
  refine aS 1 ?_
  refine aS 2 ?_
  refine tr 3 (.agg #[Gs.val R.s R.objs.length, Gs.val R.ts R.texts.length]) ?_ (hy := fun δ w_ hr => Rd_loads b1 0 [Gs.val R.s R.objs.length, Gs.val R.ts R.texts.length] rfl (by kernel_rfl) (Qy List.mem_cons_self (Qy (List.mem_cons_of_mem _ List.mem_cons_self) rdm_nil)) hr)
  refine aS 4 ?_
  refine aS 5 ?_
  refine aS 6 ?_
  refine tk 7 (.int .i64 (if 60 < (l.length : Int) then 60 else (l.length : Int))) ?_
  refine tk 8 (.slice A (if 60 < (l.length : Int) then 60 else (l.length : Int)).toNat c) ?_ (hy := fun δ w => run_slice_to (if 60 < (l.length : Int) then 60 else (l.length : Int)) A l.length c .i64 Tryz.underlying22 (by kernel_rfl) rfl rfl (by omega) (by omega))
  rw [show Value.slice A (if 60 < (l.length : Int) then 60 else (l.length : Int)).toNat c = .slice A ((l.take 60).length) c from congrArg (fun q_ => Value.slice A q_ c) (by rw [List.length_take]; split <;> omega)]
  refine sa1 false 9 (h := cl (law_whole14 hL hi1 (by omega) (by rw [← RSt.pub_len]; exact hi1.lok.len) (l := l.take 60) (fun σ => ops_take (hls σ) 60) (by rw [List.length_take]; omega) (fun x hx => hops x (List.mem_of_mem_take hx))) ?_)
  rintro _ _ rfl
  try simp only [List.cons_append, List.append_assoc, List.nil_append]
  refine ⟨fun hnd => (by cases hnd), ?_⟩
  refine kpA [49, 41, 27, 0, 1, 4, 5, 6, 7, 8] ?_
  refine aS 10 ?_
  refine aS 11 ?_
  refine SA_done (by kernel_rfl) (Qj ?_)
  refine Qi ?_
  refine Qg (.bool true) (fun _ => rfl) ?_
  exact ⟨(), ⟨_, List.Perm.refl _⟩, rfl⟩
 replace hg2 : ¬ ((i : Int) < (l.length : Int)) := hg2
 refine os 3 ?_
 refine kp [27, 0, 1, 4, 5, 6, 7, 8] ?_
 refine nt ?_
 refine cf ?_
 refine SW_exit (x_then (x_then (x_in (Qj ?_))))
 refine Qz ?_
 refine SW_draw [(b1, 0, Gs.val R.s R.objs.length), (b1, 1, Gs.val R.ts R.texts.length)] [0, 1, 2, 4, 5, 6, 7, 8] (by kernel_rfl) (Qd (Cell.own (Qa (Qa Qe)) rfl) (Qd (Cell.own (Qa (Qa Qe)) rfl) rd_nil)) ?_
 refine aS 0 ?_
 refine aS 1 ?_
 refine aS 2 ?_
 refine tr 3 (.agg #[Gs.val R.s R.objs.length, Gs.val R.ts R.texts.length]) ?_ (hy := fun δ w_ hr => Rd_loads b1 0 [Gs.val R.s R.objs.length, Gs.val R.ts R.texts.length] rfl (by kernel_rfl) (Qy List.mem_cons_self (Qy (List.mem_cons_of_mem _ List.mem_cons_self) rdm_nil)) hr)
 refine aS 4 ?_
 refine aS 5 ?_
 refine aS 6 ?_
 refine tk 7 (.int .i64 (if 60 < (l.length : Int) then 60 else (l.length : Int))) ?_
 refine tk 8 (.slice A (if 60 < (l.length : Int) then 60 else (l.length : Int)).toNat c) ?_ (hy := fun δ w => run_slice_to (if 60 < (l.length : Int) then 60 else (l.length : Int)) A l.length c .i64 Tryz.underlying22 (by kernel_rfl) rfl rfl (by omega) (by omega))
 rw [show Value.slice A (if 60 < (l.length : Int) then 60 else (l.length : Int)).toNat c = .slice A ((l.take 60).length) c from congrArg (fun q_ => Value.slice A q_ c) (by rw [List.length_take]; split <;> omega)]
 refine sa1 false 9 (h := cl (law_whole14 hL hi1 (by omega) (by rw [← RSt.pub_len]; exact hi1.lok.len) (l := l.take 60) (fun σ => ops_take (hls σ) 60) (by rw [List.length_take]; omega) (fun x hx => hops x (List.mem_of_mem_take hx))) ?_)
 rintro _ _ rfl
 try simp only [List.cons_append, List.append_assoc, List.nil_append]
 refine ⟨fun hnd => (by cases hnd), ?_⟩
 refine kpA [49, 41, 27, 0, 1, 4, 5, 6, 7, 8] ?_
 refine aS 10 ?_
 refine aS 11 ?_
 refine SA_done (by kernel_rfl) (Qj ?_)
 refine Qi ?_
 refine Qg (.bool true) (fun _ => rfl) ?_
 exact ⟨(), ⟨_, List.Perm.refl _⟩, rfl⟩

end Go.Proofs.YthflblophelioaaGreatDoor
namespace Go.Proofs.YthflblophelioaaGreatDoor
open Go.Sl Go.ChangeShapes Go.WideShapes Go.ChangeAt Go.RowKit

theorem PropsAll_contract (H : Type) (enc : TypeId × Value → H) (W : World) (base : Nat) (args : Array Value) (ds gs : List (DataW H)) (before : List MemPlace)
   (hval : ∀ (j : Nat) t v, Tryz.f3.params[j]? = some t → args[j]? = some v → Value.okWide Tryz.prog W .any base t v)
   (hW : DataW.Whole enc Tryz.prog Tryz.f3.params.toList Rows.propsAllSpec.vars false W args.toList ds gs before) (hk : Rows.uptoSmall H (ds ++ gs) = true) (hLd : laidMetH Tryz.prog Rows.propsAllUptoRow.laid W) :
   Calls Tryz.prog 3 args W fun e W' => ∃ v, e = .returned v ∧ Rows.propsAllSpec.post enc Tryz.prog Tryz.f3 false true false false W args v W' := by
 have hL : Laid W := laid_here hLd
 have hW' := hW
 obtain ⟨p, q, hA0, hV, rfl, hfz, hnd⟩ := hW
 have hA : DataW.TrodAll enc Tryz.prog W 0 (fun _ => true) true Tryz.f3.params.toList args.toList ds p := hA0
 rw [Tryz.params3] at hA hval
 obtain ⟨v0, vs0, d0, ds0, p0, q0, hargs, rfl, rfl, h0, r0⟩ := trodAll_cons hA
 obtain ⟨v1, vs1, d1, ds1, p1, q1, rfl, rfl, rfl, h1, r1⟩ := trodAll_cons r0
 obtain ⟨rfl, rfl, rfl⟩ := trodAll_nil r1
 obtain rfl : args = #[v0, v1] := by cases args; simp_all
 obtain ⟨rfl, rfl⟩ := trodVars_none hV
 obtain ⟨a0, rfl, rfl, rfl, w0⟩ := open_int Tryz.underlying3 (hval 0 3 v0 rfl rfl) h0
 obtain ⟨A1, c1, x1, rfl, hs1, hl1, hw1, hc1⟩ := arg_opsw (hval 1 22 v1 rfl rfl) h1 hk (by simp)
 refine (calls_law (law_PropsAll hL a0 hs1 hl1 hw1 hc1)).mono fun e W' ⟨he, hb⟩ => ?_
 subst he
 exact ⟨_, rfl, post_law (tb := 4) hW' (by rw [Tryz.params3]; decide) rfl rfl rfl rfl rfl Tryz.underlying4 hb⟩

theorem PropsAll_reads (os : Os) {H : Type} (enc : TypeId × Value → H) : ∃ places, DataW.whole enc Tryz.prog ((laidWorld os).forCall (fun _ _ => 0) ⟨#[], #[.int .i64 0, .slice none 0 0], []⟩).memory Tryz.f3.params.toList Rows.propsAllSpec.vars false #[.int .i64 0, .slice none 0 0].toList 8 = some ([.lit (.int .i64 0), .nil], [], places) :=
 ⟨[], by kernel_rfl⟩
theorem PropsAll_lifted (os : Os) (started : os.Started) (H : Type) (enc : TypeId × Value → H) (F : Stop.Interp) :
   ReturnsInHanded {} Tryz.checked os 3 .any ((Rows.OpenSpec.upto Rows.propsAllSpec).preRow enc Tryz.prog Tryz.f3 Rows.propsAllUptoRow.domain false Rows.propsAllUptoRow.laid) (((Rows.OpenSpec.upto Rows.propsAllSpec).at F).post enc Tryz.prog Tryz.f3 false true false false) := by
 obtain ⟨places, hx⟩ := PropsAll_reads os enc
 refine returnsInHanded_of_row (C := Tryz.checked) (s := Rows.OpenSpec.upto Rows.propsAllSpec) rown started (by kernel_rfl) Tryz.func3
   (witness_row_atRef (enc := enc) (C := Tryz.checked) false (laidWorld os) #[.int .i64 0, .slice none 0 0] rfl (by kernel_rfl) (by kernel_rfl) (by kernel_rfl)
     (OpenSpec.preRow_of_cond 8 hx (by kernel_rfl) (fun k hk => by cases hk; kernel_rfl) (by kernel_rfl) (laid_met os _))) ?_
 intro W base args ds gs before hval hW _ hcond _ hL _ _
 exact PropsAll_contract H enc W base args ds gs before hval hW (hcond _ rfl) hL

theorem PropsAll_row : Rows.PropsAllUptoSaid :=
 OpenClaim.holds_of_cond 3 Tryz.f3 rfl rfl rfl rfl rfl rfl rfl ⟨rfl, rfl, rfl, rfl, rfl⟩ rfl rfl rfl rfl rfl (by kernel_rfl) Tryz.func3 (by kernel_rfl)
   (of_decide_eq_true (by kernel_rfl)) (by unfold Func.isWrapper; first | (rw [if_pos (by decide +kernel)]; kernel_rfl) | (rw [if_neg (by decide +kernel)]; exact ⟨rfl, rfl⟩))
   (fun os started H enc _ F => by rw [OpenClaim.pre_eq_preRow]; exact PropsAll_lifted os started H enc F)
theorem PropsAll_plain (f : FuncId) (fn : Func) (hf : Tryz.pinned.checked.prog.funcNamed "brazier/brazierlaw14.PropsAll" = some f) (hfn : Tryz.pinned.checked.prog.funcs[f]? = some fn) :
   true = Tryz.pinned.checked.prog.looks [] ∧ ∀ (j : Nat) t, fn.params[j]? = some t → Tryz.pinned.checked.prog.wantsStandIn t = false := by
 obtain rfl : f = 3 := Option.some.inj ((show Tryz.prog.funcNamed "brazier/brazierlaw14.PropsAll" = some 3 by kernel_rfl).symm.trans hf) |>.symm
 obtain rfl : fn = Tryz.f3 := (Option.some.inj (Tryz.func3.symm.trans hfn)).symm
 refine ⟨by kernel_rfl, fun j t ht => ?_⟩
 rw [Tryz.params3] at ht
 have hm : t = 3 ∨ t = 22 := by simpa using Array.mem_of_getElem? ht
 rcases hm with rfl | rfl
 · exact (show Tryz.prog.wantsStandIn 3 = false by kernel_rfl)
 · exact (show Tryz.prog.wantsStandIn 22 = false by kernel_rfl)
theorem PropsAll_proved : Rows.PropsAllUptoCardSaid :=
 Claim7.holds_tied_plain_at .later [] _ _ _ _ PropsAll_row (fun _ h => by cases h) (by kernel_rfl) (fun _ h => by cases h) propsAllUpto_row_tie rfl ⟨rfl, rfl⟩ (by kernel_rfl) rfl PropsAll_plain (by kernel_rfl)
end Go.Proofs.YthflblophelioaaGreatDoor
