/-
  PropsRings, within the bound on what it reads, and tied to the program's text: it returns true whatever it is given, and leaves its arguments as they were. Conditions: the arguments' bulk is at most 1048576; the listed library variables stand as their text lays them, as the statement says.
-/
import Derived.Test.YthflblophelioaaGreatDoorPa9
import Derived.Test.YthflblophelioaaGreatDoorPa11
set_option linter.unusedVariables false
set_option linter.unusedSimpArgs false
set_option maxRecDepth 100000
set_option maxHeartbeats 4000000
namespace Go.Proofs.YthflblophelioaaGreatDoor
open Go.Sl
variable {l l' : List ObjS} {w o : Int} {key k : ByteArray} {x : OpW} {y : ObjS} {f : ObjS → ObjS}
inductive StepO (l : List ObjS) (x : OpW) (o : Int) (y : ObjS) : ObjS → Prop
  | same : StepO l x o y y
  | len (q : WishP) (m : Int) : x.o = o → ¬ defNo l o x.key q → arrP l o = true → x.key = lenK → StepO l x o y (lenO m y)
  | set (m v : Int) : x.o = o → arrP l o = true → (QH l o x.key).isSome = true ∨ openQ l o = true → x.key ≠ lenK → (idxV x.key).2 = true → StepO l x o y (setO m v y)
  | put (q : WishP) : x.o = o → ¬ defNo l o x.key q → (arrP l o = true → x.key ≠ lenK ∧ (idxV x.key).2 = false) → StepO l x o y (putO x.key (defD l o x.key q) y)
  | drop : x.o = o → (QH l o x.key).isSome = true → (band (QB (QH l o x.key)).2.2 4 == 0) = false → StepO l x o y (dropO x.key y)
  | under (p : Int) : x.o = o → openQ l o = true → StepO l x o y (y.under p)
  | shut : StepO l x o y (shutO y)
theorem StepO.kind {z : ObjS} (h : StepO l x o y z) : z.kind = y.kind := by cases h <;> rfl
theorem up_end (hl : Nice l) {n : Nat} (hn : n < l.length) : upN l (18445055223849287680 + (n : Int)) (l.length + 1) = nullW := by
 have h0 : QA (18445055223849287680 + (n : Int)) l.length = some n := objAt_mk hn hl.len
 have hin := upN_in hl.doc.protos (p := 18445055223849287680 + (n : Int)) (.inr (by rw [h0]; simp)) (l.length + 1)
 rcases hin with q | q
 · exact q
 · exact absurd (upN_null (hl.doc.ends _).bound 1) q
end Go.Proofs.YthflblophelioaaGreatDoor
namespace Go.Proofs.YthflblophelioaaGreatDoor
open Go.Sl

theorem law_PropsRings {W0 : World} (hL : Laid W0) {A : Option Addr} {c : Nat} {l : List OpW} (hls : ∀ σ, Src W0 σ A (l.flatMap OpW.cells)) (hl : l.length ≤ 1048576) (hops : ∀ x ∈ l, OwOk x) : SC Tryz.prog W0 5 #[.slice A l.length c] [] (Ret (fun _ : Unit => []) (fun v _ => v = .bool true)) := by
 refine Qx (fn := Tryz.f5) (n := 53) Tryz.func5 rfl (by kernel_rfl) (ρ := [(0, .slice A l.length c)]) rfl ?_
 refine sr ?_
 refine os 1 ?_
 refine nsr ?_
 refine L (cl (hp_New 256) ?_)
 rintro _ ⟨H0, F⟩ ⟨rfl, hI0, hp0, ht0, htr0, ho0, hcl0⟩
 simp only [] at hp0 ht0 htr0 ho0 hcl0 hI0
 have hS0 := SimW.new hI0 hp0 ht0
 refine os 1 ?_
 refine nsr ?_
 refine oV (.agg #[.slice none 0 0, .slice none 0 0]) ?_
 refine L (nw 28 2 [.slice none 0 0, .slice none 0 0] ?_)
 intro b1
 refine L (st [.slice none 0 0, .slice none 0 0] ?_)
 refine nq ?_
 refine Qz ?_
 refine SW_perm _ (QC QD) ?_
 refine QG ((HeapV.ent H0 F) ++ ((RSt.ent RSt.none) ++ ((b1, .cells 28 2 [Gs.val RSt.none.s RSt.none.objs.length, Gs.val RSt.none.ts RSt.none.texts.length]) :: ([])))) rfl ?_
 refine Qn ?_
 refine os 1 ?_
 refine oV (.bool false) ?_
 refine os 1 ?_
 refine L (cl (law_alive14 hL) ?_)
 rintro _ _ rfl
 refine un ?_
 refine oV (.bool false) ?_
 refine os 1 ?_
 refine kp [16, 4, 3, 2, 0] ?_
 refine nt ?_
 refine cf ?_
 refine Ql (Qj ?_)
 refine Qz ?_
 refine sr ?_
 refine os 3 ?_
 refine nt ?_
 refine SW_block ?_
 refine SW_loop (α := Nat × HeapV × RSt) (fun z_ ρ_ σ_ => Fits ρ_ σ_ [(3, pt F.p 0), (4, pt b1 0), (17, .slice A l.length c), (18, .int .i64 (l.length : Int)), (19, .int .i64 (z_.1 : Int))] ((HeapV.ent z_.2.1 F) ++ ((RSt.ent z_.2.2) ++ ((b1, .cells 28 2 [Gs.val z_.2.2.s z_.2.2.objs.length, Gs.val z_.2.2.ts z_.2.2.texts.length]) :: ([])))) ∧ z_.1 ≤ l.length ∧ SimW (z_.1) z_.2.1 F z_.2.2) (fun z_ => l.length - z_.1) (0, H0, RSt.none) ⟨⟨fun _ => rfl, ow⟩, Nat.zero_le _, hS0⟩ ?_
 rintro ⟨i, H, R⟩ ρ_ σ_ ⟨hfit, hi0, hi1⟩
 refine SW_fits hfit ?_
 clear hfit
 simp only [] at hi0 hi1 ⊢
 refine sr ?_
 refine os 1 ?_
 refine nq ?_
 refine cdp (fun hc2 : (i : Int) < (l.length : Int) => ?_) (fun hc2 => ?_)
 ·refine Ql (Qj ?_)
  refine Qz ?_
  refine SW_block ?_
  refine Qz ?_
  obtain ⟨b0_, o0_, rfl, hqb0_⟩ := (hls []).resolve_left (by rw [QF OpW.len]; omega)
  refine Qn ?_
  refine L (O_indexAddr' (i : Int) (o0_ + i * 11) b0_ o0_ l.length c .i64 11 Tryz.underlying22 (by kernel_rfl) (fun _ => rfl) (fun _ => rfl) (by omega) (by omega) (by omega) rfl ?_)
  obtain ⟨e1, he1⟩ : ∃ y_, l[i]? = some y_ := ⟨_, List.getElem?_eq_getElem (by omega)⟩
  refine L (ldr [.int .i64 e1.kind, .int .u64 e1.o, .int .u64 e1.p, .string e1.key, .int .i64 e1.w.has, .int .u64 e1.w.value, .int .u64 e1.w.get, .int .u64 e1.w.set, .int .i64 e1.w.flags, .int .u64 e1.v, .int .i64 e1.n] (Qb (Cell.mono (hqb0_ _ _ (Qh OpW.len he1 (j := 0) (by decide) rfl)) (fun e he => absurd he List.not_mem_nil)) (Qb (Cell.mono (hqb0_ _ _ (Qh OpW.len he1 (j := 1) (by decide) rfl)) (fun e he => absurd he List.not_mem_nil)) (Qb (Cell.mono (hqb0_ _ _ (Qh OpW.len he1 (j := 2) (by decide) rfl)) (fun e he => absurd he List.not_mem_nil)) (Qb (Cell.mono (hqb0_ _ _ (Qh OpW.len he1 (j := 3) (by decide) rfl)) (fun e he => absurd he List.not_mem_nil)) (Qb (Cell.mono (hqb0_ _ _ (Qh OpW.len he1 (j := 4) (by decide) rfl)) (fun e he => absurd he List.not_mem_nil)) (Qb (Cell.mono (hqb0_ _ _ (Qh OpW.len he1 (j := 5) (by decide) rfl)) (fun e he => absurd he List.not_mem_nil)) (Qb (Cell.mono (hqb0_ _ _ (Qh OpW.len he1 (j := 6) (by decide) rfl)) (fun e he => absurd he List.not_mem_nil)) (Qb (Cell.mono (hqb0_ _ _ (Qh OpW.len he1 (j := 7) (by decide) rfl)) (fun e he => absurd he List.not_mem_nil)) (Qb (Cell.mono (hqb0_ _ _ (Qh OpW.len he1 (j := 8) (by decide) rfl)) (fun e he => absurd he List.not_mem_nil)) (Qb (Cell.mono (hqb0_ _ _ (Qh OpW.len he1 (j := 9) (by decide) rfl)) (fun e he => absurd he List.not_mem_nil)) (Qb (Cell.mono (hqb0_ _ _ (Qh OpW.len he1 (j := 10) (by decide) rfl)) (fun e he => absurd he List.not_mem_nil)) Qo))))))))))) ?_)
  refine L (nw 37 11 [.int .i64 0, .int .u64 0, .int .u64 0, .string ByteArray.empty, .int .i64 0, .int .u64 0, .int .u64 0, .int .u64 0, .int .i64 0, .int .u64 0, .int .i64 0] ?_)
  intro b3
  refine L (st [.int .i64 e1.kind, .int .u64 e1.o, .int .u64 e1.p, .string e1.key, .int .i64 e1.w.has, .int .u64 e1.w.value, .int .u64 e1.w.get, .int .u64 e1.w.set, .int .i64 e1.w.flags, .int .u64 e1.v, .int .i64 e1.n] ?_)
  refine nsr ?_
  refine os 1 ?_
  refine L (lds 2 ?_)
  refine L (lds 11 ?_)
  have hop_ := hops _ (List.mem_of_getElem? he1)
  refine L (cl (law_step14 hL hi1 (by omega) hop_) ?_)
  rintro _ ⟨H4, R4⟩ ⟨rfl, hd4⟩
  refine un ?_
  simp only [] at hd4
  refine os 3 ?_
  refine kp [28, 6, 20, 3, 4, 17, 18, 19] ?_
  refine L (st [Gs.val R4.s R4.objs.length, Gs.val R4.ts R4.texts.length] ?_)
  refine nq ?_
  have hcap_ : R4.objs.length ≤ 65536 := by rw [← RSt.pub_len]; exact hd4.sim.lok.len
  refine Qn ?_
  refine os 1 ?_
  refine L (ld ?_)
  refine os 2 ?_
  refine kp [33, 32, 6, 20, 3, 4, 17, 18, 19] ?_
  refine nt ?_
  refine SW_block ?_
  refine SW_loop (α := Nat) (fun z_ ρ_ σ_ => Fits ρ_ σ_ [(3, pt F.p 0), (4, pt b1 0), (17, .slice (some ⟨b0_, o0_, none⟩) l.length c), (18, .int .i64 (l.length : Int)), (19, .int .i64 (i : Int)), (32, .int .i64 (R4.objs.length : Int)), (33, .int .i64 (z_ : Int))] ((b1, .cells 28 2 [Gs.val R4.s R4.objs.length, Gs.val R4.ts R4.texts.length]) :: ((HeapV.ent H4 F) ++ ((RSt.ent R4) ++ ((b3, .cells 37 11 [.int .i64 e1.kind, .int .u64 e1.o, .int .u64 e1.p, .string e1.key, .int .i64 e1.w.has, .int .u64 e1.w.value, .int .u64 e1.w.get, .int .u64 e1.w.set, .int .i64 e1.w.flags, .int .u64 e1.v, .int .i64 e1.n]) :: ([]))))) ∧ z_ ≤ R4.objs.length) (fun z_ => R4.objs.length - z_) 0 ⟨⟨fun _ => rfl, ow⟩, Nat.zero_le _⟩ ?_
  rintro n ρ_ σ_ ⟨hfit, hi0⟩
  refine SW_fits hfit ?_
  clear hfit
  refine sr ?_
  refine os 1 ?_
  refine nq ?_
  refine cdp (fun hc4 : (n : Int) < (R4.objs.length : Int) => ?_) (fun hc4 => ?_)
  ·refine Ql (Qj ?_)
   refine Qz ?_
   refine SW_block ?_
   refine sr ?_
   refine os 2 ?_
   refine nsr ?_
   refine os 4 ?_
   refine kp [8, 7, 34, 3, 4, 17, 18, 19, 32, 33] ?_
   refine nq ?_
   refine sr ?_
   refine os 1 ?_
   refine L (ld ?_)
   refine os 3 ?_
   refine kp [43, 42, 8, 7, 34, 3, 4, 17, 18, 19, 32, 33] ?_
   refine nt ?_
   refine SW_block ?_
   refine SW_loop (α := Nat) (fun z_ ρ_ σ_ => Fits ρ_ σ_ [(3, pt F.p 0), (4, pt b1 0), (17, .slice (some ⟨b0_, o0_, none⟩) l.length c), (18, .int .i64 (l.length : Int)), (19, .int .i64 (i : Int)), (32, .int .i64 (R4.objs.length : Int)), (33, .int .i64 (n : Int)), (42, .int .i64 ((R4.objs.length : Int) + 1)), (8, .int .u64 (upN R4.pub (18445055223849287680 + (n : Int)) z_)), (43, .int .i64 (z_ : Int))] ((b1, .cells 28 2 [Gs.val R4.s R4.objs.length, Gs.val R4.ts R4.texts.length]) :: ((HeapV.ent H4 F) ++ ((RSt.ent R4) ++ ((b3, .cells 37 11 [.int .i64 e1.kind, .int .u64 e1.o, .int .u64 e1.p, .string e1.key, .int .i64 e1.w.has, .int .u64 e1.w.value, .int .u64 e1.w.get, .int .u64 e1.w.set, .int .i64 e1.w.flags, .int .u64 e1.v, .int .i64 e1.n]) :: ([]))))) ∧ z_ ≤ R4.objs.length + 1) (fun z_ => R4.objs.length + 1 - z_) 0 ⟨⟨fun _ => rfl, ow⟩, Nat.zero_le _⟩ ?_
   rintro u ρ_ σ_ ⟨hfit, hi0⟩
   refine SW_fits hfit ?_
   clear hfit
   refine sr ?_
   refine os 1 ?_
   refine nq ?_
   refine cdp (fun hc5 : (u : Int) < ((R4.objs.length : Int) + 1) => ?_) (fun hc5 => ?_)
   ·refine Ql (Qj ?_)
    refine Qz ?_
    refine SW_block ?_
    refine Qn ?_
    refine os 2 ?_
    have hcq_ := hz_Proto (W0 := W0) hd4.sim.inv (upN R4.pub (18445055223849287680 + (n : Int)) u)
    rw [hd4.sim.objs] at hcq_
    refine L (cl (hcq_) ?_)
    rintro _ _ rfl
    refine os 1 ?_
    refine kp [8, 44, 3, 4, 17, 18, 19, 32, 33, 42, 43] ?_
    refine SL_nil (n_in (Qj ?_))
    refine Qn ?_
    refine os 2 ?_
    refine nt ?_
    exact ⟨u + 1, by omega, ⟨fun _ => rfl, ow⟩, by omega⟩
   refine SW_exit (x_then (x_then (x_in (Qj ?_))))
   refine sr ?_
   refine os 2 ?_
   refine nt ?_
   refine SW_false (fun _ => (congrArg Value.bool (show ((upN R4.pub (18445055223849287680 + (n : Int)) u) != 18445336698825998337) = false from (by rw [show u = R4.pub.length + 1 from by rw [RSt.pub_len]; omega, up_end hd4.sim.nice (by rw [RSt.pub_len]; omega)]; rfl)))) ?_
   refine Ql (n_in (Qj ?_))
   refine Qn ?_
   refine os 2 ?_
   refine nt ?_
   exact ⟨n + 1, by omega, ⟨fun _ => rfl, ow⟩, by omega⟩
  refine SW_exit (x_then (x_then (x_in (n_in (Qj ?_)))))
  refine Qn ?_
  refine os 2 ?_
  refine nt ?_
  exact ⟨(i + 1, H4, R4), by simp only []; omega, ⟨fun _ => rfl, ow⟩, by simp only []; omega, (by simp only []; exact hd4.sim)⟩
 refine SW_exit (x_then (x_then (x_in (Qj ?_))))
 refine sr ?_
 refine os 1 ?_
 refine nt ?_
 refine Qi ?_
 refine Qg (.bool true) (fun _ => rfl) ?_
 exact ⟨(), ⟨_, List.Perm.refl _⟩, rfl⟩

end Go.Proofs.YthflblophelioaaGreatDoor
namespace Go.Proofs.YthflblophelioaaGreatDoor
open Go.Sl Go.ChangeShapes Go.WideShapes Go.ChangeAt Go.RowKit

theorem PropsRings_contract (H : Type) (enc : TypeId × Value → H) (W : World) (base : Nat) (args : Array Value) (ds gs : List (DataW H)) (before : List MemPlace)
   (hval : ∀ (j : Nat) t v, Tryz.f5.params[j]? = some t → args[j]? = some v → Value.okWide Tryz.prog W .any base t v)
   (hW : DataW.Whole enc Tryz.prog Tryz.f5.params.toList Rows.propsRingsSpec.vars false W args.toList ds gs before) (hk : Rows.uptoSmall H (ds ++ gs) = true) (hLd : laidMetH Tryz.prog Rows.propsRingsUptoRow.laid W) :
   Calls Tryz.prog 5 args W fun e W' => ∃ v, e = .returned v ∧ Rows.propsRingsSpec.post enc Tryz.prog Tryz.f5 false true false false W args v W' := by
 have hL : Laid W := laid_here hLd
 have hW' := hW
 obtain ⟨p, q, hA0, hV, rfl, hfz, hnd⟩ := hW
 have hA : DataW.TrodAll enc Tryz.prog W 0 (fun _ => true) true Tryz.f5.params.toList args.toList ds p := hA0
 rw [Tryz.params5] at hA hval
 obtain ⟨v0, vs0, d0, ds0, p0, q0, hargs, rfl, rfl, h0, r0⟩ := trodAll_cons hA
 obtain ⟨rfl, rfl, rfl⟩ := trodAll_nil r0
 obtain rfl : args = #[v0] := by cases args; simp_all
 obtain ⟨rfl, rfl⟩ := trodVars_none hV
 obtain ⟨A0, c0, x0, rfl, hs0, hl0, hw0, hc0⟩ := arg_opsw (hval 0 22 v0 rfl rfl) h0 hk (by simp)
 refine (calls_law (law_PropsRings hL hs0 hl0 hw0)).mono fun e W' ⟨he, hb⟩ => ?_
 subst he
 exact ⟨_, rfl, post_law (tb := 4) hW' (by rw [Tryz.params5]; decide) rfl rfl rfl rfl rfl Tryz.underlying4 hb⟩

theorem PropsRings_reads (os : Os) {H : Type} (enc : TypeId × Value → H) : ∃ places, DataW.whole enc Tryz.prog ((laidWorld os).forCall (fun _ _ => 0) ⟨#[], #[.slice none 0 0], []⟩).memory Tryz.f5.params.toList Rows.propsRingsSpec.vars false #[.slice none 0 0].toList 8 = some ([.nil], [], places) :=
 ⟨[], by kernel_rfl⟩
theorem PropsRings_lifted (os : Os) (started : os.Started) (H : Type) (enc : TypeId × Value → H) (F : Stop.Interp) :
   ReturnsInHanded {} Tryz.checked os 5 .any ((Rows.OpenSpec.upto Rows.propsRingsSpec).preRow enc Tryz.prog Tryz.f5 Rows.propsRingsUptoRow.domain false Rows.propsRingsUptoRow.laid) (((Rows.OpenSpec.upto Rows.propsRingsSpec).at F).post enc Tryz.prog Tryz.f5 false true false false) := by
 obtain ⟨places, hx⟩ := PropsRings_reads os enc
 refine returnsInHanded_of_row (C := Tryz.checked) (s := Rows.OpenSpec.upto Rows.propsRingsSpec) rown started (by kernel_rfl) Tryz.func5
   (witness_row_atRef (enc := enc) (C := Tryz.checked) false (laidWorld os) #[.slice none 0 0] rfl (by kernel_rfl) (by kernel_rfl) (by kernel_rfl)
     (OpenSpec.preRow_of_cond 8 hx (by kernel_rfl) (fun k hk => by cases hk; kernel_rfl) (by kernel_rfl) (laid_met os _))) ?_
 intro W base args ds gs before hval hW _ hcond _ hL _ _
 exact PropsRings_contract H enc W base args ds gs before hval hW (hcond _ rfl) hL

theorem PropsRings_row : Rows.PropsRingsUptoSaid :=
 OpenClaim.holds_of_cond 5 Tryz.f5 rfl rfl rfl rfl rfl rfl rfl ⟨rfl, rfl, rfl, rfl, rfl⟩ rfl rfl rfl rfl rfl (by kernel_rfl) Tryz.func5 (by kernel_rfl)
   (of_decide_eq_true (by kernel_rfl)) (by unfold Func.isWrapper; first | (rw [if_pos (by decide +kernel)]; kernel_rfl) | (rw [if_neg (by decide +kernel)]; exact ⟨rfl, rfl⟩))
   (fun os started H enc _ F => by rw [OpenClaim.pre_eq_preRow]; exact PropsRings_lifted os started H enc F)
theorem PropsRings_plain (f : FuncId) (fn : Func) (hf : Tryz.pinned.checked.prog.funcNamed "brazier/brazierlaw14.PropsRings" = some f) (hfn : Tryz.pinned.checked.prog.funcs[f]? = some fn) :
   true = Tryz.pinned.checked.prog.looks [] ∧ ∀ (j : Nat) t, fn.params[j]? = some t → Tryz.pinned.checked.prog.wantsStandIn t = false := by
 obtain rfl : f = 5 := Option.some.inj ((show Tryz.prog.funcNamed "brazier/brazierlaw14.PropsRings" = some 5 by kernel_rfl).symm.trans hf) |>.symm
 obtain rfl : fn = Tryz.f5 := (Option.some.inj (Tryz.func5.symm.trans hfn)).symm
 refine ⟨by kernel_rfl, fun j t ht => ?_⟩
 rw [Tryz.params5] at ht
 have hm : t = 22 := by simpa using Array.mem_of_getElem? ht
 rcases hm with rfl
 · exact (show Tryz.prog.wantsStandIn 22 = false by kernel_rfl)
theorem PropsRings_proved : Rows.PropsRingsUptoCardSaid :=
 Claim7.holds_tied_plain_at .later [] _ _ _ _ PropsRings_row (fun _ h => by cases h) (by kernel_rfl) (fun _ h => by cases h) propsRingsUpto_row_tie rfl ⟨rfl, rfl⟩ (by kernel_rfl) rfl PropsRings_plain (by kernel_rfl)
end Go.Proofs.YthflblophelioaaGreatDoor
