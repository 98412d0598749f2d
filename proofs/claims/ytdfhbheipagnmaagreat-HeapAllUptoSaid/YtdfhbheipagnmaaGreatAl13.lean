/-
  What the document's own functions do to the memory they own, step by step: each theorem is one function's contract. Conditions: those that each theorem names.
-/
import Derived.Test.YtdfhbheipagnmaaGreatAl12
import Derived.Test.YtdfhbheipagnmaaGreatAl1
import Derived.Test.YtdfhbheipagnmaaGreatAl11
import Derived.Deep.Slices
set_option linter.unusedVariables false
set_option linter.unusedSimpArgs false
set_option maxRecDepth 100000
set_option maxHeartbeats 4000000
namespace Go.Proofs.YtdfhbheipagnmaaGreat
open Go.Sl

theorem law_HeapAll {W0 : World} (most : Int) {A : Option Addr} {c : Nat} {l : List OpP} (hls : ∀ σ, Src W0 σ A (l.flatMap OpP.cells)) (hl : l.length ≤ 1048576) (hops : ∀ x ∈ l, OpOk W0 x) : SC Tryz.prog W0 3 #[.int .i64 most, .slice A l.length c] [] (Ret (fun _ : Unit => []) (fun v _ => v = .bool true)) := by
 refine SC_body (fn := Tryz.f3) (n := 43) Tryz.func3 rfl (by kernel_rfl) (ρ := [(0, .int .i64 most), (1, .slice A l.length c)]) rfl ?_
 refine sr ?_
 refine os 1 ?_
 refine nsr ?_
 refine os 1 ?_
 refine L (cl (hp_New most) ?_)
 rintro _ ⟨H0, F⟩ ⟨rfl, hI0, hp0, ht0, htr0, ho0, hcl0⟩
 simp only [] at hp0 ht0 htr0 ho0 hcl0 hI0
 have hS0 := Sim.new hI0 hp0 ht0 ho0 hcl0
 have hm : F.T.most ≤ 256 := by have q_ : F.T.most = _ := congrArg TreeP.most htr0; rw [q_]; simp only []; split <;> split <;> omega
 refine os 1 ?_
 refine nsr ?_
 refine oV (.agg #[.slice none 0 0, .slice none 0 0]) ?_
 refine L (nw 28 2 [.slice none 0 0, .slice none 0 0] ?_)
 intro b1
 refine L (st [.slice none 0 0, .slice none 0 0] ?_)
 refine nq ?_
 refine SW_perm _ (perm_cc perm_cz) ?_
 refine SW_sig ((HeapV.ent H0 F) ++ ((RSt.ent RSt.none) ++ ((b1, .cells 28 2 [Gs.val RSt.none.s RSt.none.objs.length, Gs.val RSt.none.ts RSt.none.texts.length]) :: ([])))) rfl ?_
 refine SW_region ?_
 refine L (cl (law_alive) ?_)
 rintro _ _ rfl
 refine un ?_
 refine os 2 ?_
 refine oV (.bool true) ?_
 refine os 2 ?_
 refine kp [7, 6, 5, 4, 0, 1] ?_
 refine nq ?_
 refine sr ?_
 refine os 1 ?_
 refine nt ?_
 refine SW_block ?_
 refine SW_loop (α := Nat × HeapV × RSt) (fun z_ ρ_ σ_ => Fits ρ_ σ_ [(0, .int .i64 most), (1, .slice A l.length c), (4, .bool false), (5, pt F.p 0), (6, pt b1 0), (7, .bool true), (8, .int .i64 (z_.1 : Int))] ((HeapV.ent z_.2.1 F) ++ ((RSt.ent z_.2.2) ++ ((b1, .cells 28 2 [Gs.val z_.2.2.s z_.2.2.objs.length, Gs.val z_.2.2.ts z_.2.2.texts.length]) :: ([])))) ∧ z_.1 ≤ l.length ∧ Sim (z_.1) z_.2.1 F z_.2.2) (fun z_ => l.length - z_.1) (0, H0, RSt.none) ⟨⟨fun _ => rfl, ow⟩, Nat.zero_le _, hS0⟩ ?_
 rintro ⟨i, H, R⟩ ρ_ σ_ ⟨hfit, hi0, hi1⟩
 refine SW_fits hfit ?_
 clear hfit
 simp only [] at hi0 hi1 ⊢
 refine SW_seq ?_
 refine sr ?_
 refine os 7 ?_
 refine kp [23, 0, 1, 4, 5, 6, 7, 8] ?_
 refine nt ?_
 refine cdp (fun hc2 : (i : Int) < (l.length : Int) => ?_) (fun hc2 => ?_)
 ·skip
  refine SW_skip (n_then ?_)
  refine SW_seq ?_
  refine SW_block ?_
  refine SW_seq ?_
  obtain ⟨b0_, o0_, rfl, hqb0_⟩ := (hls []).resolve_left (by rw [flat_len OpP.len]; omega)
  obtain ⟨e1, he1⟩ : ∃ y_, l[i]? = some y_ := ⟨_, List.getElem?_eq_getElem (by omega)⟩
  refine SW_draw [(b1, 0, Gs.val R.s R.objs.length), (b1, 1, Gs.val R.ts R.texts.length), (b0_, o0_ + i * 9, .int .i64 e1.kind), (b0_, o0_ + i * 9 + 1, .int .u64 e1.o), (b0_, o0_ + i * 9 + 2, .int .u64 e1.p), (b0_, o0_ + i * 9 + 3, .string e1.key), (b0_, o0_ + i * 9 + 4, .int .u64 e1.d.1), (b0_, o0_ + i * 9 + 5, .int .u64 e1.d.2.1), (b0_, o0_ + i * 9 + 6, .int .i64 e1.d.2.2), (b0_, o0_ + i * 9 + 7, .int .i64 e1.n), (b0_, o0_ + i * 9 + 8, .slice e1.A e1.w.length e1.c)] [0, 1, 2, 3, 4, 5] (by kernel_rfl) (rd_cons (Cell.own (mem_a (mem_a mem_z)) rfl) (rd_cons (Cell.own (mem_a (mem_a mem_z)) rfl) (rd_cons (Cell.mono (hqb0_ _ _ (flat_cell OpP.len he1 (j := 0) (by decide) rfl)) (fun e he => absurd he List.not_mem_nil)) (rd_cons (Cell.mono (hqb0_ _ _ (flat_cell OpP.len he1 (j := 1) (by decide) rfl)) (fun e he => absurd he List.not_mem_nil)) (rd_cons (Cell.mono (hqb0_ _ _ (flat_cell OpP.len he1 (j := 2) (by decide) rfl)) (fun e he => absurd he List.not_mem_nil)) (rd_cons (Cell.mono (hqb0_ _ _ (flat_cell OpP.len he1 (j := 3) (by decide) rfl)) (fun e he => absurd he List.not_mem_nil)) (rd_cons (Cell.mono (hqb0_ _ _ (flat_cell OpP.len he1 (j := 4) (by decide) rfl)) (fun e he => absurd he List.not_mem_nil)) (rd_cons (Cell.mono (hqb0_ _ _ (flat_cell OpP.len he1 (j := 5) (by decide) rfl)) (fun e he => absurd he List.not_mem_nil)) (rd_cons (Cell.mono (hqb0_ _ _ (flat_cell OpP.len he1 (j := 6) (by decide) rfl)) (fun e he => absurd he List.not_mem_nil)) (rd_cons (Cell.mono (hqb0_ _ _ (flat_cell OpP.len he1 (j := 7) (by decide) rfl)) (fun e he => absurd he List.not_mem_nil)) (rd_cons (Cell.mono (hqb0_ _ _ (flat_cell OpP.len he1 (j := 8) (by decide) rfl)) (fun e he => absurd he List.not_mem_nil)) rd_nil))))))))))) ?_
  refine aS 0 ?_
  refine tr 1 (.agg #[Gs.val R.s R.objs.length, Gs.val R.ts R.texts.length]) ?_ (hy := fun δ w hr => Rd_loads b1 0 [Gs.val R.s R.objs.length, Gs.val R.ts R.texts.length] rfl (by kernel_rfl) (rdm_cons List.mem_cons_self (rdm_cons (List.mem_cons_of_mem _ List.mem_cons_self) rdm_nil)) hr)
  refine aS 2 ?_
  refine aS 3 ?_
  refine tk 4 (pt b0_ (o0_ + i * 9)) ?_ (hy := fun δ w => run_indexAddr (i : Int) (o0_ + i * 9) b0_ o0_ l.length c .i64 9 Tryz.underlying22 (by kernel_rfl) (fun _ => rfl) (fun _ => rfl) (by omega) (by omega) (by omega))
  refine tr 5 (.agg #[.int .i64 e1.kind, .int .u64 e1.o, .int .u64 e1.p, .string e1.key, .int .u64 e1.d.1, .int .u64 e1.d.2.1, .int .i64 e1.d.2.2, .int .i64 e1.n, .slice e1.A e1.w.length e1.c]) ?_ (hy := fun δ w hr => Rd_loads b0_ (o0_ + i * 9) [.int .i64 e1.kind, .int .u64 e1.o, .int .u64 e1.p, .string e1.key, .int .u64 e1.d.1, .int .u64 e1.d.2.1, .int .i64 e1.d.2.2, .int .i64 e1.n, .slice e1.A e1.w.length e1.c] rfl (by kernel_rfl) (rdm_cons (List.mem_cons_of_mem _ (List.mem_cons_of_mem _ List.mem_cons_self)) (rdm_cons (List.mem_cons_of_mem _ (List.mem_cons_of_mem _ (List.mem_cons_of_mem _ List.mem_cons_self))) (rdm_cons (List.mem_cons_of_mem _ (List.mem_cons_of_mem _ (List.mem_cons_of_mem _ (List.mem_cons_of_mem _ List.mem_cons_self)))) (rdm_cons (List.mem_cons_of_mem _ (List.mem_cons_of_mem _ (List.mem_cons_of_mem _ (List.mem_cons_of_mem _ (List.mem_cons_of_mem _ List.mem_cons_self))))) (rdm_cons (List.mem_cons_of_mem _ (List.mem_cons_of_mem _ (List.mem_cons_of_mem _ (List.mem_cons_of_mem _ (List.mem_cons_of_mem _ (List.mem_cons_of_mem _ List.mem_cons_self)))))) (rdm_cons (List.mem_cons_of_mem _ (List.mem_cons_of_mem _ (List.mem_cons_of_mem _ (List.mem_cons_of_mem _ (List.mem_cons_of_mem _ (List.mem_cons_of_mem _ (List.mem_cons_of_mem _ List.mem_cons_self))))))) (rdm_cons (List.mem_cons_of_mem _ (List.mem_cons_of_mem _ (List.mem_cons_of_mem _ (List.mem_cons_of_mem _ (List.mem_cons_of_mem _ (List.mem_cons_of_mem _ (List.mem_cons_of_mem _ (List.mem_cons_of_mem _ List.mem_cons_self)))))))) (rdm_cons (List.mem_cons_of_mem _ (List.mem_cons_of_mem _ (List.mem_cons_of_mem _ (List.mem_cons_of_mem _ (List.mem_cons_of_mem _ (List.mem_cons_of_mem _ (List.mem_cons_of_mem _ (List.mem_cons_of_mem _ (List.mem_cons_of_mem _ List.mem_cons_self))))))))) (rdm_cons (List.mem_cons_of_mem _ (List.mem_cons_of_mem _ (List.mem_cons_of_mem _ (List.mem_cons_of_mem _ (List.mem_cons_of_mem _ (List.mem_cons_of_mem _ (List.mem_cons_of_mem _ (List.mem_cons_of_mem _ (List.mem_cons_of_mem _ (List.mem_cons_of_mem _ List.mem_cons_self)))))))))) rdm_nil))))))))) hr)
  have hop_ := hops _ (List.mem_of_getElem? he1)
  refine sa1 false 6 (h := cl (law_step hi1 (by omega) hop_) ?_)
  rintro _ ⟨H4, R4⟩ ⟨rfl, hd4⟩
  try simp only [List.cons_append, List.append_assoc, List.nil_append]
  refine ⟨fun hnd => (by cases hnd), ?_⟩
  simp only [] at hd4
  refine aS 7 ?_
  refine aS 8 ?_
  refine aS 9 ?_
  refine kpA [35, 34, 23, 0, 1, 4, 5, 6, 7, 8] ?_
  refine sa1 false 10 (h := st [Gs.val R4.s R4.objs.length, Gs.val R4.ts R4.texts.length] ?_)
  refine ⟨fun hnd => (by cases hnd), ?_⟩
  refine aS 11 ?_
  refine SA_done (by kernel_rfl) (n_then ?_)
  refine SW_region ?_
  refine os 3 ?_
  refine L (lds 2 ?_)
  refine L (cl (law_stands hd4.sim (by omega) hm) ?_)
  rintro _ _ rfl
  refine un ?_
  refine os 2 ?_
  refine kp [7, 23, 0, 1, 4, 5, 6, 8] ?_
  refine SL_nil (n_in (n_then ?_))
  refine SW_region ?_
  refine os 3 ?_
  refine nt ?_
  exact ⟨(i + 1, H4, R4), by simp only []; omega, ⟨fun _ => rfl, ow⟩, by simp only []; omega, (by simp only []; exact hd4.sim)⟩
 ·skip
  refine SW_exit (x_then (x_then (x_in (n_then ?_))))
  refine sr ?_
  refine os 2 ?_
  refine nt ?_
  refine SW_ret ?_
  refine body_end (.bool true) (fun _ => rfl) ?_
  exact ⟨(), ⟨_, List.Perm.refl _⟩, rfl⟩

end Go.Proofs.YtdfhbheipagnmaaGreat
namespace Go.Proofs.YtdfhbheipagnmaaGreat
open Go.Sl Go.ChangeShapes Go.WideShapes Go.ChangeAt Go.RowKit Go.Deep
theorem wf_word {n : Int} (h : (Lit.int .u64 n).wf = true) : wordOk n := by
  simp [Lit.wf, IntKind.min, IntKind.max, IntKind.bits, IntKind.signed] at h
  exact ⟨by omega, by omega⟩
theorem open_words {H : Type} {enc : TypeId × Value → H} {W : World} {t e : TypeId} {k : IntKind} {fuel : Nat} {v : Value} {d : DataW H} {ps : List MemPlace} (ht : Tryz.prog.underlying t = some (.slice e)) (he : Tryz.prog.underlying e = some (.int k)) (hc : Tryz.prog.cellsOf e = 1)
    (hf : DataW.trod enc Tryz.prog W 0 (fun _ => true) true fuel t [v] = some (d, ps)) :
    ∃ (A : Option Addr) (c : Nat) (xs : List Int), v = .slice A xs.length c ∧ (∀ σ, Src W σ A (xs.map (Value.int k))) ∧ xs.length ≤ Rows.uptoBulk d := by
  rcases open_ints ht he hc hf with ⟨hx, _⟩ | ⟨a, len', cap', zs, hcs, _, hl, hcm, hz, hx, hcell, hwz⟩
  · have e1 : v = .slice none 0 0 := by have q : [v] = [.slice none 0 0] := hx; simpa using q
    subst e1
    exact ⟨none, 0, [], rfl, fun σ => .inl rfl, Nat.zero_le _⟩
  · have e1 : v = .slice (some a) len' cap' := by have q : [v] = [.slice (some a) len' cap'] := hcs; simpa using q
    subst e1
    simp only [Prod.mk.injEq] at hx
    obtain ⟨rfl, -⟩ := hx
    simp only [if_true] at hz
    have hlen : (zs.take len').length = len' := by simp; omega
    refine ⟨some a, cap', zs.take len', by rw [hlen], fun σ => ?_, ?_⟩
    · by_cases h0 : len' = 0
      · exact .inl (by simp [h0])
      · have hp : a.spot = none := by
          have := hcell 0 (by omega)
          cases a with
          | mk b o p => cases p with
            | none => rfl
            | some q => simp only [Addr.add, World.cell?, if_true, Option.isSome_some] at this; split at this <;> cases this
        refine .inr ⟨a.block, a.off, ?_, cells_old fun i v hi => ?_⟩
        · cases a; simp only [] at hp; subst hp; rfl
        · have hi' := (List.getElem?_eq_some_iff.1 hi).1
          simp only [List.length_map, hlen] at hi'
          rw [List.getElem?_map, List.getElem?_take_of_lt hi'] at hi
          have := hcell i (by omega)
          cases a
          simp only [] at hp; subst hp
          rw [Addr.add_mid] at this
          simp only [List.getElem?_eq_getElem (show i < zs.length by omega), Option.map_some, Option.some.injEq] at hi
          rw [this, ← hi]
          simp [List.getD, List.getElem?_eq_getElem (show i < zs.length by omega)]
    · have h1 := length_leB (H := H) (lits k (zs.take len'))
      have h3 : (lits (H := H) k (zs.take len')).length = (zs.take len').length := by simp [lits]
      simp only [Rows.uptoBulk]
      omega
theorem oc : Tryz.prog.cellsOf 38 = 9 := by kernel_rfl
theorem oc_int : Tryz.prog.cellsOf 3 = 1 := by kernel_rfl
theorem oc_word : Tryz.prog.cellsOf 33 = 1 := by kernel_rfl
theorem oc_str : Tryz.prog.cellsOf 9 = 1 := by kernel_rfl
theorem oc_desc : Tryz.prog.cellsOf 35 = 3 := by kernel_rfl
theorem oc_words : Tryz.prog.cellsOf 36 = 1 := by kernel_rfl
/-- One call of a script. -/
theorem open_op {H : Type} {enc : TypeId × Value → H} {W : World} {fuel : Nat} {cs : List Value} {d : DataW H} {ps : List MemPlace} (h : DataW.trod enc Tryz.prog W 0 (fun _ => true) true fuel 38 cs = some (d, ps)) (hb : Rows.uptoBulk d ≤ 1048576) :
    ∃ x : OpP, cs = x.cells ∧ OpOk W x := by
  obtain ⟨xs, n, rfl, hx, hlen, hxl, hall⟩ := DataW.trod_struct Tryz.underlying38 h
  rw [oc] at hlen
  match cs, hlen with
  | [c0, c1, c2, c3, c4, c5, c6, c7, c8], _ =>
    match xs, hxl with
    | [y0, y1, y2, y3, y4, y5, y6], _ =>
      have h0 := hall 0 _ rfl
      have h1 := hall 1 _ rfl
      have h2 := hall 2 _ rfl
      have h3 := hall 3 _ rfl
      have h4 := hall 4 _ rfl
      have h5 := hall 5 _ rfl
      have h6 := hall 6 _ rfl
      simp only [oc_int, oc_word, oc_str, oc_desc, oc_words, List.drop, List.take, List.getElem?_cons_zero, List.getElem?_cons_succ] at h0 h1 h2 h3 h4 h5 h6
      obtain ⟨n0, e0, -, -⟩ := DataW.trod_int Tryz.underlying3 h0
      obtain ⟨n1, e1, -, w1⟩ := DataW.trod_int Tryz.underlying33 h1
      obtain ⟨n2, e2, -, w2⟩ := DataW.trod_int Tryz.underlying33 h2
      obtain ⟨s3, e3, -, -⟩ := DataW.trod_string Tryz.underlying9 h3
      obtain ⟨z0, z1, z2, m, hz, _, g0, g1, g2⟩ := trod_struct3 Tryz.underlying35 h4
      simp only [oc_int, oc_word, List.drop, List.take] at g0 g1 g2
      obtain ⟨d0, f0, -, -⟩ := DataW.trod_int Tryz.underlying33 g0
      obtain ⟨d1, f1, -, -⟩ := DataW.trod_int Tryz.underlying33 g1
      obtain ⟨d2, f2, -, -⟩ := DataW.trod_int Tryz.underlying3 g2
      obtain ⟨n5, e5, -, -⟩ := DataW.trod_int Tryz.underlying3 h5
      obtain ⟨A, c, ws, e6, hs, hl⟩ := open_words Tryz.underlying36 Tryz.underlying33 oc_word h6
      cases e0; cases e1; cases e2; cases e3; cases f0; cases f1; cases f2; cases e5; cases e6
      refine ⟨⟨n0, n1, n2, s3, (d0, d1, d2), n5, A, ws, c⟩, rfl, wf_word w1, wf_word w2, hs, ?_⟩
      simp only [Prod.mk.injEq] at hx
      have hd := hx.1
      subst hd
      have := part_leB (d := y6.1) (l := [y0, y1, y2, y3, y4, y5, y6].map (·.1)) (by simp)
      simp only [Rows.uptoBulk] at hb
      show ws.length ≤ 1048576
      omega
/-- A script. -/
theorem arg_ops {H : Type} {enc : TypeId × Value → H} {W : World} {b0 : Nat} {v : Value} {d : DataW H} {ps : List MemPlace} {l : List (DataW H)}
    (hv : Value.okWide Tryz.prog W .any b0 22 v) (hd : DataW.Trod enc Tryz.prog W 0 (fun _ => true) true 22 v d ps) (hk : Rows.uptoSmall H l = true) (hm : d ∈ l) :
    ∃ (A : Option Addr) (c : Nat) (xs : List OpP), v = .slice A xs.length c ∧ (∀ σ, Src W σ A (xs.flatMap OpP.cells)) ∧ xs.length ≤ 1048576 ∧ ∀ x ∈ xs, OpOk W x := by
  obtain ⟨A, len, cap, rfl⟩ := okWide_slice Tryz.underlying22 hv
  obtain ⟨fuel, hf⟩ := hd
  rcases open_slice Tryz.underlying22 hf with ⟨hx, _⟩ | ⟨a, len', cap', m, n, D, Pl, hcs, _, hl, hcm, hmm, hx, hall⟩
  · have e1 : Value.slice A len cap = .slice none 0 0 := by have q : [Value.slice A len cap] = [.slice none 0 0] := hx; simpa using q
    cases e1
    exact ⟨none, 0, [], rfl, fun σ => .inl rfl, Nat.zero_le _, fun n hn => by cases hn⟩
  · have e1 : Value.slice A len cap = .slice (some a) len' cap' := by have q : [Value.slice A len cap] = [.slice (some a) len' cap'] := hcs; simpa using q
    cases e1
    simp only [Prod.mk.injEq] at hx
    obtain ⟨rfl, -⟩ := hx
    simp only [if_true] at hmm
    subst hmm
    rw [oc] at hall
    have hb := slice_leB hk hm
    have hDb : ∀ i, i < len → Rows.uptoBulk (D i) ≤ 1048576 := fun i hi => by
      have := part_leB (d := D i) (l := (List.range len).map D) (List.mem_map_of_mem (List.mem_range.2 hi))
      omega
    have hch : ∀ i, i < len → ∃ x : OpP, W.cells? 0 (a.add (i * 9)) 9 = some x.cells ∧ OpOk W x := fun i hi => by
      obtain ⟨cs', h1, h2⟩ := hall i (by omega)
      obtain ⟨x, rfl, hx⟩ := open_op h2 (hDb i hi)
      exact ⟨x, h1, hx⟩
    haveI : Inhabited OpP := ⟨⟨0, 0, 0, .empty, (0, 0, 0), 0, none, [], 0⟩⟩
    obtain ⟨X, hX⟩ := choose_lt hch
    have hlen : ((List.range len).map X).length = len := by simp
    refine ⟨some a, m, (List.range len).map X, by rw [hlen], fun σ => ?_, ?_, fun x hx => ?_⟩
    · by_cases h0 : len = 0
      · exact .inl (by simp [h0])
      · have hcell : ∀ (i j : Nat), i < len → j < 9 → ∀ v, (X i).cells[j]? = some v → W.cell? ((a.add (i * 9)).add j) = some v := fun i j hi hj v hv => by
          obtain ⟨_, h2, h3⟩ := World.cells?_some (hX i hi).1
          have := h3 j hj
          rw [this]; exact hv
        have hp : a.spot = none := by
          have := hcell 0 0 (by omega) (by decide) _ rfl
          cases a with
          | mk b o p => cases p with
            | none => rfl
            | some q => simp only [Addr.add, World.cell?, if_true, Option.isSome_some] at this; split at this <;> cases this
        refine .inr ⟨a.block, a.off, ?_, cells_old fun i v hi => ?_⟩
        · cases a; simp only [] at hp; subst hp; rfl
        · have hi' := (List.getElem?_eq_some_iff.1 hi).1
          rw [flat_len OpP.len, hlen] at hi'
          have hij : i = i / 9 * 9 + i % 9 := by omega
          have hv' : (X (i / 9)).cells[i % 9]? = some v := by
            have hget : ((List.range len).map X)[i / 9]? = some (X (i / 9)) := by simp [show i / 9 < len by omega]
            have := flat_get OpP.len _ _ (i % 9) _ hget (by omega)
            rw [← hij] at this
            rw [← this]; exact hi
          have := hcell (i / 9) (i % 9) (by omega) (by omega) v hv'
          cases a
          simp only [] at hp; subst hp
          rw [Addr.add_mid, Addr.add_mid, Nat.add_assoc, ← hij] at this
          exact this
    · have h1 := length_leB (H := H) ((List.range len).map D)
      simp only [List.length_map, List.length_range] at h1 ⊢
      omega
    · simp only [List.mem_map, List.mem_range] at hx
      obtain ⟨i, hi, rfl⟩ := hx
      exact (hX i hi).2
end Go.Proofs.YtdfhbheipagnmaaGreat
namespace Go.Proofs.YtdfhbheipagnmaaGreat
open Go.Sl Go.ChangeShapes Go.WideShapes Go.ChangeAt Go.RowKit

theorem HeapAll_contract (H : Type) (enc : TypeId × Value → H) (W : World) (base : Nat) (args : Array Value) (ds gs : List (DataW H)) (before : List MemPlace)
    (hval : ∀ (j : Nat) t v, Tryz.f3.params[j]? = some t → args[j]? = some v → Value.okWide Tryz.prog W .any base t v)
    (hW : DataW.Whole enc Tryz.prog Tryz.f3.params.toList Rows.heapAllSpec.vars false W args.toList ds gs before) (hk : Rows.uptoSmall H (ds ++ gs) = true) :
    Calls Tryz.prog 3 args W fun e W' => ∃ v, e = .returned v ∧ Rows.heapAllSpec.post enc Tryz.prog Tryz.f3 false true false false W args v W' := by
  have hW' := hW
  obtain ⟨p, q, hA0, hV, rfl, hfz, hnd⟩ := hW
  have hA : DataW.TrodAll enc Tryz.prog W 0 (fun _ => true) true Tryz.f3.params.toList args.toList ds p := hA0
  rw [Tryz.params3] at hA hval
  obtain ⟨v0, vs0, d0, ds0, p0, q0, hargs, rfl, rfl, h0, r0⟩ := trodAll_cons hA
  obtain ⟨v1, vs1, d1, ds1, p1, q1, rfl, rfl, rfl, h1, r1⟩ := trodAll_cons r0
  obtain ⟨rfl, rfl, rfl⟩ := trodAll_nil r1
  obtain rfl : args = #[v0, v1] := by cases args; simp_all
  obtain ⟨rfl, rfl⟩ := trodVars_none hV
  obtain ⟨a0, rfl, rfl, rfl, w0⟩ := open_int Tryz.underlying3 (hval 0 3 v0 rfl rfl) h0
  obtain ⟨A1, c1, x1, rfl, hs1, hl1, hw1⟩ := arg_ops (hval 1 22 v1 rfl rfl) h1 hk (by simp)
  refine (calls_law (law_HeapAll a0 hs1 hl1 hw1)).mono fun e W' ⟨he, hb⟩ => ?_
  subst he
  exact ⟨_, rfl, post_law (tb := 4) hW' (by rw [Tryz.params3]; decide) rfl rfl rfl rfl rfl Tryz.underlying4 hb⟩

theorem HeapAll_lifted (os : Os) (started : os.Started) (H : Type) (enc : TypeId × Value → H) (F : Stop.Interp) :
    ReturnsInHanded {} Tryz.checked os 3 .any ((Rows.OpenSpec.upto Rows.heapAllSpec).pre6 enc Tryz.prog Tryz.f3 Rows.heapAllUptoRow.domain false) (((Rows.OpenSpec.upto Rows.heapAllSpec).at F).post enc Tryz.prog Tryz.f3 false true false false) := by
  refine returnsInHanded_of_cond (C := Tryz.checked) (s := Rows.OpenSpec.upto Rows.heapAllSpec) (k := Rows.uptoSmall) rfl rown started (by kernel_rfl) Tryz.func3
    (OpenSpec.witness (enc := enc) (C := Tryz.checked) (s := Rows.OpenSpec.upto Rows.heapAllSpec) (k := Rows.uptoSmall) rfl false ⟨#[], #[.int .i64 0, .slice none 0 0], []⟩ 8 (by kernel_rfl) (by kernel_rfl) (by kernel_rfl)
      (x := ([.lit (.int .i64 0), .nil], [], [])) (by kernel_rfl) rfl (by kernel_rfl)) ?_
  intro W base args ds gs before hval hW _ hk _
  exact HeapAll_contract H enc W base args ds gs before hval hW hk

theorem HeapAll_proved : Rows.HeapAllUptoSaid :=
  OpenClaim.holds_of_cond 3 Tryz.f3 rfl rfl rfl rfl rfl rfl rfl ⟨rfl, rfl, rfl, rfl, rfl⟩ rfl rfl rfl rfl rfl (by kernel_rfl) Tryz.func3 (by kernel_rfl)
    (of_decide_eq_true (by kernel_rfl)) (by unfold Func.isWrapper; first | (rw [if_pos (by decide +kernel)]; kernel_rfl) | (rw [if_neg (by decide +kernel)]; exact ⟨rfl, rfl⟩))
    (fun os started H enc _ F => HeapAll_lifted os started H enc F)
end Go.Proofs.YtdfhbheipagnmaaGreat
