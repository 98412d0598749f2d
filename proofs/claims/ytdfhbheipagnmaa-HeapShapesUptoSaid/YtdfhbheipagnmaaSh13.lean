/-
  A script that a law was given: what lies in memory. No condition.
-/
import Derived.Test.YtdfhbheipagnmaaSh1
import Derived.Test.YtdfhbheipagnmaaSh11
import Derived.Deep.Slices
import Derived.Test.YtdfhbheipagnmaaSh12
set_option linter.unusedVariables false
set_option linter.unusedSimpArgs false
set_option maxRecDepth 100000
namespace Go.Proofs.Ytdfhbheipagnmaa
open Go.Sl Go.ChangeShapes Go.WideShapes Go.ChangeAt Go.RowKit Go.Deep
theorem wf_word {n : Int} (h : (Lit.int .u64 n).wf = true) : wordOk n := by
  simp [Lit.wf, IntKind.min, IntKind.max, IntKind.bits, IntKind.signed] at h
  exact ⟨by omega, by omega⟩
theorem open_words {H : Type} {enc : TypeId × Value → H} {W : World} {t e : TypeId} {k : IntKind} {fuel : Nat} {v : Value} {d : DataW H} {ps : List MemPlace} (ht : Try.prog.underlying t = some (.slice e)) (he : Try.prog.underlying e = some (.int k)) (hc : Try.prog.cellsOf e = 1)
    (hf : DataW.trod enc Try.prog W 0 (fun _ => true) true fuel t [v] = some (d, ps)) :
    ∃ (A : Option Addr) (c : Nat) (xs : List Int), v = .slice A xs.length c ∧ (∀ σ, Src W σ A (xs.map (Value.int k))) ∧ xs.length ≤ Rows.uptoBulk d := by
  rcases open_ints ht he hc hf with ⟨hx, _⟩ | ⟨a, len', cap', zs, hcs, _, hl, hcm, hz, hx, hcell, hwz⟩
  · have e1 : v = .slice none 0 0 := by have q : [v] = [.slice none 0 0] := hx; simpa using q
    subst e1
    exact ⟨none, 0, [], rfl, fun σ => .inl rfl, Nat.zero_le _⟩
  · have e1 : v = .slice (some a) len' cap' := by have q : [v] = [.slice (some a) len' cap'] := hcs; simpa using q
    subst e1
    simp only [Prod.mk.injEq] at hx
    obtain ⟨rfl, -⟩ := hx
    simp only [if_true] at hz
    have hlen : (zs.take len').length = len' := by simp; omega
    refine ⟨some a, cap', zs.take len', by rw [hlen], fun σ => ?_, ?_⟩
    · by_cases h0 : len' = 0
      · exact .inl (by simp [h0])
      · have hp : a.spot = none := by
          have := hcell 0 (by omega)
          cases a with
          | mk b o p => cases p with
            | none => rfl
            | some q => simp only [Addr.add, World.cell?, if_true, Option.isSome_some] at this; split at this <;> cases this
        refine .inr ⟨a.block, a.off, ?_, cells_old fun i v hi => ?_⟩
        · cases a; simp only [] at hp; subst hp; rfl
        · have hi' := (List.getElem?_eq_some_iff.1 hi).1
          simp only [List.length_map, hlen] at hi'
          rw [List.getElem?_map, List.getElem?_take_of_lt hi'] at hi
          have := hcell i (by omega)
          cases a
          simp only [] at hp; subst hp
          rw [Addr.add_mid] at this
          simp only [List.getElem?_eq_getElem (show i < zs.length by omega), Option.map_some, Option.some.injEq] at hi
          rw [this, ← hi]
          simp [List.getD, List.getElem?_eq_getElem (show i < zs.length by omega)]
    · have h1 := length_leB (H := H) (lits k (zs.take len'))
      have h3 : (lits (H := H) k (zs.take len')).length = (zs.take len').length := by simp [lits]
      simp only [Rows.uptoBulk]
      omega
theorem oc : Try.prog.cellsOf 61 = 9 := by kernel_rfl
theorem oc_int : Try.prog.cellsOf 3 = 1 := by kernel_rfl
theorem oc_word : Try.prog.cellsOf 24 = 1 := by kernel_rfl
theorem oc_str : Try.prog.cellsOf 9 = 1 := by kernel_rfl
theorem oc_desc : Try.prog.cellsOf 42 = 3 := by kernel_rfl
theorem oc_words : Try.prog.cellsOf 22 = 1 := by kernel_rfl
/-- One call of a script. -/
theorem open_op {H : Type} {enc : TypeId × Value → H} {W : World} {fuel : Nat} {cs : List Value} {d : DataW H} {ps : List MemPlace} (h : DataW.trod enc Try.prog W 0 (fun _ => true) true fuel 61 cs = some (d, ps)) (hb : Rows.uptoBulk d ≤ 1048576) :
    ∃ x : OpP, cs = x.cells ∧ OpOk W x := by
  obtain ⟨xs, n, rfl, hx, hlen, hxl, hall⟩ := DataW.trod_struct Try.underlying61 h
  rw [oc] at hlen
  match cs, hlen with
  | [c0, c1, c2, c3, c4, c5, c6, c7, c8], _ =>
    match xs, hxl with
    | [y0, y1, y2, y3, y4, y5, y6], _ =>
      have h0 := hall 0 _ rfl
      have h1 := hall 1 _ rfl
      have h2 := hall 2 _ rfl
      have h3 := hall 3 _ rfl
      have h4 := hall 4 _ rfl
      have h5 := hall 5 _ rfl
      have h6 := hall 6 _ rfl
      simp only [oc_int, oc_word, oc_str, oc_desc, oc_words, List.drop, List.take, List.getElem?_cons_zero, List.getElem?_cons_succ] at h0 h1 h2 h3 h4 h5 h6
      obtain ⟨n0, e0, -, -⟩ := DataW.trod_int Try.underlying3 h0
      obtain ⟨n1, e1, -, w1⟩ := DataW.trod_int Try.underlying24 h1
      obtain ⟨n2, e2, -, w2⟩ := DataW.trod_int Try.underlying24 h2
      obtain ⟨s3, e3, -, -⟩ := DataW.trod_string Try.underlying9 h3
      obtain ⟨z0, z1, z2, m, hz, _, g0, g1, g2⟩ := trod_struct3 Try.underlying42 h4
      simp only [oc_int, oc_word, List.drop, List.take] at g0 g1 g2
      obtain ⟨d0, f0, -, -⟩ := DataW.trod_int Try.underlying24 g0
      obtain ⟨d1, f1, -, -⟩ := DataW.trod_int Try.underlying24 g1
      obtain ⟨d2, f2, -, -⟩ := DataW.trod_int Try.underlying3 g2
      obtain ⟨n5, e5, -, -⟩ := DataW.trod_int Try.underlying3 h5
      obtain ⟨A, c, ws, e6, hs, hl⟩ := open_words Try.underlying22 Try.underlying24 oc_word h6
      cases e0; cases e1; cases e2; cases e3; cases f0; cases f1; cases f2; cases e5; cases e6
      refine ⟨⟨n0, n1, n2, s3, (d0, d1, d2), n5, A, ws, c⟩, rfl, wf_word w1, wf_word w2, hs, ?_⟩
      simp only [Prod.mk.injEq] at hx
      have hd := hx.1
      subst hd
      have := part_leB (d := y6.1) (l := [y0, y1, y2, y3, y4, y5, y6].map (·.1)) (by simp)
      simp only [Rows.uptoBulk] at hb
      show ws.length ≤ 1048576
      omega
/-- A script. -/
theorem arg_ops {H : Type} {enc : TypeId × Value → H} {W : World} {b0 : Nat} {v : Value} {d : DataW H} {ps : List MemPlace} {l : List (DataW H)}
    (hv : Value.okWide Try.prog W .any b0 56 v) (hd : DataW.Trod enc Try.prog W 0 (fun _ => true) true 56 v d ps) (hk : Rows.uptoSmall H l = true) (hm : d ∈ l) :
    ∃ (A : Option Addr) (c : Nat) (xs : List OpP), v = .slice A xs.length c ∧ (∀ σ, Src W σ A (xs.flatMap OpP.cells)) ∧ xs.length ≤ 1048576 ∧ ∀ x ∈ xs, OpOk W x := by
  obtain ⟨A, len, cap, rfl⟩ := okWide_slice Try.underlying56 hv
  obtain ⟨fuel, hf⟩ := hd
  rcases open_slice Try.underlying56 hf with ⟨hx, _⟩ | ⟨a, len', cap', m, n, D, Pl, hcs, _, hl, hcm, hmm, hx, hall⟩
  · have e1 : Value.slice A len cap = .slice none 0 0 := by have q : [Value.slice A len cap] = [.slice none 0 0] := hx; simpa using q
    cases e1
    exact ⟨none, 0, [], rfl, fun σ => .inl rfl, Nat.zero_le _, fun n hn => by cases hn⟩
  · have e1 : Value.slice A len cap = .slice (some a) len' cap' := by have q : [Value.slice A len cap] = [.slice (some a) len' cap'] := hcs; simpa using q
    cases e1
    simp only [Prod.mk.injEq] at hx
    obtain ⟨rfl, -⟩ := hx
    simp only [if_true] at hmm
    subst hmm
    rw [oc] at hall
    have hb := slice_leB hk hm
    have hDb : ∀ i, i < len → Rows.uptoBulk (D i) ≤ 1048576 := fun i hi => by
      have := part_leB (d := D i) (l := (List.range len).map D) (List.mem_map_of_mem (List.mem_range.2 hi))
      omega
    have hch : ∀ i, i < len → ∃ x : OpP, W.cells? 0 (a.add (i * 9)) 9 = some x.cells ∧ OpOk W x := fun i hi => by
      obtain ⟨cs', h1, h2⟩ := hall i (by omega)
      obtain ⟨x, rfl, hx⟩ := open_op h2 (hDb i hi)
      exact ⟨x, h1, hx⟩
    haveI : Inhabited OpP := ⟨⟨0, 0, 0, .empty, (0, 0, 0), 0, none, [], 0⟩⟩
    obtain ⟨X, hX⟩ := choose_lt hch
    have hlen : ((List.range len).map X).length = len := by simp
    refine ⟨some a, m, (List.range len).map X, by rw [hlen], fun σ => ?_, ?_, fun x hx => ?_⟩
    · by_cases h0 : len = 0
      · exact .inl (by simp [h0])
      · have hcell : ∀ (i j : Nat), i < len → j < 9 → ∀ v, (X i).cells[j]? = some v → W.cell? ((a.add (i * 9)).add j) = some v := fun i j hi hj v hv => by
          obtain ⟨_, h2, h3⟩ := World.cells?_some (hX i hi).1
          have := h3 j hj
          rw [this]; exact hv
        have hp : a.spot = none := by
          have := hcell 0 0 (by omega) (by decide) _ rfl
          cases a with
          | mk b o p => cases p with
            | none => rfl
            | some q => simp only [Addr.add, World.cell?, if_true, Option.isSome_some] at this; split at this <;> cases this
        refine .inr ⟨a.block, a.off, ?_, cells_old fun i v hi => ?_⟩
        · cases a; simp only [] at hp; subst hp; rfl
        · have hi' := (List.getElem?_eq_some_iff.1 hi).1
          rw [flat_len OpP.len, hlen] at hi'
          have hij : i = i / 9 * 9 + i % 9 := by omega
          have hv' : (X (i / 9)).cells[i % 9]? = some v := by
            have hget : ((List.range len).map X)[i / 9]? = some (X (i / 9)) := by simp [show i / 9 < len by omega]
            have := flat_get OpP.len _ _ (i % 9) _ hget (by omega)
            rw [← hij] at this
            rw [← this]; exact hi
          have := hcell (i / 9) (i % 9) (by omega) (by omega) v hv'
          cases a
          simp only [] at hp; subst hp
          rw [Addr.add_mid, Addr.add_mid, Nat.add_assoc, ← hij] at this
          exact this
    · have h1 := length_leB (H := H) ((List.range len).map D)
      simp only [List.length_map, List.length_range] at h1 ⊢
      omega
    · simp only [List.mem_map, List.mem_range] at hx
      obtain ⟨i, hi, rfl⟩ := hx
      exact (hX i hi).2
end Go.Proofs.Ytdfhbheipagnmaa
namespace Go.Proofs.Ytdfhbheipagnmaa
open Go.Sl Go.ChangeShapes Go.WideShapes Go.ChangeAt Go.RowKit

theorem HeapShapes_contract (H : Type) (enc : TypeId × Value → H) (W : World) (base : Nat) (args : Array Value) (ds gs : List (DataW H)) (before : List MemPlace)
    (hval : ∀ (j : Nat) t v, Try.f7.params[j]? = some t → args[j]? = some v → Value.okWide Try.prog W .any base t v)
    (hW : DataW.Whole enc Try.prog Try.f7.params.toList Rows.heapShapesSpec.vars false W args.toList ds gs before) (hk : Rows.uptoSmall H (ds ++ gs) = true) :
    Calls Try.prog 7 args W fun e W' => ∃ v, e = .returned v ∧ Rows.heapShapesSpec.post enc Try.prog Try.f7 false true false false W args v W' := by
  have hW' := hW
  obtain ⟨p, q, hA0, hV, rfl, hfz, hnd⟩ := hW
  have hA : DataW.TrodAll enc Try.prog W 0 (fun _ => true) true Try.f7.params.toList args.toList ds p := hA0
  rw [Try.params7] at hA hval
  obtain ⟨v0, vs0, d0, ds0, p0, q0, hargs, rfl, rfl, h0, r0⟩ := trodAll_cons hA
  obtain ⟨v1, vs1, d1, ds1, p1, q1, rfl, rfl, rfl, h1, r1⟩ := trodAll_cons r0
  obtain ⟨rfl, rfl, rfl⟩ := trodAll_nil r1
  obtain rfl : args = #[v0, v1] := by cases args; simp_all
  obtain ⟨rfl, rfl⟩ := trodVars_none hV
  obtain ⟨a0, rfl, rfl, rfl, w0⟩ := open_int Try.underlying3 (hval 0 3 v0 rfl rfl) h0
  obtain ⟨A1, c1, x1, rfl, hs1, hl1, hw1⟩ := arg_ops (hval 1 56 v1 rfl rfl) h1 hk (by simp)
  refine (calls_law (law_HeapShapes a0 hs1 hl1 hw1)).mono fun e W' ⟨he, hb⟩ => ?_
  subst he
  exact ⟨_, rfl, post_law (tb := 4) hW' (by rw [Try.params7]; decide) rfl rfl rfl rfl rfl Try.underlying4 hb⟩

theorem HeapShapes_lifted (os : Os) (started : os.Started) (H : Type) (enc : TypeId × Value → H) (F : Stop.Interp) :
    ReturnsInHanded {} Try.checked os 7 .any ((Rows.OpenSpec.upto Rows.heapShapesSpec).pre6 enc Try.prog Try.f7 Rows.heapShapesUptoRow.domain false) (((Rows.OpenSpec.upto Rows.heapShapesSpec).at F).post enc Try.prog Try.f7 false true false false) := by
  refine returnsInHanded_of_cond (C := Try.checked) (s := Rows.OpenSpec.upto Rows.heapShapesSpec) (k := Rows.uptoSmall) rfl rown started (by kernel_rfl) Try.func7
    (OpenSpec.witness (enc := enc) (C := Try.checked) (s := Rows.OpenSpec.upto Rows.heapShapesSpec) (k := Rows.uptoSmall) rfl false ⟨#[], #[.int .i64 0, .slice none 0 0], []⟩ 8 (by kernel_rfl) (by kernel_rfl) (by kernel_rfl)
      (x := ([.lit (.int .i64 0), .nil], [], [])) (by kernel_rfl) rfl (by kernel_rfl)) ?_
  intro W base args ds gs before hval hW _ hk _
  exact HeapShapes_contract H enc W base args ds gs before hval hW hk

theorem HeapShapes_proved : Rows.HeapShapesUptoSaid :=
  OpenClaim.holds_of_cond 7 Try.f7 rfl rfl rfl rfl rfl rfl rfl ⟨rfl, rfl, rfl, rfl, rfl⟩ rfl rfl rfl rfl rfl (by kernel_rfl) Try.func7 (by kernel_rfl)
    (of_decide_eq_true (by kernel_rfl)) (by unfold Func.isWrapper; first | (rw [if_pos (by decide +kernel)]; kernel_rfl) | (rw [if_neg (by decide +kernel)]; exact ⟨rfl, rfl⟩))
    (fun os started H enc _ F => HeapShapes_lifted os started H enc F)
end Go.Proofs.Ytdfhbheipagnmaa
