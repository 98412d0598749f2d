/-
  From a walk over owned memory to a row's promise: the law returned true, and nothing that was there has turned. No condition.
-/
import Derived.Test.YtdfhbheipagnmaaRows
import Derived.Test.YtdfhbheipagnmaaSl
import Derived.ProofKit
import Derived.OpenShut
import Derived.JoinedCond
import Derived.ReadAgain
import Derived.Deep.Strs
set_option linter.unusedVariables false
set_option maxRecDepth 100000
namespace Go.Proofs.Ytdfhbheipagnmaa
open Go.Sl Go.ChangeShapes Go.WideShapes Go.ChangeAt Go.RowKit Go.Deep

theorem carryAll {H : Type} {enc : TypeId × Value → H} {P : Program} {w w' : World} {base : Nat} {spare : Nat → Bool} {held : Bool} : ∀ {ts : List TypeId} {vs : List Value} {ds : List (DataW H)} {ps : List MemPlace},
    DataW.TrodAll enc P w base spare held ts vs ds ps → (∀ p ∈ ps, w.sameAt w' p) → DataW.TrodAll enc P w' base spare held ts vs ds ps
  | [], [], [], _, h, _ => h
  | _ :: _, _ :: _, _ :: _, _, ⟨p, q, ⟨n, h1⟩, h2, e⟩, hs => ⟨p, q, ⟨n, DataW.trod_carry n _ _ _ h1 (fun x hx => hs x (by rw [e]; exact List.mem_append_left _ hx))⟩, carryAll h2 (fun x hx => hs x (by rw [e]; exact List.mem_append_right _ hx)), e⟩
theorem rkids : Kids Try.prog (· < Try.prog.types.size) := kids_rows (by kernel_rfl) (by kernel_rfl)
theorem rfull : ∀ t e, t < Try.prog.types.size → Try.prog.underlying t = some (.slice e) → 0 < Try.prog.cellsOf e := slices_full_of Try.prog (by kernel_rfl)
theorem rown : ownKnob Try.prog.godebug = none := by kernel_rfl
theorem post_law {H : Type} {enc : TypeId × Value → H} {f : Func} {s : ChangeSpec} {W W' : World} {args : Array Value} {ds gs : List (DataW H)} {before : List MemPlace} {tb : TypeId}
    (hW : DataW.Whole enc Try.prog f.params.toList s.vars false W args.toList ds gs before) (hts : ∀ t ∈ f.params.toList, t < Try.prog.types.size) (hvars : s.vars = [])
    (hres : (s.fn H (ds ++ gs)).results = [.lit (.bool true)]) (hargs : (s.fn H (ds ++ gs)).args = ds) (hv : (s.fn H (ds ++ gs)).vars = []) (hrt : f.resultTypes = #[tb]) (htb : Try.prog.underlying tb = some .bool) (hb : Below W.heap.size W W') :
    s.post enc Try.prog f false true false false W args (.bool true) W' := by
  have hlt := fun p hp => hW.lt p hp
  have hW' := hW
  obtain ⟨p, q, hA, hV, rfl, hfz, hnd⟩ := hW
  rw [hvars] at hV
  obtain ⟨rfl, rfl⟩ := trodVars_none hV
  refine ⟨ds, [], p ++ [], [], p, [], hW', ?_, ?_, ?_, hb.frame _, fun h => absurd h (by decide)⟩
  · rw [hres, hrt]
    exact trodAll_cons_mk (shut_bool htb _) trodAll_mk0
  · rw [hargs]
    refine DataW.TrodAll.respare rkids rfull hts (carryAll hA fun x hx => hb.same (hlt x (by simpa using hx))) fun x hx => ?_
    simpa using hlt x (by simpa using hx)
  · rw [hv, hvars]; exact rfl
theorem sat_start (W : World) : Sat W W [] := ⟨Below.refl _ _, by simp [keys], fun e he => by cases he⟩
/-- What a law's walk gives. -/
theorem calls_law {f : FuncId} {args : Array Value} {W : World} (h : SC Try.prog W f args [] (Ret (fun _ : Unit => []) (fun v _ => v = .bool true))) :
    Calls Try.prog f args W fun e W' => e = .returned (.bool true) ∧ Below W.heap.size W W' := by
  refine (h W (sat_start W)).mono ?_
  rintro e W' ⟨v, σ', rfl, hs, hu, x, ho, rfl⟩
  exact ⟨rfl, hs.below⟩
/-! arguments -/
theorem cells_old {W : World} {σ : Heaplet} {b off : Nat} {vs : List Value} (h : ∀ (i : Nat) v, vs[i]? = some v → W.cell? ⟨b, off + i, none⟩ = some v) : Cells W σ b off vs := fun i v hi => by
  refine .inr ⟨?_, h i v hi⟩
  have := h i v hi
  rcases Nat.lt_or_ge b W.heap.size with q | q
  · exact q
  · simp [World.cell?, Array.getElem?_eq_none q] at this
theorem one_leB {H : Type} (d : DataW H) : 1 ≤ Rows.uptoBulk d := by
  cases d with
  | lit l => cases l <;> simp [Rows.uptoBulk]
  | nil => simp [Rows.uptoBulk]
  | ptr d => simp [Rows.uptoBulk]
  | slice elems spare => simp [Rows.uptoBulk]
  | agg parts => simp [Rows.uptoBulk]
  | iface t d => simp [Rows.uptoBulk]
  | map entries => simp [Rows.uptoBulk]
  | held h => simp [Rows.uptoBulk]
theorem part_leB {H : Type} {d : DataW H} {l : List (DataW H)} (h : d ∈ l) : Rows.uptoBulk d ≤ Rows.uptoBulkAll l := by
  induction l with
  | nil => cases h
  | cons x r ih =>
    simp only [Rows.uptoBulkAll]
    cases List.mem_cons.1 h with
    | inl e => subst e; omega
    | inr e => have := ih e; omega
theorem length_leB {H : Type} (l : List (DataW H)) : l.length ≤ Rows.uptoBulkAll l := by
  induction l with
  | nil => simp [Rows.uptoBulkAll]
  | cons x r ih => have := one_leB x; simp only [Rows.uptoBulkAll, List.length_cons]; omega
theorem boundB {H : Type} {l : List (DataW H)} (hk : Rows.uptoSmall H l = true) : Rows.uptoBulkAll l ≤ 1048576 := of_decide_eq_true hk
theorem slice_leB {H : Type} {l : List (DataW H)} {elems spare : List (DataW H)} (hk : Rows.uptoSmall H l = true) (h : DataW.slice elems spare ∈ l) : Rows.uptoBulkAll elems ≤ 1048576 := by
  have h1 := part_leB h
  have h2 := boundB hk
  simp only [Rows.uptoBulk] at h1
  omega
/-- A slice of integers: what it holds. -/
theorem arg_ints {H : Type} {enc : TypeId × Value → H} {W : World} {b0 : Nat} {t e : TypeId} {k : IntKind} {v : Value} {d : DataW H} {ps : List MemPlace} {l : List (DataW H)} (ht : Try.prog.underlying t = some (.slice e)) (he : Try.prog.underlying e = some (.int k)) (hc : Try.prog.cellsOf e = 1)
    (hv : Value.okWide Try.prog W .any b0 t v) (hd : DataW.Trod enc Try.prog W 0 (fun _ => true) true t v d ps) (hk : Rows.uptoSmall H l = true) (hm : d ∈ l) :
    ∃ (A : Option Addr) (c : Nat) (xs : List Int), v = .slice A xs.length c ∧ (∀ σ, Src W σ A (xs.map (Value.int k))) ∧ xs.length ≤ 1048576 ∧ ∀ n ∈ xs, (Lit.int k n).wf = true := by
  obtain ⟨A, len, cap, rfl⟩ := okWide_slice ht hv
  obtain ⟨fuel, hf⟩ := hd
  rcases open_ints ht he hc hf with ⟨hx, _⟩ | ⟨a, len', cap', zs, hcs, _, hl, hcm, hz, hx, hcell, hwz⟩
  · have e1 : Value.slice A len cap = .slice none 0 0 := by have q : [Value.slice A len cap] = [.slice none 0 0] := hx; simpa using q
    cases e1
    exact ⟨none, 0, [], rfl, fun σ => .inl rfl, Nat.zero_le _, fun n hn => by cases hn⟩
  · have e1 : Value.slice A len cap = .slice (some a) len' cap' := by have q : [Value.slice A len cap] = [.slice (some a) len' cap'] := hcs; simpa using q
    cases e1
    simp only [Prod.mk.injEq] at hx
    obtain ⟨rfl, -⟩ := hx
    simp only [if_true] at hz
    have hlen : (zs.take len).length = len := by simp; omega
    refine ⟨some a, cap, zs.take len, by rw [hlen], fun σ => ?_, ?_, fun n hn => hwz n (List.mem_of_mem_take hn)⟩
    · by_cases h0 : len = 0
      · exact .inl (by simp [h0])
      · have hp : a.spot = none := by
          have := hcell 0 (by omega)
          cases a with
          | mk b o p => cases p with
            | none => rfl
            | some q => simp only [Addr.add, World.cell?, if_true, Option.isSome_some] at this; split at this <;> cases this
        refine .inr ⟨a.block, a.off, ?_, cells_old fun i v hi => ?_⟩
        · cases a; simp only [] at hp; subst hp; rfl
        · have hi' := (List.getElem?_eq_some_iff.1 hi).1
          simp only [List.length_map, hlen] at hi'
          rw [List.getElem?_map, List.getElem?_take_of_lt hi'] at hi
          have := hcell i (by omega)
          cases a
          simp only [] at hp; subst hp
          rw [Addr.add_mid] at this
          simp only [List.getElem?_eq_getElem (show i < zs.length by omega), Option.map_some, Option.some.injEq] at hi
          rw [this, ← hi]
          simp [List.getD, List.getElem?_eq_getElem (show i < zs.length by omega)]
    · have h1 := length_leB (H := H) (lits k (zs.take len))
      have h2 := slice_leB hk hm
      have h3 : (lits (H := H) k (zs.take len)).length = (zs.take len).length := by simp [lits]
      omega
/-- A slice of texts: what it holds. -/
theorem arg_strs {H : Type} {enc : TypeId × Value → H} {W : World} {b0 : Nat} {t e : TypeId} {v : Value} {d : DataW H} {ps : List MemPlace} {l : List (DataW H)} (ht : Try.prog.underlying t = some (.slice e)) (he : Try.prog.underlying e = some .string) (hc : Try.prog.cellsOf e = 1)
    (hv : Value.okWide Try.prog W .any b0 t v) (hd : DataW.Trod enc Try.prog W 0 (fun _ => true) true t v d ps) (hk : Rows.uptoSmall H l = true) (hm : d ∈ l) :
    ∃ (A : Option Addr) (c : Nat) (xs : List ByteArray), v = .slice A xs.length c ∧ (∀ σ, Src W σ A (xs.map Value.string)) ∧ xs.length ≤ 1048576 ∧ ∀ s ∈ xs, s.size ≤ maxLen := by
  obtain ⟨A, len, cap, rfl⟩ := okWide_slice ht hv
  obtain ⟨fuel, hf⟩ := hd
  rcases open_strs ht he hc hf with ⟨hx, _⟩ | ⟨a, len', cap', m, Sx, hcs, _, hl, hcm, hmm, hx, hcell⟩
  · have e1 : Value.slice A len cap = .slice none 0 0 := by have q : [Value.slice A len cap] = [.slice none 0 0] := hx; simpa using q
    cases e1
    exact ⟨none, 0, [], rfl, fun σ => .inl rfl, Nat.zero_le _, fun n hn => by cases hn⟩
  · have e1 : Value.slice A len cap = .slice (some a) len' cap' := by have q : [Value.slice A len cap] = [.slice (some a) len' cap'] := hcs; simpa using q
    cases e1
    simp only [Prod.mk.injEq] at hx
    obtain ⟨rfl, -⟩ := hx
    simp only [if_true] at hmm
    subst hmm
    have hlen : ((List.range len).map Sx).length = len := by simp
    refine ⟨some a, m, (List.range len).map Sx, by rw [hlen], fun σ => ?_, ?_, fun s hs => ?_⟩
    · by_cases h0 : len = 0
      · exact .inl (by simp [h0])
      · have hp : a.spot = none := by
          have := (hcell 0 (by omega)).1
          cases a with
          | mk b o p => cases p with
            | none => rfl
            | some q => simp only [Addr.add, World.cell?, if_true, Option.isSome_some] at this; split at this <;> cases this
        refine .inr ⟨a.block, a.off, ?_, cells_old fun i v hi => ?_⟩
        · cases a; simp only [] at hp; subst hp; rfl
        · have hi' := (List.getElem?_eq_some_iff.1 hi).1
          simp only [List.length_map, List.length_range] at hi'
          simp only [List.getElem?_map, List.getElem?_range hi', Option.map_some, Option.some.injEq] at hi
          have := (hcell i (by omega)).1
          cases a
          simp only [] at hp; subst hp
          rw [Addr.add_mid] at this
          rw [this, ← hi]
    · have h1 := length_leB (H := H) ((List.range len).map fun i => .lit (.string (Sx i).data.toList))
      have h2 := slice_leB hk hm
      simp only [List.length_map, List.length_range] at h1 ⊢
      omega
    · simp only [List.mem_map, List.mem_range] at hs
      obtain ⟨i, hi, rfl⟩ := hs
      exact (hcell i (by omega)).2
end Go.Proofs.Ytdfhbheipagnmaa
