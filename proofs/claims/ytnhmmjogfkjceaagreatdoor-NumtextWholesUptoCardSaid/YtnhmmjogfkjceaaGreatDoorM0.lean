/-
  A small separation logic over the kit's weakest preconditions ('Code.wp', 'Calls'): frames as lists of slots, memory as a list of owned blocks. Generic over the program. No condition.
-/
import Derived.WalkKit
import Derived.Laws.BytesArg
import Derived.KernelRfl
import Derived.OrdersHeld
import Derived.Deep.LoopGhost
import Derived.Deep.MidRow
import Derived.Deep.OwnRows
import Derived.Laws.CopyRow
import Derived.Laws.IdiomCopy
import Derived.Maps.AppendAt
import Derived.Test.YtnhmmjogfkjceaaGreatDoorRows
import Derived.ProofKit
import Derived.OpenShut
import Derived.JoinedCond
import Derived.ReadAgain
import Derived.Deep.Strs
import Derived.Lib.ConvBytes
import Derived.Laws.RangeString
import Derived.Laws.RangeAny
import Derived.Lib.OthersKept
import Derived.Lib.UnsafeStr
import Derived.Lib.FrozenHead
import Derived.Lib.Builder
import Derived.Test.YtnhmmjogfkjceaaGreatDoorCards
import Derived.Test.YtnhmmjogfkjceaaGreatDoorTie
import Derived.Deep.Slices
import Derived.Deep.Grids
import Derived.Deep.DeepHandedRow
import Derived.Deep.DeepWitnessRowRef
import Derived.Lib.LaidTab
set_option linter.unusedVariables false
set_option linter.unusedSimpArgs false
set_option maxRecDepth 100000
namespace Go.Sl
open Go.RowKit

abbrev pt (b o : Nat) : Value := .pointer (some ⟨b, o, none⟩)
abbrev Fr := List (Nat × Value)

def look (δ : Nat → Value) : Fr → Nat → Value
 | [], t => δ t
 | (s, v) :: r, t => bif Nat.beq s t then v else look δ r t

def ev (δ : Nat → Value) (ρ : Fr) : Operand → Value
 | .tmp t => look δ ρ t
 | .const v => v
 | .global g => .pointer (some ⟨g, 0, none⟩)
 | .func f => .func (.func f) #[] #[]

def slot (a : Act) : Nat → Value := fun t => a.tmps.getD t undef

structure FSd (δ : Nat → Value) (n : Nat) (a : Act) (ρ : Fr) : Prop where
  defers : a.defers = []
  size : a.tmps.size = n
  at_ : ∀ t, look δ ρ t = slot a t

def FS (n : Nat) (a : Act) (ρ : Fr) : Prop := FSd (slot a) n a ρ

theorem look_indep {δ δ' : Nat → Value} : ∀ {ρ : Fr} {t : Nat}, (look δ ρ t = δ t ∧ look δ' ρ t = δ' t) ∨ look δ ρ t = look δ' ρ t
 | [], t => .inl ⟨rfl, rfl⟩
 | (s, v) :: r, t => by
   unfold look
   cases h : Nat.beq s t with
   | true => exact .inr rfl
   | false => simpa using look_indep (ρ := r) (t := t)

theorem FSd.fs {δ : Nat → Value} {n : Nat} {a : Act} {ρ : Fr} (h : FSd δ n a ρ) : FS n a ρ := by
 refine ⟨h.defers, h.size, fun t => ?_⟩
 rcases look_indep (δ := δ) (δ' := slot a) (ρ := ρ) (t := t) with ⟨_, h2⟩ | h2
 · exact h2
 · rw [← h2]; exact h.at_ t

theorem FSd.eval {δ : Nat → Value} {n : Nat} {a : Act} {ρ : Fr} (h : FSd δ n a ρ) : a.eval = ev δ ρ := by
 funext x
 cases x with
 | tmp t => exact (h.at_ t).symm
 | const v => rfl
 | global g => rfl
 | func f => rfl

def putF (ρ : Fr) : Option Tmp → Value → Fr
 | some d, v => (d, v) :: ρ
 | none, _ => ρ

def dstOk (n : Nat) : Option Tmp → Bool
 | some d => Nat.blt d n
 | none => true

theorem slot_put {a : Act} {d : Nat} {v : Value} (hd : d < a.tmps.size) (t : Nat) : slot (a.put (some d) v) t = if d = t then v else slot a t := by
 simp only [slot, Act.put, Array.getD_eq_getD_getElem?]
 by_cases h : d = t
 · subst h; simp [hd]
 · simp [h, Array.getElem?_setIfInBounds_ne h]

theorem FSd.put {δ : Nat → Value} {n : Nat} {a : Act} {ρ : Fr} (h : FSd δ n a ρ) {o : Option Tmp} (hd : dstOk n o = true) (v : Value) : FSd δ n (a.put o v) (putF ρ o v) := by
 cases o with
 | none => exact h
 | some d =>
   have hd' : d < n := by simpa [dstOk, Nat.blt_eq] using hd
   refine ⟨h.defers, by simp [Act.put, h.size], fun t => ?_⟩
   rw [slot_put (by rw [h.size]; exact hd')]
   simp only [putF, look]
   by_cases e : d = t
   · subst e; simp
   · have : Nat.beq d t = false := by
       cases hb : Nat.beq d t with
       | false => rfl
       | true => exact absurd (Nat.eq_of_beq_eq_true hb) e
     simp [this, e, h.at_ t]

theorem look_sub {δ : Nat → Value} {ρ : Fr} : ∀ {ρ' : Fr}, ρ'.map (fun e => look δ ρ e.1) = ρ'.map (·.2) → ∀ t, look δ ρ' t = look δ ρ t ∨ look δ ρ' t = δ t
 | [], _, t => .inr rfl
 | (s, v) :: r, h, t => by
   simp only [List.map_cons, List.cons.injEq] at h
   cases hs : Nat.beq s t with
   | true =>
     have : s = t := Nat.eq_of_beq_eq_true hs
     subst this
     left
     rw [show look δ ((s, v) :: r) s = bif Nat.beq s s then v else look δ r s from rfl, hs]
     exact h.1.symm
   | false =>
     rw [show look δ ((s, v) :: r) t = bif Nat.beq s t then v else look δ r t from rfl, hs]
     exact look_sub h.2 t

theorem FS.sub {n : Nat} {a : Act} {ρ ρ' : Fr} (h : FS n a ρ) (hs : ∀ δ, ρ'.map (fun e => look δ ρ e.1) = ρ'.map (·.2)) : FS n a ρ' := by
 refine ⟨h.defers, h.size, fun t => ?_⟩
 rcases look_sub (hs (slot a)) t with e | e
 · rw [e]; exact h.at_ t
 · exact e

inductive Blk where
  | cells (e : TypeId) (N : Nat) (cs : List Value)
  | map (kv : List (Value × Value))
  | txt (cs : List Value)
  | it (s : ByteArray) (pos : Nat)

abbrev Heaplet := List (Nat × Blk)

def Has (w : World) (b : Nat) : Blk → Prop
 | .cells e N cs => ∃ C : Array Value, w.heap[b]? = some (.cells C e (0, 0)) ∧ C.size = N ∧ ∀ (i : Nat) (v : Value), cs[i]? = some v → C[i]? = some v
 | .map kv => ∃ es c, w.heap[b]? = some (.map es c) ∧ es.toList.map (fun e => (e.key, e.val)) = kv
 | .txt cs => ∃ (C : Array Value) (e : TypeId) (fr : Nat × Nat), w.heap[b]? = some (.cells C e fr) ∧ ∀ (i : Nat) (v : Value), cs[i]? = some v → C[i]? = some v
 | .it s pos => w.heap[b]? = some (.stringIter s pos)

theorem Has.lt {w : World} {b : Nat} {x : Blk} (h : Has w b x) : b < w.heap.size := by
 have : ∃ o, w.heap[b]? = some o := by
   cases x with
   | cells e N cs => obtain ⟨C, h, _⟩ := h; exact ⟨_, h⟩
   | map kv => obtain ⟨es, c, h, _⟩ := h; exact ⟨_, h⟩
   | txt cs => obtain ⟨C, e, fr, h, _⟩ := h; exact ⟨_, h⟩
   | it s pos => exact ⟨_, h⟩
 obtain ⟨o, h⟩ := this
 exact (Array.getElem?_eq_some_iff.1 h).1

theorem Has.of_block {w w' : World} {b : Nat} {x : Blk} (h : Has w b x) (e : w'.heap[b]? = w.heap[b]?) : Has w' b x := by
 cases x with
 | cells t N cs => obtain ⟨C, h, hc⟩ := h; exact ⟨C, by rw [e]; exact h, hc⟩
 | map kv => obtain ⟨es, c, h, hk⟩ := h; exact ⟨es, c, e.trans h, hk⟩
 | txt cs => obtain ⟨C, t, fr, h, hc⟩ := h; exact ⟨C, t, fr, e.trans h, hc⟩
 | it s pos => exact e.trans h

def keys (σ : Heaplet) : List Nat := σ.map (·.1)

structure Sat (W0 w : World) (σ : Heaplet) : Prop where
  below : Below W0.heap.size W0 w
  nodup : (keys σ).Nodup
  has : ∀ e ∈ σ, W0.heap.size ≤ e.1 ∧ Has w e.1 e.2

structure Upd (w w' : World) (K K' : List Nat) : Prop where
  size : w.heap.size ≤ w'.heap.size
  frame : ∀ b, b < w.heap.size → b ∉ K → w'.heap[b]? = w.heap[b]?
  kin : ∀ b ∈ K', b ∈ K ∨ w.heap.size ≤ b

theorem Upd.refl (w : World) (K : List Nat) : Upd w w K K := ⟨Nat.le_refl _, fun _ _ _ => rfl, fun _ h => .inl h⟩

theorem Upd.trans {w1 w2 w3 : World} {K1 K2 K3 : List Nat} (h : Upd w1 w2 K1 K2) (k : Upd w2 w3 K2 K3) : Upd w1 w3 K1 K3 := by
 refine ⟨Nat.le_trans h.size k.size, fun b hb hn => ?_, fun b hb => ?_⟩
 · rw [k.frame b (Nat.lt_of_lt_of_le hb h.size) (fun h2 => ?_), h.frame b hb hn]
   rcases h.kin b h2 with h3 | h3
   · exact hn h3
   · omega
 · rcases k.kin b hb with h2 | h2
   · exact h.kin b h2
   · exact .inr (Nat.le_trans h.size h2)

theorem Upd.sub {w w' : World} {K K' K'' : List Nat} (h : Upd w w' K K') (hs : ∀ b ∈ K'', b ∈ K') : Upd w w' K K'' := ⟨h.size, h.frame, fun b hb => h.kin b (hs b hb)⟩

theorem Sat.perm {W0 w : World} {σ σ' : Heaplet} (h : Sat W0 w σ) (hp : σ.Perm σ') : Sat W0 w σ' :=
 ⟨h.below, (hp.map _).nodup_iff.1 h.nodup, fun e he => h.has e (hp.mem_iff.2 he)⟩

theorem keys_perm {σ σ' : Heaplet} (hp : σ.Perm σ') : ∀ b ∈ keys σ', b ∈ keys σ := fun b hb => (hp.map (·.1)).mem_iff.2 hb

theorem Sat.left {W0 w : World} {σ τ : Heaplet} (h : Sat W0 w (σ ++ τ)) : Sat W0 w σ := by
 refine ⟨h.below, ?_, fun e he => h.has e (by simp [he])⟩
 have := h.nodup
 simp only [keys, List.map_append] at this
 exact (List.nodup_append.1 this).1

theorem Sat.nil {W0 w : World} {σ : Heaplet} (h : Sat W0 w σ) : Sat W0 w [] := ⟨h.below, by simp [keys], fun e he => by cases he⟩

theorem Sat.frame {W0 w w' : World} {σ σ' τ : Heaplet} (h : Sat W0 w (σ ++ τ)) (h' : Sat W0 w' σ') (hu : Upd w w' (keys σ) (keys σ')) : Sat W0 w' (σ' ++ τ) := by
 have hn := h.nodup
 simp only [keys, List.map_append] at hn
 obtain ⟨_, hn2, hn3⟩ := List.nodup_append.1 hn
 refine ⟨h'.below, ?_, fun e he => ?_⟩
 · simp only [keys, List.map_append]
   refine List.nodup_append.2 ⟨h'.nodup, hn2, fun a ha b hb e => ?_⟩
   subst e
   rcases hu.kin a ha with h1 | h1
   · exact hn3 a h1 a hb rfl
   · obtain ⟨x, hx, rfl⟩ := List.mem_map.1 hb
     have := (h.has x (by simp [hx])).2.lt
     omega
 · rcases List.mem_append.1 he with h1 | h1
   · exact h'.has e h1
   · have h2 := h.has e (by simp [h1])
     refine ⟨h2.1, h2.2.of_block (hu.frame e.1 h2.2.lt (fun hk => ?_))⟩
     exact hn3 e.1 hk e.1 (List.mem_map.2 ⟨e, h1, rfl⟩) rfl

theorem Upd.frame_keys {w w' : World} {σ σ' τ : Heaplet} (hu : Upd w w' (keys σ) (keys σ')) : Upd w w' (keys (σ ++ τ)) (keys (σ' ++ τ)) := by
 refine ⟨hu.size, fun b hb hn => hu.frame b hb (fun h => hn (by simp only [keys, List.map_append] at *; exact List.mem_append.2 (.inl h))), fun b hb => ?_⟩
 simp only [keys, List.map_append, List.mem_append] at *
 rcases hb with h | h
 · rcases hu.kin b h with h1 | h1
   · exact .inl (.inl h1)
   · exact .inr h1
 · exact .inl (.inr h)

def Cell (W0 : World) (σ : Heaplet) (b off : Nat) (v : Value) : Prop :=
 (∃ e N cs, ((b, Blk.cells e N cs) ∈ σ ∨ (b, Blk.txt cs) ∈ σ) ∧ cs[off]? = some v) ∨ (b < W0.heap.size ∧ W0.cell? ⟨b, off, none⟩ = some v)

theorem Cell.own {W0 : World} {σ : Heaplet} {b off : Nat} {v : Value} {e : TypeId} {N : Nat} {cs : List Value} (h : (b, Blk.cells e N cs) ∈ σ) (hv : cs[off]? = some v) : Cell W0 σ b off v := .inl ⟨e, N, cs, .inl h, hv⟩
theorem Cell.txt {W0 : World} {σ : Heaplet} {b off : Nat} {v : Value} {cs : List Value} (h : (b, Blk.txt cs) ∈ σ) (hv : cs[off]? = some v) : Cell W0 σ b off v := .inl ⟨0, 0, cs, .inr h, hv⟩

theorem Sat.cell {W0 w : World} {σ : Heaplet} (h : Sat W0 w σ) {b off : Nat} {v : Value} (hc : Cell W0 σ b off v) : w.cell? ⟨b, off, none⟩ = some v := by
 rcases hc with ⟨e, N, cs, hm | hm, hv⟩ | ⟨hb, hv⟩
 · obtain ⟨_, C, hh, _, hC⟩ := h.has _ hm
   simp only at hh
   simp [World.cell?, hh, hC _ _ hv]
 · obtain ⟨_, C, e, fr, hh, hC⟩ := h.has _ hm
   simp only at hh
   simp [World.cell?, hh, hC _ _ hv]
 · rw [h.below.cell (p := ⟨b, off, none⟩) hb]; exact hv

def Cells (W0 : World) (σ : Heaplet) (b off : Nat) (vs : List Value) : Prop := ∀ i v, vs[i]? = some v → Cell W0 σ b (off + i) v

theorem Cell.mono {W0 : World} {σ σ' : Heaplet} {b off : Nat} {v : Value} (h : Cell W0 σ b off v) (hs : ∀ e ∈ σ, e ∈ σ') : Cell W0 σ' b off v := by
 rcases h with ⟨e, N, cs, hm, hv⟩ | h
 · exact .inl ⟨e, N, cs, hm.imp (hs _) (hs _), hv⟩
 · exact .inr h

abbrev SQ := Exit → Fr → Heaplet → Prop

def Lift (W0 w0 : World) (K0 : List Nat) (n : Nat) (Q : SQ) : Exit → Act → World → Prop := fun e a w => ∃ ρ σ, FS n a ρ ∧ Sat W0 w σ ∧ Upd w0 w K0 (keys σ) ∧ Q e ρ σ

def SW (P : Program) (W0 : World) (n : Nat) (c : Code) (Q : SQ) (ρ : Fr) (σ : Heaplet) : Prop :=
 ∀ w0 K0 a w, FS n a ρ → Sat W0 w σ → Upd w0 w K0 (keys σ) → c.wp P (Lift W0 w0 K0 n Q) a w

def SL (P : Program) (W0 : World) (n : Nat) (ops : Array Oper) (Q : SQ) (l : List Oper) (ρ : Fr) (σ : Heaplet) : Prop :=
 ∀ w0 K0 a w, FS n a ρ → Sat W0 w σ → Upd w0 w K0 (keys σ) → wpList P ops (Lift W0 w0 K0 n Q) l a w

def SC (P : Program) (W0 : World) (f : FuncId) (args : Array Value) (σ : Heaplet) (R : Value → Heaplet → Prop) : Prop :=
 ∀ w, Sat W0 w σ → Calls P f args w (fun e w' => ∃ v σ', e = .returned v ∧ Sat W0 w' σ' ∧ Upd w w' (keys σ) (keys σ') ∧ R v σ')

def thenQ (K : Fr → Heaplet → Prop) (Q : SQ) : SQ
 | .normal, ρ, σ => K ρ σ
 | e, ρ, σ => Q e ρ σ

def inQ (id : Nat) (Q : SQ) : SQ
 | .exit id', ρ, σ => if id' = id then Q .normal ρ σ else Q (.exit id') ρ σ
 | e, ρ, σ => Q e ρ σ

section
variable {P : Program} {W0 : World} {n : Nat} {Q : SQ} {ρ ρ' : Fr} {σ σ' : Heaplet}

theorem Lift.mono {w0 : World} {K0 : List Nat} {Q' : SQ} (h : ∀ e ρ σ, Q e ρ σ → Q' e ρ σ) {e : Exit} {a : Act} {w : World} (hl : Lift W0 w0 K0 n Q e a w) : Lift W0 w0 K0 n Q' e a w := by
 obtain ⟨ρ, σ, h1, h2, h3, h4⟩ := hl
 exact ⟨ρ, σ, h1, h2, h3, h _ _ _ h4⟩

theorem SW.mono {c : Code} {Q' : SQ} (hw : SW P W0 n c Q ρ σ) (h : ∀ e ρ σ, Q e ρ σ → Q' e ρ σ) : SW P W0 n c Q' ρ σ :=
 fun w0 K0 a w h1 h2 h3 => wp_mono (hw w0 K0 a w h1 h2 h3) fun _ _ _ => Lift.mono h

theorem SW_trim {c : Code} (ρ' : Fr) (hs : ∀ δ, ρ'.map (fun e => look δ ρ e.1) = ρ'.map (·.2)) (h : SW P W0 n c Q ρ' σ) : SW P W0 n c Q ρ σ :=
 fun w0 K0 a w h1 h2 h3 => h w0 K0 a w (h1.sub hs) h2 h3
theorem SW_perm {c : Code} (σ' : Heaplet) (hp : σ.Perm σ') (h : SW P W0 n c Q ρ σ') : SW P W0 n c Q ρ σ :=
 fun w0 K0 a w h1 h2 h3 => h w0 K0 a w h1 (h2.perm hp) (h3.sub (keys_perm hp))
theorem SL_perm {ops : Array Oper} {l : List Oper} (σ' : Heaplet) (hp : σ.Perm σ') (h : SL P W0 n ops Q l ρ σ') : SL P W0 n ops Q l ρ σ :=
 fun w0 K0 a w h1 h2 h3 => h w0 K0 a w h1 (h2.perm hp) (h3.sub (keys_perm hp))

theorem SW_drop {c : Code} {τ : Heaplet} (h : SW P W0 n c Q ρ σ) : SW P W0 n c Q ρ (σ ++ τ) :=
 fun w0 K0 a w h1 h2 h3 => h w0 K0 a w h1 h2.left (h3.sub (fun b hb => by simp only [keys, List.map_append, List.mem_append] at *; exact .inl hb))

theorem SW_skip (h : Q .normal ρ σ) : SW P W0 n .skip Q ρ σ := fun w0 K0 a w h1 h2 h3 => wp_skip ⟨ρ, σ, h1, h2, h3, h⟩
theorem SW_exit {id : Nat} (h : Q (.exit id) ρ σ) : SW P W0 n (.exit id) Q ρ σ := fun w0 K0 a w h1 h2 h3 => wp_exit ⟨ρ, σ, h1, h2, h3, h⟩
theorem SW_ret (h : Q .ret ρ σ) : SW P W0 n .ret Q ρ σ := fun w0 K0 a w h1 h2 h3 => wp_ret ⟨ρ, σ, h1, h2, h3, h⟩

theorem SW_seq {x y : Code} (h : SW P W0 n x (thenQ (SW P W0 n y Q) Q) ρ σ) : SW P W0 n (.seq x y) Q ρ σ := by
 intro w0 K0 a w h1 h2 h3
 refine wp_seq (wp_mono (h w0 K0 a w h1 h2 h3) fun e a' w' hl => ?_)
 obtain ⟨ρ', σ', g1, g2, g3, g4⟩ := hl
 cases e with
 | normal => exact g4 w0 K0 a' w' g1 g2 g3
 | _ => exact ⟨ρ', σ', g1, g2, g3, g4⟩

theorem SW_block {id : Nat} {c : Code} (h : SW P W0 n c (inQ id Q) ρ σ) : SW P W0 n (.block id c) Q ρ σ := by
 intro w0 K0 a w h1 h2 h3
 refine wp_block (wp_mono (h w0 K0 a w h1 h2 h3) fun e a' w' hl => ?_)
 obtain ⟨ρ', σ', g1, g2, g3, g4⟩ := hl
 cases e with
 | exit id' =>
   simp only [Exit.inBlock]
   simp only [inQ] at g4
   split
   · rename_i hh; rw [if_pos hh] at g4; exact ⟨ρ', σ', g1, g2, g3, g4⟩
   · rename_i hh; rw [if_neg hh] at g4; exact ⟨ρ', σ', g1, g2, g3, g4⟩
 | _ => exact ⟨ρ', σ', g1, g2, g3, g4⟩

theorem SW_cond {c : Operand} {x y : Code} (b : Bool) (hc : ∀ δ, ev δ ρ c = .bool b) (ht : b = true → SW P W0 n x Q ρ σ) (hf : b = false → SW P W0 n y Q ρ σ) : SW P W0 n (.cond c x y) Q ρ σ := by
 intro w0 K0 a w h1 h2 h3
 refine wp_cond_split (t := b) (by rw [FSd.eval h1]; exact hc _) (fun e => ht e w0 K0 a w h1 h2 h3) (fun e => hf e w0 K0 a w h1 h2 h3)
theorem SW_true {c : Operand} {x y : Code} (hc : ∀ δ, ev δ ρ c = .bool true) (ht : SW P W0 n x Q ρ σ) : SW P W0 n (.cond c x y) Q ρ σ :=
 SW_cond true hc (fun _ => ht) (fun h => by cases h)
theorem SW_false {c : Operand} {x y : Code} (hc : ∀ δ, ev δ ρ c = .bool false) (hf : SW P W0 n y Q ρ σ) : SW P W0 n (.cond c x y) Q ρ σ :=
 SW_cond false hc (fun h => by cases h) (fun _ => hf)

theorem SW_loop {α : Type} {c : Code} (I : α → Fr → Heaplet → Prop) (μ : α → Nat) (x0 : α) (h0 : I x0 ρ σ)
   (round : ∀ x ρ σ, I x ρ σ → SW P W0 n c (thenQ (fun ρ' σ' => ∃ x', μ x' < μ x ∧ I x' ρ' σ') Q) ρ σ) : SW P W0 n (.loop c) Q ρ σ := by
 intro w0 K0 a w h1 h2 h3
 refine wp_loop_ghost (fun k a' w' => ∃ x ρ' σ', μ x = k ∧ FS n a' ρ' ∧ Sat W0 w' σ' ∧ Upd w0 w' K0 (keys σ') ∧ I x ρ' σ') (μ x0) ⟨x0, ρ, σ, rfl, h1, h2, h3, h0⟩ ?_
 rintro k a' w' ⟨x, ρ', σ', rfl, g1, g2, g3, g4⟩
 refine wp_mono (round x ρ' σ' g4 w0 K0 a' w' g1 g2 g3) fun e a2 w2 hl => ?_
 obtain ⟨ρ2, σ2, k1, k2, k3, k4⟩ := hl
 cases e with
 | normal => obtain ⟨x', hlt, hI⟩ := k4; exact ⟨μ x', hlt, x', ρ2, σ2, rfl, k1, k2, k3, hI⟩
 | _ => exact ⟨ρ2, σ2, k1, k2, k3, k4⟩

theorem SW_region {id : Nat} {l : List Oper} (h : SL P W0 n l.toArray Q l ρ σ) : SW P W0 n (.region id l.toArray false) Q ρ σ :=
 fun w0 K0 a w h1 h2 h3 => wp_region_lit (h w0 K0 a w h1 h2 h3)

theorem SW_cut {c : Code} (M : Fr → Heaplet → Prop) {K : Fr → Heaplet → Prop} (h : SW P W0 n c (thenQ M Q) ρ σ) (hk : ∀ ρ σ, M ρ σ → K ρ σ) : SW P W0 n c (thenQ K Q) ρ σ :=
 h.mono fun e ρ σ => by cases e <;> first | exact hk ρ σ | exact id

theorem SW_cut3 {c y : Code} (M : Fr → Heaplet → Prop) {K : Fr → Heaplet → Prop} (h : SW P W0 n c (thenQ (SW P W0 n y (thenQ M Q)) (thenQ M Q)) ρ σ) (hk : ∀ ρ σ, M ρ σ → K ρ σ) : SW P W0 n c (thenQ (SW P W0 n y (thenQ K Q)) (thenQ K Q)) ρ σ :=
 h.mono fun e ρ σ => by cases e <;> first | exact fun q => SW_cut M q hk | exact id
variable {ops : Array Oper} {rest : List Oper} {o : Oper}

theorem SL_nil (h : Q .normal ρ σ) : SL P W0 n ops Q [] ρ σ := fun w0 K0 a w h1 h2 h3 => wpList_nil ⟨ρ, σ, h1, h2, h3, h⟩
def yieldF (ops : Array Oper) (n : Nat) (δ : Nat → Value) (ρ : Fr) (j : Nat) : Option Bool :=
 match (ops[j]?).bind (·.dst) with
 | some d => bif Nat.blt d n then (match look δ ρ d with | .bool b => some b | _ => none) else none
 | none => none

theorem yielded_eq {δ : Nat → Value} {a : Act} (h : FSd δ n a ρ) : yielded ops a.tmps = yieldF ops n δ ρ := by
 funext j
 unfold yielded yieldF
 cases hd : (ops[j]?).bind (·.dst) with
 | none => rfl
 | some d =>
   simp only [Option.bind_some]
   rw [h.at_ d, slot, Array.getD_eq_getD_getElem?]
   by_cases hlt : d < n
   · have h1 : Nat.blt d n = true := by simpa [Nat.blt_eq] using hlt
     have h2 : d < a.tmps.size := by rw [h.size]; exact hlt
     rw [h1, Array.getElem?_eq_getElem h2]
     simp only [cond_true, Option.getD_some]
     cases a.tmps[d] <;> rfl
   · have h1 : Nat.blt d n = false := by
       cases hb : Nat.blt d n with
       | false => rfl
       | true => exact absurd (by simpa [Nat.blt_eq] using hb) hlt
     have h2 : a.tmps[d]? = none := Array.getElem?_eq_none (by rw [h.size]; exact Nat.le_of_not_lt hlt)
     rw [h1, h2]; rfl

theorem wpList_cons_eq {Q : Exit → Act → World → Prop} {a : Act} {w : World} : wpList P ops Q (o :: rest) a w =
 (if Region.wanted o (yielded ops a.tmps) then o.wp P a w (wpList P ops Q rest) Q ∨ (o.asks P a w ∧ LetsOut Q) else wpList P ops Q rest (a.put o.dst undef) w) := rfl

def goes (ops : Array Oper) (n : Nat) (ρ : Fr) (o : Oper) : Prop := dstOk n o.dst = true ∧ ∀ δ, Region.wanted o (yieldF ops n δ ρ) = true

def SO (P : Program) (W0 : World) (n : Nat) (Q : SQ) (o : Oper) (ρ : Fr) (σ : Heaplet) (K : Fr → Heaplet → Prop) : Prop :=
 ∀ w0 K0 a w, FS n a ρ → Sat W0 w σ → Upd w0 w K0 (keys σ) → o.wp P a w (Lift W0 w0 K0 n (fun _ ρ σ => K ρ σ) .normal) (Lift W0 w0 K0 n Q)

theorem SL_cons (hg : goes ops n ρ o) (h : SO P W0 n Q o ρ σ (SL P W0 n ops Q rest)) : SL P W0 n ops Q (o :: rest) ρ σ := by
 intro w0 K0 a w h1 h2 h3
 rw [wpList_cons_eq, yielded_eq h1, if_pos (hg.2 _)]
 refine .inl (Oper.wp_mono (fun a' w' hl => ?_) (h w0 K0 a w h1 h2 h3))
 obtain ⟨ρ', σ', g1, g2, g3, g4⟩ := hl
 exact g4 w0 K0 a' w' g1 g2 g3

variable {K : Fr → Heaplet → Prop}

theorem O_val (v : Value) (hd : dstOk n o.dst = true) (hr : ∀ δ w, Sat W0 w σ → (execOp (ev δ ρ) o).run P w = .ok (.value v) w) (h : K (putF ρ o.dst v) σ) : SO P W0 n Q o ρ σ K := by
 intro w0 K0 a w h1 h2 h3
 unfold Oper.wp
 rw [FSd.eval h1, hr _ w h2]
 exact ⟨_, _, (FSd.put h1 hd v).fs, h2, h3, h⟩

def Is : Obj → Blk → Prop
 | .cells C e fr, .cells e' N cs => fr = (0, 0) ∧ e = e' ∧ C.size = N ∧ C.toList = cs
 | .map es _, .map kv => es.toList.map (fun e => (e.key, e.val)) = kv
 | .cells C _ _, .txt cs => C.toList = cs
 | .stringIter s p, .it s' p' => s = s' ∧ p = p'
 | _, _ => False

theorem heap_new (w : World) (o : Obj) : (w.alloc o).heap[w.heap.size]? = some o := by
 show (w.heap.push o)[w.heap.size]? = some o
 simp

theorem Sat.alloc {w : World} (h : Sat W0 w σ) {o : Obj} {x : Blk} (hi : Is o x) : Sat W0 (w.alloc o) ((w.heap.size, x) :: σ) := by
 have hlt : ∀ e ∈ σ, e.1 < w.heap.size := fun e he => (h.has e he).2.lt
 refine ⟨h.below.alloc h.below.size o, ?_, fun e he => ?_⟩
 · simp only [keys, List.map_cons, List.nodup_cons]
   refine ⟨fun hm => ?_, h.nodup⟩
   obtain ⟨e, he, h1⟩ := List.mem_map.1 hm
   have := hlt e he
   omega
 · rcases List.mem_cons.1 he with rfl | he
   · refine ⟨h.below.size, ?_⟩
     cases o with
     | cells C e fr =>
       cases x with
       | cells e' N cs =>
         obtain ⟨rfl, rfl, rfl, rfl⟩ := hi
         exact ⟨C, heap_new _ _, rfl, fun i v hv => by simpa using hv⟩
       | map kv => exact hi.elim
       | txt cs => exact ⟨C, e, fr, heap_new _ _, fun i v hv => by rw [show cs = C.toList from (hi : C.toList = cs).symm] at hv; simpa using hv⟩
       | it s pos => exact hi.elim
     | map es c =>
       cases x with
       | cells e' N cs => exact hi.elim
       | map kv => exact ⟨es, c, heap_new _ _, hi⟩
       | txt cs => exact hi.elim
       | it s pos => exact hi.elim
     | stringIter s p =>
       cases x with
       | it s' p' => obtain ⟨rfl, rfl⟩ := hi; exact heap_new _ _
       | _ => exact hi.elim
     | _ => cases x <;> exact hi.elim
   · have h1 := h.has e he
     exact ⟨h1.1, h1.2.of_block (Below.heap_alloc _ _ _ (hlt e he))⟩

theorem Upd.alloc {w0 w : World} {K0 : List Nat} (h : Upd w0 w K0 (keys σ)) (o : Obj) (x : Blk) : Upd w0 (w.alloc o) K0 (keys ((w.heap.size, x) :: σ)) := by
 refine h.trans ⟨by simp, fun b hb _ => Below.heap_alloc _ _ _ hb, fun b hb => ?_⟩
 simp only [keys, List.map_cons, List.mem_cons] at hb
 rcases hb with rfl | hb
 · exact .inr (Nat.le_refl _)
 · exact .inl hb

theorem O_new (vf : Nat → Value) (ob : Obj) (x : Blk) (hd : dstOk n o.dst = true) (hr : ∀ δ w, (execOp (ev δ ρ) o).run P w = .ok (.value (vf w.heap.size)) (w.alloc ob)) (hi : Is ob x)
   (h : ∀ b, W0.heap.size ≤ b → b ∉ keys σ → K (putF ρ o.dst (vf b)) ((b, x) :: σ)) : SO P W0 n Q o ρ σ K := by
 intro w0 K0 a w h1 h2 h3
 unfold Oper.wp
 rw [FSd.eval h1, hr _ w]
 refine ⟨_, _, (FSd.put h1 hd _).fs, h2.alloc hi, h3.alloc ob x, h w.heap.size h2.below.size (fun hm => ?_)⟩
 obtain ⟨e, he, h4⟩ := List.mem_map.1 hm
 have := (h2.has e he).2.lt
 omega

def notAgg (P : Program) (t : TypeId) : Bool := match P.underlying t with | some (.struct _) | some (.array _ _) => false | some _ => true | none => false

theorem run_load_cell {w : World} {t : TypeId} {b off : Nat} {v : Value} (ht : notAgg P t = true) (hc : w.cell? ⟨b, off, none⟩ = some v) : (Instr.loadAt t (.pointer (some ⟨b, off, none⟩))).run P w = .ok v w := by
 unfold notAgg at ht
 cases hu : P.underlying t with
 | none => rw [hu] at ht; cases ht
 | some d =>
   have hl : (Go.load ⟨b, off, none⟩).run P w = .ok v w := by rw [run_load, hc]
   rw [hu] at ht
   unfold Instr.loadAt Instr.sureAddr loadVar isAgg underlying
   cases d <;> first | (cases ht; done) | simp [program, Sem.run, hu, hl, hc]

theorem O_load (b off : Nat) (v : Value) {dst : Option Tmp} {t ty : TypeId} {addr : Operand} {pos : String} {after : Array Edge} {gd : Option (Nat × Bool)}
   (ha : ∀ δ, ev δ ρ addr = .pointer (some ⟨b, off, none⟩)) (ht : notAgg P t = true) (hc : Cell W0 σ b off v) (hd : dstOk n dst = true)
   (h : K (putF ρ dst v) σ) : SO P W0 n Q ⟨dst, .load t addr, ty, pos, after, gd⟩ ρ σ K := by
 refine O_val v hd (fun δ w hs => ?_) h
 simp only [execOp, ha δ, Sem.run_bind, run_load_cell ht (hs.cell hc)]
 rfl

def aggN (P : Program) (t : TypeId) : Option Nat := match P.underlying t with | some (.struct _) | some (.array _ _) => (P.info? t).map (·.size) | _ => none

theorem O_loads (b off : Nat) (vs : List Value) {dst : Option Tmp} {t ty : TypeId} {addr : Operand} {pos : String} {after : Array Edge} {gd : Option (Nat × Bool)}
   (ha : ∀ δ, ev δ ρ addr = .pointer (some ⟨b, off, none⟩)) (ht : aggN P t = some vs.length) (hc : Cells W0 σ b off vs) (hd : dstOk n dst = true)
   (h : K (putF ρ dst (.agg vs.toArray)) σ) : SO P W0 n Q ⟨dst, .load t addr, ty, pos, after, gd⟩ ρ σ K := by
 refine O_val _ hd (fun δ w hs => ?_) h
 have hr : w.rangeAt b off vs := fun j v hv => hs.cell (hc j v hv)
 have hl : (Instr.loadAt t (.pointer (some ⟨b, off, none⟩))).run P w = .ok (.agg vs.toArray) w := by
   unfold aggN at ht
   cases hu : P.underlying t with
   | none => rw [hu] at ht; cases ht
   | some d =>
     rw [hu] at ht
     refine run_loadAt_mid w b off t vs d hr hu ?_ ?_
     · cases d <;> first | rfl | (cases ht; done)
     · cases d <;> first | exact ht | (cases ht; done)
 simp only [execOp, ha δ, Sem.run_bind, hl]
 rfl

def lay (cs : List Value) (off : Nat) (vs : List Value) : List Value := cs.take off ++ vs ++ cs.drop (off + vs.length)

theorem Sat.upd {w w' : World} {b : Nat} {x y : Blk} {τ : Heaplet} (h : Sat W0 w ((b, x) :: τ)) (hz : w.heap.size = w'.heap.size) (ho : w'.os = w.os) (ht : w'.tape = w.tape) (hp : w'.output = w.output)
   (hb : ∀ k, k ≠ b → w'.heap[k]? = w.heap[k]?) (hy : Has w' b y) : Sat W0 w' ((b, y) :: τ) := by
 have hn := h.nodup
 simp only [keys, List.map_cons, List.nodup_cons] at hn
 have h0 := (h.has (b, x) (by simp)).1
 refine ⟨h.below.trans ⟨ho, ht, hp, by omega, fun k hk => hb k (by omega)⟩, ?_, fun e he => ?_⟩
 · simp only [keys, List.map_cons, List.nodup_cons]; exact hn
 · rcases List.mem_cons.1 he with rfl | he
   · exact ⟨h0, hy⟩
   · have h1 := h.has e (by simp [he])
     refine ⟨h1.1, h1.2.of_block (hb _ (fun e1 => hn.1 ?_))⟩
     exact List.mem_map.2 ⟨e, he, e1⟩

theorem Upd.upd {w w' : World} {b : Nat} {x y : Blk} {τ : Heaplet} (hz : w.heap.size = w'.heap.size) (hb : ∀ k, k ≠ b → w'.heap[k]? = w.heap[k]?) : Upd w w' (keys ((b, x) :: τ)) (keys ((b, y) :: τ)) :=
 ⟨by omega, fun k _ hk => hb k (fun e => hk (by simp [keys, e])), fun k hk => .inl hk⟩

theorem setRow_block (w : World) (g : Nat) (cur : Array Value) (k : Nat) (h : k ≠ g) : (w.setRow g cur).heap[k]? = w.heap[k]? := by
 simp only [World.setRow, Array.getElem?_modify]
 rw [if_neg (Ne.symm h)]

theorem run_storeVar_of {w : World} (t : TypeId) (b off : Nat) (v : Value) (i : TypeInfo) (hi : P.info? t = some i) (hs : v.cells.size = i.size) :
   (storeVar t ⟨b, off, none⟩ v).run P w = (storeCells ⟨b, off, none⟩ v.cells.toList).run P w := by
 simp [storeVar, sizeOf, typeInfo, hi, hs]

theorem run_storeAt_lay {w : World} {b off N : Nat} {e t : TypeId} {cs vs : List Value} {v : Value} (hh : Has w b (.cells e N cs)) (hv : v.cells.toList = vs) (hs : (P.info? t).map (·.size) = some vs.length)
   (h1 : vs.all (·.oneCell') = true) (hfit : off + vs.length ≤ cs.length) :
   ∃ w', (Instr.storeAt t (.pointer (some ⟨b, off, none⟩)) v).run P w = .ok () w' ∧ w.heap.size = w'.heap.size ∧ w'.os = w.os ∧ w'.tape = w.tape ∧ w'.output = w.output ∧ (∀ k, k ≠ b → w'.heap[k]? = w.heap[k]?) ∧
     Has w' b (.cells e N (lay cs off vs)) := by
 obtain ⟨C, hC, hN, hp⟩ := hh
 have hle : cs.length ≤ C.size := by
   rcases Nat.lt_or_ge C.size cs.length with h | h
   · have := hp C.size cs[C.size] (List.getElem?_eq_getElem h)
     simp at this
   · exact h
 have hst := run_storeCells_at P b off e vs 0 C w hC (by omega) (fun v hv => List.all_eq_true.1 h1 v hv)
 simp only [Nat.add_zero] at hst
 refine ⟨w.setRow b (C.toList.take off ++ vs ++ C.toList.drop (off + vs.length)).toArray, ?_, ?_, ?_, ?_, ?_, ?_, ?_⟩
 · cases hq : P.info? t with
   | none => simp [hq] at hs
   | some i =>
     have hsz : i.size = vs.length := by simpa [hq] using hs
     have hv' : v.cells.size = vs.length := by rw [← hv]; simp
     simp only [Instr.storeAt, Instr.sureAddr, Sem.run_bind, Sem.run_pure, Result.andThen_ok, run_storeVar_of t b off v i hq (by rw [hv', hsz]), hv, hst]
 · simp [World.setRow]
 · rfl
 · rfl
 · rfl
 · exact fun k hk => setRow_block _ _ _ _ hk
 · refine ⟨(C.toList.take off ++ vs ++ C.toList.drop (off + vs.length)).toArray, ?_, ?_, ?_⟩
   · simp [World.setRow, Array.getElem?_modify, hC]
   · simp; omega
   · intro i u hu
     simp only [lay] at hu
     simp only [List.getElem?_toArray]
     have hlen : i < cs.length := by
       have := (List.getElem?_eq_some_iff.1 hu).1
       simp at this
       omega
     by_cases hi : i < off
     · rw [List.append_assoc, List.getElem?_append_left (by simp; omega), List.getElem?_take_of_lt hi] at hu
       rw [List.append_assoc, List.getElem?_append_left (by simp; omega), List.getElem?_take_of_lt hi]
       simpa using hp i u hu
     · by_cases hi2 : i < off + vs.length
       · rw [List.append_assoc, List.getElem?_append_right (by simp; omega), List.getElem?_append_left (by simp; omega)] at hu
         rw [List.append_assoc, List.getElem?_append_right (by simp; omega), List.getElem?_append_left (by simp; omega)]
         simp only [List.length_take] at hu ⊢
         rw [show min off C.toList.length = off by simp; omega]
         rw [show min off cs.length = off by omega] at hu
         exact hu
       · rw [List.getElem?_append_right (by simp; omega)] at hu
         rw [List.getElem?_append_right (by simp; omega)]
         simp only [List.length_append, List.length_take, List.getElem?_drop] at hu ⊢
         rw [show min off C.toList.length = off by simp; omega]
         rw [show min off cs.length = off by omega] at hu
         have := hp _ u hu
         simpa using this

theorem O_store (b off : Nat) (v : Value) (vs : List Value) {e : TypeId} {N : Nat} {cs : List Value} {τ : Heaplet} {dst : Option Tmp} {t ty : TypeId} {addr x : Operand} {pos : String} {after : Array Edge} {gd : Option (Nat × Bool)}
   (ha : ∀ δ, ev δ ρ addr = .pointer (some ⟨b, off, none⟩)) (hx : ∀ δ, ev δ ρ x = v) (hv : v.cells.toList = vs) (hs : (P.info? t).map (·.size) = some vs.length) (h1 : vs.all (·.oneCell') = true)
   (hfit : off + vs.length ≤ cs.length) (hd : dstOk n dst = true)
   (h : K (putF ρ dst undef) ((b, .cells e N (lay cs off vs)) :: τ)) : SO P W0 n Q ⟨dst, .store t addr x, ty, pos, after, gd⟩ ρ ((b, .cells e N cs) :: τ) K := by
 intro w0 K0 a w g1 g2 g3
 obtain ⟨w', hr, hz, ho, ht, hp, hb, hy⟩ := run_storeAt_lay (P := P) (t := t) (off := off) (g2.has (b, .cells e N cs) (by simp)).2 hv hs h1 hfit
 unfold Oper.wp
 rw [FSd.eval g1]
 simp only [execOp, ha, hx, Sem.run_bind, hr, Result.andThen_ok, Sem.run_pure, Oper.upon]
 exact ⟨_, _, (FSd.put g1 hd undef).fs, g2.upd hz ho ht hp hb hy, g3.trans (Upd.upd hz hb), h⟩

theorem O_call (f : FuncId) (args : Array Value) {R : Value → Heaplet → Prop} (hd : dstOk n o.dst = true) (hr : ∀ δ w, (execOp (ev δ ρ) o).run P w = .ok (.enter f args) w) (hc : SC P W0 f args σ R)
   (h : ∀ v σ', R v σ' → K (putF ρ o.dst v) σ') : SO P W0 n Q o ρ σ K := by
 intro w0 K0 a w g1 g2 g3
 unfold Oper.wp
 rw [FSd.eval g1, hr]
 refine (hc w g2).mono ?_
 rintro e w' ⟨v, σ', rfl, hs, hu, hR⟩
 exact ⟨_, _, (FSd.put g1 hd v).fs, hs, g3.trans hu, h v σ' hR⟩

theorem SC.frame {f : FuncId} {args : Array Value} {R : Value → Heaplet → Prop} (τ : Heaplet) (hc : SC P W0 f args σ R) : SC P W0 f args (σ ++ τ) (fun v σ' => ∃ σ1, σ' = σ1 ++ τ ∧ R v σ1) := by
 intro w hs
 refine (hc w hs.left).mono ?_
 rintro e w' ⟨v, σ', rfl, h1, h2, h3⟩
 exact ⟨v, σ' ++ τ, rfl, hs.frame h1 h2, h2.frame_keys, σ', rfl, h3⟩

theorem SC.mono {f : FuncId} {args : Array Value} {R R' : Value → Heaplet → Prop} (hc : SC P W0 f args σ R) (h : ∀ v σ, R v σ → R' v σ) : SC P W0 f args σ R' := by
 intro w hs
 refine (hc w hs).mono ?_
 rintro e w' ⟨v, σ', rfl, h1, h2, h3⟩
 exact ⟨v, σ', rfl, h1, h2, h _ _ h3⟩

theorem SC.perm {f : FuncId} {args : Array Value} {R : Value → Heaplet → Prop} (hc : SC P W0 f args σ' R) (hp : σ.Perm σ') : SC P W0 f args σ R := by
 intro w hs
 refine (hc w (hs.perm hp)).mono ?_
 rintro e w' ⟨v, σ2, rfl, h1, h2, h3⟩
 exact ⟨v, σ2, rfl, h1, ⟨h2.size, fun b hb hn => h2.frame b hb (fun h => hn (keys_perm hp b h)), fun b hb => (h2.kin b hb).imp (keys_perm hp b) id⟩, h3⟩

inductive Gs where
  | nil
  | at (g cap : Nat)

def Gs.addr : Gs → Option Addr
 | .nil => none
 | .at g _ => some ⟨g, 0, none⟩
def Gs.cap : Gs → Nat
 | .nil => 0
 | .at _ c => c
def Gs.blk : Gs → Nat
 | .nil => 0
 | .at g _ => g
def Gs.val (s : Gs) (n : Nat) : Value := .slice s.addr n s.cap

def Gs.ent (e : TypeId) (size : Nat) : Gs → List Value → Heaplet
 | .nil, _ => []
 | .at g cap, xs => [(g, .cells e (cap * size) xs)]

def Gs.ok (size n : Nat) : Gs → List Value → Prop
 | .nil, xs => n = 0 ∧ xs = []
 | .at _ cap, xs => n ≤ cap ∧ cap ≤ maxLen ∧ xs.length = n * size

theorem Gs.owns {w : World} {e : TypeId} {size k : Nat} {s : Gs} {xs : List Value} {τ : Heaplet} (h : Sat W0 w (s.ent e size xs ++ τ)) (hk : s.ok size k xs) : w.ownsRow W0.heap.size e size (s.val k) k xs := by
 cases s with
 | nil =>
   obtain ⟨rfl, rfl⟩ := hk
   exact ⟨by simp, .inl ⟨rfl, rfl⟩⟩
 | «at» g cap =>
   obtain ⟨h1, h2, h3⟩ := hk
   obtain ⟨hb, C, hC, hN, hp⟩ := h.has (g, .cells e (cap * size) xs) (by simp [Gs.ent])
   refine ⟨h3, .inr ⟨g, cap, C, rfl, hb, hC, h1, h2, hN, ?_⟩⟩
   apply List.ext_getElem?
   intro i
   by_cases hi : i < k * size
   · have hx : i < xs.length := by rw [h3]; exact hi
     rw [List.getElem?_take_of_lt hi, List.getElem?_eq_getElem hx]
     have := hp i xs[i] (List.getElem?_eq_getElem hx)
     simpa using this
   · rw [List.getElem?_eq_none (by rw [List.length_take]; exact Nat.le_trans (Nat.min_le_left _ _) (Nat.le_of_not_lt hi)), List.getElem?_eq_none (by omega)]

theorem Gs.addr_of_ne {s : Gs} (h : s ≠ .nil) : s.addr = some ⟨s.blk, 0, none⟩ := by
 cases s with
 | nil => exact absurd rfl h
 | «at» g c => rfl
theorem Gs.ok.ne {s : Gs} {size n : Nat} {xs : List Value} (h : s.ok size n xs) (hn : 0 < n) : s ≠ .nil := by
 rintro rfl
 have := h.1
 omega
theorem gs_slice {s : Gs} {n c : Nat} (h : s ≠ .nil) : Value.slice s.addr n c = .slice (some ⟨s.blk, 0, none⟩) n c := by rw [Gs.addr_of_ne h]
theorem Gs.mem {s : Gs} {e : TypeId} {size : Nat} {xs : List Value} (h : s ≠ .nil) : (s.blk, Blk.cells e (s.cap * size) xs) ∈ s.ent e size xs := by
 cases s with
 | nil => exact absurd rfl h
 | «at» g c => simp [Gs.ent, Gs.blk, Gs.cap]
theorem Gs.ok.len {s : Gs} {size n : Nat} {xs : List Value} (h : s.ok size n xs) : xs.length = n * size := by
 cases s with
 | nil => obtain ⟨rfl, rfl⟩ := h; simp
 | «at» g c => exact h.2.2
theorem Gs.ok.relen {s : Gs} {size n : Nat} {xs ys : List Value} (h : s.ok size n xs) (hl : ys.length = xs.length) : s.ok size n ys := by
 cases s with
 | nil => exact ⟨h.1, List.eq_nil_of_length_eq_zero (by rw [hl, h.2]; rfl)⟩
 | «at» g c => exact ⟨h.1, h.2.1, by rw [hl]; exact h.2.2⟩
theorem Gs.cell {s : Gs} {e : TypeId} {size n : Nat} {xs : List Value} (h : s.ok size n xs) (hm : ∀ x ∈ s.ent e size xs, x ∈ σ) {off : Nat} {v : Value} (hv : xs[off]? = some v) : Cell W0 σ s.blk off v := by
 have hne : s ≠ .nil := by
   rintro rfl
   rw [h.2] at hv
   simp at hv
 exact Cell.own (hm _ (Gs.mem hne)) hv

theorem Gs.src {s : Gs} {e : TypeId} {size k : Nat} {xs : List Value} (h : s.ok size k xs) (hm : ∀ x ∈ s.ent e size xs, x ∈ σ) : k = 0 ∨ ∃ b off, s.addr = some ⟨b, off, none⟩ ∧ Cells W0 σ b off xs := by
 by_cases hk : k = 0
 · exact .inl hk
 · refine .inr ⟨s.blk, 0, Gs.addr_of_ne (Gs.ok.ne h (by omega)), fun i v hi => ?_⟩
   rw [Nat.zero_add]
   exact Gs.cell h hm hi

theorem O_append (s : Gs) (k m : Nat) (A : Option Addr) (c : Nat) (xs news ys : List Value) (hys : xs ++ news = ys) {e t ty : TypeId} {size bytes : Nat} {z : Value} {τ : Heaplet} {dst : Option Tmp} {sx x : Operand} {pos : String} {after : Array Edge} {gd : Option (Nat × Bool)}
   (hs : ∀ δ, ev δ ρ sx = s.val k) (hx : ∀ δ, ev δ ρ x = .slice A m c) (ht : P.underlying t = some (.slice e)) (hi : (P.info? e).map (fun i => (i.zero, i.size, i.bytes)) = some (some z, size, bytes))
   (hz : z.cells.size = size) (hsz : 0 < size) (hk : s.ok size k xs) (hl : news.length = m * size) (hnews : m = 0 ∨ ∃ b off, A = some ⟨b, off, none⟩ ∧ Cells W0 (s.ent e size xs ++ τ) b off news) (h1 : news.all (·.oneCell') = true)
   (hby : (k + m) * bytes ≤ 140737488355328) (hbp : 0 < bytes) (hd : dstOk n dst = true)
   (h : ∀ s' : Gs, s'.ok size (k + m) ys → (∀ b ∈ keys (s'.ent e size ys), W0.heap.size ≤ b ∧ b ∉ keys τ) →
     K (putF ρ dst (s'.val (k + m))) (s'.ent e size ys ++ τ)) :
   SO P W0 n Q ⟨dst, .call ⟨.builtin .append, #[sx, x], #[t, t]⟩, ty, pos, after, gd⟩ ρ (s.ent e size xs ++ τ) K := by
 subst hys
 intro w0 K0 a w g1 g2 g3
 by_cases hm : m = 0
 · subst hm
   have hn0 : news = [] := List.eq_nil_of_length_eq_zero (by simpa using hl)
   subst hn0
   obtain ⟨i0, hi0, hzz⟩ := Option.map_eq_some_iff.1 hi
   have hsz0 : k ≤ s.cap := by cases s with
     | nil => exact Nat.le_of_eq hk.1
     | «at» g cc => exact hk.1
   have hrun : (execOp (ev (slot a) ρ) ⟨dst, .call ⟨.builtin .append, #[sx, x], #[t, t]⟩, ty, pos, after, gd⟩).run P w = .ok (.value (s.val k)) w := by
     have hfc : (Builtin.firstCells i0.size 0 (.slice A 0 c)).run P w = .ok #[] w := by
       cases A with
       | none => rfl
       | some a => simp [Builtin.firstCells, loadCells, loadCellsFrom]
     have : (Builtin.append_ #[t, t] ty #[s.val k, .slice A 0 c]).run P w = .ok (s.val k) w := by
       simp only [Builtin.append_, Gs.val]
       simp [underlying, program, Sem.run, ht, sizeOf, typeInfo, hi0, Builtin.lenOf, hsz0, hfc, storeCells]
       cases s.addr <;> simp [storeCells]
     simp only [execOp, resolve, List.map_toArray, List.map_cons, List.map_nil, hs, hx, invoke, builtin, Sem.run_bind, Sem.run_pure, Result.andThen_ok, this]
   unfold Oper.wp
   rw [FSd.eval g1, hrun]
   have h' := h s (by simpa using hk) (fun b hb => ?_)
   · simp only [List.append_nil, Nat.add_zero] at h'
     exact ⟨_, _, (FSd.put g1 hd _).fs, g2, g3, h'⟩
   · simp only [List.append_nil] at hb
     obtain ⟨q, hq, rfl⟩ := List.mem_map.1 hb
     refine ⟨(g2.has q (by simp [hq])).1, fun hm => ?_⟩
     have hn := g2.nodup
     simp only [keys, List.map_append] at hn
     exact (List.nodup_append.1 hn).2.2 _ hb _ hm rfl
 rcases hnews with h0 | ⟨b, off, rfl, hnews⟩
 · exact absurd h0 hm
 obtain ⟨i0, hi0, hzz⟩ := Option.map_eq_some_iff.1 hi
 simp only [Prod.mk.injEq] at hzz
 have hle : k + m ≤ 140737488355328 := Nat.le_trans (Nat.le_mul_of_pos_right _ hbp) hby
 obtain ⟨v', w', hr, hown, hgr, hnil, hat⟩ := run_append_own_at (P := P) w W0.heap.size t ty e i0 z size bytes ht hi0 hzz.1 hzz.2.1 hzz.2.2 hz hsz (s.val k) k xs (Gs.owns g2 hk) ⟨b, off, none⟩ m c news hl
   (fun j u hu => by rw [Addr.add_mid]; exact g2.cell (hnews j u hu)) (fun u hu => List.all_eq_true.1 h1 u hu) (by simp only [maxLen]; omega) hby g2.below.size
 have hrun : (execOp (ev (slot a) ρ) ⟨dst, .call ⟨.builtin .append, #[sx, x], #[t, t]⟩, ty, pos, after, gd⟩).run P w = .ok (.value v') w' := by
   simp only [execOp, resolve, List.map_toArray, List.map_cons, List.map_nil, hs, hx, invoke, builtin, Sem.run_bind, Sem.run_pure, Result.andThen_ok, hr]
 unfold Oper.wp
 rw [FSd.eval g1, hrun]
 simp only [Oper.upon]
 rcases hown.2 with ⟨rfl, h0⟩ | ⟨g, cap, cur, rfl, hb, hh, hc1, hc2, hsize, htake⟩
 · omega
 have hkey : g ∈ keys (s.ent e size xs) ∨ g = w.heap.size := by
   cases s with
   | nil => simp [Gs.val, Gs.addr, Value.ownBlock] at hat; exact .inr hat
   | «at» g' cap' => simp [Gs.val, Gs.addr, Value.ownBlock, Gs.ent, keys] at hat ⊢; exact hat
 have hlt : ∀ q ∈ (s.ent e size xs ++ τ), q.1 < w.heap.size := fun q hq => (g2.has q hq).2.lt
 have hnt : g ∉ keys τ := by
   intro hm
   obtain ⟨q, hq, rfl⟩ := List.mem_map.1 hm
   rcases hkey with h2 | h2
   · have hn := g2.nodup
     simp only [keys, List.map_append] at hn
     exact (List.nodup_append.1 hn).2.2 _ h2 _ (List.mem_map.2 ⟨q, hq, rfl⟩) rfl
   · have := hlt q (by simp [hq])
     omega
 have hblock : ∀ j, j < w.heap.size → j ∉ keys (s.ent e size xs) → w'.heap[j]? = w.heap[j]? := by
   intro j hj hn
   refine hgr.block j hj ?_
   cases s with
   | nil => simp [Gs.val, Gs.addr, Value.ownBlock]
   | «at» g' cap' => simp only [Gs.ent, keys, List.map_cons, List.map_nil, List.mem_singleton] at hn; simp [Gs.val, Gs.addr, Value.ownBlock, hn]
 have hs' : Sat W0 w' ((g, .cells e (cap * size) (xs ++ news)) :: τ) := by
   refine ⟨g2.below.trans ⟨hgr.os, hgr.tape, hgr.output, hgr.size, fun j hj => hblock j (Nat.lt_of_lt_of_le hj g2.below.size) (fun hm => ?_)⟩, ?_, fun q hq => ?_⟩
   · obtain ⟨q, hq, rfl⟩ := List.mem_map.1 hm
     have := (g2.has q (by simp [hq])).1
     omega
   · simp only [keys, List.map_cons, List.nodup_cons]
     refine ⟨hnt, ?_⟩
     have hn := g2.nodup
     simp only [keys, List.map_append] at hn
     exact (List.nodup_append.1 hn).2.1
   · rcases List.mem_cons.1 hq with rfl | hq
     · refine ⟨hb, cur, hh, hsize, fun i v hv => ?_⟩
       rw [← htake] at hv
       have hi : i < (k + m) * size := by
         have := (List.getElem?_eq_some_iff.1 hv).1
         simp at this
         omega
       rw [List.getElem?_take_of_lt hi] at hv
       simpa using hv
     · have h2 := g2.has q (by simp [hq])
       refine ⟨h2.1, h2.2.of_block (hblock _ h2.2.lt (fun hm => ?_))⟩
       have hn := g2.nodup
       simp only [keys, List.map_append] at hn
       exact (List.nodup_append.1 hn).2.2 _ hm _ (List.mem_map.2 ⟨q, hq, rfl⟩) rfl
 refine ⟨_, _, (FSd.put g1 hd _).fs, hs', g3.trans ⟨hgr.size, fun j hj hn => hblock j hj (fun h => hn (by simp only [keys, List.map_append] at *; exact List.mem_append.2 (.inl h))), fun j hj => ?_⟩,
   h (.at g cap) ⟨hc1, hc2, hown.1⟩ (fun b hb' => by simp only [Gs.ent, keys, List.map_cons, List.map_nil, List.mem_singleton] at hb'; subst hb'; exact ⟨hb, hnt⟩)⟩
 simp only [keys, List.map_cons, List.mem_cons, List.map_append, List.mem_append] at *
 rcases hj with rfl | hj
 · rcases hkey with h2 | h2
   · exact .inl (.inl h2)
   · exact .inr (by omega)
 · exact .inl (.inr hj)

def resF (fn : Func) (δ : Nat → Value) (ρ : Fr) : Option Value :=
 match fn.results.toList.mapM (fun | .tmp t => some (look δ ρ t) | .cell _ _ => (none : Option Value)) with
 | some [v] => some v
 | some vs => some (.tuple vs.toArray)
 | none => none

def resS (a : Act) : ResultVar → Sem Value
 | .tmp t => pure (a.tmps.getD t undef)
 | .cell c t => do loadVar t (← asAddr (a.tmps.getD c undef))

theorem results_eq (fn : Func) (a : Act) : results fn a.tmps = (do let vs ← fn.results.mapM (resS a); pure (if h : vs.size = 1 then vs[0] else .tuple vs)) := by
 unfold results
 congr 1

theorem results_run {fn : Func} {δ : Nat → Value} {a : Act} {v : Value} (hf : FSd δ n a ρ) (h : resF fn δ ρ = some v) (w : World) : (results fn a.tmps).run P w = .ok v w := by
 have key : ∀ (l : List ResultVar) (vs : List Value), l.mapM (fun | .tmp t => some (look δ ρ t) | .cell _ _ => (none : Option Value)) = some vs →
     Sem.run P (l.mapM (resS a)) w = .ok vs w := by
   intro l
   induction l with
   | nil => intro vs hv; simp at hv; subst hv; simp
   | cons r l ih =>
     intro vs hv
     cases r with
     | cell c t => simp at hv
     | tmp t =>
       simp only [List.mapM_cons, Option.bind_eq_bind, Option.bind_some, Option.bind_eq_some_iff, Option.pure_def, Option.some.injEq] at hv
       obtain ⟨vs', hv', rfl⟩ := hv
       have := ih vs' hv'
       simp only [List.mapM_cons, Sem.run_bind, resS, Sem.run_pure, Result.andThen_ok]
       rw [this, hf.at_ t]; rfl
 unfold resF at h
 cases hm : fn.results.toList.mapM (fun | .tmp t => some (look δ ρ t) | .cell _ _ => (none : Option Value)) with
 | none => rw [hm] at h; cases h
 | some vs =>
   rw [hm] at h
   have hk := key _ _ hm
   rw [results_eq]
   have hk2 : Sem.run P (fn.results.mapM (resS a)) w = .ok vs.toArray w := by
     rw [show fn.results = fn.results.toList.toArray by simp, List.mapM_toArray, Sem.run_map, hk]
     rfl
   simp only [Sem.run_bind, hk2, Result.andThen_ok, Sem.run_pure]
   cases vs with
   | nil => simp at h; subst h; rfl
   | cons x r =>
     cases r with
     | nil => simp at h; subst h; rfl
     | cons y r => simp at h; subst h; simp

def resC (P : Program) (W0 : World) (σ : Heaplet) (δ : Nat → Value) (ρ : Fr) : ResultVar → Value → Prop
 | .tmp t, v => look δ ρ t = v
 | .cell c t, v => ∃ b off, look δ ρ c = .pointer (some ⟨b, off, none⟩) ∧ ((∃ vs : List Value, aggN P t = some vs.length ∧ Cells W0 σ b off vs ∧ v = .agg vs.toArray) ∨ (notAgg P t = true ∧ Cell W0 σ b off v))
inductive ResL (P : Program) (W0 : World) (σ : Heaplet) (δ : Nat → Value) (ρ : Fr) : List ResultVar → List Value → Prop where
  | nil : ResL P W0 σ δ ρ [] []
  | cons {r : ResultVar} {v : Value} {rs : List ResultVar} {vs : List Value} : resC P W0 σ δ ρ r v → ResL P W0 σ δ ρ rs vs → ResL P W0 σ δ ρ (r :: rs) (v :: vs)
def tupV : List Value → Value
 | [v] => v
 | vs => .tuple vs.toArray
theorem results_runC {fn : Func} {δ : Nat → Value} {a : Act} {w : World} (hf : FSd δ n a ρ) (hs : Sat W0 w σ) {vs : List Value} (h : ResL P W0 σ δ ρ fn.results.toList vs) : (results fn a.tmps).run P w = .ok (tupV vs) w := by
 have key : ∀ (l : List ResultVar) (vs : List Value), ResL P W0 σ δ ρ l vs → Sem.run P (l.mapM (resS a)) w = .ok vs w := by
   intro l vs h
   induction h with
   | nil => simp
   | cons h1 h2 ih =>
     rename_i r v rs vs
     have h3 : (resS a r).run P w = .ok v w := by
       cases r with
       | tmp t =>
         simp only [resC] at h1
         simp only [resS, Sem.run_pure, ← h1, hf.at_ t]; rfl
       | cell c t =>
         obtain ⟨b, off, hp, h1⟩ := h1
         have hp' : a.tmps.getD c undef = .pointer (some ⟨b, off, none⟩) := by rw [← hp, hf.at_ c]; rfl
         have hl : (loadVar t ⟨b, off, none⟩).run P w = .ok v w := by
           rcases h1 with ⟨vs, ht, hc, rfl⟩ | ⟨ht, hc⟩
           · have hr : w.rangeAt b off vs := fun j v hv => hs.cell (hc j v hv)
             unfold aggN at ht
             cases hu : P.underlying t with
             | none => rw [hu] at ht; cases ht
             | some d =>
               rw [hu] at ht
               refine run_loadVar_mid w b off t vs d hr hu ?_ ?_
               · cases d <;> first | rfl | (cases ht; done)
               · cases d <;> first | exact ht | (cases ht; done)
           · have := run_load_cell (P := P) ht (hs.cell hc)
             simpa [Instr.loadAt, Instr.sureAddr] using this
         simp only [resS, hp', asAddr, Sem.run_bind, Sem.run_pure, Result.andThen_ok, hl]
     simp only [List.mapM_cons, Sem.run_bind, h3, Sem.run_pure, Result.andThen_ok, ih]
 have hk := key _ _ h
 rw [results_eq]
 have hk2 : Sem.run P (fn.results.mapM (resS a)) w = .ok vs.toArray w := by
   rw [show fn.results = fn.results.toList.toArray by simp, List.mapM_toArray, Sem.run_map, hk]
   rfl
 simp only [Sem.run_bind, hk2, Result.andThen_ok, Sem.run_pure]
 cases vs with
 | nil => rfl
 | cons x r =>
   cases r with
   | nil => rfl
   | cons y r => simp [tupV]

def bodyQ (P : Program) (W0 : World) (fn : Func) (R : Value → Heaplet → Prop) : SQ
 | .normal, ρ, σ | .ret, ρ, σ => ∃ v, ((∀ δ, resF fn δ ρ = some v) ∨ ∃ vs, v = tupV vs ∧ ∀ δ, ResL P W0 σ δ ρ fn.results.toList vs) ∧ R v σ
 | _, _, _ => False

def argF : Nat → List Value → Fr
 | _, [] => []
 | k, v :: r => (k, v) :: argF (k + 1) r

theorem look_argF {δ : Nat → Value} : ∀ (l : List Value) (k t : Nat), look δ (argF k l) t = if k ≤ t ∧ t < k + l.length then l.getD (t - k) undef else δ t
 | [], k, t => by simp [argF, look]; omega
 | v :: r, k, t => by
   simp only [argF, look, look_argF r (k + 1) t]
   by_cases h : k = t
   · subst h; simp
   · have h1 : Nat.beq k t = false := by
       cases hb : Nat.beq k t with
       | false => rfl
       | true => exact absurd (Nat.eq_of_beq_eq_true hb) h
     rw [h1, cond_false]
     by_cases h2 : k ≤ t ∧ t < k + (v :: r).length
     · rw [if_pos h2, if_pos (by simp at h2; omega), show t - k = (t - (k + 1)) + 1 by omega]
       simp
     · rw [if_neg h2, if_neg (by simp at h2; omega)]

theorem SC_body {f : FuncId} {fn : Func} {c : Code} {args : Array Value} {R : Value → Heaplet → Prop} (hf : P.funcs[f]? = some fn) (hb : fn.body = some c) (hn : (args ++ Array.replicate (fn.ntmps - args.size) undef).size = n)
   (hρ : argF 0 args.toList = ρ) (h : SW P W0 n c (bodyQ P W0 fn R) ρ σ) : SC P W0 f args σ R := by
 intro w hs
 refine calls_of_wp hf hb ?_
 subst hρ
 have hfs : FS n { tmps := args ++ Array.replicate (fn.ntmps - args.size) undef, defers := [] } (argF 0 args.toList) := by
   refine ⟨rfl, hn, fun t => ?_⟩
   rw [look_argF]
   simp only [Nat.zero_le, true_and, Nat.zero_add, Nat.sub_zero, Array.length_toList]
   split
   · rename_i ht
     simp only [slot, Array.getD_eq_getD_getElem?]
     rw [Array.getElem?_append_left ht]
     simp [List.getD_eq_getElem?_getD]
   · rfl
 refine wp_mono (h w (keys σ) _ w hfs hs (Upd.refl _ _)) fun e a w' hl => ?_
 obtain ⟨ρ', σ', g1, g2, g3, g4⟩ := hl
 cases e with
 | normal =>
   obtain ⟨v, hv | ⟨vs, rfl, hv⟩, hR⟩ := g4
   · exact ⟨g1.defers, v, results_run g1 (hv _) w', v, σ', rfl, g2, g3, hR⟩
   · exact ⟨g1.defers, _, results_runC g1 g2 (hv _), _, σ', rfl, g2, g3, hR⟩
 | ret =>
   obtain ⟨v, hv | ⟨vs, rfl, hv⟩, hR⟩ := g4
   · exact ⟨g1.defers, v, results_run g1 (hv _) w', v, σ', rfl, g2, g3, hR⟩
   · exact ⟨g1.defers, _, results_runC g1 g2 (hv _), _, σ', rfl, g2, g3, hR⟩
 | _ => exact g4.elim

theorem body_end {fn : Func} {R : Value → Heaplet → Prop} (v : Value) (hv : ∀ δ, resF fn δ ρ = some v) (h : R v σ) : bodyQ P W0 fn R .ret ρ σ := ⟨v, .inl hv, h⟩
theorem body_end' {fn : Func} {R : Value → Heaplet → Prop} (v : Value) (hv : ∀ δ, resF fn δ ρ = some v) (h : R v σ) : bodyQ P W0 fn R .normal ρ σ := ⟨v, .inl hv, h⟩
theorem body_endC {fn : Func} {R : Value → Heaplet → Prop} (vs : List Value) (hv : ∀ δ, ResL P W0 σ δ ρ fn.results.toList vs) (h : R (tupV vs) σ) : bodyQ P W0 fn R .ret ρ σ := ⟨_, .inr ⟨vs, rfl, hv⟩, h⟩
theorem SL_sig {l : List Oper} (σ' : Heaplet) (e : σ = σ') (h : SL P W0 n ops Q l ρ σ') : SL P W0 n ops Q l ρ σ := e ▸ h
theorem SW_sig {c : Code} (σ' : Heaplet) (e : σ = σ') (h : SW P W0 n c Q ρ σ') : SW P W0 n c Q ρ σ := e ▸ h

theorem n_then {K : Fr → Heaplet → Prop} (h : K ρ σ) : thenQ K Q .normal ρ σ := h
theorem n_in {id : Nat} (h : Q .normal ρ σ) : inQ id Q .normal ρ σ := h
theorem x_then {K : Fr → Heaplet → Prop} {id : Nat} (h : Q (.exit id) ρ σ) : thenQ K Q (.exit id) ρ σ := h
theorem x_in {id : Nat} (h : Q .normal ρ σ) : inQ id Q (.exit id) ρ σ := by simp only [inQ, if_true]; exact h
theorem x_pass {id id' : Nat} (hne : id' ≠ id) (h : Q (.exit id') ρ σ) : inQ id Q (.exit id') ρ σ := by simp only [inQ, if_neg hne]; exact h
theorem r_then {K : Fr → Heaplet → Prop} (h : Q .ret ρ σ) : thenQ K Q .ret ρ σ := h
theorem r_in {id : Nat} (h : Q .ret ρ σ) : inQ id Q .ret ρ σ := h

theorem perm_z {e : Nat × Blk} {r : Heaplet} : (e :: r).Perm (e :: r) := List.Perm.refl _
theorem perm_c {a e : Nat × Blk} {l r : Heaplet} (h : l.Perm (e :: r)) : (a :: l).Perm (e :: a :: r) := (h.cons a).trans (List.Perm.swap e a r)
theorem perm_a {c l r : Heaplet} {e : Nat × Blk} (h : l.Perm (e :: r)) : (c ++ l).Perm (e :: (c ++ r)) := (h.append_left c).trans List.perm_middle
theorem perm_cz {c r : Heaplet} : (c ++ r).Perm (c ++ r) := List.Perm.refl _
theorem perm_cc {a : Nat × Blk} {c l r : Heaplet} (h : l.Perm (c ++ r)) : (a :: l).Perm (c ++ (a :: r)) := (h.cons a).trans List.perm_middle.symm
theorem perm_ca {c d l r : Heaplet} (h : l.Perm (c ++ r)) : (d ++ l).Perm (c ++ (d ++ r)) := by
 refine (h.append_left d).trans ?_
 rw [← List.append_assoc, ← List.append_assoc]
 exact List.perm_append_comm.append_right r

theorem mem_c {a e : Nat × Blk} {l : Heaplet} (h : e ∈ l) : e ∈ a :: l := List.mem_cons_of_mem _ h
theorem mem_z {e : Nat × Blk} {l : Heaplet} : e ∈ e :: l := List.mem_cons_self
theorem mem_a {e : Nat × Blk} {c l : Heaplet} (h : e ∈ l) : e ∈ c ++ l := List.mem_append_right _ h
theorem mem_h {e : Nat × Blk} {c l : Heaplet} (h : e ∈ c) : e ∈ c ++ l := List.mem_append_left _ h

theorem Cells.own {b off : Nat} {vs : List Value} {e : TypeId} {N : Nat} {cs : List Value} (h : (b, Blk.cells e N cs) ∈ σ) (hv : (cs.drop off).take vs.length = vs) : Cells W0 σ b off vs := by
 intro i v hi
 refine Cell.own h ?_
 rw [← hv] at hi
 have hlt : i < vs.length := by
   have := (List.getElem?_eq_some_iff.1 hi).1
   simp at this
   omega
 rw [List.getElem?_take_of_lt hlt, List.getElem?_drop] at hi
 exact hi

abbrev RD := List (Nat × Nat × Value)
def Rd (r : RD) (w : World) : Prop := ∀ e ∈ r, w.cell? ⟨e.1, e.2.1, none⟩ = some e.2.2

def anyN (P : Program) (ops : Array Oper) (Q : Exit → Act → World → Prop) (S : World → Prop) (need : Nat → Bool) : Nat → Array Bool → Act → World → Prop
 | 0, li, a, w => Region.ready .any ops li = [] ∧ Q .normal a w
 | fuel + 1, li, a, w => (Region.ready .any ops li = [] → Q .normal a w) ∧
   ∀ i ∈ Region.ready .any ops li, wpOp P ops Q i (fun a' w' => (need i = true → S w → S w') ∧ anyN P ops Q S need fuel (li.setIfInBounds i true) a' w') a w

theorem any_of_N {Q : Exit → Act → World → Prop} {S : World → Prop} {need : Nat → Bool} : ∀ (fuel : Nat) (li : Array Bool) (a : Act) (w : World), anyN P ops Q S need fuel li a w → wpAny P .any ops Q fuel li a w
 | 0, _, _, _, h => h
 | fuel + 1, _, _, _, h => ⟨h.1, fun i hi => wpOp_mono (fun a' w' h' => any_of_N fuel _ a' w' h'.2) (h.2 i hi)⟩

theorem anyN_first {Q : Exit → Act → World → Prop} {S T : World → Prop} {need : Nat → Bool} {i : Nat} {oi : Oper} {v : Value} (hi : ops[i]? = some oi) (hsel : ∀ (j : Nat) (o : Oper) cs b, ops[j]? = some o → o.op ≠ .select cs b)
   (hQ : ∀ c a w, Q (.panic c) (a.put oi.dst v) w → Q (.panic c) a w)
   (hT : ∀ j oj, ops[j]? = some oj → j ≠ i → (∀ e ∈ oj.after, Region.binds .any e = true → e.on ≠ i) → ∀ w w', T w → (need j = true → S w → S w') → T w') :
   ∀ (fuel : Nat) (li : Array Bool) (a : Act) (w : World),
     (∀ j oj, ops[j]? = some oj → j ≠ i → li.getD j true = false → (∀ e ∈ oj.after, Region.binds .any e = true → e.on ≠ i) → oi.apart ops oj = true) →
     i ∈ Region.ready .any ops li → YieldsIf P ops T oi v a → T w →
     anyN P ops Q S need fuel (li.setIfInBounds i true) (a.put oi.dst v) w → anyN P ops Q S need (fuel + 1) li a w := by
 intro fuel
 induction fuel with
 | zero =>
   intro li a w _ hr hy hS H
   refine ⟨fun h => (by rw [h] at hr; cases hr), fun j hj => ?_⟩
   by_cases hji : j = i
   · subst hji; exact hy.wpOp hi hS ⟨fun _ h => h, H⟩
   · have := ready_mono hj hji
     rw [H.1] at this
     cases this
 | succ fuel ih =>
   intro li a w hfree hr hy hS H
   refine ⟨fun h => (by rw [h] at hr; cases hr), fun j hj => ?_⟩
   by_cases hji : j = i
   · subst hji; exact hy.wpOp hi hS ⟨fun _ h => h, H⟩
   · have h1 := H.2 j (ready_mono hj hji)
     obtain ⟨hjun, oj, hoj, hall⟩ := mem_ready.1 hj
     have hnot : ∀ e ∈ oj.after, Region.binds .any e = true → e.on ≠ i := fun e he hb heq => by
       have h1 := hall e he hb
       have h0 := (mem_ready.1 hr).1
       rw [heq] at h1
       rcases Nat.lt_or_ge i li.size with h' | h'
       · simp [h'] at h0 h1; rw [h0] at h1; cases h1
       · simp [Array.getElem?_eq_none h'] at h1
     have h2 := wpOp_putIf hoj (hfree j oj hoj hji hjun hnot) (fun cs b => hsel i oi cs b hi) (fun cs b => hsel j oj cs b hoj) hQ hy h1
     have hfree' : ∀ k ok, ops[k]? = some ok → k ≠ i → (li.setIfInBounds j true).getD k true = false →
         (∀ e ∈ ok.after, Region.binds .any e = true → e.on ≠ i) → oi.apart ops ok = true := fun k ok hk hki hun hno => by
       refine hfree k ok hk hki ?_ hno
       by_cases hjk : j = k
       · subst hjk; exact hjun
       · rw [getD_set_ne true hjk] at hun; exact hun
     refine wpOp_mono (fun a' w' h3 => ⟨h3.2.1, ih (li.setIfInBounds j true) a' w' hfree' (ready_mono hr (Ne.symm hji)) h3.1 (hT j oj hoj hji hnot w w' hS h3.2.1) ?_⟩) h2
     rw [Array.setIfInBounds_comm _ _ hji]
     exact h3.2.2

def SA (P : Program) (W0 : World) (n : Nat) (ops : Array Oper) (Q : SQ) (r : RD) (need : List Nat) (ok : Bool) (fuel : Nat) (li : Array Bool) (ρ : Fr) (σ : Heaplet) : Prop :=
 ∀ w0 K0 a w, FS n a ρ → Sat W0 w σ → Upd w0 w K0 (keys σ) → (ok = true → Rd r w) → anyN P ops (Lift W0 w0 K0 n Q) (Rd r) (fun j => need.contains j) fuel li a w

theorem Sat.rd {w : World} {r : RD} (h : Sat W0 w σ) (hr : ∀ e ∈ r, Cell W0 σ e.1 e.2.1 e.2.2) : Rd r w := fun e he => h.cell (hr e he)

theorem SW_draw {id : Nat} {l : List Oper} (r : RD) (need : List Nat) (hm : P.follows .mixedOrders = true) (hr : ∀ e ∈ r, Cell W0 σ e.1 e.2.1 e.2.2)
   (h : SA P W0 n l.toArray Q r need true l.length (Array.replicate l.length false) ρ σ) : SW P W0 n (.region id l.toArray true) Q ρ σ := by
 intro w0 K0 a w h1 h2 h3
 have h2' : Sat W0 w.drew σ := ⟨h2.below.drew, h2.nodup, fun e he => ⟨(h2.has e he).1, (h2.has e he).2.of_block rfl⟩⟩
 have h3' : Upd w0 w.drew K0 (keys σ) := ⟨h3.size, h3.frame, h3.kin⟩
 refine wp_region_any hm ?_
 have := any_of_N _ _ _ _ (h w0 K0 a w.drew h1 h2' h3' (fun _ => h2'.rd hr))
 simpa using this

theorem SA_take {r : RD} {nd : List Nat} {ok : Bool} {fuel : Nat} {li li' : Array Bool} (i : Nat) (o : Oper) (v : Value) (np : ∀ c ρ σ, Q (.panic c) ρ σ → False) (hi : ops[i]? = some o)
   (hf : (Region.noSelect ops && Region.free .any ops li i && (Region.ready .any ops li).contains i && dstOk n o.dst) = true) (hl : li.setIfInBounds i true = li')
   (hy : (∀ δ, Region.wanted o (yieldF ops n δ ρ) = true) ∧ (∀ δ w, (execOp (ev δ ρ) o).run P w = .ok (.value v) w) ∨ (∀ δ, Region.wanted o (yieldF ops n δ ρ) = false) ∧ v = undef)
   (h : SA P W0 n ops Q r nd ok fuel li' (putF ρ o.dst v) σ) : SA P W0 n ops Q r nd ok (fuel + 1) li ρ σ := by
 intro w0 K0 a w h1 h2 h3 h4
 simp only [Bool.and_eq_true] at hf
 obtain ⟨⟨⟨f1, f2⟩, f3⟩, f4⟩ := hf
 subst hl
 refine anyN_first (T := fun _ => True) hi (Region.noSelect_spec f1) (fun c a' w' hl => ?_) (fun _ _ _ _ _ _ _ _ _ => trivial) fuel li a w (Region.free_spec hi f2) (by simpa using f3) ?_ trivial (h w0 K0 _ w (FSd.put h1 f4 v).fs h2 h3 h4)
 · obtain ⟨_, _, _, _, _, hq⟩ := hl
   exact (np _ _ _ hq).elim
 · unfold YieldsIf
   rw [yielded_eq h1, FSd.eval h1]
   rcases hy with ⟨y1, y2⟩ | ⟨y1, y2⟩
   · exact .inl ⟨y1 _, fun w _ => y2 _ w⟩
   · exact .inr ⟨y1 _, y2⟩

def later (ops : Array Oper) (i : Nat) : List Nat :=
 (List.range ops.size).foldl (fun D j => match ops[j]? with | some oj => if oj.after.any (fun e => Region.binds .any e && (e.on == i || D.contains e.on)) then D ++ [j] else D | none => D) []
def asked (ops : Array Oper) (nd : List Nat) (li : Array Bool) (i : Nat) : Bool :=
 (later ops i).all (fun j => li.getD j true == false && match ops[j]? with | some oj => oj.after.any (fun e => Region.binds .any e && (e.on == i || (later ops i).contains e.on)) | none => false) &&
 (List.range ops.size).all fun j => j == i || nd.contains j || (later ops i).contains j

theorem anyN_first2 {Q : Exit → Act → World → Prop} {S T : World → Prop} {need : Nat → Bool} {i : Nat} {oi : Oper} {v : Value} (D : Nat → Bool) (hi : ops[i]? = some oi) (hsel : ∀ (j : Nat) (o : Oper) cs b, ops[j]? = some o → o.op ≠ .select cs b)
   (hQ : ∀ c a w, Q (.panic c) (a.put oi.dst v) w → Q (.panic c) a w)
   (hD : ∀ j oj, ops[j]? = some oj → D j = true → ∃ e ∈ oj.after, Region.binds .any e = true ∧ (e.on = i ∨ D e.on = true))
   (hT : ∀ j oj, ops[j]? = some oj → j ≠ i → D j = false → ∀ w w', T w → (need j = true → S w → S w') → T w') :
   ∀ (fuel : Nat) (li : Array Bool) (a : Act) (w : World), (∀ j, D j = true → li.getD j true = false) →
     (∀ j oj, ops[j]? = some oj → j ≠ i → li.getD j true = false → (∀ e ∈ oj.after, Region.binds .any e = true → e.on ≠ i) → oi.apart ops oj = true) →
     i ∈ Region.ready .any ops li → YieldsIf P ops T oi v a → T w →
     anyN P ops Q S need fuel (li.setIfInBounds i true) (a.put oi.dst v) w → anyN P ops Q S need (fuel + 1) li a w := by
 intro fuel
 induction fuel with
 | zero =>
   intro li a w _ _ hr hy hS H
   refine ⟨fun h => (by rw [h] at hr; cases hr), fun j hj => ?_⟩
   by_cases hji : j = i
   · subst hji; exact hy.wpOp hi hS ⟨fun _ h => h, H⟩
   · have := ready_mono hj hji
     rw [H.1] at this
     cases this
 | succ fuel ih =>
   intro li a w hDl hfree hr hy hS H
   refine ⟨fun h => (by rw [h] at hr; cases hr), fun j hj => ?_⟩
   by_cases hji : j = i
   · subst hji; exact hy.wpOp hi hS ⟨fun _ h => h, H⟩
   · have h1 := H.2 j (ready_mono hj hji)
     obtain ⟨hjun, oj, hoj, hall⟩ := mem_ready.1 hj
     have hun : ∀ k, li.getD k true = false → ∀ e ∈ oj.after, Region.binds .any e = true → e.on ≠ k := fun k h0 e he hb heq => by
       have h1 := hall e he hb
       rw [heq] at h1
       rcases Nat.lt_or_ge k li.size with h' | h'
       · simp [h'] at h0 h1; rw [h0] at h1; cases h1
       · simp [Array.getElem?_eq_none h'] at h1
     have hnot := hun i (mem_ready.1 hr).1
     have hDj : D j = false := by
       cases hd : D j with
       | false => rfl
       | true =>
         obtain ⟨e, he, hb, h | h⟩ := hD j oj hoj hd
         · exact absurd h (hnot e he hb)
         · exact absurd rfl (hun e.on (hDl _ h) e he hb)
     have h2 := wpOp_putIf hoj (hfree j oj hoj hji hjun hnot) (fun cs b => hsel i oi cs b hi) (fun cs b => hsel j oj cs b hoj) hQ hy h1
     have hfree' : ∀ k ok, ops[k]? = some ok → k ≠ i → (li.setIfInBounds j true).getD k true = false →
         (∀ e ∈ ok.after, Region.binds .any e = true → e.on ≠ i) → oi.apart ops ok = true := fun k ok hk hki hun hno => by
       refine hfree k ok hk hki ?_ hno
       by_cases hjk : j = k
       · subst hjk; exact hjun
       · rw [getD_set_ne true hjk] at hun; exact hun
     have hDl' : ∀ k, D k = true → (li.setIfInBounds j true).getD k true = false := fun k hk => by
       rw [getD_set_ne true (fun e => by subst e; rw [hDj] at hk; cases hk)]; exact hDl k hk
     refine wpOp_mono (fun a' w' h3 => ⟨h3.2.1, ih (li.setIfInBounds j true) a' w' hDl' hfree' (ready_mono hr (Ne.symm hji)) h3.1 (hT j oj hoj hji hDj w w' hS h3.2.1) ?_⟩) h2
     rw [Array.setIfInBounds_comm _ _ hji]
     exact h3.2.2

theorem SA_read {r : RD} {nd : List Nat} {fuel : Nat} {li li' : Array Bool} (i : Nat) (o : Oper) (v : Value) (np : ∀ c ρ σ, Q (.panic c) ρ σ → False) (hi : ops[i]? = some o)
   (hf : (Region.noSelect ops && Region.free .any ops li i && (Region.ready .any ops li).contains i && dstOk n o.dst && asked ops nd li i) = true) (hl : li.setIfInBounds i true = li')
   (hw : ∀ δ, Region.wanted o (yieldF ops n δ ρ) = true) (hy : ∀ δ w, Rd r w → (execOp (ev δ ρ) o).run P w = .ok (.value v) w)
   (h : SA P W0 n ops Q r nd true fuel li' (putF ρ o.dst v) σ) : SA P W0 n ops Q r nd true (fuel + 1) li ρ σ := by
 intro w0 K0 a w h1 h2 h3 h4
 simp only [Bool.and_eq_true] at hf
 obtain ⟨⟨⟨⟨f1, f2⟩, f3⟩, f4⟩, f6⟩ := hf
 subst hl
 simp only [asked, Bool.and_eq_true, List.all_eq_true, beq_iff_eq] at f6
 refine anyN_first2 (T := Rd r) (fun j => (later ops i).contains j) hi (Region.noSelect_spec f1) (fun c a' w' hl => ?_) (fun j oj hj hd => ?_) (fun j oj hj hne hd w1 w' hS1 hS => ?_) fuel li a w (fun j hd => ?_) (Region.free_spec hi f2) (by simpa using f3) ?_ (h4 rfl) (h w0 K0 _ w (FSd.put h1 f4 v).fs h2 h3 h4)
 · obtain ⟨_, _, _, _, _, hq⟩ := hl
   exact (np _ _ _ hq).elim
 · have := (f6.1 j (by simpa using hd)).2
   rw [hj] at this
   obtain ⟨e, he, hb⟩ := Array.any_eq_true'.1 this
   simp only [Bool.and_eq_true, Bool.or_eq_true, beq_iff_eq] at hb
   exact ⟨e, he, hb.1, hb.2⟩
 · have h5 := f6.2 j (List.mem_range.2 (Array.getElem?_eq_some_iff.1 hj).1)
   simp only [Bool.or_eq_true, beq_iff_eq, hne, false_or, hd, Bool.false_eq_true, or_false] at h5
   exact hS h5 hS1
 · exact (f6.1 j (by simpa using hd)).1
 · unfold YieldsIf
   rw [yielded_eq h1, FSd.eval h1]
   exact .inl ⟨hw _, fun w hw => hy _ w hw⟩

theorem Rd_load {w : World} {r : RD} {δ : Nat → Value} {dst : Option Tmp} {t ty : TypeId} {addr : Operand} {pos : String} {after : Array Edge} {gd : Option (Nat × Bool)} (b off : Nat) (v : Value)
   (ha : ev δ ρ addr = .pointer (some ⟨b, off, none⟩)) (ht : notAgg P t = true) (hm : (b, off, v) ∈ r) (hr : Rd r w) :
   (execOp (ev δ ρ) ⟨dst, .load t addr, ty, pos, after, gd⟩).run P w = .ok (.value v) w := by
 simp only [execOp, ha, Sem.run_bind, run_load_cell ht (hr _ hm)]
 rfl

theorem one_of {r : RD} {nd : List Nat} {fuel : Nat} {li : Array Bool} {i : Nat} {ok' : Bool} {w0 : World} {K0 : List Nat} {a : Act} {w : World} (hok : nd.contains i = true ∨ ok' = false) (hi : ops[i]? = some o) (hg : goes ops n ρ o)
   (h : SO P W0 n Q o ρ σ (fun ρ' σ' => (nd.contains i = true → ∀ e ∈ r, Cell W0 σ' e.1 e.2.1 e.2.2) ∧ SA P W0 n ops Q r nd ok' fuel (li.setIfInBounds i true) ρ' σ'))
   (h1 : FS n a ρ) (h2 : Sat W0 w σ) (h3 : Upd w0 w K0 (keys σ)) :
   wpOp P ops (Lift W0 w0 K0 n Q) i (fun a' w' => ((fun j => nd.contains j) i = true → Rd r w → Rd r w') ∧ anyN P ops (Lift W0 w0 K0 n Q) (Rd r) (fun j => nd.contains j) fuel (li.setIfInBounds i true) a' w') a w := by
 unfold wpOp
 simp only [hi]
 rw [yielded_eq h1, if_pos (hg.2 _)]
 refine .inl (Oper.wp_mono (fun a' w' hl => ?_) (h w0 K0 a w h1 h2 h3))
 obtain ⟨ρ', σ', g1, g2, g3, g4, g5⟩ := hl
 refine ⟨fun hn _ => g2.rd (g4 hn), g5 w0 K0 a' w' g1 g2 g3 (fun hk => ?_)⟩
 rcases hok with h | h
 · exact g2.rd (g4 h)
 · rw [h] at hk; cases hk

theorem SA_one {r : RD} {nd : List Nat} {ok : Bool} (ok' : Bool) {fuel : Nat} {li li' : Array Bool} (i : Nat) (o : Oper) (hok : (nd.contains i || !ok') = true) (hi : ops[i]? = some o) (hr : Region.ready .any ops li = [i]) (hg : goes ops n ρ o) (hl : li.setIfInBounds i true = li')
   (h : SO P W0 n Q o ρ σ (fun ρ' σ' => (nd.contains i = true → ∀ e ∈ r, Cell W0 σ' e.1 e.2.1 e.2.2) ∧ SA P W0 n ops Q r nd ok' fuel li' ρ' σ')) : SA P W0 n ops Q r nd ok (fuel + 1) li ρ σ := by
 intro w0 K0 a w h1 h2 h3 h4
 subst hl
 refine ⟨fun h0 => (by rw [hr] at h0; cases h0), ?_⟩
 rw [hr]
 intro j hj
 simp only [List.mem_singleton] at hj
 subst hj
 exact one_of (by simpa using hok) hi hg h h1 h2 h3

theorem SO_perm {K : Fr → Heaplet → Prop} (σ' : Heaplet) (hp : σ.Perm σ') (h : SO P W0 n Q o ρ σ' K) : SO P W0 n Q o ρ σ K :=
 fun w0 K0 a w h1 h2 h3 => h w0 K0 a w h1 (h2.perm hp) (h3.sub (keys_perm hp))
theorem SA_done {r : RD} {nd : List Nat} {ok : Bool} {fuel : Nat} {li : Array Bool} (hr : Region.ready .any ops li = []) (h : Q .normal ρ σ) : SA P W0 n ops Q r nd ok fuel li ρ σ :=
 fun w0 K0 a w h1 h2 h3 h4 => by
   cases fuel with
   | zero => exact ⟨hr, ρ, σ, h1, h2, h3, h⟩
   | succ f => exact ⟨fun _ => ⟨ρ, σ, h1, h2, h3, h⟩, by rw [hr]; simp⟩

theorem rd_nil : ∀ e ∈ ([] : RD), Cell W0 σ e.1 e.2.1 e.2.2 := fun _ h => nomatch h
theorem rd_cons {b off : Nat} {v : Value} {r : RD} (h : Cell W0 σ b off v) (t : ∀ e ∈ r, Cell W0 σ e.1 e.2.1 e.2.2) : ∀ e ∈ ((b, off, v) :: r), Cell W0 σ e.1 e.2.1 e.2.2 := fun e he => by
 rcases List.mem_cons.1 he with rfl | he
 · exact h
 · exact t e he
theorem cells_nil {b off : Nat} : Cells W0 σ b off [] := fun i v h => by simp at h
theorem cells_cons {b off : Nat} {v : Value} {vs : List Value} (h : Cell W0 σ b off v) (t : Cells W0 σ b (off + 1) vs) : Cells W0 σ b off (v :: vs) := fun i u hu => by
 cases i with
 | zero => simp at hu; subst hu; exact h
 | succ i => have := t i u (by simpa using hu); rwa [show off + 1 + i = off + (i + 1) by omega] at this
def RdM (r : RD) (b off : Nat) (vs : List Value) : Prop := ∀ i v, vs[i]? = some v → (b, off + i, v) ∈ r
theorem rdm_nil {r : RD} {b off : Nat} : RdM r b off [] := fun i v h => by simp at h
theorem rdm_cons {r : RD} {b off : Nat} {v : Value} {vs : List Value} (h : (b, off, v) ∈ r) (t : RdM r b (off + 1) vs) : RdM r b off (v :: vs) := fun i u hu => by
 cases i with
 | zero => simp at hu; subst hu; exact h
 | succ i => have := t i u (by simpa using hu); rwa [show off + 1 + i = off + (i + 1) by omega] at this
theorem Rd_loads {w : World} {r : RD} {δ : Nat → Value} {dst : Option Tmp} {t ty : TypeId} {addr : Operand} {pos : String} {after : Array Edge} {gd : Option (Nat × Bool)} (b off : Nat) (vs : List Value)
   (ha : ev δ ρ addr = .pointer (some ⟨b, off, none⟩)) (ht : aggN P t = some vs.length) (hm : RdM r b off vs) (hr : Rd r w) :
   (execOp (ev δ ρ) ⟨dst, .load t addr, ty, pos, after, gd⟩).run P w = .ok (.value (.agg vs.toArray)) w := by
 have hr' : w.rangeAt b off vs := fun j v hv => hr _ (hm j v hv)
 have hl : (Instr.loadAt t (.pointer (some ⟨b, off, none⟩))).run P w = .ok (.agg vs.toArray) w := by
   unfold aggN at ht
   cases hu : P.underlying t with
   | none => rw [hu] at ht; cases ht
   | some d =>
     rw [hu] at ht
     cases d <;> first | (cases ht; done) | exact run_loadAt_mid w b off t vs _ hr' hu rfl ht
 simp only [execOp, ha, Sem.run_bind, hl]
 rfl

theorem run_indexAddr {w : World} {δ : Nat → Value} (i : Int) (off' b off len cap : Nat) (k : IntKind) (size : Nat) {dst : Option Tmp} {t ty e : TypeId} {x ix : Operand} {pos : String} {after : Array Edge} {gd : Option (Nat × Bool)}
   (ht : P.underlying t = some (.slice e)) (hs : (P.info? e).map (·.size) = some size) (hx : ∀ δ, ev δ ρ x = .slice (some ⟨b, off, none⟩) len cap) (hi : ∀ δ, ev δ ρ ix = .int k i) (h0 : 0 ≤ i) (h1 : i < len)
   (he : off + i.toNat * size = off') : (execOp (ev δ ρ) ⟨dst, .indexAddr t x ix, ty, pos, after, gd⟩).run P w = .ok (.value (.pointer (some ⟨b, off', none⟩))) w := by
 subst he
 cases hq : P.info? e with
 | none => simp [hq] at hs
 | some inf =>
   have hsz : inf.size = size := by simpa [hq] using hs
   have ha : (⟨b, off, none⟩ : Addr).add (i.toNat * size) = ⟨b, off + i.toNat * size, none⟩ := Addr.add_mid ..
   simp [execOp, hx, hi, Instr.indexAt, asIntOf, underlying, program, Sem.run, ht, sizeOf, typeInfo, hq, hsz, h0, h1, ha]

theorem O_indexAddr' (i : Int) (off' b off len cap : Nat) (k : IntKind) (size : Nat) {dst : Option Tmp} {t ty e : TypeId} {x ix : Operand} {pos : String} {after : Array Edge} {gd : Option (Nat × Bool)}
   (ht : P.underlying t = some (.slice e)) (hs : (P.info? e).map (·.size) = some size) (hx : ∀ δ, ev δ ρ x = .slice (some ⟨b, off, none⟩) len cap) (hi : ∀ δ, ev δ ρ ix = .int k i) (h0 : 0 ≤ i) (h1 : i < len)
   (he : off + i.toNat * size = off') (hd : dstOk n dst = true) (h : K (putF ρ dst (.pointer (some ⟨b, off', none⟩))) σ) : SO P W0 n Q ⟨dst, .indexAddr t x ix, ty, pos, after, gd⟩ ρ σ K :=
 O_val _ hd (fun δ w _ => run_indexAddr i off' b off len cap k size ht hs hx hi h0 h1 he) h

theorem Gs.ent_ne {s : Gs} {e : TypeId} {size : Nat} {xs : List Value} (h : s ≠ .nil) : s.ent e size xs = [(s.blk, .cells e (s.cap * size) xs)] := by
 cases s with
 | nil => exact absurd rfl h
 | «at» g c => rfl

theorem O_storeG (s : Gs) (off : Nat) (v : Value) (vs : List Value) {e : TypeId} {size : Nat} {xs ys : List Value} {τ : Heaplet} {dst : Option Tmp} {t ty : TypeId} {addr x : Operand} {pos : String} {after : Array Edge} {gd : Option (Nat × Bool)}
   (hne : s ≠ .nil) (ha : ∀ δ, ev δ ρ addr = .pointer (some ⟨s.blk, off, none⟩)) (hx : ∀ δ, ev δ ρ x = v) (hv : v.cells.toList = vs) (hs : (P.info? t).map (·.size) = some vs.length) (h1 : vs.all (·.oneCell') = true)
   (hfit : off + vs.length ≤ xs.length) (hlay : lay xs off vs = ys) (hd : dstOk n dst = true)
   (h : K (putF ρ dst undef) (s.ent e size ys ++ τ)) : SO P W0 n Q ⟨dst, .store t addr x, ty, pos, after, gd⟩ ρ (s.ent e size xs ++ τ) K := by
 rw [Gs.ent_ne hne] at h ⊢
 subst hlay
 exact O_store s.blk off v vs ha hx hv hs h1 hfit hd h

theorem Sat.weak {w : World} {b : Nat} {e : TypeId} {N : Nat} {cs ds : List Value} {τ : Heaplet} (h : Sat W0 w ((b, .cells e N (cs ++ ds)) :: τ)) : Sat W0 w ((b, .cells e N cs) :: τ) := by
 refine ⟨h.below, h.nodup, fun q hq => ?_⟩
 rcases List.mem_cons.1 hq with rfl | hq
 · obtain ⟨h1, C, h2, h3, h4⟩ := h.has _ List.mem_cons_self
   refine ⟨h1, C, h2, h3, fun i v hv => h4 i v ?_⟩
   rw [List.getElem?_append_left (List.getElem?_eq_some_iff.1 hv).1]; exact hv
 · exact h.has q (List.mem_cons_of_mem _ hq)
theorem Sat.weakG {w : World} {s : Gs} {e : TypeId} {size : Nat} {cs ds : List Value} {τ : Heaplet} (h : Sat W0 w (s.ent e size (cs ++ ds) ++ τ)) : Sat W0 w (s.ent e size cs ++ τ) := by
 cases s with
 | nil => exact h
 | «at» g c => exact Sat.weak h
theorem keys_weakG {s : Gs} {e : TypeId} {size : Nat} {cs ds : List Value} {τ : Heaplet} : keys (s.ent e size cs ++ τ) = keys (s.ent e size ds ++ τ) := by cases s <;> rfl
theorem SW_weakG {c : Code} {s : Gs} {e : TypeId} {size : Nat} {cs ds : List Value} {τ : Heaplet} (h : SW P W0 n c Q ρ (s.ent e size cs ++ τ)) : SW P W0 n c Q ρ (s.ent e size (cs ++ ds) ++ τ) :=
 fun w0 K0 a w h1 h2 h3 => h w0 K0 a w h1 h2.weakG (keys_weakG (cs := cs) (ds := cs ++ ds) ▸ h3)
theorem SL_weakG {l : List Oper} {s : Gs} {e : TypeId} {size : Nat} {cs ds : List Value} {τ : Heaplet} (h : SL P W0 n ops Q l ρ (s.ent e size cs ++ τ)) : SL P W0 n ops Q l ρ (s.ent e size (cs ++ ds) ++ τ) :=
 fun w0 K0 a w h1 h2 h3 => h w0 K0 a w h1 h2.weakG (keys_weakG (cs := cs) (ds := cs ++ ds) ▸ h3)
theorem Sat.tail {w : World} {e : Nat × Blk} {τ : Heaplet} (h : Sat W0 w (e :: τ)) : Sat W0 w τ := ⟨h.below, (List.nodup_cons.1 h.nodup).2, fun q hq => h.has q (List.mem_cons_of_mem _ hq)⟩
theorem run_slice_to {w : World} {δ : Nat → Value} (h : Int) (A : Option Addr) (len cap : Nat) (k : IntKind) {dst : Option Tmp} {t ty e : TypeId} {x hx : Operand} {pos : String} {after : Array Edge} {gd : Option (Nat × Bool)}
   (ht : P.underlying t = some (.slice e)) (hi : (P.info? e).isSome = true) (hv : ev δ ρ x = .slice A len cap) (hh : ev δ ρ hx = .int k h) (h0 : 0 ≤ h) (h1 : h ≤ cap) :
   (execOp (ev δ ρ) ⟨dst, .slice t x none (some hx) none, ty, pos, after, gd⟩).run P w = .ok (.value (.slice A h.toNat cap)) w := by
 obtain ⟨inf, hq⟩ := Option.isSome_iff_exists.1 hi
 have e0 : (if cap = 0 then A else A.map (·.add (0 * inf.size))) = A := by
   split
   · rfl
   · cases A with
     | none => rfl
     | some a => simp [Addr.add]
 simp only [execOp, Instr.sliceAt, underlying, program, Sem.run_bind, Sem.run, ht, Result.andThen_ok, hv, Sem.run_pure, Instr.slice, Option.map_none, Option.map_some, hh, Instr.sliceBounds, Instr.sliceBound, asIntOf, sizeOf, typeInfo, hq]
 simp [h0, h1, Instr.sliceBounds, Instr.sliceBound, asIntOf, hh, sizeOf, typeInfo, program, Sem.run, hq]
 intro hc
 cases A with
 | none => rfl
 | some a => simp [Addr.add]

def Own (σ S : Heaplet) : Prop := ∃ J, σ.Perm (S ++ J)
theorem Own.refl (σ : Heaplet) : Own σ σ := ⟨[], by simp⟩
theorem Own.of_perm {σ S : Heaplet} (h : σ.Perm S) : Own σ S := ⟨[], by simpa using h⟩
theorem Own.trans {σ S T : Heaplet} (h : Own σ S) (k : Own S T) : Own σ T := by
 obtain ⟨J, h⟩ := h
 obtain ⟨K', k⟩ := k
 exact ⟨K' ++ J, h.trans (by rw [← List.append_assoc]; exact k.append_right J)⟩
theorem Own.append {σ S : Heaplet} (h : Own σ S) (τ : Heaplet) : Own (σ ++ τ) (S ++ τ) := by
 obtain ⟨J, h⟩ := h
 refine ⟨J, (h.append_right τ).trans ?_⟩
 rw [List.append_assoc, List.append_assoc]
 exact List.perm_append_comm.append_left S
theorem SW_own {c : Code} {S : Heaplet} (ho : Own σ S) (h : SW P W0 n c Q ρ S) : SW P W0 n c Q ρ σ := by
 obtain ⟨J, hp⟩ := ho
 exact SW_perm _ hp (SW_drop h)
structure Fits (ρ : Fr) (σ : Heaplet) (R : Fr) (S : Heaplet) : Prop where
  fr : ∀ δ, R.map (fun e => look δ ρ e.1) = R.map (·.2)
  own : Own σ S
theorem SW_fits {c : Code} {R : Fr} {S : Heaplet} (hf : Fits ρ σ R S) (h : SW P W0 n c Q R S) : SW P W0 n c Q ρ σ := SW_trim R hf.fr (SW_own hf.own h)
end

def findE {α : Type} [DecidableEq α] : List MapEntry → List α → α → Nat → Option (Nat × Value)
 | e :: es, a :: ks, k, i => if a = k then some (i, e.val) else findE es ks k (i + 1)
 | _, _, _, _ => none

structure KeyLaw (P : Program) (kt : TypeId) {α : Type} [DecidableEq α] (enc : α → Value) : Prop where
  check : ∀ b k w, (Instr.checkKey b 10000 kt (enc k)).run P w = .ok () w
  find : ∀ (k : α) (es : List MapEntry) (ks : List α) w, es.map (·.key) = ks.map enc → (Instr.findKey kt (enc k) es).run P w = .ok (findE es ks k 0) w
  same : ∀ k, Instr.sameBits 10000 (enc k) (enc k) = true

theorem beq_ba (a b : ByteArray) : (a == b) = decide (a = b) := by
 rw [Bool.eq_iff_iff, beq_toListBytes, beq_iff_eq, decide_eq_true_iff, ByteArray.toList_eq, ByteArray.toList_eq]
 constructor
 · intro h
   obtain ⟨⟨x⟩⟩ := a
   obtain ⟨⟨y⟩⟩ := b
   simp at h; subst h; rfl
 · rintro rfl; rfl
section
variable {α β : Type} [DecidableEq α] {enc : α → Value} {encv : β → Value}

variable {P : Program} {W0 : World} {n : Nat} {Q : SQ} {ρ : Fr} {σ : Heaplet} {K : Fr → Heaplet → Prop}

omit [DecidableEq α] in
variable {kt : TypeId}
end

def Ret {X : Type} (T : X → Heaplet) (G : Value → X → Prop) : Value → Heaplet → Prop := fun v σ' => ∃ x, Own σ' (T x) ∧ G v x

section
variable {P : Program} {W0 : World} {n : Nat} {Q : SQ} {ρ : Fr} {σ τ S : Heaplet}

theorem Sat.own {w : World} (h : Sat W0 w σ) {T : Heaplet} (ho : Own σ T) : Sat W0 w T := by
 obtain ⟨J, hp⟩ := ho
 exact (h.perm hp).left
theorem Own.keys {T : Heaplet} (ho : Own σ T) : ∀ b ∈ keys T, b ∈ keys σ := by
 obtain ⟨J, hp⟩ := ho
 intro b hb
 refine (hp.map (·.1)).mem_iff.2 ?_
 simp only [List.map_append, List.mem_append]
 exact .inl hb
theorem SC.use {X : Type} {T : X → Heaplet} {G : Value → X → Prop} {f : FuncId} {args : Array Value} (τ : Heaplet) (hc : SC P W0 f args S (Ret T G)) :
   SC P W0 f args (S ++ τ) (fun v σ' => ∃ x, σ' = T x ++ τ ∧ G v x) := by
 intro w hw
 refine (SC.frame τ hc w hw).mono fun e w' h => ?_
 obtain ⟨v, σ', rfl, h1, h2, σ1, rfl, x, ho, hg⟩ := h
 refine ⟨v, T x ++ τ, rfl, h1.own (ho.append τ), h2.sub (Own.keys (ho.append τ)), x, rfl, hg⟩
end

theorem map_cell {α : Type} {f : α → Value} {l : List α} {i : Nat} {x : α} (hx : l[i]? = some x) {v : Value} (hv : f x = v) : (l.map f)[i]? = some v := by
 rw [List.getElem?_map, hx]; exact congrArg some hv
theorem get_set {α : Type} {l : List α} {i : Nat} {x y : α} (hx : l[i]? = some x) : (l.set i y)[i]? = some y := by
 rw [List.getElem?_set_self (List.getElem?_eq_some_iff.1 hx).1]
theorem row_lay_map {α : Type} {f : α → Value} {l : List α} {i : Nat} (x' : α) (hi : i < l.length) : lay (l.map f) i [f x'] = (l.set i x').map f := by
 rw [List.map_set]
 unfold lay
 refine List.ext_getElem? fun j => ?_
 by_cases h : j < i
 · rw [List.getElem?_append_left (by simp; omega), List.getElem?_append_left (by simp; omega), List.getElem?_take_of_lt h, List.getElem?_set_ne (by omega)]
 · by_cases h2 : j = i
   · subst h2
     rw [List.getElem?_append_left (by simp; omega), List.getElem?_append_right (by simp; omega), List.getElem?_set_self (by simpa using hi)]
     simp
     rw [show j - min j l.length = 0 from by omega]; rfl
   · rw [List.getElem?_append_right (by simp; omega), List.getElem?_drop, List.getElem?_set_ne (by omega)]
     simp only [List.length_append, List.length_take, List.length_map, List.length_singleton]
     rw [show i + 1 + (j - (min i l.length + 1)) = j from by omega]
theorem map_snoc {α β : Type} {f : α → β} (l : List α) (x : α) {c : List β} (h : [f x] = c) : l.map f ++ c = (l ++ [x]).map f := by subst h; simp
theorem map_app {α β : Type} {f : α → β} (l m : List α) : l.map f ++ m.map f = (l ++ m).map f := by simp
theorem Gs.ok.cap_le {s : Gs} {size n : Nat} {xs : List Value} (h : s.ok size n xs) : n ≤ s.cap := by
 cases s with
 | nil => exact Nat.le_of_eq h.1
 | «at» g c => exact h.1
theorem Gs.ok.cap_max {s : Gs} {size n : Nat} {xs : List Value} (h : s.ok size n xs) : s.cap ≤ maxLen := by
 cases s with
 | nil => exact Nat.zero_le _
 | «at» g c => exact h.2.1

theorem str_eq (a b : ByteArray) : (a.toList == b.toList) = decide (a = b) := by rw [← beq_toListBytes, beq_ba]
theorem bnot_t {b : Bool} (h : (!b) = true) : b = false := by simpa using h
theorem bnot_f {b : Bool} (h : (!b) = false) : b = true := by simpa using h
theorem map_one {α : Type} {f : α → Value} (h : ∀ a, (f a).oneCell' = true) (l : List α) : (l.map f).all (·.oneCell') = true := by
 induction l with
 | nil => rfl
 | cons a l ih => rw [List.map_cons, List.all_cons, h, ih]; rfl


section
variable {P : Program} {W0 : World} {n : Nat} {Q : SQ} {ρ : Fr} {σ : Heaplet} {K : Fr → Heaplet → Prop}
theorem Cells.mono {W0 : World} {σ σ' : Heaplet} {b off : Nat} {vs : List Value} (h : Cells W0 σ b off vs) (hs : ∀ e ∈ σ, e ∈ σ') : Cells W0 σ' b off vs := fun i v hi => (h i v hi).mono hs
def Src (W0 : World) (σ : Heaplet) (A : Option Addr) (vs : List Value) : Prop := vs.length = 0 ∨ ∃ b off, A = some ⟨b, off, none⟩ ∧ Cells W0 σ b off vs
theorem Src.mono {W0 : World} {σ σ' : Heaplet} {A : Option Addr} {vs : List Value} (h : Src W0 σ A vs) (hs : ∀ e ∈ σ, e ∈ σ') : Src W0 σ' A vs := h.imp id fun ⟨b, off, e, h⟩ => ⟨b, off, e, h.mono hs⟩
theorem Src.take {W0 : World} {σ : Heaplet} {A : Option Addr} {α : Type} {f : α → Value} {l : List α} (h : Src W0 σ A (l.map f)) (n : Nat) : Src W0 σ A ((l.take n).map f) := by
 rcases h with h | ⟨b, off, e, h⟩
 · exact .inl (by simp at h ⊢; exact .inr h)
 · refine .inr ⟨b, off, e, fun i v hi => h i v ?_⟩
   rw [List.map_take] at hi
   have := (List.getElem?_eq_some_iff.1 hi).1
   rw [List.length_take] at this
   rwa [List.getElem?_take_of_lt (by omega)] at hi
end

section
variable {P : Program} {W0 : World} {n : Nat} {Q : SQ} {ρ : Fr} {σ : Heaplet} {K : Fr → Heaplet → Prop}
end

section
variable {P : Program} {W0 : World} {n : Nat} {Q : SQ} {ρ : Fr} {σ : Heaplet} {ops : Array Oper} {rest : List Oper} {o : Oper} {K : Fr → Heaplet → Prop}
theorem L (h : SO P W0 n Q o ρ σ (SL P W0 n ops Q rest)) (hg : goes ops n ρ o := by exact ⟨rfl, fun _ => rfl⟩) : SL P W0 n ops Q (o :: rest) ρ σ := SL_cons hg h
theorem ld {b off : Nat} {v : Value} {dst : Option Tmp} {t ty : TypeId} {addr : Operand} {pos : String} {after : Array Edge} {gd : Option (Nat × Bool)} (h : K (putF ρ dst v) σ)
 (ha : ∀ δ, ev δ ρ addr = .pointer (some ⟨b, off, none⟩) := by exact fun _ => rfl) (hc : Cell W0 σ b off v := by (apply Cell.own; (repeat (first | with_reducible exact mem_z | with_reducible apply mem_c | with_reducible apply mem_a)); rfl)) (ht : notAgg P t = true := by kernel_rfl) (hd : dstOk n dst = true := by rfl) :
 SO P W0 n Q ⟨dst, .load t addr, ty, pos, after, gd⟩ ρ σ K := O_load b off v ha ht hc hd h
theorem lds {b off : Nat} (m : Nat) {vs : List Value} {e : TypeId} {N : Nat} {cs : List Value} {dst : Option Tmp} {t ty : TypeId} {addr : Operand} {pos : String} {after : Array Edge} {gd : Option (Nat × Bool)} (h : K (putF ρ dst (.agg vs.toArray)) σ)
 (ha : ∀ δ, ev δ ρ addr = .pointer (some ⟨b, off, none⟩) := by exact fun _ => rfl) (hm : (b, Blk.cells e N cs) ∈ σ := by (repeat (first | with_reducible exact mem_z | with_reducible apply mem_c | with_reducible apply mem_a))) (hl : (cs.drop off).take m = vs := by (simp only [List.drop, List.take]; rfl)) (hn : vs.length = m := by rfl) (ht : aggN P t = some m := by kernel_rfl) (hd : dstOk n dst = true := by rfl) :
 SO P W0 n Q ⟨dst, .load t addr, ty, pos, after, gd⟩ ρ σ K := O_loads b off vs ha (by rw [hn]; exact ht) (Cells.own hm (by rw [hn]; exact hl)) hd h
theorem nw (e N : Nat) (cs : List Value) (h : ∀ b, K (putF ρ o.dst (.pointer (some ⟨b, 0, none⟩))) ((b, .cells e N cs) :: σ)) (hr : ∀ δ w, (execOp (ev δ ρ) o).run P w = .ok (.value (.pointer (some ⟨w.heap.size, 0, none⟩))) (w.alloc (.cells cs.toArray e (0, 0))) := by intro δ w; kernel_rfl) (hN : cs.length = N := by rfl) (hd : dstOk n o.dst = true := by rfl) :
 SO P W0 n Q o ρ σ K := O_new (fun b => .pointer (some ⟨b, 0, none⟩)) (.cells cs.toArray e (0, 0)) (.cells e N cs) hd hr ⟨rfl, rfl, by simpa using hN, by simp⟩ fun b _ _ => h b
def stOk (P : Program) (t : TypeId) (off : Nat) (cs : List Value) (v : Value) (cs' : List Value) : Prop := (P.info? t).map (·.size) = some v.cells.toList.length ∧ v.cells.toList.all (·.oneCell') = true ∧ Nat.ble (off + v.cells.toList.length) cs.length = true ∧ lay cs off v.cells.toList = cs'
theorem st {b off : Nat} (cs' : List Value) {e : TypeId} {N : Nat} {cs : List Value} {τ : Heaplet} {dst : Option Tmp} {t ty : TypeId} {addr x : Operand} {pos : String} {after : Array Edge} {gd : Option (Nat × Bool)} (h : K (putF ρ dst undef) ((b, .cells e N cs') :: τ))
   (ha : ∀ δ, ev δ ρ addr = .pointer (some ⟨b, off, none⟩) := by exact fun _ => rfl) (hp : σ.Perm ((b, .cells e N cs) :: τ) := by (repeat (first | with_reducible exact perm_z | with_reducible apply perm_c | with_reducible apply perm_a))) (hx : ∀ δ, stOk P t off cs (ev δ ρ x) cs' := by exact fun δ => ⟨by kernel_rfl, by kernel_rfl, by kernel_rfl, by kernel_rfl⟩) (hd : dstOk n dst = true := by rfl) :
   SO P W0 n Q ⟨dst, .store t addr x, ty, pos, after, gd⟩ ρ σ K := by
 refine SO_perm _ hp ?_
 intro w0 K0 a w g1 g2 g3
 obtain ⟨q1, q2, q3, q4⟩ := hx (slot a)
 subst q4
 obtain ⟨w', hr, hz, ho, ht, hp', hb, hy⟩ := run_storeAt_lay (P := P) (t := t) (off := off) (g2.has (b, .cells e N cs) (by simp)).2 rfl q1 q2 (Nat.le_of_ble_eq_true q3)
 unfold Oper.wp
 rw [FSd.eval g1]
 simp only [execOp, ha, Sem.run_bind, hr, Result.andThen_ok, Sem.run_pure, Oper.upon]
 exact ⟨_, _, (FSd.put g1 hd undef).fs, g2.upd hz ho ht hp' hb hy, g3.trans (Upd.upd hz hb), h⟩
theorem perm_sn : σ.Perm ([] ++ σ) := List.Perm.refl _
theorem perm_sc {e : Nat × Blk} {σ1 S τ : Heaplet} (h : σ.Perm (e :: σ1)) (k : σ1.Perm (S ++ τ)) : σ.Perm ((e :: S) ++ τ) := h.trans (k.cons e)
theorem perm_sa {c σ1 S τ : Heaplet} (h : σ.Perm (c ++ σ1)) (k : σ1.Perm (S ++ τ)) : σ.Perm ((c ++ S) ++ τ) := h.trans (by rw [List.append_assoc]; exact k.append_left c)
theorem fnd {S τ : Heaplet} (h : σ.Perm (S ++ τ) := by (repeat (first | with_reducible exact perm_sn | ((with_reducible apply perm_sc); · (repeat (first | with_reducible exact perm_z | with_reducible apply perm_c | with_reducible apply perm_a))) | ((with_reducible apply perm_sa); · (first | ((repeat (first | with_reducible exact perm_cz | with_reducible exact perm_ce | with_reducible apply perm_cc | with_reducible apply perm_ca)); done) | (repeat (first | exact perm_cz | exact perm_ce | with_reducible apply perm_cc | with_reducible apply perm_ca)))) | with_reducible exact perm_cz | with_reducible apply perm_cc | with_reducible apply perm_ca))) : σ.Perm (S ++ τ) := h
theorem perm_ce {c : Heaplet} : c.Perm (c ++ []) := List.Perm.of_eq (List.append_nil c).symm
def lookK {α : Type} (ρ : Fr) (t : Nat) (f : Value → Option α) : Option α :=
 match ρ with
 | [] => none
 | (s, v) :: r => bif Nat.beq s t then f v else lookK r t f
def evK {α : Type} (ρ : Fr) (x : Operand) (f : Value → Option α) : Option α :=
 match x with
 | .tmp t => lookK ρ t f
 | .const v => f v
 | .global g => f (.pointer (some ⟨g, 0, none⟩))
 | .func g => f (.func (.func g) #[] #[])
def evsK {α : Type} (ρ : Fr) (l : List Operand) (f : List Value → Option α) : Option α :=
 match l with
 | [] => f []
 | x :: r => evK ρ x fun v => evsK ρ r fun vs => f (v :: vs)
def candArgs (ρ : Fr) (o : Op) : Option (Array Value) :=
 match o with
 | .call ⟨.value (.func _), xs, _⟩ => evsK ρ xs.toList fun l => some l.toArray
 | _ => none
inductive HintA : Option (Array Value) → Array Value → Prop where
  | y {a : Array Value} : HintA (some a) a
  | n {a : Array Value} : HintA none a
theorem cl {X : Type} {T : X → Heaplet} {G : Value → X → Prop} {f : FuncId} {args : Array Value} {S τ : Heaplet} (hc : SC P W0 f args S (Ret T G)) (h : ∀ v x, G v x → K (putF ρ o.dst v) (T x ++ τ))
   (ha : HintA (candArgs ρ o.op) args := by first | exact HintA.y | exact HintA.n) (hr : ∀ δ w, (execOp (ev δ ρ) o).run P w = .ok (.enter f args) w := by intro δ w; kernel_rfl) (hp : σ.Perm (S ++ τ) := by exact fnd) (hd : dstOk n o.dst = true := by rfl) : SO P W0 n Q o ρ σ K :=
 O_call f args hd hr ((hc.use τ).perm hp) fun v σ' ⟨x, e, hg⟩ => by subst e; exact h v x hg
theorem ow {S J : Heaplet} (h : σ.Perm (S ++ J) := by exact fnd) : Own σ S := ⟨J, h⟩
theorem un {l : List Oper} {σ' : Heaplet} (h : SL P W0 n ops Q l ρ σ') (e : σ = σ' := by (first | (simp only [List.cons_append, List.append_assoc, List.nil_append]; rfl) | rfl)) : SL P W0 n ops Q l ρ σ := e ▸ h
theorem sr {id : Nat} {l : List Oper} {y : Code} (h : SL P W0 n l.toArray (thenQ (SW P W0 n y Q) Q) l ρ σ) : SW P W0 n (.seq (.region id l.toArray false) y) Q ρ σ := SW_seq (SW_region h)
end
section
variable {P : Program} {W0 : World} {n : Nat} {Q : SQ} {ρ : Fr} {σ : Heaplet} {ops : Array Oper} {o : Oper} {K : Fr → Heaplet → Prop} {r : RD} {nd : List Nat} {ok : Bool} {fuel : Nat} {li : Array Bool}
theorem nws (e N : Nat) (k : Nat) (cs : List Value) (h : ∀ b, K (putF ρ o.dst (.slice (some ⟨b, 0, none⟩) k k)) ((b, .cells e N cs) :: σ)) (hr : ∀ δ w, (execOp (ev δ ρ) o).run P w = .ok (.value (.slice (some ⟨w.heap.size, 0, none⟩) k k)) (w.alloc (.cells cs.toArray e (0, 0))) := by intro δ w; kernel_rfl) (hN : cs.length = N := by rfl) (hd : dstOk n o.dst = true := by rfl) :
 SO P W0 n Q o ρ σ K := O_new (fun b => .slice (some ⟨b, 0, none⟩) k k) (.cells cs.toArray e (0, 0)) (.cells e N cs) hd hr ⟨rfl, rfl, by simpa using hN, by simp⟩ fun b _ _ => h b
theorem sa1 (ok' : Bool) (i : Nat) (hi : ops[i]? = some o := by rfl) (h : SO P W0 n Q o ρ σ (fun ρ' σ' => (nd.contains i = true → ∀ e ∈ r, Cell W0 σ' e.1 e.2.1 e.2.2) ∧ SA P W0 n ops Q r nd ok' fuel (li.setIfInBounds i true) ρ' σ')) (hok : (nd.contains i || !ok') = true := by kernel_rfl) (hr : Region.ready .any ops li = [i] := by kernel_rfl) (hg : goes ops n ρ o := by exact ⟨rfl, fun _ => rfl⟩) :
 SA P W0 n ops Q r nd ok (fuel + 1) li ρ σ := SA_one ok' i o hok hi hr hg rfl h
theorem tk (i : Nat) (v : Value) (h : SA P W0 n ops Q r nd ok fuel (li.setIfInBounds i true) (putF ρ o.dst v) σ) (hi : ops[i]? = some o := by rfl) (hy : ∀ δ w, (execOp (ev δ ρ) o).run P w = .ok (.value v) w := by intro δ w; kernel_rfl) (hw : ∀ δ, Region.wanted o (yieldF ops n δ ρ) = true := by exact fun _ => rfl)
   (np : ∀ c ρ σ, Q (.panic c) ρ σ → False := by exact fun _ _ _ h => h) (hf : (Region.noSelect ops && Region.free .any ops li i && (Region.ready .any ops li).contains i && dstOk n o.dst) = true := by kernel_rfl) : SA P W0 n ops Q r nd ok (fuel + 1) li ρ σ :=
 SA_take i o v np hi hf rfl (.inl ⟨hw, hy⟩) h
theorem tr (i : Nat) (v : Value) (h : SA P W0 n ops Q r nd true fuel (li.setIfInBounds i true) (putF ρ o.dst v) σ) (hi : ops[i]? = some o := by rfl) (hy : ∀ δ w, Rd r w → (execOp (ev δ ρ) o).run P w = .ok (.value v) w) (hw : ∀ δ, Region.wanted o (yieldF ops n δ ρ) = true := by exact fun _ => rfl)
   (np : ∀ c ρ σ, Q (.panic c) ρ σ → False := by exact fun _ _ _ h => h) (hf : (Region.noSelect ops && Region.free .any ops li i && (Region.ready .any ops li).contains i && dstOk n o.dst && asked ops nd li i) = true := by kernel_rfl) : SA P W0 n ops Q r nd true (fuel + 1) li ρ σ :=
 SA_read i o v np hi hf rfl hw hy h
end

def memN : Nat → List Nat → Bool
 | _, [] => false
 | t, k :: r => bif Nat.beq t k then true else memN t r
inductive Keep (ks : List Nat) : Fr → Fr → Prop where
  | nil : Keep ks [] []
  | y {t : Nat} {v : Value} {ρ ρ' : Fr} : memN t ks = true → Keep ks ρ ρ' → Keep ks ((t, v) :: ρ) ((t, v) :: ρ')
  | n {t : Nat} {v : Value} {ρ ρ' : Fr} : memN t ks = false → Keep ks ρ ρ' → Keep ks ((t, v) :: ρ) ρ'
theorem Keep.look {ks : List Nat} {δ : Nat → Value} {ρ ρ' : Fr} (h : Keep ks ρ ρ') : ∀ t, Go.Sl.look δ ρ' t = bif memN t ks then Go.Sl.look δ ρ t else δ t := by
 induction h with
 | nil => intro t; simp only [Go.Sl.look]; cases memN t ks <;> rfl
 | @y t0 v ρ ρ' hm _ ih =>
   intro t
   simp only [Go.Sl.look, ih t]
   cases hb : Nat.beq t0 t with
   | true => rw [← Nat.eq_of_beq_eq_true hb, hm]; rfl
   | false => cases memN t ks <;> rfl
 | @n t0 v ρ ρ' hm _ ih =>
   intro t
   simp only [Go.Sl.look, ih t]
   cases hb : Nat.beq t0 t with
   | true => rw [← Nat.eq_of_beq_eq_true hb, hm]; rfl
   | false => cases memN t ks <;> rfl
theorem FS.keep {n : Nat} {a : Act} {ρ ρ' : Fr} {ks : List Nat} (h : FS n a ρ) (k : Keep ks ρ ρ') : FS n a ρ' := by
 refine ⟨h.defers, h.size, fun t => ?_⟩
 rw [k.look t, ← h.at_ t]
 cases memN t ks <;> rfl
inductive SubB (b b' : Bool) : Fr → Fr → Prop where
  | nil : SubB b b' [] []
  | y {t : Nat} {ρ ρ' : Fr} : SubB b b' ρ ρ' → SubB b b' ((t, .bool b) :: ρ) ((t, .bool b') :: ρ')
  | n {t : Nat} {v : Value} {ρ ρ' : Fr} : SubB b b' ρ ρ' → SubB b b' ((t, v) :: ρ) ((t, v) :: ρ')
theorem SubB.eq {b b' : Bool} {ρ ρ' : Fr} (e : b = b') (h : SubB b b' ρ ρ') : ρ = ρ' := by
 subst e
 induction h with
 | nil => rfl
 | y _ ih => rw [ih]
 | n _ ih => rw [ih]
def nthK : List Value → Nat → Option Value
 | [], _ => none
 | a :: _, 0 => some a
 | _ :: r, i + 1 => nthK r i
def candB (o : BinOp) (x y : Value) : Option Value :=
 match x, y with
 | .int _ a, .int _ b => match o with
   | .eql => some (.bool (a == b))
   | .neq => some (.bool (a != b))
   | .lss => some (.bool (decide (a < b)))
   | .leq => some (.bool (decide (a ≤ b)))
   | .gtr => some (.bool (decide (a > b)))
   | .geq => some (.bool (decide (a ≥ b)))
   | _ => none
 | .bool a, .bool b => match o with
   | .eql => some (.bool (a == b))
   | .neq => some (.bool (!(a == b)))
   | _ => none
 | .pointer a, .pointer b => match o with
   | .eql => some (.bool (a.isNone == b.isNone))
   | .neq => some (.bool (a.isNone != b.isNone))
   | _ => none
 | .slice a _ _, .slice _ _ _ => match o with
   | .eql => some (.bool a.isNone)
   | .neq => some (.bool a.isSome)
   | _ => none
 | .string a, .string b => match o with
   | .add => some (.string (a ++ b))
   | _ => none
 | _, _ => none
def cand (ρ : Fr) (o : Op) : Option Value :=
 match o with
 | .move x | .assign x => evK ρ x some
 | .pick c a b => evK ρ c fun v => match v with
   | .bool true => evK ρ a some
   | .bool false => evK ρ b some
   | _ => none
 | .binOp o _ x y _ => evK ρ x fun a => evK ρ y fun b => candB o a b
 | .unOp o _ x => evK ρ x fun a => match o, a with
   | .not, .bool b => some (.bool !b)
   | _, _ => none
 | .nilCheck x => evK ρ x some
 | .extract x i => evK ρ x fun v => match v with
   | .tuple a => nthK a.toList i
   | _ => none
 | .convert _ _ x => evK ρ x fun v => match v with
   | .string s => some (.string s)
   | _ => none
 | .call ⟨.builtin .len, xs, _⟩ => match xs.toList with
   | x :: _ => evK ρ x fun v => match v with
     | .slice _ n _ => some (.int .i64 (n : Int))
     | .string s => some (.int .i64 (s.size : Int))
     | _ => none
   | _ => none
 | _ => none
def candW (P : Program) (ρ : Fr) (o : Op) : Option (IntKind × Int) :=
 match o with
 | .convert _ d x => evK ρ x fun v => match v, P.underlying d with
   | .int _ e, some (.int k) => some (k, e)
   | _, _ => none
 | .binOp o _ x y _ => evK ρ x fun a => evK ρ y fun b => match o, a, b with
   | .add, .int k m, .int _ n => some (k, m + n)
   | .sub, .int k m, .int _ n => some (k, m - n)
   | .mul, .int k m, .int _ n => some (k, m * n)
   | _, _, _ => none
 | _ => none
def inR : IntKind → Int → Prop
 | .i64, e => -9223372036854775808 ≤ e ∧ e ≤ 9223372036854775807
 | .u64, e => 0 ≤ e ∧ e ≤ 18446744073709551615
 | .i32, e => -2147483648 ≤ e ∧ e ≤ 2147483647
 | .u32, e => 0 ≤ e ∧ e ≤ 4294967295
 | .u8, e => 0 ≤ e ∧ e ≤ 255
 | _, _ => False
theorem inR.eq {k : IntKind} {e : Int} (h : inR k e) : k.wrap e = e := by
 cases k with
 | i64 => exact IntWalk.i64_in _ h
 | u64 => exact IntWalk.u64_in _ h
 | i32 => exact IntWalk.i32_in _ h
 | u32 => exact IntWalk.u32_in _ h
 | u8 => exact IntWalk.u8_in _ h
 | _ => exact h.elim
def litN (k : Nat) (f : Nat → Option Value) : Option Value :=
 match k with
 | 0 => f 0 | 1 => f 1 | 2 => f 2 | 3 => f 3 | 4 => f 4 | 5 => f 5 | 6 => f 6 | 7 => f 7 | 8 => f 8 | 9 => f 9 | 10 => f 10 | 11 => f 11 | 12 => f 12 | 13 => f 13 | 14 => f 14 | 15 => f 15
 | k => f k
def candF (P : Program) (ρ : Fr) (o : Op) : Option Value :=
 match o with
 | .fieldAddr s x i => evK ρ x fun v => match v with
   | .pointer (some ⟨b, off, none⟩) => match P.underlying s with
     | some (.struct fs) => match fs[i]? with
       | some f => litN f.offset fun k => match k with
         | 0 => some (.pointer (some ⟨b, off, none⟩))
         | k => some (.pointer (some ⟨b, off + k, none⟩))
       | none => none
     | _ => none
   | _ => none
 | _ => none
section
variable {P : Program} {W0 : World} {n : Nat} {Q : SQ} {ρ ρ' ρ1 : Fr} {σ : Heaplet} {ops : Array Oper} {rest : List Oper} {o : Oper} {K : Fr → Heaplet → Prop} {op : Op} {ty : TypeId} {pos : String} {after : Array Edge} {gd : Option (Nat × Bool)} {t : Nat} {v : Value}
theorem oV (v : Value) (h : SL P W0 n ops Q rest ((t, v) :: ρ) σ) (hs : ∀ δ w, (execOp (ev δ ρ) ⟨some t, op, ty, pos, after, gd⟩).run P w = .ok (.value v) w := by intro δ w; kernel_rfl)
   (hw : ∀ δ, Region.wanted ⟨some t, op, ty, pos, after, gd⟩ (yieldF ops n δ ρ) = true := by exact fun _ => rfl) (hd : Nat.blt t n = true := by exact rfl) : SL P W0 n ops Q (⟨some t, op, ty, pos, after, gd⟩ :: rest) ρ σ :=
 SL_cons ⟨hd, hw⟩ (O_val v hd (fun δ w _ => hs δ w) h)
theorem oX (v' v : Value) (e : v' = v) (h : SL P W0 n ops Q rest ((t, v) :: ρ) σ) (hs : ∀ δ w, (execOp (ev δ ρ) ⟨some t, op, ty, pos, after, gd⟩).run P w = .ok (.value v') w := by intro δ w; kernel_rfl)
 (hw : ∀ δ, Region.wanted ⟨some t, op, ty, pos, after, gd⟩ (yieldF ops n δ ρ) = true := by exact fun _ => rfl) (hd : Nat.blt t n = true := by exact rfl) : SL P W0 n ops Q (⟨some t, op, ty, pos, after, gd⟩ :: rest) ρ σ := oV v h (e ▸ hs) hw hd
structure Run (P : Program) (W0 : World) (n : Nat) (ops : Array Oper) (k : Nat) (l : List Oper) (ρ : Fr) (l' : List Oper) (ρ' : Fr) : Prop where
  go : ∀ Q σ, SL P W0 n ops Q l' ρ' σ → SL P W0 n ops Q l ρ σ
theorem Run.z {l : List Oper} : Run P W0 n ops 0 l ρ l ρ := ⟨fun _ _ h => h⟩
theorem Run.val {k : Nat} {l' : List Oper} (hs : ∀ δ w, (execOp (ev δ ρ) ⟨some t, op, ty, pos, after, gd⟩).run P w = .ok (.value v) w) (hw : ∀ δ, Region.wanted ⟨some t, op, ty, pos, after, gd⟩ (yieldF ops n δ ρ) = true) (hd : Nat.blt t n = true)
 (h : Run P W0 n ops k rest ((t, v) :: ρ) l' ρ') : Run P W0 n ops (k + 1) (⟨some t, op, ty, pos, after, gd⟩ :: rest) ρ l' ρ' := ⟨fun Q σ hk => oV v (h.go Q σ hk) hs hw hd⟩
theorem Run.S {k : Nat} {l' : List Oper} (hv : cand ρ op = some v) (hs : ∀ δ w, (execOp (ev δ ρ) ⟨some t, op, ty, pos, after, gd⟩).run P w = .ok (.value v) w) (hw : ∀ δ, Region.wanted ⟨some t, op, ty, pos, after, gd⟩ (yieldF ops n δ ρ) = true) (hd : Nat.blt t n = true)
 (h : Run P W0 n ops k rest ((t, v) :: ρ) l' ρ') : Run P W0 n ops (k + 1) (⟨some t, op, ty, pos, after, gd⟩ :: rest) ρ l' ρ' := Run.val hs hw hd h
theorem Run.F {k : Nat} {l' : List Oper} (hv : candF P ρ op = some v) (hs : ∀ δ w, (execOp (ev δ ρ) ⟨some t, op, ty, pos, after, gd⟩).run P w = .ok (.value v) w) (hw : ∀ δ, Region.wanted ⟨some t, op, ty, pos, after, gd⟩ (yieldF ops n δ ρ) = true) (hd : Nat.blt t n = true)
 (h : Run P W0 n ops k rest ((t, v) :: ρ) l' ρ') : Run P W0 n ops (k + 1) (⟨some t, op, ty, pos, after, gd⟩ :: rest) ρ l' ρ' := Run.val hs hw hd h
theorem Run.W {k : Nat} {l' : List Oper} {c : IntKind} {e : Int} (hv : candW P ρ op = some (c, e)) (hr : inR c e) (hs : ∀ δ w, (execOp (ev δ ρ) ⟨some t, op, ty, pos, after, gd⟩).run P w = .ok (.value (.int c (c.wrap e))) w) (hw : ∀ δ, Region.wanted ⟨some t, op, ty, pos, after, gd⟩ (yieldF ops n δ ρ) = true) (hd : Nat.blt t n = true)
 (h : Run P W0 n ops k rest ((t, .int c e) :: ρ) l' ρ') : Run P W0 n ops (k + 1) (⟨some t, op, ty, pos, after, gd⟩ :: rest) ρ l' ρ' := Run.val (by rw [hr.eq] at hs; exact hs) hw hd h
theorem Run.U {k : Nat} {l' : List Oper} (hw : ∀ δ, Region.wanted ⟨some t, op, ty, pos, after, gd⟩ (yieldF ops n δ ρ) = false) (hd : Nat.blt t n = true)
   (h : Run P W0 n ops k rest ((t, undef) :: ρ) l' ρ') : Run P W0 n ops (k + 1) (⟨some t, op, ty, pos, after, gd⟩ :: rest) ρ l' ρ' := by
 refine ⟨fun Q σ hk w0 K0 a w h1 h2 h3 => ?_⟩
 rw [wpList_cons_eq, yielded_eq h1, hw, if_neg (by simp)]
 exact h.go Q σ hk w0 K0 _ w (FSd.put h1 (o := some t) hd undef).fs h2 h3
theorem Run.N {k : Nat} {l' : List Oper} (hw : ∀ δ, Region.wanted ⟨none, op, ty, pos, after, gd⟩ (yieldF ops n δ ρ) = false)
   (h : Run P W0 n ops k rest ρ l' ρ') : Run P W0 n ops (k + 1) (⟨none, op, ty, pos, after, gd⟩ :: rest) ρ l' ρ' := by
 refine ⟨fun Q σ hk w0 K0 a w h1 h2 h3 => ?_⟩
 rw [wpList_cons_eq, yielded_eq h1, hw, if_neg (by simp)]
 exact h.go Q σ hk w0 K0 _ w (FSd.put h1 (o := none) rfl undef).fs h2 h3
theorem os (k : Nat) {l l' : List Oper} (h : SL P W0 n ops Q l' ρ' σ) (hr : Run P W0 n ops k l ρ l' ρ' := by (repeat (first
 | exact Run.z
 | (apply Run.S; (exact rfl); (intro δ w; kernel_rfl); (exact fun _ => rfl); (exact rfl))
 | (apply Run.F; (exact rfl); (intro δ w; kernel_rfl); (exact fun _ => rfl); (exact rfl))
 | (apply Run.W; (exact rfl); (simp only [inR]; omega); (intro δ w; kernel_rfl); (exact fun _ => rfl); (exact rfl))
 | (apply Run.U; (exact fun _ => rfl); (exact rfl))
 | (apply Run.N; (exact fun _ => rfl))))) : SL P W0 n ops Q l ρ σ := hr.go Q σ h
theorem aS {r : RD} {nd : List Nat} {ok : Bool} {fuel : Nat} {li : Array Bool} (i : Nat) (h : SA P W0 n ops Q r nd ok fuel (li.setIfInBounds i true) ((t, v) :: ρ) σ) (hi : ops[i]? = some ⟨some t, op, ty, pos, after, gd⟩ := by exact rfl) (hv : cand ρ op = some v := by exact rfl) (hy : ∀ δ w, (execOp (ev δ ρ) ⟨some t, op, ty, pos, after, gd⟩).run P w = .ok (.value v) w := by intro δ w; kernel_rfl) (hw : ∀ δ, Region.wanted ⟨some t, op, ty, pos, after, gd⟩ (yieldF ops n δ ρ) = true := by exact fun _ => rfl)
 (np : ∀ c ρ σ, Q (.panic c) ρ σ → False := by exact fun _ _ _ h => h) (hf : (Region.noSelect ops && Region.free .any ops li i && (Region.ready .any ops li).contains i && dstOk n (some t)) = true := by kernel_rfl) : SA P W0 n ops Q r nd ok (fuel + 1) li ρ σ := SA_take i ⟨some t, op, ty, pos, after, gd⟩ v np hi hf rfl (.inl ⟨hw, hy⟩) h
theorem aF {r : RD} {nd : List Nat} {ok : Bool} {fuel : Nat} {li : Array Bool} (i : Nat) (h : SA P W0 n ops Q r nd ok fuel (li.setIfInBounds i true) ((t, v) :: ρ) σ) (hi : ops[i]? = some ⟨some t, op, ty, pos, after, gd⟩ := by exact rfl) (hv : candF P ρ op = some v := by exact rfl) (hy : ∀ δ w, (execOp (ev δ ρ) ⟨some t, op, ty, pos, after, gd⟩).run P w = .ok (.value v) w := by intro δ w; kernel_rfl) (hw : ∀ δ, Region.wanted ⟨some t, op, ty, pos, after, gd⟩ (yieldF ops n δ ρ) = true := by exact fun _ => rfl)
 (np : ∀ c ρ σ, Q (.panic c) ρ σ → False := by exact fun _ _ _ h => h) (hf : (Region.noSelect ops && Region.free .any ops li i && (Region.ready .any ops li).contains i && dstOk n (some t)) = true := by kernel_rfl) : SA P W0 n ops Q r nd ok (fuel + 1) li ρ σ := SA_take i ⟨some t, op, ty, pos, after, gd⟩ v np hi hf rfl (.inl ⟨hw, hy⟩) h
theorem aL {r : RD} {nd : List Nat} {fuel : Nat} {li : Array Bool} (i : Nat) {b off : Nat} {addr : Operand} {lt : TypeId} (h : SA P W0 n ops Q r nd true fuel (li.setIfInBounds i true) ((t, v) :: ρ) σ) (hi : ops[i]? = some ⟨some t, .load lt addr, ty, pos, after, gd⟩ := by exact rfl) (ha : evK ρ addr some = some (.pointer (some ⟨b, off, none⟩)) := by exact rfl) (hm : (b, off, v) ∈ r := by (repeat (first | exact List.mem_cons_self | apply List.mem_cons_of_mem)))
   (ha' : ∀ δ, ev δ ρ addr = .pointer (some ⟨b, off, none⟩) := by exact fun _ => rfl) (ht : notAgg P lt = true := by kernel_rfl) (hw : ∀ δ, Region.wanted ⟨some t, .load lt addr, ty, pos, after, gd⟩ (yieldF ops n δ ρ) = true := by exact fun _ => rfl)
   (np : ∀ c ρ σ, Q (.panic c) ρ σ → False := by exact fun _ _ _ h => h) (hf : (Region.noSelect ops && Region.free .any ops li i && (Region.ready .any ops li).contains i && dstOk n (some t) && asked ops nd li i) = true := by kernel_rfl) : SA P W0 n ops Q r nd true (fuel + 1) li ρ σ :=
 SA_read i ⟨some t, .load lt addr, ty, pos, after, gd⟩ v np hi hf rfl hw (fun δ w hr => Rd_load b off v (ha' δ) ht hm hr) h
theorem ixg (i : Int) (off' : Nat) {s : Gs} {m size len cap : Nat} {xs : List Value} {k : IntKind} {dst : Option Tmp} {tt e : TypeId} {x ix : Operand} (hok : s.ok size m xs) (ht : P.underlying tt = some (.slice e)) (h : K (putF ρ dst (.pointer (some ⟨s.blk, off', none⟩))) σ)
 (hs : (P.info? e).map (·.size) = some size := by kernel_rfl) (hx : ∀ δ, ev δ ρ x = .slice s.addr len cap := by exact fun _ => rfl) (hi : ∀ δ, ev δ ρ ix = .int k i := by exact fun _ => rfl) (h0 : 0 ≤ i := by omega) (h1 : i < len := by omega) (hn : 0 < m := by first | omega | (simp; omega)) (he : i.toNat * size = off' := by omega) (hd : dstOk n dst = true := by exact rfl) :
 SO P W0 n Q ⟨dst, .indexAddr tt x ix, ty, pos, after, gd⟩ ρ σ K := O_indexAddr' i off' s.blk 0 len cap k size ht hs (fun δ => (hx δ).trans (gs_slice (hok.ne hn))) hi h0 h1 (by omega) hd h
theorem aI {r : RD} {nd : List Nat} {ok : Bool} {fuel : Nat} {li : Array Bool} (j : Nat) (i : Int) (off' : Nat) {s : Gs} {m size len cap : Nat} {xs : List Value} {k : IntKind} {tt e : TypeId} {x ix : Operand} (hok : s.ok size m xs) (ht : P.underlying tt = some (.slice e)) (h : SA P W0 n ops Q r nd ok fuel (li.setIfInBounds j true) ((t, .pointer (some ⟨s.blk, off', none⟩)) :: ρ) σ) (hj : ops[j]? = some ⟨some t, .indexAddr tt x ix, ty, pos, after, gd⟩ := by exact rfl)
   (hs : (P.info? e).map (·.size) = some size := by kernel_rfl) (hx : ∀ δ, ev δ ρ x = .slice s.addr len cap := by exact fun _ => rfl) (hi : ∀ δ, ev δ ρ ix = .int k i := by exact fun _ => rfl) (h0 : 0 ≤ i := by omega) (h1 : i < len := by omega) (hn : 0 < m := by first | omega | (simp; omega)) (he : i.toNat * size = off' := by omega)
   (hw : ∀ δ, Region.wanted ⟨some t, .indexAddr tt x ix, ty, pos, after, gd⟩ (yieldF ops n δ ρ) = true := by exact fun _ => rfl) (np : ∀ c ρ σ, Q (.panic c) ρ σ → False := by exact fun _ _ _ h => h) (hf : (Region.noSelect ops && Region.free .any ops li j && (Region.ready .any ops li).contains j && dstOk n (some t)) = true := by kernel_rfl) : SA P W0 n ops Q r nd ok (fuel + 1) li ρ σ :=
 SA_take j ⟨some t, .indexAddr tt x ix, ty, pos, after, gd⟩ _ np hj hf rfl (.inl ⟨hw, fun δ w => run_indexAddr i off' s.blk 0 len cap k size ht hs (fun δ => (hx δ).trans (gs_slice (hok.ne hn))) hi h0 h1 (by omega)⟩) h
theorem kp {l : List Oper} (ks : List Nat) (h : SL P W0 n ops Q l ρ' σ) (hk : Keep ks ρ ρ' := by (repeat (first | exact Keep.nil | (apply Keep.y; (exact rfl)) | (apply Keep.n; (exact rfl))))) : SL P W0 n ops Q l ρ σ :=
 fun w0 K0 a w h1 h2 h3 => h w0 K0 a w (h1.keep hk) h2 h3
theorem kpA {r : RD} {nd : List Nat} {ok : Bool} {fuel : Nat} {li : Array Bool} (ks : List Nat) (h : SA P W0 n ops Q r nd ok fuel li ρ' σ) (hk : Keep ks ρ ρ' := by (repeat (first | exact Keep.nil | (apply Keep.y; (exact rfl)) | (apply Keep.n; (exact rfl))))) : SA P W0 n ops Q r nd ok fuel li ρ σ :=
 fun w0 K0 a w h1 h2 h3 => h w0 K0 a w (h1.keep hk) h2 h3
theorem tb {l : List Oper} (t : Nat) {b : Bool} (h1 : b = true → SL P W0 n ops Q l ρ1 σ) (h0 : b = false → SL P W0 n ops Q l ρ' σ) (hb : evK ρ (.tmp t) some = some (.bool b) := by exact rfl)
   (s1 : SubB b true ρ ρ1 := by (repeat (first | exact SubB.nil | with_reducible apply SubB.y | apply SubB.n))) (s0 : SubB b false ρ ρ' := by (repeat (first | exact SubB.nil | with_reducible apply SubB.y | apply SubB.n))) : SL P W0 n ops Q l ρ σ := by
 cases b
 · rw [s0.eq rfl]; exact h0 rfl
 · rw [s1.eq rfl]; exact h1 rfl
theorem tbp {l : List Oper} (t : Nat) {p : Prop} {ip : Decidable p} (h1 : p → SL P W0 n ops Q l ρ1 σ) (h0 : ¬ p → SL P W0 n ops Q l ρ' σ) (hb : evK ρ (.tmp t) some = some (.bool (@decide p ip)) := by exact rfl)
   (s1 : SubB (@decide p ip) true ρ ρ1 := by (repeat (first | exact SubB.nil | with_reducible apply SubB.y | apply SubB.n))) (s0 : SubB (@decide p ip) false ρ ρ' := by (repeat (first | exact SubB.nil | with_reducible apply SubB.y | apply SubB.n))) : SL P W0 n ops Q l ρ σ :=
 tb t (fun h => h1 (of_decide_eq_true h)) (fun h => h0 (of_decide_eq_false h)) hb s1 s0
theorem pn {l : List Oper} (t : Nat) {b0 b b' : Bool} (e : b = b') (h : SL P W0 n ops Q l ρ' σ) (hb : evK ρ (.tmp t) some = some (.bool b0) := by exact rfl) (he : b0 = b := by exact rfl) (s1 : SubB b0 b' ρ ρ' := by (repeat (first | exact SubB.nil | with_reducible apply SubB.y | apply SubB.n))) : SL P W0 n ops Q l ρ σ := by rw [s1.eq (he.trans e)]; exact h
theorem cd {c : Operand} {x y : Code} {b : Bool} (ht : b = true → SW P W0 n x Q ρ σ) (hf : b = false → SW P W0 n y Q ρ σ) (hc : ∀ δ, ev δ ρ c = .bool b := by exact fun _ => rfl) : SW P W0 n (.cond c x y) Q ρ σ := SW_cond b hc ht hf
theorem cdp {c : Operand} {x y : Code} {p : Prop} {ip : Decidable p} (ht : p → SW P W0 n x Q ρ σ) (hf : ¬ p → SW P W0 n y Q ρ σ) (hc : ∀ δ, ev δ ρ c = .bool (@decide p ip) := by exact fun _ => rfl) : SW P W0 n (.cond c x y) Q ρ σ :=
 SW_cond _ hc (fun h => ht (of_decide_eq_true h)) (fun h => hf (of_decide_eq_false h))
theorem ct {c : Operand} {x y : Code} (ht : SW P W0 n x Q ρ σ) (hc : ∀ δ, ev δ ρ c = .bool true := by exact fun _ => rfl) : SW P W0 n (.cond c x y) Q ρ σ := SW_true hc ht
theorem cf {c : Operand} {x y : Code} (hf : SW P W0 n y Q ρ σ) (hc : ∀ δ, ev δ ρ c = .bool false := by exact fun _ => rfl) : SW P W0 n (.cond c x y) Q ρ σ := SW_false hc hf
theorem nt {K : Fr → Heaplet → Prop} (h : K ρ σ) : SL P W0 n ops (thenQ K Q) [] ρ σ := SL_nil h
theorem nr {id : Nat} {l : List Oper} (h : SL P W0 n l.toArray Q l ρ σ) : SL P W0 n ops (thenQ (SW P W0 n (.region id l.toArray false) Q) Q) [] ρ σ := SL_nil (SW_region h)
theorem nq {x y : Code} (h : SW P W0 n x (thenQ (SW P W0 n y Q) Q) ρ σ) : SL P W0 n ops (thenQ (SW P W0 n (.seq x y) Q) Q) [] ρ σ := SL_nil (SW_seq h)
theorem nsr {id : Nat} {l : List Oper} {y : Code} (h : SL P W0 n l.toArray (thenQ (SW P W0 n y Q) Q) l ρ σ) : SL P W0 n ops (thenQ (SW P W0 n (.seq (.region id l.toArray false) y) Q) Q) [] ρ σ := SL_nil (sr h)
end
theorem Sat.grown {W0 w w' : World} {σ : Heaplet} (h : Sat W0 w σ) (hb : Below w.heap.size w w') : Sat W0 w' σ := by
 have h0 := h.below
 refine ⟨⟨hb.os.trans h0.os, hb.tape.trans h0.tape, hb.output.trans h0.output, Nat.le_trans h0.size hb.size, fun k hk => (hb.block k (Nat.lt_of_lt_of_le hk h0.size)).trans (h0.block k hk)⟩, h.nodup, fun e he => ?_⟩
 obtain ⟨h1, h2⟩ := h.has e he
 exact ⟨h1, h2.of_block (hb.block e.1 h2.lt)⟩
theorem SC.of_below {P : Program} {W0 : World} {f : FuncId} {args : Array Value} {σ : Heaplet} {G : Value → Prop} (h : ∀ w, Below W0.heap.size W0 w → Calls P f args w fun e w' => ∃ v, e = .returned v ∧ Below w.heap.size w w' ∧ G v) :
   SC P W0 f args σ (Ret (fun _ : Unit => σ) (fun v _ => G v)) := by
 intro w hs
 refine (h w hs.below).mono ?_
 rintro e w' ⟨v, rfl, hb, hg⟩
 exact ⟨v, σ, rfl, hs.grown hb, ⟨hb.size, fun b hlt _ => hb.block b hlt, fun b hk => .inl hk⟩, (), Own.refl σ, hg⟩
def byteN (s : ByteArray) (i : Int) : Int := match s[i.toNat]? with | some b => (b.toNat : Int) | none => 0
theorem run_indexS {P : Program} {ρ : Fr} {w : World} {δ : Nat → Value} (i : Int) (s : ByteArray) (k : IntKind) {dst : Option Tmp} {t ty : TypeId} {x ix : Operand} {pos : String} {after : Array Edge} {gd : Option (Nat × Bool)}
   (ht : P.underlying t = some .string) (hx : ev δ ρ x = .string s) (hi : ev δ ρ ix = .int k i) (h0 : 0 ≤ i) (h1 : i < s.size) : (execOp (ev δ ρ) ⟨dst, .index t x ix, ty, pos, after, gd⟩).run P w = .ok (.value (.int .u8 (byteN s i))) w := by
 have hb : ∃ b, s[i.toNat]? = some b := ⟨s[i.toNat]'(by omega), getElem?_pos s i.toNat (by omega)⟩
 obtain ⟨b, hb⟩ := hb
 unfold byteN
 rw [hb]
 simp [execOp, hx, hi, Instr.index, asIntOf, underlying, program, Sem.run, ht, h0, hb]
theorem ixs {P : Program} {W0 : World} {n : Nat} {Q : SQ} {ρ : Fr} {σ : Heaplet} {ops : Array Oper} {rest : List Oper} (i : Int) (s : ByteArray) (k : IntKind) {d : Nat} {t ty : TypeId} {x ix : Operand} {pos : String} {after : Array Edge} {gd : Option (Nat × Bool)}
   (ht : P.underlying t = some .string) (h : SL P W0 n ops Q rest ((d, .int .u8 (byteN s i)) :: ρ) σ) (h0 : 0 ≤ i := by omega) (h1 : i < s.size := by omega) (hx : ∀ δ, ev δ ρ x = .string s := by exact fun _ => rfl) (hi : ∀ δ, ev δ ρ ix = .int k i := by exact fun _ => rfl)
   (hw : ∀ δ, Region.wanted ⟨some d, .index t x ix, ty, pos, after, gd⟩ (yieldF ops n δ ρ) = true := by exact fun _ => rfl) (hd : Nat.blt d n = true := by exact rfl) : SL P W0 n ops Q (⟨some d, .index t x ix, ty, pos, after, gd⟩ :: rest) ρ σ :=
 oV _ h (fun δ w => run_indexS i s k ht (hx δ) (hi δ) h0 h1) hw hd
theorem byteN_at {s : ByteArray} {i : Nat} {b : UInt8} (h : s.data.toList[i]? = some b) : byteN s (i : Int) = (b.toNat : Int) := by
 have hl := (List.getElem?_eq_some_iff.1 h).1
 have hs : i < s.size := by simpa using hl
 have e : s[i]? = some b := by
   rw [getElem?_pos s i hs, ← h, List.getElem?_eq_getElem hl]; rfl
 unfold byteN
 rw [Int.toNat_natCast, e]
theorem O_bytes {P : Program} {W0 : World} {n : Nat} {Q : SQ} {ρ : Fr} {σ : Heaplet} {K : Fr → Heaplet → Prop} (xs : List Int) (b off cap : Nat) {dst : Option Tmp} {src dt ty e : TypeId} {x : Operand} {pos : String} {after : Array Edge} {gd : Option (Nat × Bool)}
   (hs : P.underlying src = some (.slice e)) (he : P.underlying e = some (.int .u8)) (hd : P.underlying dt = some .string) (hc : Cells W0 σ b off (xs.map (Value.int .u8)))
   (hx : ∀ δ, ev δ ρ x = .slice (some ⟨b, off, none⟩) xs.length cap) (hdst : dstOk n dst = true) (h : K (putF ρ dst (.string (strOfNums xs))) σ) : SO P W0 n Q ⟨dst, .convert src dt x, ty, pos, after, gd⟩ ρ σ K := by
 refine O_val (.string (strOfNums xs)) hdst (fun δ w hw => ?_) h
 have hr := run_convert_bytes_arg (P := P) w src e hs he b off xs.length cap xs rfl (fun i hi => by
   refine hw.cell (hc i _ ?_)
   rw [List.getElem?_map, List.getElem?_eq_getElem hi]
   simp [List.getD, List.getElem?_eq_getElem hi]) dt hd
 simp only [execOp, hx δ, Sem.run_bind, hr]
 rfl
theorem run_cat {P : Program} {ρ : Fr} {w : World} {δ : Nat → Value} (a b : ByteArray) (hs : a.size + b.size ≤ 9223372036854775807) {dst : Option Tmp} {t t2 ty : TypeId} {x y : Operand} {pos : String} {after : Array Edge} {gd : Option (Nat × Bool)}
   (hx : ev δ ρ x = .string a) (hy : ev δ ρ y = .string b) : (execOp (ev δ ρ) ⟨dst, .binOp .add t x y t2, ty, pos, after, gd⟩).run P w = .ok (.value (.string (a ++ b))) w := by
 have h : ¬ (((a.size + b.size : Nat) : Int) > IntKind.i64.max) := by
   have e : IntKind.i64.max = 9223372036854775807 := by decide
   rw [e]; omega
 simp only [execOp, hx, hy, Sem.run_bind]
 simp only [binOp, Op.stringOp]
 rw [if_neg h]
 rfl
end Go.Sl
namespace Go.Proofs.YtnhmmjogfkjceaaGreatDoor
open Go.Sl Go.ChangeShapes Go.WideShapes Go.ChangeAt Go.RowKit Go.Deep

theorem carryAll {H : Type} {enc : TypeId × Value → H} {P : Program} {w w' : World} {base : Nat} {spare : Nat → Bool} {held : Bool} : ∀ {ts : List TypeId} {vs : List Value} {ds : List (DataW H)} {ps : List MemPlace},
   DataW.TrodAll enc P w base spare held ts vs ds ps → (∀ p ∈ ps, w.sameAt w' p) → DataW.TrodAll enc P w' base spare held ts vs ds ps
 | [], [], [], _, h, _ => h
 | _ :: _, _ :: _, _ :: _, _, ⟨p, q, ⟨n, h1⟩, h2, e⟩, hs => ⟨p, q, ⟨n, DataW.trod_carry n _ _ _ h1 (fun x hx => hs x (by rw [e]; exact List.mem_append_left _ hx))⟩, carryAll h2 (fun x hx => hs x (by rw [e]; exact List.mem_append_right _ hx)), e⟩
theorem rkids : Kids Tryz.prog (· < Tryz.prog.types.size) := kids_rows (by kernel_rfl) (by kernel_rfl)
theorem rfull : ∀ t e, t < Tryz.prog.types.size → Tryz.prog.underlying t = some (.slice e) → 0 < Tryz.prog.cellsOf e := slices_full_of Tryz.prog (by kernel_rfl)
theorem rown : ownKnob Tryz.prog.godebug = none := by kernel_rfl
theorem post_law {H : Type} {enc : TypeId × Value → H} {f : Func} {s : ChangeSpec} {W W' : World} {args : Array Value} {ds gs : List (DataW H)} {before : List MemPlace} {tb : TypeId}
   (hW : DataW.Whole enc Tryz.prog f.params.toList s.vars false W args.toList ds gs before) (hts : ∀ t ∈ f.params.toList, t < Tryz.prog.types.size) (hvars : s.vars = [])
   (hres : (s.fn H (ds ++ gs)).results = [.lit (.bool true)]) (hargs : (s.fn H (ds ++ gs)).args = ds) (hv : (s.fn H (ds ++ gs)).vars = []) (hrt : f.resultTypes = #[tb]) (htb : Tryz.prog.underlying tb = some .bool) (hb : Below W.heap.size W W') :
   s.post enc Tryz.prog f false true false false W args (.bool true) W' := by
 have hlt := fun p hp => hW.lt p hp
 have hW' := hW
 obtain ⟨p, q, hA, hV, rfl, hfz, hnd⟩ := hW
 rw [hvars] at hV
 obtain ⟨rfl, rfl⟩ := trodVars_none hV
 refine ⟨ds, [], p ++ [], [], p, [], hW', ?_, ?_, ?_, hb.frame _, fun h => absurd h (by decide)⟩
 · rw [hres, hrt]
   exact trodAll_cons_mk (shut_bool htb _) trodAll_mk0
 · rw [hargs]
   refine DataW.TrodAll.respare rkids rfull hts (carryAll hA fun x hx => hb.same (hlt x (by simpa using hx))) fun x hx => ?_
   simpa using hlt x (by simpa using hx)
 · rw [hv, hvars]; exact rfl
theorem sat_start (W : World) : Sat W W [] := ⟨Below.refl _ _, by simp [keys], fun e he => by cases he⟩
theorem calls_law {f : FuncId} {args : Array Value} {W : World} (h : SC Tryz.prog W f args [] (Ret (fun _ : Unit => []) (fun v _ => v = .bool true))) :
   Calls Tryz.prog f args W fun e W' => e = .returned (.bool true) ∧ Below W.heap.size W W' := by
 refine (h W (sat_start W)).mono ?_
 rintro e W' ⟨v, σ', rfl, hs, hu, x, ho, rfl⟩
 exact ⟨rfl, hs.below⟩
end Go.Proofs.YtnhmmjogfkjceaaGreatDoor
namespace Go.Sl
open Go
abbrev bS (l : List UInt8) : ByteArray := ⟨l.toArray⟩
theorem bS_list (l : List UInt8) : (bS l).data.toList = l := by simp
theorem bS_size (l : List UInt8) : (bS l).size = l.length := by simp [ByteArray.size]
theorem bS_inj {a b : List UInt8} (h : bS a = bS b) : a = b := by rw [← bS_list a, h, bS_list]
theorem bS_app (a b : List UInt8) : bS a ++ bS b = bS (a ++ b) := by
 apply ByteArray.ext
 rw [ByteArray.data_append]
 simp
theorem bS_extract (l : List UInt8) (a b : Nat) : (bS l).extract a b = bS ((l.take b).drop a) := by
 apply ByteArray.ext
 rw [ByteArray.data_extract]
 apply Array.ext'
 simp only [List.extract_toArray, List.extract_eq_take_drop, List.drop_take]
theorem bS_byte {l : List UInt8} {i : Nat} {c : UInt8} (h : l[i]? = some c) : byteN (bS l) (i : Int) = (c.toNat : Int) := byteN_at (by rw [bS_list]; exact h)
section
variable {P : Program} {ρ : Fr} {w : World} {δ : Nat → Value} {l : List UInt8} {dst : Option Tmp} {t ty : TypeId} {x : Operand} {pos : String} {after : Array Edge} {gd : Option (Nat × Bool)}
theorem run_strTo (h : Int) (k : IntKind) {hx : Operand} (ht : P.underlying t = some .string) (hv : ev δ ρ x = .string (bS l)) (hh : ev δ ρ hx = .int k h) (h0 : 0 ≤ h) (h1 : h ≤ l.length) :
   (execOp (ev δ ρ) ⟨dst, .slice t x none (some hx) none, ty, pos, after, gd⟩).run P w = .ok (.value (.string (bS (l.take h.toNat)))) w := by
 have hs := bS_size l
 simp only [execOp, Option.map_none, Option.map_some, hv, hh, Sem.run_bind, Sem.run_pure]
 rw [run_sliceAt_string w t (.string (bS l)) none (some (.int k h)) none ht, run_slice_string_h w t (bS l) ht k h h0 (by omega), Result.andThen_ok, bS_extract]
 simp
theorem run_strFrom (g : Int) (k : IntKind) {gx : Operand} (ht : P.underlying t = some .string) (hv : ev δ ρ x = .string (bS l)) (hg : ev δ ρ gx = .int k g) (h0 : 0 ≤ g) (h1 : g ≤ l.length) :
   (execOp (ev δ ρ) ⟨dst, .slice t x (some gx) none none, ty, pos, after, gd⟩).run P w = .ok (.value (.string (bS (l.drop g.toNat)))) w := by
 have hs := bS_size l
 simp only [execOp, Option.map_none, Option.map_some, hv, hg, Sem.run_bind, Sem.run_pure]
 rw [run_sliceAt_string w t (.string (bS l)) (some (.int k g)) none none ht, run_slice_string_l w t (bS l) ht k g h0 (by omega), Result.andThen_ok, bS_extract, hs, List.take_length]
end
theorem run_make_cap {P : Program} (t e : TypeId) (z : Value) (bytes : Nat) (ht : P.underlying t = some (.slice e)) (hinfo : (P.info? e).map (fun i => (i.zero, i.size, i.bytes)) = some (some z, 1, bytes)) (hz1 : z.cells = #[z])
   (kl kc : IntKind) (m n : Nat) (hmn : m ≤ n) (hbytes : bytes * n ≤ 281474976710656) (h63 : n ≤ 9223372036854775807) (w : World) :
   (Instr.makeSlice t (.int kl (m : Int)) (.int kc (n : Int))).run P w = .ok (.slice (some ⟨w.heap.size, 0, none⟩) m n) (w.alloc (.cells (madeCells #[z] n) e)) := by
 obtain ⟨i, hi, hzz⟩ := Option.map_eq_some_iff.1 hinfo
 simp only [Prod.mk.injEq] at hzz
 obtain ⟨hz, hs, hb⟩ := hzz
 have hb' : (i.bytes : Int) * (n : Int) ≤ 281474976710656 := by
   have h : ((i.bytes * n : Nat) : Int) ≤ 281474976710656 := by rw [hb]; omega
   rwa [Int.natCast_mul] at h
 have hr := run_make (P := P) w t e i z ht hi hz kl kc m n (by omega) (by omega) hb' (by omega)
 simp only [Int.toNat_natCast, hs, Nat.mul_one, hz1] at hr
 exact hr
section
variable {P : Program} {W0 : World} {n : Nat} {Q : SQ} {ρ : Fr} {σ : Heaplet} {K : Fr → Heaplet → Prop}
theorem O_make2 (m cap : Nat) (z : Value) {e t ty : TypeId} {bytes : Nat} {k k' : IntKind} {dst : Option Tmp} {l c : Operand} {pos : String} {after : Array Edge} {gd : Option (Nat × Bool)}
   (hl : ∀ δ, ev δ ρ l = .int k (m : Int)) (hc : ∀ δ, ev δ ρ c = .int k' (cap : Int)) (ht : P.underlying t = some (.slice e)) (hi : (P.info? e).map (fun i => (i.zero, i.size, i.bytes)) = some (some z, 1, bytes))
   (hz : z.cells = #[z]) (hb : bytes * cap ≤ 281474976710656) (hm : cap ≤ 140737488355328) (hmc : m ≤ cap) (hd : dstOk n dst = true)
   (h : ∀ b, W0.heap.size ≤ b → b ∉ keys σ → K (putF ρ dst ((Gs.at b cap).val m)) ((Gs.at b cap).ent e 1 (List.replicate m z ++ List.replicate (cap - m) z) ++ σ)) :
   SO P W0 n Q ⟨dst, .makeSlice t l c, ty, pos, after, gd⟩ ρ σ K := by
 refine O_new (fun b => (Gs.at b cap).val m) (.cells (madeCells #[z] cap) e) (.cells e (cap * 1) (List.replicate m z ++ List.replicate (cap - m) z)) hd (fun δ w => ?_) ?_ h
 · have := run_make_cap (P := P) t e z bytes ht hi hz k k' m cap hmc hb (by omega) w
   simp only [execOp, hl, hc, Sem.run_bind, this, Result.andThen_ok, Sem.run_pure, Gs.val, Gs.addr, Gs.cap]
 · have e1 : (madeCells #[z] cap).toList = List.replicate m z ++ List.replicate (cap - m) z := by
     rw [List.replicate_append_replicate, show m + (cap - m) = cap by omega]
     apply List.ext_getElem?
     intro i
     simp only [Array.getElem?_toList, List.getElem?_replicate]
     by_cases hi : i < cap
     · simp [madeCells, hi, Nat.mod_one]
     · rw [if_neg hi, Array.getElem?_eq_none (by simp [madeCells]; omega)]
   exact ⟨rfl, rfl, by rw [← Array.length_toList, e1]; simp; omega, e1⟩
end
section
variable {P : Program} {ρ : Fr} {dst : Option Tmp} {t t2 ty : TypeId} {x y : Operand} {pos : String} {after : Array Edge} {gd : Option (Nat × Bool)} {k k' : IntKind} {m c : Int}
theorem shlR (v : Int) (h0 : 0 ≤ c) (hv : k.wrap (m * 2 ^ min c.toNat k.bits) = v) (hx : ∀ δ, ev δ ρ x = .int k m := by exact fun _ => rfl) (hy : ∀ δ, ev δ ρ y = .int k' c := by exact fun _ => rfl) :
   ∀ δ w, (execOp (ev δ ρ) ⟨dst, .binOp .shl t x y t2, ty, pos, after, gd⟩).run P w = .ok (.value (.int k v)) w := by
 intro δ w
 simp only [execOp, hx, hy, Sem.run_bind]
 simp only [binOp, Op.shift]
 rw [if_neg (by omega), hv]
 rfl
theorem orR (v : Int) (hv : IntKind.wrap .u64 ((BitVec.ofInt 64 m ||| BitVec.ofInt 64 c).toNat) = v) (hx : ∀ δ, ev δ ρ x = .int .u64 m := by exact fun _ => rfl) (hy : ∀ δ, ev δ ρ y = .int .u64 c := by exact fun _ => rfl) :
   ∀ δ w, (execOp (ev δ ρ) ⟨dst, .binOp .or t x y t2, ty, pos, after, gd⟩).run P w = .ok (.value (.int .u64 v)) w := by
 intro δ w
 simp only [execOp, hx, hy, Sem.run_bind]
 rw [← hv]
 rfl
theorem orR32 (v : Int) (hv : IntKind.wrap .u32 ((BitVec.ofInt 32 m ||| BitVec.ofInt 32 c).toNat) = v) (hx : ∀ δ, ev δ ρ x = .int .u32 m := by exact fun _ => rfl) (hy : ∀ δ, ev δ ρ y = .int .u32 c := by exact fun _ => rfl) :
   ∀ δ w, (execOp (ev δ ρ) ⟨dst, .binOp .or t x y t2, ty, pos, after, gd⟩).run P w = .ok (.value (.int .u32 v)) w := by
 intro δ w
 simp only [execOp, hx, hy, Sem.run_bind]
 rw [← hv]
 rfl
theorem or8R (v : Int) (hv : IntKind.wrap .u8 ((BitVec.ofInt 8 m ||| BitVec.ofInt 8 c).toNat) = v) (hx : ∀ δ, ev δ ρ x = .int .u8 m := by exact fun _ => rfl) (hy : ∀ δ, ev δ ρ y = .int .u8 c := by exact fun _ => rfl) :
   ∀ δ w, (execOp (ev δ ρ) ⟨dst, .binOp .or t x y t2, ty, pos, after, gd⟩).run P w = .ok (.value (.int .u8 v)) w := by
 intro δ w
 simp only [execOp, hx, hy, Sem.run_bind]
 rw [← hv]
 rfl
theorem andR (v : Int) (hv : IntKind.wrap .u64 ((BitVec.ofInt 64 m &&& BitVec.ofInt 64 c).toNat) = v) (hx : ∀ δ, ev δ ρ x = .int .u64 m := by exact fun _ => rfl) (hy : ∀ δ, ev δ ρ y = .int .u64 c := by exact fun _ => rfl) :
   ∀ δ w, (execOp (ev δ ρ) ⟨dst, .binOp .and t x y t2, ty, pos, after, gd⟩).run P w = .ok (.value (.int .u64 v)) w := by
 intro δ w
 simp only [execOp, hx, hy, Sem.run_bind]
 rw [← hv]
 rfl
theorem andNotR (v : Int) (hv : IntKind.wrap .u64 ((BitVec.ofInt 64 m &&& ~~~ BitVec.ofInt 64 c).toNat) = v) (hx : ∀ δ, ev δ ρ x = .int .u64 m := by exact fun _ => rfl) (hy : ∀ δ, ev δ ρ y = .int .u64 c := by exact fun _ => rfl) :
   ∀ δ w, (execOp (ev δ ρ) ⟨dst, .binOp .andNot t x y t2, ty, pos, after, gd⟩).run P w = .ok (.value (.int .u64 v)) w := by
 intro δ w
 simp only [execOp, hx, hy, Sem.run_bind]
 rw [← hv]
 rfl
theorem shrR (v : Int) (h0 : 0 ≤ c) (hv : m.fdiv (2 ^ min c.toNat k.bits) = v) (hx : ∀ δ, ev δ ρ x = .int k m := by exact fun _ => rfl) (hy : ∀ δ, ev δ ρ y = .int k' c := by exact fun _ => rfl) :
   ∀ δ w, (execOp (ev δ ρ) ⟨dst, .binOp .shr t x y t2, ty, pos, after, gd⟩).run P w = .ok (.value (.int k v)) w := by
 intro δ w
 simp only [execOp, hx, hy, Sem.run_bind]
 simp only [binOp, Op.shift]
 rw [if_neg (by omega), hv]
 rfl
end
theorem rem_nn {m n : Int} (h0 : 0 ≤ m) : Int.tmod m n = m % n := Int.tmod_eq_emod_of_nonneg h0
theorem wrap64 (z : Int) : IntKind.wrap .u64 z = z % 18446744073709551616 := by simp [IntKind.wrap, IntKind.bits, IntKind.signed]
theorem or_apart64 {a b s : Nat} (hb : b < 2 ^ s) (h : a * 2 ^ s + b < 18446744073709551616) : IntKind.wrap .u64 ((BitVec.ofInt 64 ((b : Nat) : Int) ||| BitVec.ofInt 64 ((a * 2 ^ s : Nat) : Int)).toNat) = ((a * 2 ^ s + b : Nat) : Int) := by
 rw [Nat.mul_comm a (2 ^ s)] at h ⊢
 have h1 : (BitVec.ofInt 64 ((2 ^ s * a : Nat) : Int)).toNat = 2 ^ s * a := by
   rw [BitVec.toNat_ofInt]; generalize 2 ^ s * a = z at *; omega
 have h2 : (BitVec.ofInt 64 ((b : Nat) : Int)).toNat = b := by rw [BitVec.toNat_ofInt]; omega
 rw [BitVec.toNat_or, h1, h2, Nat.or_comm, ← Nat.two_pow_add_eq_or_of_lt hb, wrap64]
 omega
theorem Gs.ok_cap {b m c : Nat} {xs : List Value} (h : xs.length = m) (hc : m ≤ c) (hm : c ≤ maxLen) : (Gs.at b c).ok 1 m xs := ⟨hc, hm, by rw [h, Nat.mul_one]⟩
theorem Gs.ok_less {s : Gs} {m k : Nat} {xs ys : List Value} (h : s.ok 1 m xs) (hy : ys.length = k) (hk : k ≤ m) : s.ok 1 k ys := by
 cases s with
 | nil => obtain ⟨h1, h2⟩ := h; exact ⟨by omega, List.eq_nil_of_length_eq_zero (by omega)⟩
 | «at» g c => exact ⟨Nat.le_trans hk h.1, h.2.1, by rw [hy, Nat.mul_one]⟩
section
variable {P : Program} {W0 : World} {n : Nat} {Q : SQ} {ρ : Fr} {σ : Heaplet} {K : Fr → Heaplet → Prop}
def txtV (X : List UInt8) : List Value := X.map fun c => Value.int .u8 c.toNat
theorem txt_at {X : List UInt8} {i : Nat} {c : UInt8} (h : X[i]? = some c) : (txtV X)[i]? = some (.int .u8 c.toNat) := by simp [txtV, h]
theorem Sat.txt {w : World} (h : Sat W0 w σ) (e : TypeId) (s : ByteArray) : Sat W0 (Lib.bytesWorld w e s) ((w.heap.size, .txt (txtV s.data.toList)) :: σ) := by
 have hlt : ∀ e ∈ σ, e.1 < w.heap.size := fun e he => (h.has e he).2.lt
 refine ⟨h.below.trans ⟨rfl, rfl, rfl, by rw [Lib.bytesWorld_size]; omega, fun j hj => Lib.bytesWorld_at_old w e s j (Nat.lt_of_lt_of_le hj h.below.size)⟩, ?_, fun q hq => ?_⟩
 · simp only [keys, List.map_cons, List.nodup_cons]
   refine ⟨fun hm => ?_, h.nodup⟩
   obtain ⟨e, he, h1⟩ := List.mem_map.1 hm
   have := hlt e he
   omega
 · rcases List.mem_cons.1 hq with rfl | hq
   · refine ⟨h.below.size, _, e, _, Lib.bytesWorld_at_new w e s, fun i v hv => ?_⟩
     have hi : i < s.data.size := by
       have := (List.getElem?_eq_some_iff.1 hv).1
       simpa [txtV] using this
     simp only [Lib.bytesCells]
     rw [Array.getElem?_append_left (by simpa using hi)]
     simpa [txtV] using hv
   · have h1 := h.has q hq
     exact ⟨h1.1, h1.2.of_block (Lib.bytesWorld_at_old w e s _ (hlt q hq))⟩
theorem O_txt (s : ByteArray) {src dt e ty : TypeId} {u : TypeDesc} {dst : Option Tmp} {x : Operand} {pos : String} {after : Array Edge} {gd : Option (Nat × Bool)}
   (hs : P.underlying src = some u) (hd : P.underlying dt = some (.slice e)) (he : P.underlying e = some (.int .u8)) (hx : ∀ δ, ev δ ρ x = .string s) (hdst : dstOk n dst = true)
   (h : ∀ b cap, s.size ≤ cap → K (putF ρ dst (.slice (some ⟨b, 0, none⟩) s.size cap)) ((b, .txt (txtV s.data.toList)) :: σ)) : SO P W0 n Q ⟨dst, .convert src dt x, ty, pos, after, gd⟩ ρ σ K := by
 intro w0 K0 a w g1 g2 g3
 have hr : (execOp (ev (slot a) ρ) ⟨dst, .convert src dt x, ty, pos, after, gd⟩).run P w = .ok (.value (.slice (some ⟨w.heap.size, 0, none⟩) s.size (grownCap w s.size 0 e))) (Lib.bytesWorld w e s) := by
   simp only [execOp, hx, Sem.run_bind, Lib.run_convert_string_bytes w src dt e s hs hd he]
   rfl
 unfold Oper.wp
 rw [FSd.eval g1, hr]
 refine ⟨_, _, (FSd.put g1 hdst _).fs, g2.txt e s, ?_, h _ _ ?_⟩
 · refine g3.trans ⟨by rw [Lib.bytesWorld_size]; omega, fun b hb _ => Lib.bytesWorld_at_old w e s b hb, fun b hb => ?_⟩
   simp only [keys, List.map_cons, List.mem_cons] at hb
   rcases hb with rfl | hb
   · exact .inr (Nat.le_refl _)
   · exact .inl hb
 · exact grownCap_ge ..
end
theorem ixb {P : Program} {W0 : World} {n : Nat} {Q : SQ} {ρ : Fr} {σ : Heaplet} {ops : Array Oper} {rest : List Oper} (i : Int) (X : List UInt8) (k : IntKind) (c : UInt8) {d : Nat} {t ty : TypeId} {x ix : Operand} {pos : String} {after : Array Edge} {gd : Option (Nat × Bool)}
   (ht : P.underlying t = some .string) (hc : X[i.toNat]? = some c) (h : SL P W0 n ops Q rest ((d, .int .u8 (c.toNat : Int)) :: ρ) σ) (h0 : 0 ≤ i := by omega) (hx : ∀ δ, ev δ ρ x = .string (bS X) := by exact fun _ => rfl) (hi : ∀ δ, ev δ ρ ix = .int k i := by exact fun _ => rfl)
   (hw : ∀ δ, Region.wanted ⟨some d, .index t x ix, ty, pos, after, gd⟩ (yieldF ops n δ ρ) = true := by exact fun _ => rfl) (hd : Nat.blt d n = true := by exact rfl) : SL P W0 n ops Q (⟨some d, .index t x ix, ty, pos, after, gd⟩ :: rest) ρ σ := by
 have h1 := (List.getElem?_eq_some_iff.1 hc).1
 have hs := bS_size X
 have e : byteN (bS X) i = (c.toNat : Int) := by
   have := bS_byte hc
   rwa [Int.toNat_of_nonneg h0] at this
 rw [← e] at h
 exact ixs i (bS X) k ht h h0 (by omega) hx hi hw hd
theorem run_catB {P : Program} {ρ : Fr} {w : World} {δ : Nat → Value} (a b : List UInt8) (hs : a.length + b.length ≤ 9223372036854775807) {dst : Option Tmp} {t t2 ty : TypeId} {x y : Operand} {pos : String} {after : Array Edge} {gd : Option (Nat × Bool)}
   (hx : ev δ ρ x = .string (bS a)) (hy : ev δ ρ y = .string (bS b)) : (execOp (ev δ ρ) ⟨dst, .binOp .add t x y t2, ty, pos, after, gd⟩).run P w = .ok (.value (.string (bS (a ++ b)))) w := by
 rw [← bS_app]
 exact run_cat (bS a) (bS b) (by rw [bS_size, bS_size]; exact hs) hx hy
theorem strB_eq (a b : List UInt8) : ((bS a).toList == (bS b).toList) = decide (a = b) := by
 rw [str_eq]
 exact decide_eq_decide.2 ⟨bS_inj, fun h => by rw [h]⟩
section
variable {P : Program} {W0 : World} {n : Nat} {Q : SQ} {ρ : Fr} {σ : Heaplet} {K : Fr → Heaplet → Prop} {dst : Option Tmp} {t ty : TypeId} {x : Operand} {pos : String} {after : Array Edge} {gd : Option (Nat × Bool)}
end
section
variable {P : Program} {W0 : World} {n : Nat} {Q : SQ} {ρ : Fr} {σ : Heaplet} {K : Fr → Heaplet → Prop} {dst : Option Tmp} {t ty pt it : TypeId} {x y : Operand} {pos : String} {after : Array Edge} {gd : Option (Nat × Bool)}
end
section
variable {P : Program} {W0 : World} {n : Nat} {Q : SQ} {ρ : Fr} {σ : Heaplet} {K : Fr → Heaplet → Prop} {dst : Option Tmp} {ty t2 : TypeId} {x y : Operand} {pos : String} {after : Array Edge} {gd : Option (Nat × Bool)}
end
end Go.Sl
namespace Go.Proofs.YtnhmmjogfkjceaaGreatDoor
open Go.Sl Go.ChangeShapes Go.WideShapes Go.ChangeAt Go.RowKit Go.Deep
theorem laidVars_drop {P : Program} {w : World} : ∀ {l1 l2 : List (String × DataW Unit)} {ps : List MemPlace}, DataW.LaidVars P w (l1 ++ l2) ps → ∃ qs, DataW.LaidVars P w l2 qs
 | [], _, ps, h => ⟨ps, h⟩
 | _ :: _, _, _, h => by
   obtain ⟨g, t, cs, fuel, p, q, _, _, _, _, h, _⟩ := h
   exact laidVars_drop h
theorem var_below {P : Program} {W w : World} {name : String} {cs : Array Value} (hb : Below W.heap.size W w) (h : W.var? P name = some cs) : w.var? P name = some cs := by
 unfold World.var? at h ⊢
 cases hg : P.globalNamed name with
 | none => rw [hg] at h; cases h
 | some g =>
   rw [hg] at h
   simp only [Option.bind_some] at h ⊢
   have hlt : g < W.heap.size := by
     rcases Nat.lt_or_ge g W.heap.size with q | q
     · exact q
     · rw [Array.getElem?_eq_none q] at h; cases h
   rw [hb.block g hlt]
   exact h
theorem laid_tab {W : World} {name : String} {k : IntKind} {zs : List Int} {rest : List (String × DataW Unit)} {ps : List MemPlace} {g : Nat} {t e : TypeId} {n : Nat} {P : Program}
   (hg : P.globalNamed name = some g) (hty : (P.globals[g]?).map (·.type) = some t) (ht : P.underlying t = some (.array n e)) (he : P.underlying e = some (.int k)) (hce : P.cellsOf e = 1) (hct : P.cellsOf t = n)
   (h : DataW.LaidVars P W ((name, Lib.tabData k zs) :: rest) ps) : Lib.TabIs P W name k zs := by
 obtain ⟨g', t', cs, fuel, p, q, hg', ht', hvar, hd, _, _⟩ := h
 obtain rfl := Option.some.inj (hg.symm.trans hg')
 obtain rfl := Option.some.inj (hty.symm.trans ht')
 unfold Lib.TabIs
 rw [hvar, ← Lib.cells_of_tab ht he hce hct hd]
def flatCells : DataW Unit → List Value
  | .lit (.int k n) => [.int k n]
  | .lit (.string s) => [.string ⟨s.toArray⟩]
  | .lit (.bool b) => [.bool b]
  | .agg l => flatAll l
  | _ => []
where flatAll : List (DataW Unit) → List Value
  | [] => []
  | d :: r => flatCells d ++ flatAll r
noncomputable def putG (h : Array Obj) (g : Nat) (cs : Array Value) : Array Obj := h.modify g fun
  | .cells _ t frozen => .cells cs t frozen
  | o => o
end Go.Proofs.YtnhmmjogfkjceaaGreatDoor
