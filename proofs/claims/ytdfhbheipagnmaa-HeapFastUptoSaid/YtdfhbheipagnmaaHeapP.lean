/-
  The tree of shapes and an object's properties, in plain Lean: what a way through the tree tells, what a put, a drop and a move leave. No condition.
-/
import Derived.Test.YtdfhbheipagnmaaHeapD
set_option linter.unusedVariables false
set_option linter.unusedSimpArgs false
namespace Go.Proofs.Ytdfhbheipagnmaa
open Go.Sl

theorem keyIx_ixS (key : ByteArray) : ∀ (l : List PropP) (k : Nat), ixFrom (fun p : PropP => decide (p.1 = key)) l k = ixFrom (fun a : ByteArray => decide (a = key)) (l.map (·.1)) k
  | [], k => rfl
  | a :: r, k => by simp only [List.map_cons, ixFrom, keyIx_ixS key r (k + 1)]
theorem keyIx_eq (l : List PropP) (key : ByteArray) : keyIx l key = ixS (l.map (·.1)) key := keyIx_ixS key l 0
theorem ixS_none {l : List ByteArray} {key : ByteArray} : ixS l key < 0 ↔ key ∉ l := by
  unfold ixS
  rcases ixFrom_spec (p := fun a : ByteArray => decide (a = key)) l 0 with ⟨h1, h2⟩ | ⟨i, x, h1, h2, h3, _⟩
  · refine ⟨fun _ hm => ?_, fun _ => by omega⟩
    have := h2 key hm
    simp at this
  · refine ⟨fun h => by omega, fun h => absurd (List.mem_of_getElem? h2) ?_⟩
    simp only [decide_eq_true_eq] at h3
    subst h3; exact h
theorem ixS_some {l : List ByteArray} {key : ByteArray} (h : 0 ≤ ixS l key) : l[(ixS l key).toNat]? = some key := by
  unfold ixS at *
  rcases ixFrom_spec (p := fun a : ByteArray => decide (a = key)) l 0 with ⟨h1, h2⟩ | ⟨i, x, h1, h2, h3, _⟩
  · omega
  · simp only [decide_eq_true_eq] at h3
    subst h3
    rw [h1]; simpa using h2
theorem ixS_nn {l : List ByteArray} {key : ByteArray} (h : ¬ ixS l key < 0) : 0 ≤ ixS l key := by omega
theorem shapeAt_iff {t : TreeP} {n : Int} {s : ShapeP} : shapeAt t n = some s ↔ 0 ≤ n ∧ t.l[n.toNat]? = some s := by
  unfold shapeAt
  by_cases h : 0 ≤ n ∧ n < t.l.length
  · rw [if_pos h]; exact ⟨fun q => ⟨h.1, q⟩, fun q => q.2⟩
  · rw [if_neg h]
    refine ⟨fun q => absurd q (by simp), fun q => ?_⟩
    have := (List.getElem?_eq_some_iff.1 q.2).1
    omega
def stepL (l : List PropP) : StepP → List PropP
  | (false, k, f) => l ++ [(k, f)]
  | (true, k, f) => l.set (keyIx l k).toNat (k, f)
structure TInv (t : TreeP) : Prop where
  next : ∀ (i : Nat) s, t.l[i]? = some s → ∀ x m, mget s.next x = some m → 0 ≤ m ∧ ∃ s', t.l[m.toNat]? = some s' ∧ s'.proto = s.proto ∧ s'.l = stepL s.l x
  roots : ∀ p m, mget t.roots p = some m → 0 ≤ m ∧ ∃ s', t.l[m.toNat]? = some s' ∧ s'.proto = p ∧ s'.l = []
  nodup : ∀ (i : Nat) s, t.l[i]? = some s → (s.l.map (·.1)).Nodup
theorem TInv.nil (most : Int) : TInv ⟨most, [], []⟩ := ⟨fun i s h => by simp at h, fun p m h => by simp [mget] at h, fun i s h => by simp at h⟩
/-- What was there stays. -/
structure Ext (t t' : TreeP) : Prop where
  most : t'.most = t.most
  stay : ∀ (i : Nat) s, t.l[i]? = some s → ∃ s', t'.l[i]? = some s' ∧ s'.proto = s.proto ∧ s'.l = s.l
theorem Ext.refl (t : TreeP) : Ext t t := ⟨rfl, fun i s h => ⟨s, h, rfl, rfl⟩⟩
theorem Ext.trans {t t' t2 : TreeP} (h : Ext t t') (k : Ext t' t2) : Ext t t2 := ⟨k.most.trans h.most, fun i s hs => by
  obtain ⟨s', h1, h2, h3⟩ := h.stay i s hs
  obtain ⟨s2, k1, k2, k3⟩ := k.stay i s' h1
  exact ⟨s2, k1, k2.trans h2, k3.trans h3⟩⟩
theorem Ext.shape {t t' : TreeP} (h : Ext t t') {n : Int} {s : ShapeP} (hs : shapeAt t n = some s) : ∃ s', shapeAt t' n = some s' ∧ s'.proto = s.proto ∧ s'.l = s.l := by
  obtain ⟨h0, h1⟩ := shapeAt_iff.1 hs
  obtain ⟨s', h2, h3⟩ := h.stay _ _ h1
  exact ⟨s', shapeAt_iff.2 ⟨h0, h2⟩, h3⟩
structure Got (t t' : TreeP) (m : Int) (ok : Bool) (pr : Int) (l : List PropP) : Prop where
  inv : TInv t'
  ext : Ext t t'
  it : ok = true → ∃ s', shapeAt t' m = some s' ∧ s'.proto = pr ∧ s'.l = l
  more : t'.l.length ≤ t.l.length + 1
  full : (t.l.length : Int) < t.most → ok = true
theorem lay_inv {t : TreeP} (h : TInv t) {new : ShapeP} (hn : new.next = []) (hd : (new.l.map (·.1)).Nodup) (r : List (Int × Int)) (hr : ∀ p m, mget r p = some m → mget t.roots p = some m ∨ (m = t.l.length ∧ new.proto = p ∧ new.l = [])) :
    TInv ⟨t.most, t.l ++ [new], r⟩ ∧ Ext t ⟨t.most, t.l ++ [new], r⟩ := by
  have up : ∀ (i : Nat) s, t.l[i]? = some s → (t.l ++ [new])[i]? = some s := fun i s hs => by
    rw [List.getElem?_append_left (List.getElem?_eq_some_iff.1 hs).1]; exact hs
  have hnew : (t.l ++ [new])[t.l.length]? = some new := by simp
  have hat : ∀ (i : Nat) y, (t.l ++ [new])[i]? = some y → t.l[i]? = some y ∨ y = new := fun i y hy => by
    by_cases hi : i < t.l.length
    · rw [List.getElem?_append_left hi] at hy; exact .inl hy
    · rw [List.getElem?_append_right (by omega)] at hy
      have := (List.getElem?_eq_some_iff.1 hy).1
      simp at this
      rw [show i - t.l.length = 0 by omega] at hy
      simp at hy; exact .inr hy.symm
  refine ⟨⟨fun i y hy x m hm => ?_, fun p m hm => ?_, fun i y hy => ?_⟩, rfl, fun i s hs => ⟨s, up i s hs, rfl, rfl⟩⟩
  · rcases hat i y hy with h1 | rfl
    · obtain ⟨h0, s', h2, h3⟩ := h.next i y h1 x m hm
      exact ⟨h0, s', up _ _ h2, h3⟩
    · rw [hn] at hm; cases hm
  · rcases hr p m hm with h1 | ⟨rfl, h2, h3⟩
    · obtain ⟨h0, s', h2, h3⟩ := h.roots p m h1
      exact ⟨h0, s', up _ _ h2, h3⟩
    · exact ⟨by omega, new, by simp, h2, h3⟩
  · rcases hat i y hy with h1 | rfl
    · exact h.nodup i y h1
    · exact hd
theorem set_inv {t : TreeP} (h : TInv t) {n : Nat} {s : ShapeP} (hs : t.l[n]? = some s) {x : StepP} {m : Int} (hm : 0 ≤ m ∧ ∃ s', t.l[m.toNat]? = some s' ∧ s'.proto = s.proto ∧ s'.l = stepL s.l x) :
    TInv ⟨t.most, t.l.set n ⟨s.proto, s.l, mset s.next x m⟩, t.roots⟩ ∧ Ext t ⟨t.most, t.l.set n ⟨s.proto, s.l, mset s.next x m⟩, t.roots⟩ := by
  have hlt := (List.getElem?_eq_some_iff.1 hs).1
  have up : ∀ (i : Nat) y, t.l[i]? = some y → ∃ y', (t.l.set n ⟨s.proto, s.l, mset s.next x m⟩)[i]? = some y' ∧ y'.proto = y.proto ∧ y'.l = y.l := fun i y hy => by
    by_cases e : n = i
    · subst e; rw [hs] at hy; cases hy; exact ⟨_, List.getElem?_set_self hlt, rfl, rfl⟩
    · exact ⟨y, by rw [List.getElem?_set_ne e]; exact hy, rfl, rfl⟩
  have hat : ∀ (i : Nat) y, (t.l.set n ⟨s.proto, s.l, mset s.next x m⟩)[i]? = some y → (i = n ∧ y = ⟨s.proto, s.l, mset s.next x m⟩) ∨ t.l[i]? = some y := fun i y hy => by
    by_cases e : n = i
    · subst e; rw [List.getElem?_set_self hlt] at hy; exact .inl ⟨rfl, by simpa using hy.symm⟩
    · rw [List.getElem?_set_ne e] at hy; exact .inr hy
  have go : ∀ (k : Int) (a : Int) (b : List PropP), (0 ≤ k ∧ ∃ s', t.l[k.toNat]? = some s' ∧ s'.proto = a ∧ s'.l = b) → 0 ≤ k ∧ ∃ s', (t.l.set n ⟨s.proto, s.l, mset s.next x m⟩)[k.toNat]? = some s' ∧ s'.proto = a ∧ s'.l = b := fun k a b ⟨h0, s', h1, h2, h3⟩ => by
    obtain ⟨y, g1, g2, g3⟩ := up _ _ h1
    exact ⟨h0, y, g1, g2.trans h2, g3.trans h3⟩
  refine ⟨⟨fun i y hy x' m' hm' => ?_, fun p k hk => go _ _ _ (h.roots p k hk), fun i y hy => ?_⟩, rfl, up⟩
  · rcases hat i y hy with ⟨rfl, rfl⟩ | h1
    · simp only [mget_mset] at hm'
      by_cases e : x = x'
      · subst e; rw [if_pos rfl] at hm'; cases hm'; exact go _ _ _ hm
      · rw [if_neg e] at hm'; exact go _ _ _ (h.next i s hs x' m' hm')
    · exact go _ _ _ (h.next i y h1 x' m' hm')
  · rcases hat i y hy with ⟨rfl, rfl⟩ | h1
    · exact h.nodup i s hs
    · exact h.nodup i y h1
theorem wayP_got {t : TreeP} (h : TInv t) {n : Nat} {s : ShapeP} (hs : t.l[n]? = some s) {x : StepP} {l : List PropP} (hl : l = stepL s.l x) (hd : (l.map (·.1)).Nodup) :
    Got t (wayP t n x l).1 (wayP t n x l).2.1 (wayP t n x l).2.2 s.proto l := by
  unfold wayP
  rw [hs]
  simp only []
  cases hm : mget s.next x with
  | some m =>
    obtain ⟨h0, s', h1, h2, h3⟩ := h.next n s hs x m hm
    exact ⟨h, Ext.refl t, fun _ => ⟨s', shapeAt_iff.2 ⟨h0, h1⟩, h2, by rw [h3, hl]⟩, by simp, fun _ => rfl⟩
  | none =>
    unfold layP
    by_cases hf : t.most ≤ t.l.length
    · simp only [if_pos hf]
      exact ⟨h, Ext.refl t, fun q => (by cases q), by simp, fun q => by omega⟩
    · simp only [if_neg hf]
      obtain ⟨h1, h2⟩ := lay_inv h (new := ⟨s.proto, l, []⟩) rfl hd t.roots (fun p m q => .inl q)
      have hlt := (List.getElem?_eq_some_iff.1 hs).1
      have hs1 : (t.l ++ [(⟨s.proto, l, []⟩ : ShapeP)])[n]? = some s := by rw [List.getElem?_append_left hlt]; exact hs
      have hnew : (t.l ++ [(⟨s.proto, l, []⟩ : ShapeP)])[t.l.length]? = some ⟨s.proto, l, []⟩ := by simp
      obtain ⟨h3, h4⟩ := set_inv h1 hs1 (x := x) (m := (t.l.length : Int)) ⟨by omega, ⟨s.proto, l, []⟩, by simp, rfl, hl⟩
      refine ⟨h3, h2.trans h4, fun _ => ⟨⟨s.proto, l, []⟩, shapeAt_iff.2 ⟨by omega, ?_⟩, rfl, rfl⟩, by simp, fun _ => rfl⟩
      simp only [Int.toNat_natCast]
      rw [List.getElem?_set_ne (by omega)]
      exact hnew
theorem addP_got {t : TreeP} (h : TInv t) {n : Int} {s : ShapeP} (hs : shapeAt t n = some s) {key : ByteArray} (flags : Int) (hk : key ∉ s.l.map (·.1)) :
    Got t (addP t n key flags).1 (addP t n key flags).2.1 (addP t n key flags).2.2 s.proto (s.l ++ [(key, flags)]) := by
  have hk' : ¬ keyIx s.l key ≥ 0 := by have := ixS_none.2 hk; rw [keyIx_eq]; omega
  unfold addP
  rw [hs]
  simp only [if_neg hk']
  obtain ⟨h0, h1⟩ := shapeAt_iff.1 hs
  refine wayP_got h h1 rfl ?_
  rw [List.map_append, List.nodup_append]
  refine ⟨h.nodup _ _ h1, by simp, fun a ha b hb => ?_⟩
  simp only [List.map_cons, List.map_nil, List.mem_singleton] at hb
  subst hb
  rintro rfl
  exact hk ha
theorem set_keys {l : List PropP} {i : Nat} {p : PropP} (hp : l[i]? = some p) (f : Int) : (l.set i (p.1, f)).map (·.1) = l.map (·.1) := by
  rw [List.map_set]
  exact set_same (by simp [hp])
theorem changeP_got {t : TreeP} (h : TInv t) {n : Int} {s : ShapeP} (hs : shapeAt t n = some s) {key : ByteArray} (flags : Int) (hk : key ∈ s.l.map (·.1)) :
    Got t (changeP t n key flags).1 (changeP t n key flags).2.1 (changeP t n key flags).2.2 s.proto (s.l.set (keyIx s.l key).toNat (key, flags)) := by
  have h0 : 0 ≤ ixS (s.l.map (·.1)) key := by
    by_cases q : ixS (s.l.map (·.1)) key < 0
    · exact absurd hk (ixS_none.1 q)
    · omega
  have h1 := ixS_some h0
  have hk' : ¬ keyIx s.l key < 0 := by rw [keyIx_eq]; omega
  rw [← keyIx_eq, List.getElem?_map, Option.map_eq_some_iff] at h1
  obtain ⟨p, h2, h3⟩ := h1
  unfold changeP
  rw [hs]
  simp only [if_neg hk', h2]
  obtain ⟨g0, g1⟩ := shapeAt_iff.1 hs
  by_cases he : (p.2 == flags) = true
  · rw [if_pos he]
    have e : s.l.set (keyIx s.l key).toNat (key, flags) = s.l := by
      refine set_same ?_
      rw [h2]
      simp only [beq_iff_eq] at he
      rw [← he, ← h3]
    rw [e]
    exact ⟨h, Ext.refl t, fun _ => ⟨s, hs, rfl, rfl⟩, by simp, fun _ => rfl⟩
  · rw [if_neg he]
    have := wayP_got h g1 (x := (true, p.1, flags)) (l := s.l.set (keyIx s.l key).toNat (p.1, flags)) (by rw [h3]; rfl) (by rw [set_keys h2]; exact h.nodup _ _ g1)
    rw [h3] at this ⊢
    exact this
theorem rootP_got {t : TreeP} (h : TInv t) (pr : Int) : Got t (rootP t pr).1 (rootP t pr).2.1 (rootP t pr).2.2 pr [] := by
  unfold rootP
  cases hm : mget t.roots pr with
  | some m =>
    obtain ⟨h0, s', h1, h2, h3⟩ := h.roots pr m hm
    exact ⟨h, Ext.refl t, fun _ => ⟨s', shapeAt_iff.2 ⟨h0, h1⟩, h2, h3⟩, by simp, fun _ => rfl⟩
  | none =>
    unfold layP
    by_cases hf : t.most ≤ t.l.length
    · simp only [if_pos hf]
      exact ⟨h, Ext.refl t, fun q => (by cases q), by simp, fun q => by omega⟩
    · simp only [if_neg hf]
      obtain ⟨h1, h2⟩ := lay_inv h (new := ⟨pr, [], []⟩) rfl (by simp) (mset t.roots pr t.l.length) (fun p m q => by
        rw [mget_mset] at q
        by_cases e : pr = p
        · rw [if_pos e] at q; cases q; exact .inr ⟨rfl, e, rfl⟩
        · rw [if_neg e] at q; exact .inl q)
      exact ⟨h1, h2, fun _ => ⟨⟨pr, [], []⟩, shapeAt_iff.2 ⟨by omega, by simp⟩, rfl, rfl⟩, by simp, fun _ => rfl⟩
theorem moveGo_got {pr : Int} : ∀ (rest pre : List PropP) (t : TreeP) (m : Int) (ok : Bool), TInv t → (ok = true → ∃ s', shapeAt t m = some s' ∧ s'.proto = pr ∧ s'.l = pre) → ((pre ++ rest).map (·.1)).Nodup →
    TInv (moveGo t m ok rest).1 ∧ Ext t (moveGo t m ok rest).1 ∧ ((moveGo t m ok rest).2.2 = true → ∃ s', shapeAt (moveGo t m ok rest).1 (moveGo t m ok rest).2.1 = some s' ∧ s'.proto = pr ∧ s'.l = pre ++ rest)
  | [], pre, t, m, ok, h, hi, hd => ⟨h, Ext.refl t, fun q => by simpa [moveGo] using hi q⟩
  | p :: rest, pre, t, m, ok, h, hi, hd => by
    unfold moveGo
    by_cases hok : ok = false
    · rw [if_pos hok]; exact ⟨h, Ext.refl t, fun q => by cases q⟩
    · rw [if_neg hok]
      obtain ⟨s', h1, h2, h3⟩ := hi (by simpa using hok)
      have hn : p.1 ∉ s'.l.map (·.1) := by
        rw [h3]
        rw [List.map_append, List.nodup_append] at hd
        intro hm
        exact hd.2.2 _ hm p.1 (by simp) rfl
      have g := addP_got h h1 p.2 hn
      obtain ⟨a, b, c⟩ := moveGo_got (pr := pr) rest (pre ++ [p]) _ _ _ g.inv (fun q => by
        obtain ⟨s2, q1, q2, q3⟩ := g.it q
        exact ⟨s2, q1, q2.trans h2, by rw [q3, h3]⟩) (by simpa using hd)
      exact ⟨a, g.ext.trans b, fun q => by simpa using c q⟩
theorem moveP_got {t : TreeP} (h : TInv t) {n : Int} {s : ShapeP} (hs : shapeAt t n = some s) (pr : Int) :
    TInv (moveP t n pr).1 ∧ Ext t (moveP t n pr).1 ∧ ((moveP t n pr).2.2 = true → ∃ s', shapeAt (moveP t n pr).1 (moveP t n pr).2.1 = some s' ∧ s'.proto = pr ∧ s'.l = s.l) := by
  unfold moveP
  rw [hs]
  simp only []
  have g := rootP_got h pr
  obtain ⟨a, b, c⟩ := moveGo_got (pr := pr) s.l [] _ _ _ g.inv g.it (by simpa using h.nodup _ _ (shapeAt_iff.1 hs).2)
  exact ⟨a, g.ext.trans b, by simpa using c⟩

/-! an object's properties -/
def keysPS (t : TreeP) (p : PS) : List ByteArray := if p.shape < 0 then p.names else keysP t p.shape
structure PInv (t : TreeP) (rk : Int) (p : PS) : Prop where
  fast : 0 ≤ p.shape → ∃ s, shapeAt t p.shape = some s ∧ s.proto = rk ∧ s.l.map (·.2) = p.vals.map (·.2.2)
  len : (keysPS t p).length = p.vals.length
  nodup : (keysPS t p).Nodup
  stale : 0 ≤ p.shape → p.names = []
theorem OInv.ps {t : TreeP} {x : ObjL} (h : OInv t x) : PInv t (rootKey x.proto x.kind) x.ps := ⟨h.fast, h.len, h.nodup, h.stale⟩
theorem PInv.obj {t : TreeP} {x : ObjL} (h : PInv t (rootKey x.proto x.kind) x.ps) : OInv t x := ⟨h.fast, h.len, h.nodup, h.stale⟩
theorem keysP_at {t : TreeP} {n : Int} {s : ShapeP} (hs : shapeAt t n = some s) : keysP t n = s.l.map (·.1) := by unfold keysP; rw [hs]
theorem keysPS_fast {t : TreeP} {p : PS} {s : ShapeP} (h0 : 0 ≤ p.shape) (hs : shapeAt t p.shape = some s) : keysPS t p = s.l.map (·.1) := by unfold keysPS; rw [if_neg (by omega), keysP_at hs]
theorem keysPS_slow {t : TreeP} {p : PS} (h0 : p.shape < 0) : keysPS t p = p.names := by unfold keysPS; rw [if_pos h0]
theorem keysP_ext {t t' : TreeP} (he : Ext t t') {n : Int} {s : ShapeP} (hs : shapeAt t n = some s) : keysP t' n = keysP t n := by
  obtain ⟨s', h1, h2, h3⟩ := he.shape hs
  rw [keysP_at hs, keysP_at h1, h3]
theorem PInv.ext {t t' : TreeP} {rk : Int} {p : PS} (h : PInv t rk p) (he : Ext t t') : PInv t' rk p ∧ keysPS t' p = keysPS t p := by
  have hk : keysPS t' p = keysPS t p := by
    unfold keysPS
    by_cases hs : p.shape < 0
    · rw [if_pos hs, if_pos hs]
    · rw [if_neg hs, if_neg hs]
      obtain ⟨s, h1, h2, h3⟩ := h.fast (by omega)
      exact keysP_ext he h1
  refine ⟨⟨fun h0 => ?_, by rw [hk]; exact h.len, by rw [hk]; exact h.nodup, h.stale⟩, hk⟩
  obtain ⟨s, h1, h2, h3⟩ := h.fast h0
  obtain ⟨s', g1, g2, g3⟩ := he.shape h1
  exact ⟨s', g1, g2.trans h2, by rw [g3]; exact h3⟩
theorem OInv.ext {t t' : TreeP} {x : ObjL} (h : OInv t x) (he : Ext t t') : OInv t' x ∧ keysOf t' x = keysOf t x := by
  obtain ⟨a, b⟩ := h.ps.ext he
  exact ⟨a.obj, b⟩
theorem placePS {t : TreeP} {rk : Int} {p : PS} (h : PInv t rk p) (key : ByteArray) : placeO t p.shape p.names key = (if ixS (keysPS t p) key < 0 then -1 else ixS (keysPS t p) key) := by
  have hneg : ∀ l : List ByteArray, ixS l key < 0 → ixS l key = -1 := fun l h => by
    unfold ixS at *
    rcases ixFrom_spec (p := fun a : ByteArray => decide (a = key)) l 0 with ⟨h1, h2⟩ | ⟨i, x, h1, h2, h3, _⟩
    · exact h1
    · omega
  unfold placeO keysPS
  by_cases hs : p.shape < 0
  · rw [if_pos hs, if_pos hs]
    split
    · next q => exact hneg _ q
    · rfl
  · rw [if_neg hs, if_neg hs]
    obtain ⟨s, h1, h2, h3⟩ := h.fast (by omega)
    rw [keysP_at h1]
    unfold findP
    rw [h1]
    simp only [keyIx_eq]
    by_cases hk : ixS (s.l.map (·.1)) key < 0
    · simp [if_pos hk]
    · rw [if_neg hk, if_neg hk]
      have := ixS_some (l := s.l.map (·.1)) (key := key) (by omega)
      rw [List.getElem?_map, Option.map_eq_some_iff] at this
      obtain ⟨q, hq, _⟩ := this
      rw [hq]; simp
theorem PInv.loose {t : TreeP} {rk : Int} {p : PS} (h : PInv t rk p) : PInv t rk (looseS t p) ∧ keysPS t (looseS t p) = keysPS t p ∧ (looseS t p).vals = p.vals ∧ (looseS t p).shape < 0 := by
  unfold looseS
  by_cases h0 : 0 ≤ p.shape
  · rw [if_pos h0]
    have hk : keysPS t ⟨-1, keysP t p.shape, p.vals⟩ = keysPS t p := by unfold keysPS; rw [if_pos (by simp), if_neg (by omega)]
    exact ⟨⟨fun q => absurd q (by simp), by rw [hk]; exact h.len, by rw [hk]; exact h.nodup, fun q => absurd q (by simp)⟩, hk, rfl, by simp⟩
  · rw [if_neg h0]; exact ⟨h, rfl, rfl, by omega⟩
theorem flags_set {vals : List DescP} {l : List Int} {i : Nat} {d : DescP} (h : l = vals.map (·.2.2)) : l.set i d.2.2 = (vals.set i d).map (·.2.2) := by rw [h, List.map_set]
/-- What a put leaves. -/
structure Put (t t' : TreeP) (rk : Int) (p p' : PS) (key : ByteArray) (d : DescP) : Prop where
  inv : TInv t'
  ext : Ext t t'
  obj : PInv t' rk p'
  keys : keysPS t' p' = if ixS (keysPS t p) key < 0 then keysPS t p ++ [key] else keysPS t p
  vals : p'.vals = if ixS (keysPS t p) key < 0 then p.vals ++ [d] else p.vals.set (ixS (keysPS t p) key).toNat d
  more : t'.l.length ≤ t.l.length + 1
theorem PInv.shape_l {t : TreeP} {rk : Int} {p : PS} (h : PInv t rk p) (h0 : 0 ≤ p.shape) : ∃ s, shapeAt t p.shape = some s ∧ s.proto = rk ∧ s.l.map (·.2) = p.vals.map (·.2.2) ∧ keysPS t p = s.l.map (·.1) := by
  obtain ⟨s, h1, h2, h3⟩ := h.fast h0
  exact ⟨s, h1, h2, h3, by unfold keysPS; rw [if_neg (by omega), keysP_at h1]⟩
theorem putS_put {t : TreeP} (hT : TInv t) {rk : Int} {p : PS} (h : PInv t rk p) (key : ByteArray) (d : DescP) : Put t (putS t p key d).1 rk p (putS t p key d).2 key d := by
  unfold putS
  rw [placePS h]
  by_cases hk : ixS (keysPS t p) key < 0
  · rw [if_pos hk, if_neg (by decide)]
    have hkn := ixS_none.1 hk
    unfold putNew
    -- the object, loosed or not
    obtain ⟨p0, hp0, h0, k0, v0⟩ : ∃ p0, p0 = (if 16 ≤ p.vals.length then looseS t p else p) ∧ PInv t rk p0 ∧ keysPS t p0 = keysPS t p ∧ p0.vals = p.vals := by
      refine ⟨_, rfl, ?_⟩
      split
      · obtain ⟨a, b, c, _⟩ := h.loose; exact ⟨a, b, c⟩
      · exact ⟨h, rfl, rfl⟩
    rw [← hp0]
    -- the tree, and the object behind it
    obtain ⟨t1, p1, e1, hi1, he1, hm1, hc⟩ : ∃ t1 p1, putFast t p0 key d = (t1, p1) ∧ TInv t1 ∧ Ext t t1 ∧ t1.l.length ≤ t.l.length + 1 ∧
        ((p1.shape < 0 ∧ p1.names = keysPS t p) ∨ (0 ≤ p1.shape ∧ p1.names = [] ∧ ∃ s, shapeAt t1 p1.shape = some s ∧ s.proto = rk ∧ s.l.map (·.2) = p.vals.map (·.2.2) ++ [d.2.2] ∧ s.l.map (·.1) = keysPS t p ++ [key])) := by
      unfold putFast
      by_cases hs : 0 ≤ p0.shape
      · rw [if_pos hs]
        obtain ⟨s, g1, g2, g3, g4⟩ := h0.shape_l hs
        have g := addP_got hT g1 (key := key) d.2.2 (by rw [← g4, k0]; exact hkn)
        refine ⟨_, _, rfl, g.inv, g.ext, g.more, ?_⟩
        unfold stepS
        by_cases hok : (addP t p0.shape key d.2.2).2.2 = true
        · rw [if_pos hok]
          obtain ⟨s', a1, a2, a3⟩ := g.it hok
          refine .inr ⟨(shapeAt_iff.1 a1).1, h0.stale hs, s', a1, a2.trans g2, ?_, ?_⟩
          · rw [a3, List.map_append, g3, v0]; rfl
          · rw [a3, List.map_append, ← g4, k0]; rfl
        · rw [if_neg hok]
          unfold looseS
          rw [if_pos hs]
          refine .inl ⟨by simp, ?_⟩
          rw [← k0]
          simp only []
          rw [keysP_ext g.ext g1]
          unfold keysPS
          rw [if_neg (by omega)]
      · rw [if_neg hs]
        refine ⟨_, _, rfl, hT, Ext.refl t, by omega, .inl ⟨by omega, ?_⟩⟩
        rw [← k0]
        unfold keysPS
        rw [if_pos (by omega)]
    rw [e1]
    simp only []
    have hnd : (keysPS t p ++ [key]).Nodup := by
      rw [List.nodup_append]
      refine ⟨h.nodup, by simp, fun a ha b hb => ?_⟩
      simp only [List.mem_singleton] at hb
      subst hb
      rintro rfl
      exact hkn ha
    have hln : (keysPS t p ++ [key]).length = (p.vals ++ [d]).length := by simp [h.len]
    rcases hc with ⟨c1, c2⟩ | ⟨c1, c2, s, c3, c4, c5, c6⟩
    · have e2 : putName p1 key = ⟨p1.shape, p1.names ++ [key], p1.vals⟩ := by unfold putName; rw [if_pos c1]
      rw [e2]
      have hkk : keysPS t1 ⟨p1.shape, p1.names ++ [key], p.vals ++ [d]⟩ = keysPS t p ++ [key] := (keysPS_slow (p := ⟨p1.shape, p1.names ++ [key], p.vals ++ [d]⟩) c1).trans (by rw [c2])
      exact ⟨hi1, he1, ⟨fun q => absurd q (by simp only []; omega), by rw [hkk]; exact hln, by rw [hkk]; exact hnd, fun q => absurd q (by simp only []; omega)⟩, by rw [if_pos hk]; exact hkk, by rw [if_pos hk], hm1⟩
    · have e2 : putName p1 key = p1 := by unfold putName; rw [if_neg (by omega)]
      rw [e2]
      have hkk : keysPS t1 ⟨p1.shape, p1.names, p.vals ++ [d]⟩ = keysPS t p ++ [key] := (keysPS_fast (p := ⟨p1.shape, p1.names, p.vals ++ [d]⟩) c1 c3).trans c6
      exact ⟨hi1, he1, ⟨fun _ => ⟨s, c3, c4, by rw [c5]; simp⟩, by rw [hkk]; exact hln, by rw [hkk]; exact hnd, fun _ => c2⟩, by rw [if_pos hk]; exact hkk, by rw [if_pos hk], hm1⟩
  · rw [if_neg hk, if_pos (by omega)]
    have hlt : (ixS (keysPS t p) key).toNat < p.vals.length := by
      have := (List.getElem?_eq_some_iff.1 (ixS_some (ixS_nn hk))).1
      rw [h.len] at this; exact this
    obtain ⟨o, ho⟩ : ∃ o, p.vals[(ixS (keysPS t p) key).toNat]? = some o := ⟨_, List.getElem?_eq_getElem hlt⟩
    rw [ho]
    simp only []
    have hkm : key ∈ keysPS t p := List.mem_of_getElem? (ixS_some (ixS_nn hk))
    obtain ⟨t1, p1, e1, hi1, he1, hm1, hc⟩ : ∃ t1 p1, putOld t p key d o = (t1, p1) ∧ TInv t1 ∧ Ext t t1 ∧ t1.l.length ≤ t.l.length + 1 ∧
        ((p1.shape < 0 ∧ p1.names = keysPS t p) ∨ (0 ≤ p1.shape ∧ p1.names = [] ∧ ∃ s, shapeAt t1 p1.shape = some s ∧ s.proto = rk ∧ s.l.map (·.2) = (p.vals.set (ixS (keysPS t p) key).toNat d).map (·.2.2) ∧ s.l.map (·.1) = keysPS t p)) := by
      unfold putOld
      by_cases hs : 0 ≤ p.shape
      · obtain ⟨s, g1, g2, g3, g4⟩ := h.shape_l hs
        by_cases hne : (o.2.2 != d.2.2) = true
        · rw [if_pos ⟨hs, hne⟩]
          have g := changeP_got hT g1 (key := key) d.2.2 (by rw [← g4]; exact hkm)
          refine ⟨_, _, rfl, g.inv, g.ext, g.more, ?_⟩
          unfold stepS
          by_cases hok : (changeP t p.shape key d.2.2).2.2 = true
          · rw [if_pos hok]
            obtain ⟨s', a1, a2, a3⟩ := g.it hok
            refine .inr ⟨(shapeAt_iff.1 a1).1, h.stale hs, s', a1, a2.trans g2, ?_, ?_⟩
            · rw [a3, List.map_set, g3, keyIx_eq, ← g4]; exact flags_set rfl
            · rw [a3, g4]
              have h1 := ixS_some (ixS_nn hk)
              rw [g4, List.getElem?_map, Option.map_eq_some_iff, ← keyIx_eq] at h1
              obtain ⟨q, h2, h3⟩ := h1
              rw [← h3] at h2 ⊢
              exact set_keys h2 _
          · rw [if_neg hok]
            unfold looseS
            rw [if_pos hs]
            refine .inl ⟨by simp, ?_⟩
            simp only []
            rw [keysP_ext g.ext g1]
            unfold keysPS
            rw [if_neg (by omega)]
        · rw [if_neg (fun q => hne q.2)]
          refine ⟨_, _, rfl, hT, Ext.refl t, by omega, .inr ⟨hs, h.stale hs, s, g1, g2, ?_, g4.symm⟩⟩
          rw [g3, List.map_set]
          simp only [bne_iff_ne, ne_eq, Decidable.not_not] at hne
          exact (set_same (by simp [ho, hne])).symm
      · rw [if_neg (fun q => hs q.1)]
        exact ⟨_, _, rfl, hT, Ext.refl t, by omega, .inl ⟨by omega, by unfold keysPS; rw [if_pos (by omega)]⟩⟩
    rw [e1]
    simp only []
    have hln : (keysPS t p).length = (p.vals.set (ixS (keysPS t p) key).toNat d).length := by simp [h.len]
    rcases hc with ⟨c1, c2⟩ | ⟨c1, c2, s, c3, c4, c5, c6⟩
    · have hkk : keysPS t1 ⟨p1.shape, p1.names, p.vals.set (ixS (keysPS t p) key).toNat d⟩ = keysPS t p := (keysPS_slow (p := ⟨p1.shape, p1.names, p.vals.set (ixS (keysPS t p) key).toNat d⟩) c1).trans c2
      exact ⟨hi1, he1, ⟨fun q => absurd q (by simp only []; omega), by rw [hkk]; exact hln, by rw [hkk]; exact h.nodup, fun q => absurd q (by simp only []; omega)⟩, by rw [if_neg hk]; exact hkk, by rw [if_neg hk], hm1⟩
    · have hkk : keysPS t1 ⟨p1.shape, p1.names, p.vals.set (ixS (keysPS t p) key).toNat d⟩ = keysPS t p := (keysPS_fast (p := ⟨p1.shape, p1.names, p.vals.set (ixS (keysPS t p) key).toNat d⟩) c1 c3).trans c6
      exact ⟨hi1, he1, ⟨fun _ => ⟨s, c3, c4, c5⟩, by rw [hkk]; exact hln, by rw [hkk]; exact h.nodup, fun _ => c2⟩, by rw [if_neg hk]; exact hkk, by rw [if_neg hk], hm1⟩
end Go.Proofs.Ytdfhbheipagnmaa
