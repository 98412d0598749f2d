/-
  What functions of heap and word do to the memory they own, step by step: each theorem is one function's contract. Conditions: those that each theorem names.
-/
import Derived.Test.YthflblophelioaaGreatDoorPf2
set_option linter.unusedVariables false
set_option linter.unusedSimpArgs false
set_option maxRecDepth 100000
set_option maxHeartbeats 4000000
namespace Go.Proofs.YthflblophelioaaGreatDoor
open Go.Sl

theorem heap_Get_none {W0 : World} {F : HeapF} {H : HeapV} (hH : H.ok F) {w : Int} (h0 : QB w H.objs.length = none) (key : ByteArray) : SC Tryz.prog W0 55 #[.pointer (some ⟨F.p, 0, none⟩), .int .u64 w, .string key] (HeapV.ent H F) (Ret (fun _ : Unit => H.ent F) (fun v _ => v = descR none)) := by
 refine Qy (fn := Tryz.f55) (n := 30) Tryz.func55 rfl (by kernel_rfl) (ρ := [(0, pt F.p 0), (1, .int .u64 w), (2, .string key)]) rfl ?_
 refine QH _ HeapV.eq0 ?_
 refine sr ?_
 refine L (nw 45 3 [.int .u64 0, .int .u64 0, .int .i64 0] ?_)
 intro b1
 refine os 1 ?_
 refine nsr ?_
 refine os 2 ?_
 refine L (cl (Q6 hH w) ?_ (hp := HeapV.pm))
 rintro v1 _ hv1
 obtain rfl : v1 = .pointer none := hv1.trans (by rw [h0])
 refine QO _ HeapV.eq ?_
 refine os 1 ?_
 refine kp [8, 7, 6, 0, 1, 2] ?_
 refine nq ?_
 refine sr ?_
 refine os 1 ?_
 refine oV (.bool true) ?_
 refine nt ?_
 refine ct ?_
 refine sr ?_
 refine oV (.agg #[.int .u64 0, .int .u64 0, .int .i64 0]) ?_
 refine L (st [.int .u64 0, .int .u64 0, .int .i64 0] ?_)
 refine os 1 ?_
 refine nt ?_
 refine Qj (Qn ?_)
 refine Qs [.agg #[.int .u64 0, .int .u64 0, .int .i64 0], .bool false] (fun _ => (.cons ⟨b1, 0, rfl, .inl ⟨[.int .u64 0, .int .u64 0, .int .i64 0], by kernel_rfl, (Qb (Cell.own Qe rfl) (Qb (Cell.own Qe rfl) (Qb (Cell.own Qe rfl) Qo))), rfl⟩⟩ (.cons rfl .nil))) ?_
 exact ⟨(), HeapV.own, rfl⟩

theorem heap_Get_some {W0 : World} {F : HeapF} {H : HeapV} (hH : H.ok F) {w : Int} {n : Nat} {x : ObjL} (h0 : QB w H.objs.length = some n) (hx : H.objs[n]? = some x) (hI : OInv (H.V.abs F.T) x) (key : ByteArray) : SC Tryz.prog W0 55 #[.pointer (some ⟨F.p, 0, none⟩), .int .u64 w, .string key] (HeapV.ent H F) (Ret (fun _ : Unit => H.ent F) (fun v _ => v = descR (getO (H.V.abs F.T) x key))) := by
 refine Qy (fn := Tryz.f55) (n := 30) Tryz.func55 rfl (by kernel_rfl) (ρ := [(0, pt F.p 0), (1, .int .u64 w), (2, .string key)]) rfl ?_
 refine QH _ HeapV.eq0 ?_
 refine sr ?_
 refine L (nw 45 3 [.int .u64 0, .int .u64 0, .int .i64 0] ?_)
 intro b1
 refine os 1 ?_
 refine nsr ?_
 refine os 2 ?_
 refine L (cl (Q6 hH w) ?_ (hp := HeapV.pm))
 rintro v1 _ hv1
 obtain rfl : v1 = pt (Gs.blk H.s) (n * 9) := hv1.trans (by rw [h0])
 refine QO _ HeapV.eq ?_
 refine os 1 ?_
 refine kp [8, 7, 6, 0, 1, 2] ?_
 refine nq ?_
 refine sr ?_
 refine os 1 ?_
 refine oV (.bool false) ?_
 refine nt ?_
 refine cf ?_
 refine Ql (Qi ?_)
 refine sr ?_
 refine os 3 ?_
 refine L (cl (heap_place hH (n := n) hx key) ?_ (hp := HeapV.pm))
 rintro _ _ rfl
 refine QO _ HeapV.eq ?_
 refine os 1 ?_
 refine kp [9, 14, 8, 7, 6, 0, 1, 2] ?_
 refine nq ?_
 refine sr ?_
 refine os 2 ?_
 refine nt ?_
 refine cdp (fun hc2 : (QN (TreeV.abs H.V F.T) x.shape x.names key) < 0 => ?_) (fun hc2 => ?_)
 ·refine sr ?_
  refine oV (.agg #[.int .u64 0, .int .u64 0, .int .i64 0]) ?_
  refine L (st [.int .u64 0, .int .u64 0, .int .i64 0] ?_)
  refine os 1 ?_
  refine nt ?_
  refine Qj (Qn ?_)
  refine Qs [.agg #[.int .u64 0, .int .u64 0, .int .i64 0], .bool false] (fun _ => (.cons ⟨b1, 0, rfl, .inl ⟨[.int .u64 0, .int .u64 0, .int .i64 0], by kernel_rfl, (Qb (Cell.own Qe rfl) (Qb (Cell.own Qe rfl) (Qb (Cell.own Qe rfl) Qo))), rfl⟩⟩ (.cons rfl .nil))) ?_
  exact ⟨(), HeapV.own, by unfold getO; rw [if_pos (by omega)]; rfl⟩
 have hpl := placeO_lt hI (key := key) (by omega)
 refine Ql (Qi ?_)
 refine sr ?_
 refine os 3 ?_
 refine L (ld ?_ (hc := Gs.cell hH.row (fun e he => (Qc (Qt he))) (Qg ObjL.len hx (j := 5) (by decide) rfl)))
 refine os 1 ?_
 refine L (ixg (QN (TreeV.abs H.V F.T) x.shape x.names key) (((QN (TreeV.abs H.V F.T) x.shape x.names key).toNat) * 3) ((HeapV.ok.at hH hx).vs) Tryz.underlying99 ?_)
 obtain ⟨e1, he1⟩ : ∃ y_, x.vals[((QN (TreeV.abs H.V F.T) x.shape x.names key).toNat)]? = some y_ := ⟨_, List.getElem?_eq_getElem (by omega)⟩
 refine L (ldr [.int .u64 e1.1, .int .u64 e1.2.1, .int .i64 e1.2.2] (Qb (Gs.cell (HeapV.ok.at hH hx).vs (fun e he => (Qc (Qa (Qt ((ObjL.mvs hx) _ he))))) (Qg QL he1 (j := 0) (by decide) rfl)) (Qb (Gs.cell (HeapV.ok.at hH hx).vs (fun e he => (Qc (Qa (Qt ((ObjL.mvs hx) _ he))))) (Qg QL he1 (j := 1) (by decide) rfl)) (Qb (Gs.cell (HeapV.ok.at hH hx).vs (fun e he => (Qc (Qa (Qt ((ObjL.mvs hx) _ he))))) (Qg QL he1 (j := 2) (by decide) rfl)) Qo))) ?_)
 refine L (st [.int .u64 e1.1, .int .u64 e1.2.1, .int .i64 e1.2.2] ?_)
 refine os 1 ?_
 refine kp [7, 21, 9, 14, 8, 6, 0, 1, 2] ?_
 refine nt ?_
 refine Qj ?_
 refine Qs [.agg #[.int .u64 e1.1, .int .u64 e1.2.1, .int .i64 e1.2.2], .bool true] (fun _ => (.cons ⟨b1, 0, rfl, .inl ⟨[.int .u64 e1.1, .int .u64 e1.2.1, .int .i64 e1.2.2], by kernel_rfl, (Qb (Cell.own Qe rfl) (Qb (Cell.own Qe rfl) (Qb (Cell.own Qe rfl) Qo))), rfl⟩⟩ (.cons rfl .nil))) ?_
 exact ⟨(), HeapV.own, by unfold getO; rw [if_neg (by omega), he1]; rfl⟩

end Go.Proofs.YthflblophelioaaGreatDoor
namespace Go.Proofs.YthflblophelioaaGreatDoor
open Go.Sl

theorem words_Clone {W0 : World} {σ : Qp} {l : List Int} {A : Option Addr} {c : Nat} (hs : Src W0 σ A (l.map Qz)) (hr : l.length ≤ 1099511627776) : SC Tryz.prog W0 119 #[.slice A l.length c] σ (Ret (fun s : Gs => s.ent 33 1 (l.map Qz) ++ (σ ++ [])) (fun v s => v = s.val l.length ∧ s.ok 1 l.length (l.map Qz))) := by
 cases A with
 | none =>
   obtain rfl : l = [] := by
     rcases hs with h | ⟨b, o, e, _⟩
     · exact List.eq_nil_of_length_eq_zero (by simpa using h)
     · cases e
   refine Qy (fn := Tryz.f119) (n := 8) Tryz.func119 rfl (by kernel_rfl) (ρ := [(0, .slice none (([] : List Int).length) c)]) rfl ?_
   refine QH (σ ++ ([])) (by simp only [List.append_nil, List.append_assoc]) ?_
   refine sr ?_
   refine os 1 ?_
   refine nq ?_
   refine sr ?_
   refine os 1 ?_
   refine oV (.bool true) ?_
   refine nt ?_
   refine ct ?_
   refine sr ?_
   refine os 1 ?_
   refine nt ?_
   refine Qj (Qn ?_)
   refine Qh (.slice none 0 0) (fun _ => rfl) ?_
   exact ⟨.nil, Own.of_perm (by simp [Gs.ent]), rfl, ⟨rfl, rfl⟩⟩
 | some a =>
   refine Qy (fn := Tryz.f119) (n := 8) Tryz.func119 rfl (by kernel_rfl) (ρ := [(0, .slice (some a) l.length c)]) rfl ?_
   refine QH (σ ++ ([])) (by simp only [List.append_nil, List.append_assoc]) ?_
   refine sr ?_
   refine os 1 ?_
   refine nq ?_
   refine sr ?_
   refine os 1 ?_
   refine oV (.bool false) ?_
   refine nt ?_
   refine cf ?_
   refine Ql (Qi ?_)
   refine sr ?_
   refine L (nws 33 0 0 [] ?_)
   intro b1
   refine os 1 ?_
   refine QO ((Gs.ent 33 1 (Gs.at b1 0) (([] : List Int).map Qz)) ++ (σ ++ ([]))) rfl ?_
   refine L (QU (size := 1) (bytes := 8) (z := .int .u64 0) (Gs.at b1 0) 0 l.length (some a) c (([] : List Int).map Qz) (l.map Qz) ((([] : List Int) ++ l).map Qz) (map_app _ _) (fun _ => rfl) (fun _ => rfl) Tryz.underlying100 (by kernel_rfl) rfl (by decide) ⟨Nat.le_refl _, by unfold maxLen; omega, rfl⟩ (by simp) (Src.elems (hs.mono (fun e he => (Qa (Qt he)))) (by simp)) (map_one (fun _ => rfl) _) (by omega) (by decide) rfl ?_)
   intro s2 hks2 hfs2
   rw [show 0 + l.length = (([] : List Int) ++ l).length from by simp]
   rw [show 0 + l.length = (([] : List Int) ++ l).length from by simp] at hks2
   have hls2 : (([] : List Int) ++ l).length = ([] : List Int).length + l.length := by simp
   refine os 1 ?_
   refine kp [2, 4, 0] ?_
   refine nt ?_
   refine Qj ?_
   refine Qh (Gs.val s2 ((([] : List Int) ++ l).length)) (fun _ => rfl) ?_
   exact ⟨s2, (ow (S := ((Gs.ent 33 1 s2 ((([] : List Int) ++ l).map Qz)) ++ (σ ++ ([]))))), rfl, hks2⟩

end Go.Proofs.YthflblophelioaaGreatDoor
namespace Go.Proofs.YthflblophelioaaGreatDoor
open Go.Sl
theorem flat_drop {α : Type} {f : α → List Value} {k : Nat} (hk : ∀ a, (f a).length = k) (l : List α) (i : Nat) : (l.flatMap f).drop (i * k) = (l.drop i).flatMap f := by
 by_cases h : i ≤ l.length
 · have e : l.flatMap f = (l.take i).flatMap f ++ (l.drop i).flatMap f := by rw [← List.flatMap_append, List.take_append_drop]
   rw [e, List.drop_left' (by rw [QI hk, List.length_take]; congr 1; omega)]
 · have e1 : l.drop i = [] := List.drop_eq_nil_of_le (by omega)
   have e2 : (l.flatMap f).drop (i * k) = [] := List.drop_eq_nil_of_le (by rw [QI hk]; exact Nat.mul_le_mul_right _ (by omega))
   rw [e1, e2]; rfl
theorem del_src {W0 : World} {α : Type} {f : α → List Value} {k : Nat} (hk : ∀ a, (f a).length = k) {l : List α} {i g c N : Nat} {e : TypeId} {τ : Qp} (hi : i < l.length) (hc : l.length ≤ c) :
   l.length - (i + 1) = 0 ∨ ∃ b off, tailA g c (i + 1) k = some ⟨b, off, none⟩ ∧ Cells W0 ((g, .cells e N (l.flatMap f)) :: τ) b off ((l.drop (i + 1)).flatMap f) := by
 by_cases h : l.length - (i + 1) = 0
 · exact .inl h
 · refine .inr ⟨g, (i + 1) * k, by unfold tailA; rw [if_neg (by omega)], Cells.own (N := N) (e := e) (cs := l.flatMap f) Qe ?_⟩
   rw [flat_drop hk, List.take_length]
theorem del_fit {α : Type} {f : α → List Value} {k : Nat} (hk : ∀ a, (f a).length = k) {l : List α} {i : Nat} (hi : i < l.length) : i * k + ((l.drop (i + 1)).flatMap f).length ≤ (l.flatMap f).length := by
 rw [QI hk, QI hk, List.length_drop, ← Nat.add_mul]
 exact Nat.mul_le_mul_right _ (by omega)
theorem lay_tail {a tl zs : List Value} {off : Nat} (h : a.length = off) (hz : zs.length = tl.length) : lay (a ++ tl) off zs = a ++ zs := by
 unfold lay
 rw [List.take_left' h, List.append_assoc, List.drop_eq_nil_of_le (by simp; omega), List.append_nil]
theorem erase_len {α : Type} {f : α → List Value} {k : Nat} (hk : ∀ a, (f a).length = k) {l : List α} {i : Nat} (hi : i < l.length) : ((l.eraseIdx i).flatMap f).length = (l.length - 1) * k := by
 rw [QI hk, List.length_eraseIdx, if_pos hi]
structure ObjS where
  kind : Int
  proto : Int
  shut : Bool
  names : List ByteArray
  descs : List QJ
  elems : List Int
  inner : List Int
def pubO (t : TreeP) (x : ObjL) : ObjS := ⟨x.kind, x.proto, x.shut, QY t x, x.vals, x.elems, x.inner⟩
def HeapV.pub (H : HeapV) (F : HeapF) : List ObjS := H.objs.map (pubO (H.V.abs F.T))
abbrev txtW (i : Nat) : Int := 65532 * 281474976710656 + i
abbrev objW (i : Nat) : Int := 65530 * 281474976710656 + i
structure Known (texts : List ByteArray) (known : List (ByteArray × Int)) : Prop where
  to : ∀ s w, mget known s = some w → ∃ i, texts[i]? = some s ∧ w = txtW i
  back : ∀ (i : Nat) s, texts[i]? = some s → mget known s = some (txtW i)
structure HInv (k : Nat) (H : HeapV) (F : HeapF) : Prop where
  ok : H.ok F
  tree : TInv (H.V.abs F.T)
  objs : ∀ x ∈ H.objs, OInv (H.V.abs F.T) x
  bud : H.bud k
  inner : ∀ x ∈ H.objs, x.inner.length ≤ 1048576
  known : Known H.texts H.known
variable {k : Nat} {H : HeapV} {F : HeapF} {n : Nat} {x : ObjL} {W0 : World}
theorem HInv.obj (h : HInv k H F) (hx : H.objs[n]? = some x) : OInv (H.V.abs F.T) x := h.objs x (List.mem_of_getElem? hx)
theorem HInv.in' (h : HInv k H F) (hx : H.objs[n]? = some x) : x.inner.length ≤ 1048576 := h.inner x (List.mem_of_getElem? hx)
theorem HeapV.bud.mono {k' : Nat} (h : H.bud k) (hk : k ≤ k') : H.bud k' :=
 ⟨fun x hx => Nat.le_trans (h.vals x hx) hk, Nat.le_trans h.cl (Nat.mul_le_mul_right _ hk), h.abv, h.each⟩
theorem HInv.mono {k' : Nat} (h : HInv k H F) (hk : k ≤ k') : HInv k' H F := ⟨h.ok, h.tree, h.objs, h.bud.mono hk, h.inner, h.known⟩
theorem HeapV.pub_at (F : HeapF) (hx : H.objs[n]? = some x) : (H.pub F)[n]? = some (pubO (H.V.abs F.T) x) := by simp [HeapV.pub, hx]
theorem HeapV.pub_len (H : HeapV) (F : HeapF) : (H.pub F).length = H.objs.length := by simp [HeapV.pub]
theorem HInv.put (h : HInv k H F) (hx : H.objs[n]? = some x) {x' : ObjL} (hok : x'.ok) (hs : x'.elems.length ≤ 4096) (ho : OInv (H.V.abs F.T) x') (hv : x'.vals.length ≤ k) (hi : x'.inner.length ≤ 1048576) :
   HInv k (H.put n x') F ∧ (H.put n x').pub F = (H.pub F).set n (pubO (H.V.abs F.T) x') := by
 refine ⟨⟨h.ok.put hx hok hs, h.tree, fun y hy => ?_, ⟨fun y hy => ?_, h.bud.cl, h.bud.abv, h.bud.each⟩, fun y hy => ?_, h.known⟩, ?_⟩
 · rcases List.mem_or_eq_of_mem_set hy with h1 | rfl
   · exact h.objs y h1
   · exact ho
 · rcases List.mem_or_eq_of_mem_set hy with h1 | rfl
   · exact h.bud.vals y h1
   · exact hv
 · rcases List.mem_or_eq_of_mem_set hy with h1 | rfl
   · exact h.inner y h1
   · exact hi
 · simp only [HeapV.pub, List.map_set]
theorem Chg.same {cell : Int} {l l' : List CellL} (h : Chg cell l l') : l'.length = l.length ∧ (l'.map CellL.abs).map (·.2) = (l.map CellL.abs).map (·.2) := by
 unfold Chg at h
 split at h
 · have := h.shape
   exact ⟨by simpa using congrArg List.length this, this⟩
 · subst h; exact ⟨rfl, rfl⟩
theorem Chg.bud {cell : Int} {l' : List CellL} (h : Chg cell H.cl l') (hb : H.bud k) : l'.length ≤ k * 65537 ∧ abv (l'.map CellL.abs) ≤ l'.length ∧ ∀ c ∈ l', c.above.length ≤ l'.length := by
 obtain ⟨h1, h2⟩ := h.same
 refine ⟨by rw [h1]; exact hb.cl, ?_, fun c hc => ?_⟩
 · rw [h1]
   have : abv (l'.map CellL.abs) = abv (H.cl.map CellL.abs) := by
     unfold Proofs.YthflblophelioaaGreatDoor.abv
     have e : ∀ m : List PCell, (m.map (·.2.length)).sum = ((m.map (·.2)).map List.length).sum := fun m => by rw [List.map_map]; rfl
     rw [e, e, h2]
   rw [this]; exact hb.abv
 · rw [h1]
   have hm : c.above ∈ (l'.map CellL.abs).map (·.2) := by
     simp only [List.map_map, List.mem_map]; exact ⟨c, hc, rfl⟩
   rw [h2] at hm
   simp only [List.map_map, List.mem_map] at hm
   obtain ⟨c', hc', e⟩ := hm
   have := hb.each c' hc'
   simp only [Function.comp, CellL.abs] at e
   rw [← e]; exact this
theorem HInv.upd (h : HInv k H F) (hx : H.objs[n]? = some x) {x' : ObjL} {V : TreeV} {cl : List CellL} {br : Int} {k' : Nat} (hk : k ≤ k') (hok : (H.upd n x' V cl br).ok F) (ht : TInv (V.abs F.T)) (he : Ext (H.V.abs F.T) (V.abs F.T))
   (ho : OInv (V.abs F.T) x') (hv : x'.vals.length ≤ k') (hi : x'.inner.length ≤ 1048576) (hc : Chg x.cell H.cl cl) :
   HInv k' (H.upd n x' V cl br) F ∧ (H.upd n x' V cl br).pub F = (H.pub F).set n (pubO (V.abs F.T) x') := by
 obtain ⟨b1, b2, b3⟩ := hc.bud (h.bud.mono hk)
 refine ⟨⟨hok, ht, fun y hy => ?_, ⟨fun y hy => ?_, b1, b2, b3⟩, fun y hy => ?_, h.known⟩, ?_⟩
 · rcases List.mem_or_eq_of_mem_set hy with h1 | rfl
   · exact ((h.objs y h1).ext he).1
   · exact ho
 · rcases List.mem_or_eq_of_mem_set hy with h1 | rfl
   · exact Nat.le_trans (h.bud.vals y h1) hk
   · exact hv
 · rcases List.mem_or_eq_of_mem_set hy with h1 | rfl
   · exact h.inner y h1
   · exact hi
 · simp only [HeapV.pub, List.map_set]
   congr 1
   refine List.map_congr_left fun y hy => ?_
   unfold pubO
   rw [((h.objs y hy).ext he).2]
theorem SC.ret {P : Program} {f : FuncId} {args : Array Value} {S : Qp} {X Y : Type} {T : X → Qp} {G : Value → X → Prop} {T' : Y → Qp} {G' : Value → Y → Prop} (hc : SC P W0 f args S (Ret T G))
   (g : ∀ v x, G v x → ∃ y, T' y = T x ∧ G' v y) : SC P W0 f args S (Ret T' G') :=
 hc.mono fun v σ ⟨x, ho, hg⟩ => by obtain ⟨y, e, h'⟩ := g v x hg; exact ⟨y, e ▸ ho, h'⟩

structure SameE (x x' : ObjL) (l : List Int) : Prop where
  kind : x'.kind = x.kind
  proto : x'.proto = x.proto
  shut : x'.shut = x.shut
  shape : x'.shape = x.shape
  ns : x'.ns = x.ns
  names : x'.names = x.names
  vs : x'.vs = x.vs
  vals : x'.vals = x.vals
  elems : x'.elems = l
  is : x'.is = x.is
  inner : x'.inner = x.inner
  cell : x'.cell = if 0 ≤ x.cell then -1 else x.cell
theorem hi_New (most : Int) : SC Tryz.prog W0 11 #[.int .i64 most] [] (Ret (fun r : HeapV × HeapF => r.1.ent r.2) (fun v r => v = .pointer (some ⟨r.2.p, 0, none⟩) ∧ HInv 0 r.1 r.2 ∧ r.1.objs = [] ∧ r.1.texts = [] ∧ r.1.V = ⟨.nil, [], []⟩ ∧ r.1.cl = [] ∧ r.1.br = 0 ∧
   r.2.T.most = (if 0 > (if 256 < most then 256 else most) then 0 else (if 256 < most then 256 else most)))) := by
 refine SC.ret (heap_New most) fun v r ⟨h1, h2, h3⟩ => ⟨(_, r.1), rfl, h1, ⟨⟨⟨rfl, rfl⟩, fun x hx => (nomatch hx), ⟨rfl, rfl⟩, ⟨⟨rfl, rfl⟩, fun x hx => (nomatch hx), fun i s hs => (by simp at hs), ?_, ?_⟩, h3, Nat.zero_le _, Nat.zero_le _, fun x hx => (nomatch hx)⟩, ?_, fun x hx => (nomatch hx), ⟨fun x hx => (nomatch hx), Nat.zero_le _, Nat.zero_le _, fun x hx => (nomatch hx)⟩, fun x hx => (nomatch hx), ⟨fun s w h => (by simp [mget] at h), fun i s h => (by simp at h)⟩⟩, rfl, rfl, rfl, rfl, rfl, h2⟩
 · rw [h2]; split <;> split <;> omega
 · show ((0 : Nat) : Int) ≤ r.1.T.most
   rw [h2]; split <;> split <;> omega
 · exact TInv.nil _
theorem newObj_inv {t t' : TreeP} {kind proto m : Int} {ok : Bool} (ht : TInv t) (hr : rootP t (rootKey proto kind) = (t', m, ok)) : TInv t' ∧ Ext t t' ∧ OInv t' (newObj kind proto (if ok = true then m else -1)) ∧ QY t' (newObj kind proto (if ok = true then m else -1)) = [] := by
 have g := rootP_got ht (rootKey proto kind)
 rw [hr] at g
 simp only [] at g
 have hk : QY t' (newObj kind proto (if ok = true then m else -1)) = [] ∧ (0 ≤ (if ok = true then m else -1) → ∃ s, shapeAt t' (if ok = true then m else -1) = some s ∧ s.proto = rootKey proto kind ∧ s.l = []) := by
   by_cases hok : ok = true
   · rw [if_pos hok]
     obtain ⟨s, h1, h2, h3⟩ := g.it hok
     have h0 := (shapeAt_iff.1 h1).1
     refine ⟨?_, fun _ => ⟨s, h1, h2, h3⟩⟩
     unfold QY
     rw [if_neg (by simp only []; omega), keysP_at h1, h3]; rfl
   · rw [if_neg hok]
     refine ⟨?_, fun h => absurd h (by decide)⟩
     unfold QY
     rw [if_pos (show (newObj kind proto (-1)).shape < 0 from by show (-1 : Int) < 0; decide)]
 refine ⟨g.inv, g.ext, ⟨fun h0 => ?_, by rw [hk.1]; rfl, by rw [hk.1]; exact List.nodup_nil, fun _ => rfl⟩, hk.1⟩
 obtain ⟨s, h1, h2, h3⟩ := hk.2 h0
 exact ⟨s, h1, h2, by rw [h3]; rfl⟩
theorem hi_Make (h : HInv k H F) {kind proto : Int} (hmay : mayMake H kind proto) : SC Tryz.prog W0 31 #[.pointer (some ⟨F.p, 0, none⟩), .int .i64 kind, .int .u64 proto] (H.ent F)
   (Ret (fun r : Gs × Int × TreeV => (H.add r.1 (newObj kind proto r.2.1) r.2.2).ent F) (fun v r => v = .tuple #[.int .u64 (objW H.objs.length), .bool true] ∧ HInv k (H.add r.1 (newObj kind proto r.2.1) r.2.2) F ∧
     (H.add r.1 (newObj kind proto r.2.1) r.2.2).pub F = H.pub F ++ [⟨kind, proto, false, [], [], [], []⟩] ∧ ∃ m ok, rootP (H.V.abs F.T) (rootKey proto kind) = (r.2.2.abs F.T, m, ok) ∧ r.2.1 = if ok = true then m else -1)) := by
 refine SC.ret (heap_Make_yes h.ok hmay) fun v r hg => ?_
 obtain ⟨h1, h2, m, ok, h3, h4⟩ := hg
 obtain ⟨g1, g2, g3, g4⟩ := newObj_inv h.tree h3
 rw [← h4] at g3 g4
 refine ⟨r, rfl, h1, ⟨h2, g1, fun y hy => ?_, ⟨fun y hy => ?_, h.bud.cl, h.bud.abv, h.bud.each⟩, fun y hy => ?_, h.known⟩, ?_, m, ok, h3, h4⟩
 · rcases List.mem_append.1 hy with q | q
   · exact ((h.objs y q).ext g2).1
   · rw [List.mem_singleton.1 q]; exact g3
 · rcases List.mem_append.1 hy with q | q
   · exact h.bud.vals y q
   · rw [List.mem_singleton.1 q]; exact Nat.zero_le _
 · rcases List.mem_append.1 hy with q | q
   · exact h.inner y q
   · rw [List.mem_singleton.1 q]; exact Nat.zero_le _
 · simp only [HeapV.pub, List.map_append, List.map_cons, List.map_nil]
   congr 1
   · refine List.map_congr_left fun y hy => ?_
     unfold pubO
     rw [((h.objs y hy).ext g2).2]
   · unfold pubO
     rw [g4]
theorem pub_obj {o : ObjS} (ho : (H.pub F)[n]? = some o) : ∃ x, H.objs[n]? = some x ∧ pubO (H.V.abs F.T) x = o := by
 simp only [HeapV.pub, List.getElem?_map, Option.map_eq_some_iff] at ho
 exact ho
theorem hp_New (most : Int) : SC Tryz.prog W0 11 #[.int .i64 most] [] (Ret (fun r : HeapV × HeapF => r.1.ent r.2) (fun v r => v = .pointer (some ⟨r.2.p, 0, none⟩) ∧ HInv 0 r.1 r.2 ∧ r.1.pub r.2 = [] ∧ r.1.texts = [] ∧
   r.1.V.abs r.2.T = ⟨if 0 > (if 256 < most then 256 else most) then 0 else (if 256 < most then 256 else most), [], []⟩ ∧ r.1.objs = [] ∧ r.1.cl = [])) := by
 refine SC.ret (hi_New most) fun v r ⟨h1, h2, h3, h4, h5, h6, h7, h8⟩ => ⟨r, rfl, h1, h2, by rw [HeapV.pub, h3]; rfl, h4, ?_, h3, h6⟩
 rw [h5, TreeV.abs, h8]; rfl
def mayP (l : List ObjS) (kind proto : Int) : Prop := (0 ≤ kind ∧ kind ≤ 6) ∧ (proto = 18445336698825998337 ∨ QB proto l.length ≠ none) ∧ l.length < 65536
theorem mayP_iff {kind proto : Int} : mayP (H.pub F) kind proto ↔ mayMake H kind proto := by unfold mayP mayMake; rw [HeapV.pub_len]
end Go.Proofs.YthflblophelioaaGreatDoor
namespace Go.Proofs.YthflblophelioaaGreatDoor
open Go.Sl

theorem heap_Put_none {W0 : World} {F : HeapF} {H : HeapV} (hH : H.ok F) {w : Int} (h0 : QB w H.objs.length = none) (key : ByteArray) (d : QJ) : SC Tryz.prog W0 68 #[.pointer (some ⟨F.p, 0, none⟩), .int .u64 w, .string key, descV d] (HeapV.ent H F) (Ret (fun _ : Unit => H.ent F) (fun v _ => v = .tuple #[])) := by
 refine Qy (fn := Tryz.f68) (n := 144) Tryz.func68 rfl (by kernel_rfl) (ρ := [(0, pt F.p 0), (1, .int .u64 w), (2, .string key), (3, .agg #[.int .u64 d.1, .int .u64 d.2.1, .int .i64 d.2.2])]) rfl ?_
 refine QH _ HeapV.eq0 ?_
 refine sr ?_
 refine L (nw 45 3 [.int .u64 d.1, .int .u64 d.2.1, .int .i64 d.2.2] ?_)
 intro b1
 refine nsr ?_
 refine os 2 ?_
 refine L (cl (Q6 hH w) ?_ (hp := HeapV.pm))
 rintro v1 _ hv1
 obtain rfl : v1 = .pointer none := hv1.trans (by rw [h0])
 refine QO _ HeapV.eq ?_
 refine os 1 ?_
 refine kp [8, 7, 0, 1, 2, 3] ?_
 refine nq ?_
 refine sr ?_
 refine os 1 ?_
 refine oV (.bool true) ?_
 refine nt ?_
 refine ct ?_
 refine Qj (Qn ?_)
 refine Qh (.tuple #[]) (fun _ => rfl) ?_
 exact ⟨(), HeapV.own, rfl⟩

theorem heap_Put_some {W0 : World} {F : HeapF} {H : HeapV} (hH : H.ok F) {w : Int} {n : Nat} {x : ObjL} (h0 : QB w H.objs.length = some n) (hx : H.objs[n]? = some x) (hI : OInv (H.V.abs F.T) x) {k : Nat} (hB : H.bud k) (hk : k ≤ 8000000) (key : ByteArray) (d : QJ) : SC Tryz.prog W0 68 #[.pointer (some ⟨F.p, 0, none⟩), .int .u64 w, .string key, descV d] (HeapV.ent H F) (Ret (fun r : ObjL × TreeV × List CellL × Int => (H.upd n r.1 r.2.1 r.2.2.1 r.2.2.2).ent F) (fun v r => v = .tuple #[] ∧ (H.upd n r.1 r.2.1 r.2.2.1 r.2.2.2).ok F ∧ Same x r.1 ∧ putS (H.V.abs F.T) x.ps key (d.1, d.2.1, Qv d.2.2) = (r.2.1.abs F.T, r.1.ps) ∧ Chg x.cell H.cl r.2.2.1)) := by
 refine Qy (fn := Tryz.f68) (n := 144) Tryz.func68 rfl (by kernel_rfl) (ρ := [(0, pt F.p 0), (1, .int .u64 w), (2, .string key), (3, .agg #[.int .u64 d.1, .int .u64 d.2.1, .int .i64 d.2.2])]) rfl ?_
 refine QH _ HeapV.eq0 ?_
 have hnl := (List.getElem?_eq_some_iff.1 hx).1
 have hvl := hB.vals x (List.mem_of_getElem? hx)
 refine sr ?_
 refine L (nw 45 3 [.int .u64 d.1, .int .u64 d.2.1, .int .i64 d.2.2] ?_)
 intro b1
 refine nsr ?_
 refine os 2 ?_
 refine L (cl (Q6 hH w) ?_ (hp := HeapV.pm))
 rintro v1 _ hv1
 obtain rfl : v1 = pt (Gs.blk H.s) (n * 9) := hv1.trans (by rw [h0])
 refine QO _ HeapV.eq ?_
 refine os 1 ?_
 refine kp [8, 7, 0, 1, 2, 3] ?_
 refine nq ?_
 refine sr ?_
 refine os 1 ?_
 refine oV (.bool false) ?_
 refine nt ?_
 refine cf ?_
 refine Ql (Qi ?_)
 refine sr ?_
 refine os 2 ?_
 refine L (cl (heap_changed hH (n := n) hx hB hk) ?_ (hp := HeapV.pm))
 rintro _ ⟨cl1, br1⟩ ⟨rfl, hccl1, hchcl1⟩
 refine QO _ HeapV.eq ?_
 have hH1 : HeapV.ok (HeapV.mk H.s (H.objs.set n (ObjL.chg x)) H.ts H.texts H.known H.V H.cs cl1 br1) F := hH.chg hx hccl1 br1
 refine nsr ?_
 refine os 1 ?_
 refine L (ld ?_)
 refine oX (.int .i64 (IntKind.wrap .i64 ((BitVec.ofInt 64 d.2.2 &&& BitVec.ofInt 64 15).toNat))) (.int .i64 (fl15 d.2.2)) (congrArg (Value.int .i64) (rfl)) ?_
 refine os 1 ?_
 refine kp [25, 24, 18, 8, 7, 0, 1, 2, 3] ?_
 refine L (st [.int .u64 d.1, .int .u64 d.2.1, .int .i64 (fl15 d.2.2)] ?_)
 refine nq ?_
 refine sr ?_
 refine os 1 ?_
 refine L (ld ?_)
 refine oV (.int .i64 (IntKind.wrap .i64 ((BitVec.ofInt 64 (fl15 d.2.2) &&& BitVec.ofInt 64 8).toNat))) ?_
 refine os 1 ?_
 refine kp [29, 18, 8, 7, 0, 1, 2, 3] ?_
 refine nt ?_
 refine SW_cut (fun ρ_ σ_ => Fits ρ_ σ_ [(29, .bool ((IntKind.wrap .i64 ((BitVec.ofInt 64 (fl15 d.2.2) &&& BitVec.ofInt 64 8).toNat)) != 0)), (18, .bool false), (8, pt (Gs.blk H.s) (n * 9)), (7, pt b1 0), (0, pt F.p 0), (1, .int .u64 w), (2, .string key), (3, .agg #[.int .u64 d.1, .int .u64 d.2.1, .int .i64 d.2.2])] ((b1, .cells 45 3 [.int .u64 d.1, .int .u64 d.2.1, .int .i64 (Qv d.2.2)]) :: ((F.p, .cells 75 6 [Gs.val H.s ((H.objs.set n (ObjL.chg x)).length), Gs.val H.ts H.texts.length, .map (some F.kb), pt F.T.p 0, pt F.cp 0, .int .i64 br1]) :: ((Gs.ent 102 9 H.s ((H.objs.set n (ObjL.chg x)).flatMap ObjL.cells)) ++ (((H.objs.set n (ObjL.chg x)).flatMap ObjL.ent) ++ ((Gs.ent 9 1 H.ts (H.texts.map Qu)) ++ ((F.kb, .map (kvs Qu Qz H.known)) :: ((TreeV.ent H.V F.T) ++ ((CellsL.ent (CellsL.mk F.cp H.cs cl1)) ++ ([])))))))))) ?_ ?_
 ·refine cd (fun hc2 : ((IntKind.wrap .i64 ((BitVec.ofInt 64 (fl15 d.2.2) &&& BitVec.ofInt 64 8).toNat)) != 0) = true => ?_) (fun hc2 => ?_)
  ·refine Qm ?_
   refine os 1 ?_
   refine L (ld ?_)
   refine oV (.int .i64 (IntKind.wrap .i64 ((BitVec.ofInt 64 (fl15 d.2.2) &&& ~~~BitVec.ofInt 64 1).toNat))) ?_
   refine os 1 ?_
   refine L (st [.int .u64 d.1, .int .u64 d.2.1, .int .i64 (IntKind.wrap .i64 ((BitVec.ofInt 64 (fl15 d.2.2) &&& ~~~BitVec.ofInt 64 1).toNat))] ?_)
   refine nt ?_
   have en : Qv d.2.2 = IntKind.wrap .i64 ((BitVec.ofInt 64 (fl15 d.2.2) &&& ~~~BitVec.ofInt 64 1).toNat) := by unfold Qv; rw [if_pos hc2]
   rw [en]
   exact ⟨fun _ => rfl, ow⟩
  refine Ql (Qi ?_)
  have en : Qv d.2.2 = fl15 d.2.2 := by unfold Qv; rw [if_neg (by rw [hc2]; decide)]
  rw [en]
  exact ⟨fun _ => rfl, ow⟩
 ·rintro ρ_ σ_ hfit
  refine Q3 hfit ?_
  clear hfit
  refine sr ?_
  refine os 3 ?_
  refine L (cl (heap_place hH1 (n := n) (Qd hx) key) ?_ (hp := HeapV.pm))
  rintro v3 _ hv3
  obtain rfl : v3 = .int .i64 (QN (TreeV.abs H.V F.T) x.shape x.names key) := hv3.trans (rfl)
  refine QO _ HeapV.eq ?_
  refine os 1 ?_
  refine kp [9, 29, 18, 8, 7, 0, 1, 2, 3] ?_
  refine nq ?_
  refine sr ?_
  refine os 2 ?_
  refine nt ?_
  refine cdp (fun hc3 : (QN (TreeV.abs H.V F.T) x.shape x.names key) ≥ 0 => ?_) (fun hc3 => ?_)
  ·have hpl := placeO_lt hI (key := key) (by omega)
   refine Qx ?_
   refine Qx ?_
   obtain ⟨e1, he1⟩ : ∃ y_, x.vals[((QN (TreeV.abs H.V F.T) x.shape x.names key).toNat)]? = some y_ := ⟨_, List.getElem?_eq_getElem (by omega)⟩
   refine QV [((Gs.blk H.s), n * 9 + 3, .int .i64 x.shape), ((Gs.blk H.s), n * 9 + 5, Gs.val x.vs x.vals.length), ((Gs.blk x.vs), ((QN (TreeV.abs H.V F.T) x.shape x.names key).toNat) * 3 + 2, .int .i64 e1.2.2), (b1, 2, .int .i64 (Qv d.2.2))] [0, 1, 2, 3, 4, 5, 6, 7, 8, 9, 10, 11, 12, 13, 14, 15] (by kernel_rfl) (Qf (Gs.cell hH1.row (fun e he => (Qc (Qt he))) (Qg ObjL.len (Qd hx) (j := 3) (by decide) rfl)) (Qf (Gs.cell hH1.row (fun e he => (Qc (Qt he))) (Qg ObjL.len (Qd hx) (j := 5) (by decide) rfl)) (Qf (Gs.cell (show Gs.ok 3 (x.vals).length x.vs (x.vals.flatMap Qk) from (HeapV.ok.at (x := (ObjL.chg x)) hH1 (Qd hx)).vs) (fun e he => (Qc (Qa (Qt ((ObjL.mvs (x := (ObjL.chg x)) (Qd hx)) _ he))))) (Qg QL he1 (j := 2) (by decide) rfl)) (Qf (Cell.own (Qc (Qa (Qa (Qa (Qc (Qa (Qa Qe))))))) rfl) QP)))) ?_
   refine aS 0 ?_
   refine aS 1 ?_
   refine aF 2 ?_
   refine aL 3 ?_
   refine aS 4 ?_
   refine aS 5 ?_
   refine tbpA 45 (fun hg4 => ?_) (fun hg4 => ?_)
   ·replace hg4 : x.shape ≥ 0 := hg4
    refine aS 6 ?_
    refine aS 7 ?_
    refine aF 8 ?_
    refine kpA [48, 45, 39, 9, 29, 18, 8, 7, 0, 1, 2, 3] ?_
    refine aL 9 ?_
    refine aS 10 ?_
    refine aI 11 (QN (TreeV.abs H.V F.T) x.shape x.names key) (((QN (TreeV.abs H.V F.T) x.shape x.names key).toNat) * 3) (show Gs.ok 3 (x.vals).length x.vs (x.vals.flatMap Qk) from (HeapV.ok.at (x := (ObjL.chg x)) hH1 (Qd hx)).vs) Tryz.underlying99 ?_
    refine aF 12 ?_
    refine aL 13 ?_
    refine aF 14 ?_
    refine aL 15 ?_
    refine aS 16 ?_
    refine kpA [56, 45, 39, 9, 29, 18, 8, 7, 0, 1, 2, 3] ?_
    refine aS 17 ?_
    refine QS (by kernel_rfl) (Qi ?_)
    refine cd (fun hc5 : (e1.2.2 != (Qv d.2.2)) = true => ?_) (fun hc5 => ?_)
    ·refine Qx ?_
     refine QV [(F.p, 3, pt F.T.p 0), ((Gs.blk H.s), n * 9 + 3, .int .i64 x.shape), (b1, 2, .int .i64 (Qv d.2.2))] [0, 1, 2, 3, 4, 5, 6, 7, 8, 9, 10] (by kernel_rfl) (Qf (Cell.own Qe rfl) (Qf (Gs.cell hH1.row (fun e he => (Qc (Qt he))) (Qg ObjL.len (Qd hx) (j := 3) (by decide) rfl)) (Qf (Cell.own (Qc (Qa (Qa (Qa (Qc (Qa (Qa Qe))))))) rfl) QP))) ?_
     refine aS 0 ?_
     refine aS 1 ?_
     refine aF 2 ?_
     refine aL 3 ?_
     refine aS 4 ?_
     refine aS 5 ?_
     refine aF 6 ?_
     refine aL 7 ?_
     refine kpA [66, 62, 57, 39, 9, 29, 18, 8, 7, 0, 1, 2, 3] ?_
     refine aS 8 ?_
     refine aF 9 ?_
     refine aL 10 ?_
     refine sa1 false 11 (h := cl (shapes_Change hH1.tree x.shape key (Qv d.2.2)) ?_)
     rintro _ TV1 ⟨hTV1, hkTV1, rTV1, okTV1, rfl, hrTV1⟩
     refine ⟨fun hnd => (by cases hnd), ?_⟩
     have hH2 : HeapV.ok (HeapV.mk H.s (H.objs.set n (ObjL.chg x)) H.ts H.texts H.known TV1 H.cs cl1 br1) F := HeapV.ok.withTree hH1 hTV1
     refine aS 12 ?_
     refine aS 13 ?_
     refine aS 14 ?_
     refine aS 15 ?_
     refine kpA [10, 72, 57, 39, 9, 29, 18, 8, 7, 0, 1, 2, 3] ?_
     refine aS 16 ?_
     refine QS (by kernel_rfl) (Qi ?_)
     refine Qm ?_
     refine os 4 ?_
     by_cases hp2 : okTV1 = true
     ·refine L (cl (heap_step_ok hH2 (n := n) (Qd hx) rTV1 (ok := okTV1) hp2) ?_ (hp := HeapV.pm))
      rintro _ _ rfl
      refine QO _ (by simp only [HeapV.ent, HeapV.put, List.set_set, List.cons_append, List.append_assoc, List.nil_append]; rfl) ?_
      have hH3 : HeapV.ok (HeapV.mk H.s (H.objs.set n (ObjL.withShape (ObjL.chg x) rTV1)) H.ts H.texts H.known TV1 H.cs cl1 br1) F := by simpa only [HeapV.put, List.set_set] using HeapV.ok.put hH2 (Qd hx) (x' := (ObjL.withShape (ObjL.chg x) rTV1)) ⟨(HeapV.ok.at hH2 (Qd hx)).ns, (HeapV.ok.at hH2 (Qd hx)).vs, (HeapV.ok.at hH2 (Qd hx)).es, (HeapV.ok.at hH2 (Qd hx)).is⟩ (HeapV.ok.small hH2 (ObjL.chg x) (List.mem_of_getElem? (Qd hx)))
      refine nq ?_
      refine QQ _ (QC (Qr QE)) ?_
      refine QQ ((Gs.ent 9 1 x.ns (x.names.map Qu)) ++ ((Gs.ent 45 3 x.vs (x.vals.flatMap Qk)) ++ ((Gs.ent 33 1 x.es (x.elems.map Qz)) ++ ((Gs.ent 33 1 x.is (x.inner.map Qz)) ++ (((List.eraseIdx (H.objs.set n (ObjL.withShape (ObjL.chg x) rTV1)) n).flatMap ObjL.ent) ++ ((F.p, .cells 75 6 [Gs.val H.s ((H.objs.set n (ObjL.withShape (ObjL.chg x) rTV1)).length), Gs.val H.ts H.texts.length, .map (some F.kb), pt F.T.p 0, pt F.cp 0, .int .i64 br1]) :: ((Gs.ent 102 9 H.s ((H.objs.set n (ObjL.withShape (ObjL.chg x) rTV1)).flatMap ObjL.cells)) ++ ((Gs.ent 9 1 H.ts (H.texts.map Qu)) ++ ((F.kb, .map (kvs Qu Qz H.known)) :: ((TreeV.ent TV1 F.T) ++ ((CellsL.ent (CellsL.mk F.cp H.cs cl1)) ++ ((b1, .cells 45 3 [.int .u64 d.1, .int .u64 d.2.1, .int .i64 (Qv d.2.2)]) :: ([]))))))))))))) (obj_focus (Qd hx) _) ?_
      refine QV [((Gs.blk H.s), n * 9 + 5, Gs.val x.vs x.vals.length), (b1, 0, .int .u64 d.1), (b1, 1, .int .u64 d.2.1), (b1, 2, .int .i64 (Qv d.2.2))] [0, 1, 2, 3, 4, 5] (by kernel_rfl) (Qf (Gs.cell hH3.row (fun e he => (Qa (Qa (Qa (Qa (Qa (Qc (Qt he)))))))) (Qg ObjL.len (Qd hx) (j := 5) (by decide) rfl)) (Qf (Cell.own (Qa (Qa (Qa (Qa (Qa (Qc (Qa (Qa (Qc (Qa (Qa Qe))))))))))) rfl) (Qf (Cell.own (Qa (Qa (Qa (Qa (Qa (Qc (Qa (Qa (Qc (Qa (Qa Qe))))))))))) rfl) (Qf (Cell.own (Qa (Qa (Qa (Qa (Qa (Qc (Qa (Qa (Qc (Qa (Qa Qe))))))))))) rfl) QP)))) ?_
      refine aS 0 ?_
      refine aS 1 ?_
      refine aF 2 ?_
      refine kpA [80, 11, 10, 57, 39, 9, 29, 18, 8, 7, 0, 1, 2, 3] ?_
      refine aL 3 ?_
      refine aS 4 ?_
      refine tr 5 (.agg #[.int .u64 d.1, .int .u64 d.2.1, .int .i64 (Qv d.2.2)]) ?_ (hy := fun δ w_ hr => Q0 b1 0 [.int .u64 d.1, .int .u64 d.2.1, .int .i64 (Qv d.2.2)] rfl (by kernel_rfl) (QA (List.mem_cons_of_mem _ List.mem_cons_self) (QA (List.mem_cons_of_mem _ (List.mem_cons_of_mem _ List.mem_cons_self)) (QA (List.mem_cons_of_mem _ (List.mem_cons_of_mem _ (List.mem_cons_of_mem _ List.mem_cons_self))) Q9))) hr)
      refine aI 6 (QN (TreeV.abs H.V F.T) x.shape x.names key) (((QN (TreeV.abs H.V F.T) x.shape x.names key).toNat) * 3) (show Gs.ok 3 (x.vals).length x.vs (x.vals.flatMap Qk) from (HeapV.ok.at (x := (ObjL.withShape (ObjL.chg x) rTV1)) hH3 (Qd hx)).vs) Tryz.underlying99 ?_
      have hok2 := Gs.ok.relen (ys := ((x.vals.set ((QN (TreeV.abs H.V F.T) x.shape x.names key).toNat) (d.1, d.2.1, Qv d.2.2)).flatMap Qk)) (show Gs.ok 3 (x.vals).length x.vs (x.vals.flatMap Qk) from (HeapV.ok.at (x := (ObjL.withShape (ObjL.chg x) rTV1)) hH3 (Qd hx)).vs) (by simp [QI QL])
      refine SA_perm _ (Qr QE) ?_
      refine sa1 false 7 (h := Q1 (ys := ((x.vals.set ((QN (TreeV.abs H.V F.T) x.shape x.names key).toNat) (d.1, d.2.1, Qv d.2.2)).flatMap Qk)) x.vs (((QN (TreeV.abs H.V F.T) x.shape x.names key).toNat) * 3) (.agg #[.int .u64 d.1, .int .u64 d.2.1, .int .i64 (Qv d.2.2)]) [.int .u64 d.1, .int .u64 d.2.1, .int .i64 (Qv d.2.2)] (Gs.ok.ne (show Gs.ok 3 (x.vals).length x.vs (x.vals.flatMap Qk) from (HeapV.ok.at (x := (ObjL.withShape (ObjL.chg x) rTV1)) hH3 (Qd hx)).vs) (by first | omega | (simp; omega))) (fun _ => rfl) (fun _ => rfl) rfl (by kernel_rfl) rfl (by rw [QI QL]; simp; omega) (row_lay (j := 0) QL (d.1, d.2.1, Qv d.2.2) he1 (Nat.le_of_ble_eq_true rfl) rfl) rfl ?_)
      refine ⟨fun hnd => (by cases hnd), ?_⟩
      refine QS (by kernel_rfl) (Qi ?_)
      have er : (H.objs.set n (ObjL.mk x.kind x.proto x.shut rTV1 x.ns x.names x.vs (x.vals.set ((QN (TreeV.abs H.V F.T) x.shape x.names key).toNat) (d.1, d.2.1, Qv d.2.2)) x.es x.elems x.is x.inner (if 0 ≤ x.cell then -1 else x.cell))).flatMap ObjL.cells = (H.objs.set n (ObjL.withShape (ObjL.chg x) rTV1)).flatMap ObjL.cells := set_cells (by simp [ObjL.cells])
      refine QH ((Gs.ent 45 3 x.vs ((x.vals.set ((QN (TreeV.abs H.V F.T) x.shape x.names key).toNat) (d.1, d.2.1, Qv d.2.2)).flatMap Qk)) ++ ((Gs.ent 9 1 x.ns (x.names.map Qu)) ++ ((Gs.ent 33 1 x.es (x.elems.map Qz)) ++ ((Gs.ent 33 1 x.is (x.inner.map Qz)) ++ (((List.eraseIdx (H.objs.set n (ObjL.withShape (ObjL.chg x) rTV1)) n).flatMap ObjL.ent) ++ ((F.p, .cells 75 6 [Gs.val H.s ((H.objs.set n (ObjL.withShape (ObjL.chg x) rTV1)).length), Gs.val H.ts H.texts.length, .map (some F.kb), pt F.T.p 0, pt F.cp 0, .int .i64 br1]) :: ((Gs.ent 102 9 H.s ((H.objs.set n (ObjL.mk x.kind x.proto x.shut rTV1 x.ns x.names x.vs (x.vals.set ((QN (TreeV.abs H.V F.T) x.shape x.names key).toNat) (d.1, d.2.1, Qv d.2.2)) x.es x.elems x.is x.inner (if 0 ≤ x.cell then -1 else x.cell))).flatMap ObjL.cells)) ++ ((Gs.ent 9 1 H.ts (H.texts.map Qu)) ++ ((F.kb, .map (kvs Qu Qz H.known)) :: ((TreeV.ent TV1 F.T) ++ ((CellsL.ent (CellsL.mk F.cp H.cs cl1)) ++ ((b1, .cells 45 3 [.int .u64 d.1, .int .u64 d.2.1, .int .i64 (Qv d.2.2)]) :: ([]))))))))))))) (by rw [er]) ?_
      refine Qj (Qn ?_)
      refine Qh (.tuple #[]) (fun _ => rfl) ?_
      refine ⟨((ObjL.mk x.kind x.proto x.shut rTV1 x.ns x.names x.vs (x.vals.set ((QN (TreeV.abs H.V F.T) x.shape x.names key).toNat) (d.1, d.2.1, Qv d.2.2)) x.es x.elems x.is x.inner (if 0 ≤ x.cell then -1 else x.cell)), TV1, cl1, br1), ?_, rfl, ?_, ⟨rfl, rfl, rfl, rfl, rfl, rfl, rfl, rfl⟩, ?_, hchcl1⟩
      · refine Own.trans (ow (S := ((F.p, .cells 75 6 [Gs.val H.s ((H.objs.set n (ObjL.withShape (ObjL.chg x) rTV1)).length), Gs.val H.ts H.texts.length, .map (some F.kb), pt F.T.p 0, pt F.cp 0, .int .i64 br1]) :: ((Gs.ent 102 9 H.s ((H.objs.set n (ObjL.mk x.kind x.proto x.shut rTV1 x.ns x.names x.vs (x.vals.set ((QN (TreeV.abs H.V F.T) x.shape x.names key).toNat) (d.1, d.2.1, Qv d.2.2)) x.es x.elems x.is x.inner (if 0 ≤ x.cell then -1 else x.cell))).flatMap ObjL.cells)) ++ ((Gs.ent 9 1 x.ns (x.names.map Qu)) ++ ((Gs.ent 45 3 x.vs ((x.vals.set ((QN (TreeV.abs H.V F.T) x.shape x.names key).toNat) (d.1, d.2.1, Qv d.2.2)).flatMap Qk)) ++ ((Gs.ent 33 1 x.es (x.elems.map Qz)) ++ ((Gs.ent 33 1 x.is (x.inner.map Qz)) ++ (((List.eraseIdx (H.objs.set n (ObjL.withShape (ObjL.chg x) rTV1)) n).flatMap ObjL.ent) ++ ((Gs.ent 9 1 H.ts (H.texts.map Qu)) ++ ((F.kb, .map (kvs Qu Qz H.known)) :: ((TreeV.ent TV1 F.T) ++ ((CellsL.ent (CellsL.mk F.cp H.cs cl1)) ++ ([])))))))))))))) (Own.of_perm ?_)
        simpa only [HeapV.put, List.set_set] using HeapV.back (H := (HeapV.mk H.s (H.objs.set n (ObjL.withShape (ObjL.chg x) rTV1)) H.ts H.texts H.known TV1 H.cs cl1 br1)) F (Qd hx) (ObjL.mk x.kind x.proto x.shut rTV1 x.ns x.names x.vs (x.vals.set ((QN (TreeV.abs H.V F.T) x.shape x.names key).toNat) (d.1, d.2.1, Qv d.2.2)) x.es x.elems x.is x.inner (if 0 ≤ x.cell then -1 else x.cell))
      · simpa only [HeapV.put, List.set_set] using HeapV.ok.put hH3 (Qd hx) (x' := (ObjL.mk x.kind x.proto x.shut rTV1 x.ns x.names x.vs (x.vals.set ((QN (TreeV.abs H.V F.T) x.shape x.names key).toNat) (d.1, d.2.1, Qv d.2.2)) x.es x.elems x.is x.inner (if 0 ≤ x.cell then -1 else x.cell))) ⟨(by first | exact (show Gs.ok 1 (x.names).length x.ns (x.names.map Qu) from (HeapV.ok.at (x := (ObjL.withShape (ObjL.chg x) rTV1)) hH3 (Qd hx)).ns) | (simp only [List.length_set]; exact (show Gs.ok 1 (x.names).length x.ns (x.names.map Qu) from (HeapV.ok.at (x := (ObjL.withShape (ObjL.chg x) rTV1)) hH3 (Qd hx)).ns))), (by first | exact hok2 | (simp only [List.length_set]; exact hok2)), (by first | exact (show Gs.ok 1 (x.elems).length x.es (x.elems.map Qz) from (HeapV.ok.at (x := (ObjL.withShape (ObjL.chg x) rTV1)) hH3 (Qd hx)).es) | (simp only [List.length_set]; exact (show Gs.ok 1 (x.elems).length x.es (x.elems.map Qz) from (HeapV.ok.at (x := (ObjL.withShape (ObjL.chg x) rTV1)) hH3 (Qd hx)).es))), (by first | exact (show Gs.ok 1 (x.inner).length x.is (x.inner.map Qz) from (HeapV.ok.at (x := (ObjL.withShape (ObjL.chg x) rTV1)) hH3 (Qd hx)).is) | (simp only [List.length_set]; exact (show Gs.ok 1 (x.inner).length x.is (x.inner.map Qz) from (HeapV.ok.at (x := (ObjL.withShape (ObjL.chg x) rTV1)) hH3 (Qd hx)).is)))⟩ (HeapV.ok.small hH3 (ObjL.withShape (ObjL.chg x) rTV1) (List.mem_of_getElem? (Qd hx)))
      · simp only [putS, ObjL.ps, if_pos (show 0 ≤ QN (H.V.abs F.T) x.shape x.names key from by omega), he1, putOld, if_pos (And.intro (show 0 ≤ x.shape from by omega) hc5), hrTV1, stepS, if_pos hp2]
     refine L (cl (heap_step_no hH2 (n := n) (Qd hx) rTV1 (ok := okTV1) (by simpa using hp2) (by omega)) ?_ (hp := HeapV.pm))
     rintro _ kg1 ⟨rfl, hkg1⟩
     refine QO _ (by simp only [HeapV.ent, HeapV.put, List.set_set, List.cons_append, List.append_assoc, List.nil_append]; rfl) ?_
     have hH3 : HeapV.ok (HeapV.mk H.s (H.objs.set n (ObjL.loosed (ObjL.chg x) kg1 (QG (TreeV.abs TV1 F.T) x.shape))) H.ts H.texts H.known TV1 H.cs cl1 br1) F := by simpa only [HeapV.put, List.set_set] using HeapV.ok.put hH2 (Qd hx) (x' := (ObjL.loosed (ObjL.chg x) kg1 (QG (TreeV.abs TV1 F.T) x.shape))) ⟨hkg1, (HeapV.ok.at hH2 (Qd hx)).vs, (HeapV.ok.at hH2 (Qd hx)).es, (HeapV.ok.at hH2 (Qd hx)).is⟩ (HeapV.ok.small hH2 (ObjL.chg x) (List.mem_of_getElem? (Qd hx)))
     refine nq ?_
     refine QQ _ (QC (Qr QE)) ?_
     refine QQ ((Gs.ent 9 1 kg1 ((QG (TreeV.abs TV1 F.T) x.shape).map Qu)) ++ ((Gs.ent 45 3 x.vs (x.vals.flatMap Qk)) ++ ((Gs.ent 33 1 x.es (x.elems.map Qz)) ++ ((Gs.ent 33 1 x.is (x.inner.map Qz)) ++ (((List.eraseIdx (H.objs.set n (ObjL.loosed (ObjL.chg x) kg1 (QG (TreeV.abs TV1 F.T) x.shape))) n).flatMap ObjL.ent) ++ ((F.p, .cells 75 6 [Gs.val H.s ((H.objs.set n (ObjL.loosed (ObjL.chg x) kg1 (QG (TreeV.abs TV1 F.T) x.shape))).length), Gs.val H.ts H.texts.length, .map (some F.kb), pt F.T.p 0, pt F.cp 0, .int .i64 br1]) :: ((Gs.ent 102 9 H.s ((H.objs.set n (ObjL.loosed (ObjL.chg x) kg1 (QG (TreeV.abs TV1 F.T) x.shape))).flatMap ObjL.cells)) ++ ((Gs.ent 9 1 H.ts (H.texts.map Qu)) ++ ((F.kb, .map (kvs Qu Qz H.known)) :: ((TreeV.ent TV1 F.T) ++ ((CellsL.ent (CellsL.mk F.cp H.cs cl1)) ++ ((b1, .cells 45 3 [.int .u64 d.1, .int .u64 d.2.1, .int .i64 (Qv d.2.2)]) :: ([]))))))))))))) (obj_focus (Qd hx) _) ?_
     refine QV [((Gs.blk H.s), n * 9 + 5, Gs.val x.vs x.vals.length), (b1, 0, .int .u64 d.1), (b1, 1, .int .u64 d.2.1), (b1, 2, .int .i64 (Qv d.2.2))] [0, 1, 2, 3, 4, 5] (by kernel_rfl) (Qf (Gs.cell hH3.row (fun e he => (Qa (Qa (Qa (Qa (Qa (Qc (Qt he)))))))) (Qg ObjL.len (Qd hx) (j := 5) (by decide) rfl)) (Qf (Cell.own (Qa (Qa (Qa (Qa (Qa (Qc (Qa (Qa (Qc (Qa (Qa Qe))))))))))) rfl) (Qf (Cell.own (Qa (Qa (Qa (Qa (Qa (Qc (Qa (Qa (Qc (Qa (Qa Qe))))))))))) rfl) (Qf (Cell.own (Qa (Qa (Qa (Qa (Qa (Qc (Qa (Qa (Qc (Qa (Qa Qe))))))))))) rfl) QP)))) ?_
     refine aS 0 ?_
     refine aS 1 ?_
     refine aF 2 ?_
     refine kpA [80, 11, 10, 57, 39, 9, 29, 18, 8, 7, 0, 1, 2, 3] ?_
     refine aL 3 ?_
     refine aS 4 ?_
     refine tr 5 (.agg #[.int .u64 d.1, .int .u64 d.2.1, .int .i64 (Qv d.2.2)]) ?_ (hy := fun δ w_ hr => Q0 b1 0 [.int .u64 d.1, .int .u64 d.2.1, .int .i64 (Qv d.2.2)] rfl (by kernel_rfl) (QA (List.mem_cons_of_mem _ List.mem_cons_self) (QA (List.mem_cons_of_mem _ (List.mem_cons_of_mem _ List.mem_cons_self)) (QA (List.mem_cons_of_mem _ (List.mem_cons_of_mem _ (List.mem_cons_of_mem _ List.mem_cons_self))) Q9))) hr)
     refine aI 6 (QN (TreeV.abs H.V F.T) x.shape x.names key) (((QN (TreeV.abs H.V F.T) x.shape x.names key).toNat) * 3) (show Gs.ok 3 (x.vals).length x.vs (x.vals.flatMap Qk) from (HeapV.ok.at (x := (ObjL.loosed (ObjL.chg x) kg1 (QG (TreeV.abs TV1 F.T) x.shape))) hH3 (Qd hx)).vs) Tryz.underlying99 ?_
     have hok4 := Gs.ok.relen (ys := ((x.vals.set ((QN (TreeV.abs H.V F.T) x.shape x.names key).toNat) (d.1, d.2.1, Qv d.2.2)).flatMap Qk)) (show Gs.ok 3 (x.vals).length x.vs (x.vals.flatMap Qk) from (HeapV.ok.at (x := (ObjL.loosed (ObjL.chg x) kg1 (QG (TreeV.abs TV1 F.T) x.shape))) hH3 (Qd hx)).vs) (by simp [QI QL])
     refine SA_perm _ (Qr QE) ?_
     refine sa1 false 7 (h := Q1 (ys := ((x.vals.set ((QN (TreeV.abs H.V F.T) x.shape x.names key).toNat) (d.1, d.2.1, Qv d.2.2)).flatMap Qk)) x.vs (((QN (TreeV.abs H.V F.T) x.shape x.names key).toNat) * 3) (.agg #[.int .u64 d.1, .int .u64 d.2.1, .int .i64 (Qv d.2.2)]) [.int .u64 d.1, .int .u64 d.2.1, .int .i64 (Qv d.2.2)] (Gs.ok.ne (show Gs.ok 3 (x.vals).length x.vs (x.vals.flatMap Qk) from (HeapV.ok.at (x := (ObjL.loosed (ObjL.chg x) kg1 (QG (TreeV.abs TV1 F.T) x.shape))) hH3 (Qd hx)).vs) (by first | omega | (simp; omega))) (fun _ => rfl) (fun _ => rfl) rfl (by kernel_rfl) rfl (by rw [QI QL]; simp; omega) (row_lay (j := 0) QL (d.1, d.2.1, Qv d.2.2) he1 (Nat.le_of_ble_eq_true rfl) rfl) rfl ?_)
     refine ⟨fun hnd => (by cases hnd), ?_⟩
     refine QS (by kernel_rfl) (Qi ?_)
     have er : (H.objs.set n (ObjL.mk x.kind x.proto x.shut (-1) kg1 (QG (TreeV.abs TV1 F.T) x.shape) x.vs (x.vals.set ((QN (TreeV.abs H.V F.T) x.shape x.names key).toNat) (d.1, d.2.1, Qv d.2.2)) x.es x.elems x.is x.inner (if 0 ≤ x.cell then -1 else x.cell))).flatMap ObjL.cells = (H.objs.set n (ObjL.loosed (ObjL.chg x) kg1 (QG (TreeV.abs TV1 F.T) x.shape))).flatMap ObjL.cells := set_cells (by simp [ObjL.cells])
     refine QH ((Gs.ent 45 3 x.vs ((x.vals.set ((QN (TreeV.abs H.V F.T) x.shape x.names key).toNat) (d.1, d.2.1, Qv d.2.2)).flatMap Qk)) ++ ((Gs.ent 9 1 kg1 ((QG (TreeV.abs TV1 F.T) x.shape).map Qu)) ++ ((Gs.ent 33 1 x.es (x.elems.map Qz)) ++ ((Gs.ent 33 1 x.is (x.inner.map Qz)) ++ (((List.eraseIdx (H.objs.set n (ObjL.loosed (ObjL.chg x) kg1 (QG (TreeV.abs TV1 F.T) x.shape))) n).flatMap ObjL.ent) ++ ((F.p, .cells 75 6 [Gs.val H.s ((H.objs.set n (ObjL.loosed (ObjL.chg x) kg1 (QG (TreeV.abs TV1 F.T) x.shape))).length), Gs.val H.ts H.texts.length, .map (some F.kb), pt F.T.p 0, pt F.cp 0, .int .i64 br1]) :: ((Gs.ent 102 9 H.s ((H.objs.set n (ObjL.mk x.kind x.proto x.shut (-1) kg1 (QG (TreeV.abs TV1 F.T) x.shape) x.vs (x.vals.set ((QN (TreeV.abs H.V F.T) x.shape x.names key).toNat) (d.1, d.2.1, Qv d.2.2)) x.es x.elems x.is x.inner (if 0 ≤ x.cell then -1 else x.cell))).flatMap ObjL.cells)) ++ ((Gs.ent 9 1 H.ts (H.texts.map Qu)) ++ ((F.kb, .map (kvs Qu Qz H.known)) :: ((TreeV.ent TV1 F.T) ++ ((CellsL.ent (CellsL.mk F.cp H.cs cl1)) ++ ((b1, .cells 45 3 [.int .u64 d.1, .int .u64 d.2.1, .int .i64 (Qv d.2.2)]) :: ([]))))))))))))) (by rw [er]) ?_
     refine Qj (Qn ?_)
     refine Qh (.tuple #[]) (fun _ => rfl) ?_
     refine ⟨((ObjL.mk x.kind x.proto x.shut (-1) kg1 (QG (TreeV.abs TV1 F.T) x.shape) x.vs (x.vals.set ((QN (TreeV.abs H.V F.T) x.shape x.names key).toNat) (d.1, d.2.1, Qv d.2.2)) x.es x.elems x.is x.inner (if 0 ≤ x.cell then -1 else x.cell)), TV1, cl1, br1), ?_, rfl, ?_, ⟨rfl, rfl, rfl, rfl, rfl, rfl, rfl, rfl⟩, ?_, hchcl1⟩
     · refine Own.trans (ow (S := ((F.p, .cells 75 6 [Gs.val H.s ((H.objs.set n (ObjL.loosed (ObjL.chg x) kg1 (QG (TreeV.abs TV1 F.T) x.shape))).length), Gs.val H.ts H.texts.length, .map (some F.kb), pt F.T.p 0, pt F.cp 0, .int .i64 br1]) :: ((Gs.ent 102 9 H.s ((H.objs.set n (ObjL.mk x.kind x.proto x.shut (-1) kg1 (QG (TreeV.abs TV1 F.T) x.shape) x.vs (x.vals.set ((QN (TreeV.abs H.V F.T) x.shape x.names key).toNat) (d.1, d.2.1, Qv d.2.2)) x.es x.elems x.is x.inner (if 0 ≤ x.cell then -1 else x.cell))).flatMap ObjL.cells)) ++ ((Gs.ent 9 1 kg1 ((QG (TreeV.abs TV1 F.T) x.shape).map Qu)) ++ ((Gs.ent 45 3 x.vs ((x.vals.set ((QN (TreeV.abs H.V F.T) x.shape x.names key).toNat) (d.1, d.2.1, Qv d.2.2)).flatMap Qk)) ++ ((Gs.ent 33 1 x.es (x.elems.map Qz)) ++ ((Gs.ent 33 1 x.is (x.inner.map Qz)) ++ (((List.eraseIdx (H.objs.set n (ObjL.loosed (ObjL.chg x) kg1 (QG (TreeV.abs TV1 F.T) x.shape))) n).flatMap ObjL.ent) ++ ((Gs.ent 9 1 H.ts (H.texts.map Qu)) ++ ((F.kb, .map (kvs Qu Qz H.known)) :: ((TreeV.ent TV1 F.T) ++ ((CellsL.ent (CellsL.mk F.cp H.cs cl1)) ++ ([])))))))))))))) (Own.of_perm ?_)
       simpa only [HeapV.put, List.set_set] using HeapV.back (H := (HeapV.mk H.s (H.objs.set n (ObjL.loosed (ObjL.chg x) kg1 (QG (TreeV.abs TV1 F.T) x.shape))) H.ts H.texts H.known TV1 H.cs cl1 br1)) F (Qd hx) (ObjL.mk x.kind x.proto x.shut (-1) kg1 (QG (TreeV.abs TV1 F.T) x.shape) x.vs (x.vals.set ((QN (TreeV.abs H.V F.T) x.shape x.names key).toNat) (d.1, d.2.1, Qv d.2.2)) x.es x.elems x.is x.inner (if 0 ≤ x.cell then -1 else x.cell))
     · simpa only [HeapV.put, List.set_set] using HeapV.ok.put hH3 (Qd hx) (x' := (ObjL.mk x.kind x.proto x.shut (-1) kg1 (QG (TreeV.abs TV1 F.T) x.shape) x.vs (x.vals.set ((QN (TreeV.abs H.V F.T) x.shape x.names key).toNat) (d.1, d.2.1, Qv d.2.2)) x.es x.elems x.is x.inner (if 0 ≤ x.cell then -1 else x.cell))) ⟨(by first | exact (show Gs.ok 1 ((QG (TreeV.abs TV1 F.T) x.shape)).length kg1 ((QG (TreeV.abs TV1 F.T) x.shape).map Qu) from (HeapV.ok.at (x := (ObjL.loosed (ObjL.chg x) kg1 (QG (TreeV.abs TV1 F.T) x.shape))) hH3 (Qd hx)).ns) | (simp only [List.length_set]; exact (show Gs.ok 1 ((QG (TreeV.abs TV1 F.T) x.shape)).length kg1 ((QG (TreeV.abs TV1 F.T) x.shape).map Qu) from (HeapV.ok.at (x := (ObjL.loosed (ObjL.chg x) kg1 (QG (TreeV.abs TV1 F.T) x.shape))) hH3 (Qd hx)).ns))), (by first | exact hok4 | (simp only [List.length_set]; exact hok4)), (by first | exact (show Gs.ok 1 (x.elems).length x.es (x.elems.map Qz) from (HeapV.ok.at (x := (ObjL.loosed (ObjL.chg x) kg1 (QG (TreeV.abs TV1 F.T) x.shape))) hH3 (Qd hx)).es) | (simp only [List.length_set]; exact (show Gs.ok 1 (x.elems).length x.es (x.elems.map Qz) from (HeapV.ok.at (x := (ObjL.loosed (ObjL.chg x) kg1 (QG (TreeV.abs TV1 F.T) x.shape))) hH3 (Qd hx)).es))), (by first | exact (show Gs.ok 1 (x.inner).length x.is (x.inner.map Qz) from (HeapV.ok.at (x := (ObjL.loosed (ObjL.chg x) kg1 (QG (TreeV.abs TV1 F.T) x.shape))) hH3 (Qd hx)).is) | (simp only [List.length_set]; exact (show Gs.ok 1 (x.inner).length x.is (x.inner.map Qz) from (HeapV.ok.at (x := (ObjL.loosed (ObjL.chg x) kg1 (QG (TreeV.abs TV1 F.T) x.shape))) hH3 (Qd hx)).is)))⟩ (HeapV.ok.small hH3 (ObjL.loosed (ObjL.chg x) kg1 (QG (TreeV.abs TV1 F.T) x.shape)) (List.mem_of_getElem? (Qd hx)))
     · simp only [putS, ObjL.ps, if_pos (show 0 ≤ QN (H.V.abs F.T) x.shape x.names key from by omega), he1, putOld, if_pos (And.intro (show 0 ≤ x.shape from by omega) hc5), hrTV1, stepS, if_neg hp2, looseS, if_pos (show 0 ≤ x.shape from by omega)]
    refine Ql (Qi ?_)
    refine Qx ?_
    refine QQ _ (QC (Qr QE)) ?_
    refine QQ ((Gs.ent 9 1 x.ns (x.names.map Qu)) ++ ((Gs.ent 45 3 x.vs (x.vals.flatMap Qk)) ++ ((Gs.ent 33 1 x.es (x.elems.map Qz)) ++ ((Gs.ent 33 1 x.is (x.inner.map Qz)) ++ (((List.eraseIdx (H.objs.set n (ObjL.chg x)) n).flatMap ObjL.ent) ++ ((F.p, .cells 75 6 [Gs.val H.s ((H.objs.set n (ObjL.chg x)).length), Gs.val H.ts H.texts.length, .map (some F.kb), pt F.T.p 0, pt F.cp 0, .int .i64 br1]) :: ((Gs.ent 102 9 H.s ((H.objs.set n (ObjL.chg x)).flatMap ObjL.cells)) ++ ((Gs.ent 9 1 H.ts (H.texts.map Qu)) ++ ((F.kb, .map (kvs Qu Qz H.known)) :: ((TreeV.ent H.V F.T) ++ ((CellsL.ent (CellsL.mk F.cp H.cs cl1)) ++ ((b1, .cells 45 3 [.int .u64 d.1, .int .u64 d.2.1, .int .i64 (Qv d.2.2)]) :: ([]))))))))))))) (obj_focus (Qd hx) _) ?_
    refine QV [((Gs.blk H.s), n * 9 + 5, Gs.val x.vs x.vals.length), (b1, 0, .int .u64 d.1), (b1, 1, .int .u64 d.2.1), (b1, 2, .int .i64 (Qv d.2.2))] [0, 1, 2, 3, 4, 5] (by kernel_rfl) (Qf (Gs.cell hH1.row (fun e he => (Qa (Qa (Qa (Qa (Qa (Qc (Qt he)))))))) (Qg ObjL.len (Qd hx) (j := 5) (by decide) rfl)) (Qf (Cell.own (Qa (Qa (Qa (Qa (Qa (Qc (Qa (Qa (Qc (Qa (Qa Qe))))))))))) rfl) (Qf (Cell.own (Qa (Qa (Qa (Qa (Qa (Qc (Qa (Qa (Qc (Qa (Qa Qe))))))))))) rfl) (Qf (Cell.own (Qa (Qa (Qa (Qa (Qa (Qc (Qa (Qa (Qc (Qa (Qa Qe))))))))))) rfl) QP)))) ?_
    refine aS 0 ?_
    refine aS 1 ?_
    refine aF 2 ?_
    refine aL 3 ?_
    refine aS 4 ?_
    refine tr 5 (.agg #[.int .u64 d.1, .int .u64 d.2.1, .int .i64 (Qv d.2.2)]) ?_ (hy := fun δ w_ hr => Q0 b1 0 [.int .u64 d.1, .int .u64 d.2.1, .int .i64 (Qv d.2.2)] rfl (by kernel_rfl) (QA (List.mem_cons_of_mem _ List.mem_cons_self) (QA (List.mem_cons_of_mem _ (List.mem_cons_of_mem _ List.mem_cons_self)) (QA (List.mem_cons_of_mem _ (List.mem_cons_of_mem _ (List.mem_cons_of_mem _ List.mem_cons_self))) Q9))) hr)
    refine aI 6 (QN (TreeV.abs H.V F.T) x.shape x.names key) (((QN (TreeV.abs H.V F.T) x.shape x.names key).toNat) * 3) (show Gs.ok 3 (x.vals).length x.vs (x.vals.flatMap Qk) from (HeapV.ok.at (x := (ObjL.chg x)) hH1 (Qd hx)).vs) Tryz.underlying99 ?_
    have hok6 := Gs.ok.relen (ys := ((x.vals.set ((QN (TreeV.abs H.V F.T) x.shape x.names key).toNat) (d.1, d.2.1, Qv d.2.2)).flatMap Qk)) (show Gs.ok 3 (x.vals).length x.vs (x.vals.flatMap Qk) from (HeapV.ok.at (x := (ObjL.chg x)) hH1 (Qd hx)).vs) (by simp [QI QL])
    refine SA_perm _ (Qr QE) ?_
    refine sa1 false 7 (h := Q1 (ys := ((x.vals.set ((QN (TreeV.abs H.V F.T) x.shape x.names key).toNat) (d.1, d.2.1, Qv d.2.2)).flatMap Qk)) x.vs (((QN (TreeV.abs H.V F.T) x.shape x.names key).toNat) * 3) (.agg #[.int .u64 d.1, .int .u64 d.2.1, .int .i64 (Qv d.2.2)]) [.int .u64 d.1, .int .u64 d.2.1, .int .i64 (Qv d.2.2)] (Gs.ok.ne (show Gs.ok 3 (x.vals).length x.vs (x.vals.flatMap Qk) from (HeapV.ok.at (x := (ObjL.chg x)) hH1 (Qd hx)).vs) (by first | omega | (simp; omega))) (fun _ => rfl) (fun _ => rfl) rfl (by kernel_rfl) rfl (by rw [QI QL]; simp; omega) (row_lay (j := 0) QL (d.1, d.2.1, Qv d.2.2) he1 (Nat.le_of_ble_eq_true rfl) rfl) rfl ?_)
    refine ⟨fun hnd => (by cases hnd), ?_⟩
    refine kpA [57, 39, 9, 29, 18, 8, 7, 0, 1, 2, 3] ?_
    refine QS (by kernel_rfl) (Qi ?_)
    have er : (H.objs.set n (ObjL.mk x.kind x.proto x.shut x.shape x.ns x.names x.vs (x.vals.set ((QN (TreeV.abs H.V F.T) x.shape x.names key).toNat) (d.1, d.2.1, Qv d.2.2)) x.es x.elems x.is x.inner (if 0 ≤ x.cell then -1 else x.cell))).flatMap ObjL.cells = (H.objs.set n (ObjL.chg x)).flatMap ObjL.cells := set_cells (by simp [ObjL.cells])
    refine QH ((Gs.ent 45 3 x.vs ((x.vals.set ((QN (TreeV.abs H.V F.T) x.shape x.names key).toNat) (d.1, d.2.1, Qv d.2.2)).flatMap Qk)) ++ ((Gs.ent 9 1 x.ns (x.names.map Qu)) ++ ((Gs.ent 33 1 x.es (x.elems.map Qz)) ++ ((Gs.ent 33 1 x.is (x.inner.map Qz)) ++ (((List.eraseIdx (H.objs.set n (ObjL.chg x)) n).flatMap ObjL.ent) ++ ((F.p, .cells 75 6 [Gs.val H.s ((H.objs.set n (ObjL.chg x)).length), Gs.val H.ts H.texts.length, .map (some F.kb), pt F.T.p 0, pt F.cp 0, .int .i64 br1]) :: ((Gs.ent 102 9 H.s ((H.objs.set n (ObjL.mk x.kind x.proto x.shut x.shape x.ns x.names x.vs (x.vals.set ((QN (TreeV.abs H.V F.T) x.shape x.names key).toNat) (d.1, d.2.1, Qv d.2.2)) x.es x.elems x.is x.inner (if 0 ≤ x.cell then -1 else x.cell))).flatMap ObjL.cells)) ++ ((Gs.ent 9 1 H.ts (H.texts.map Qu)) ++ ((F.kb, .map (kvs Qu Qz H.known)) :: ((TreeV.ent H.V F.T) ++ ((CellsL.ent (CellsL.mk F.cp H.cs cl1)) ++ ((b1, .cells 45 3 [.int .u64 d.1, .int .u64 d.2.1, .int .i64 (Qv d.2.2)]) :: ([]))))))))))))) (by rw [er]) ?_
    refine Qj (Qn ?_)
    refine Qh (.tuple #[]) (fun _ => rfl) ?_
    refine ⟨((ObjL.mk x.kind x.proto x.shut x.shape x.ns x.names x.vs (x.vals.set ((QN (TreeV.abs H.V F.T) x.shape x.names key).toNat) (d.1, d.2.1, Qv d.2.2)) x.es x.elems x.is x.inner (if 0 ≤ x.cell then -1 else x.cell)), H.V, cl1, br1), ?_, rfl, ?_, ⟨rfl, rfl, rfl, rfl, rfl, rfl, rfl, rfl⟩, ?_, hchcl1⟩
    · refine Own.trans (ow (S := ((F.p, .cells 75 6 [Gs.val H.s ((H.objs.set n (ObjL.chg x)).length), Gs.val H.ts H.texts.length, .map (some F.kb), pt F.T.p 0, pt F.cp 0, .int .i64 br1]) :: ((Gs.ent 102 9 H.s ((H.objs.set n (ObjL.mk x.kind x.proto x.shut x.shape x.ns x.names x.vs (x.vals.set ((QN (TreeV.abs H.V F.T) x.shape x.names key).toNat) (d.1, d.2.1, Qv d.2.2)) x.es x.elems x.is x.inner (if 0 ≤ x.cell then -1 else x.cell))).flatMap ObjL.cells)) ++ ((Gs.ent 9 1 x.ns (x.names.map Qu)) ++ ((Gs.ent 45 3 x.vs ((x.vals.set ((QN (TreeV.abs H.V F.T) x.shape x.names key).toNat) (d.1, d.2.1, Qv d.2.2)).flatMap Qk)) ++ ((Gs.ent 33 1 x.es (x.elems.map Qz)) ++ ((Gs.ent 33 1 x.is (x.inner.map Qz)) ++ (((List.eraseIdx (H.objs.set n (ObjL.chg x)) n).flatMap ObjL.ent) ++ ((Gs.ent 9 1 H.ts (H.texts.map Qu)) ++ ((F.kb, .map (kvs Qu Qz H.known)) :: ((TreeV.ent H.V F.T) ++ ((CellsL.ent (CellsL.mk F.cp H.cs cl1)) ++ ([])))))))))))))) (Own.of_perm ?_)
      simpa only [HeapV.put, List.set_set] using HeapV.back (H := (HeapV.mk H.s (H.objs.set n (ObjL.chg x)) H.ts H.texts H.known H.V H.cs cl1 br1)) F (Qd hx) (ObjL.mk x.kind x.proto x.shut x.shape x.ns x.names x.vs (x.vals.set ((QN (TreeV.abs H.V F.T) x.shape x.names key).toNat) (d.1, d.2.1, Qv d.2.2)) x.es x.elems x.is x.inner (if 0 ≤ x.cell then -1 else x.cell))
    · simpa only [HeapV.put, List.set_set] using HeapV.ok.put hH1 (Qd hx) (x' := (ObjL.mk x.kind x.proto x.shut x.shape x.ns x.names x.vs (x.vals.set ((QN (TreeV.abs H.V F.T) x.shape x.names key).toNat) (d.1, d.2.1, Qv d.2.2)) x.es x.elems x.is x.inner (if 0 ≤ x.cell then -1 else x.cell))) ⟨(by first | exact (show Gs.ok 1 (x.names).length x.ns (x.names.map Qu) from (HeapV.ok.at (x := (ObjL.chg x)) hH1 (Qd hx)).ns) | (simp only [List.length_set]; exact (show Gs.ok 1 (x.names).length x.ns (x.names.map Qu) from (HeapV.ok.at (x := (ObjL.chg x)) hH1 (Qd hx)).ns))), (by first | exact hok6 | (simp only [List.length_set]; exact hok6)), (by first | exact (show Gs.ok 1 (x.elems).length x.es (x.elems.map Qz) from (HeapV.ok.at (x := (ObjL.chg x)) hH1 (Qd hx)).es) | (simp only [List.length_set]; exact (show Gs.ok 1 (x.elems).length x.es (x.elems.map Qz) from (HeapV.ok.at (x := (ObjL.chg x)) hH1 (Qd hx)).es))), (by first | exact (show Gs.ok 1 (x.inner).length x.is (x.inner.map Qz) from (HeapV.ok.at (x := (ObjL.chg x)) hH1 (Qd hx)).is) | (simp only [List.length_set]; exact (show Gs.ok 1 (x.inner).length x.is (x.inner.map Qz) from (HeapV.ok.at (x := (ObjL.chg x)) hH1 (Qd hx)).is)))⟩ (HeapV.ok.small hH1 (ObjL.chg x) (List.mem_of_getElem? (Qd hx)))
    · simp only [putS, ObjL.ps, if_pos (show 0 ≤ QN (H.V.abs F.T) x.shape x.names key from by omega), he1, putOld, if_neg (show ¬ (0 ≤ x.shape ∧ (e1.2.2 != Qv d.2.2) = true) from by rintro ⟨q1, q2⟩; first | omega | (simp_all; done))]
   replace hg4 : ¬ (x.shape ≥ 0) := hg4
   refine tn 6 ?_
   refine tn 7 ?_
   refine tn 8 ?_
   refine tn 9 ?_
   refine tn 10 ?_
   refine tn 11 ?_
   refine tn 12 ?_
   refine tn 13 ?_
   refine tn 14 ?_
   refine tn 15 ?_
   refine tn 16 ?_
   refine aS 17 ?_
   refine kpA [57, 39, 9, 29, 18, 8, 7, 0, 1, 2, 3] ?_
   refine QS (by kernel_rfl) (Qi ?_)
   refine cf ?_
   refine Ql (Qi ?_)
   refine Qx ?_
   refine QQ _ (QC (Qr QE)) ?_
   refine QQ ((Gs.ent 9 1 x.ns (x.names.map Qu)) ++ ((Gs.ent 45 3 x.vs (x.vals.flatMap Qk)) ++ ((Gs.ent 33 1 x.es (x.elems.map Qz)) ++ ((Gs.ent 33 1 x.is (x.inner.map Qz)) ++ (((List.eraseIdx (H.objs.set n (ObjL.chg x)) n).flatMap ObjL.ent) ++ ((F.p, .cells 75 6 [Gs.val H.s ((H.objs.set n (ObjL.chg x)).length), Gs.val H.ts H.texts.length, .map (some F.kb), pt F.T.p 0, pt F.cp 0, .int .i64 br1]) :: ((Gs.ent 102 9 H.s ((H.objs.set n (ObjL.chg x)).flatMap ObjL.cells)) ++ ((Gs.ent 9 1 H.ts (H.texts.map Qu)) ++ ((F.kb, .map (kvs Qu Qz H.known)) :: ((TreeV.ent H.V F.T) ++ ((CellsL.ent (CellsL.mk F.cp H.cs cl1)) ++ ((b1, .cells 45 3 [.int .u64 d.1, .int .u64 d.2.1, .int .i64 (Qv d.2.2)]) :: ([]))))))))))))) (obj_focus (Qd hx) _) ?_
   refine QV [((Gs.blk H.s), n * 9 + 5, Gs.val x.vs x.vals.length), (b1, 0, .int .u64 d.1), (b1, 1, .int .u64 d.2.1), (b1, 2, .int .i64 (Qv d.2.2))] [0, 1, 2, 3, 4, 5] (by kernel_rfl) (Qf (Gs.cell hH1.row (fun e he => (Qa (Qa (Qa (Qa (Qa (Qc (Qt he)))))))) (Qg ObjL.len (Qd hx) (j := 5) (by decide) rfl)) (Qf (Cell.own (Qa (Qa (Qa (Qa (Qa (Qc (Qa (Qa (Qc (Qa (Qa Qe))))))))))) rfl) (Qf (Cell.own (Qa (Qa (Qa (Qa (Qa (Qc (Qa (Qa (Qc (Qa (Qa Qe))))))))))) rfl) (Qf (Cell.own (Qa (Qa (Qa (Qa (Qa (Qc (Qa (Qa (Qc (Qa (Qa Qe))))))))))) rfl) QP)))) ?_
   refine aS 0 ?_
   refine aS 1 ?_
   refine aF 2 ?_
   refine aL 3 ?_
   refine aS 4 ?_
   refine tr 5 (.agg #[.int .u64 d.1, .int .u64 d.2.1, .int .i64 (Qv d.2.2)]) ?_ (hy := fun δ w_ hr => Q0 b1 0 [.int .u64 d.1, .int .u64 d.2.1, .int .i64 (Qv d.2.2)] rfl (by kernel_rfl) (QA (List.mem_cons_of_mem _ List.mem_cons_self) (QA (List.mem_cons_of_mem _ (List.mem_cons_of_mem _ List.mem_cons_self)) (QA (List.mem_cons_of_mem _ (List.mem_cons_of_mem _ (List.mem_cons_of_mem _ List.mem_cons_self))) Q9))) hr)
   refine aI 6 (QN (TreeV.abs H.V F.T) x.shape x.names key) (((QN (TreeV.abs H.V F.T) x.shape x.names key).toNat) * 3) (show Gs.ok 3 (x.vals).length x.vs (x.vals.flatMap Qk) from (HeapV.ok.at (x := (ObjL.chg x)) hH1 (Qd hx)).vs) Tryz.underlying99 ?_
   have hok8 := Gs.ok.relen (ys := ((x.vals.set ((QN (TreeV.abs H.V F.T) x.shape x.names key).toNat) (d.1, d.2.1, Qv d.2.2)).flatMap Qk)) (show Gs.ok 3 (x.vals).length x.vs (x.vals.flatMap Qk) from (HeapV.ok.at (x := (ObjL.chg x)) hH1 (Qd hx)).vs) (by simp [QI QL])
   refine SA_perm _ (Qr QE) ?_
   refine sa1 false 7 (h := Q1 (ys := ((x.vals.set ((QN (TreeV.abs H.V F.T) x.shape x.names key).toNat) (d.1, d.2.1, Qv d.2.2)).flatMap Qk)) x.vs (((QN (TreeV.abs H.V F.T) x.shape x.names key).toNat) * 3) (.agg #[.int .u64 d.1, .int .u64 d.2.1, .int .i64 (Qv d.2.2)]) [.int .u64 d.1, .int .u64 d.2.1, .int .i64 (Qv d.2.2)] (Gs.ok.ne (show Gs.ok 3 (x.vals).length x.vs (x.vals.flatMap Qk) from (HeapV.ok.at (x := (ObjL.chg x)) hH1 (Qd hx)).vs) (by first | omega | (simp; omega))) (fun _ => rfl) (fun _ => rfl) rfl (by kernel_rfl) rfl (by rw [QI QL]; simp; omega) (row_lay (j := 0) QL (d.1, d.2.1, Qv d.2.2) he1 (Nat.le_of_ble_eq_true rfl) rfl) rfl ?_)
   refine ⟨fun hnd => (by cases hnd), ?_⟩
   refine QS (by kernel_rfl) (Qi ?_)
   have er : (H.objs.set n (ObjL.mk x.kind x.proto x.shut x.shape x.ns x.names x.vs (x.vals.set ((QN (TreeV.abs H.V F.T) x.shape x.names key).toNat) (d.1, d.2.1, Qv d.2.2)) x.es x.elems x.is x.inner (if 0 ≤ x.cell then -1 else x.cell))).flatMap ObjL.cells = (H.objs.set n (ObjL.chg x)).flatMap ObjL.cells := set_cells (by simp [ObjL.cells])
   refine QH ((Gs.ent 45 3 x.vs ((x.vals.set ((QN (TreeV.abs H.V F.T) x.shape x.names key).toNat) (d.1, d.2.1, Qv d.2.2)).flatMap Qk)) ++ ((Gs.ent 9 1 x.ns (x.names.map Qu)) ++ ((Gs.ent 33 1 x.es (x.elems.map Qz)) ++ ((Gs.ent 33 1 x.is (x.inner.map Qz)) ++ (((List.eraseIdx (H.objs.set n (ObjL.chg x)) n).flatMap ObjL.ent) ++ ((F.p, .cells 75 6 [Gs.val H.s ((H.objs.set n (ObjL.chg x)).length), Gs.val H.ts H.texts.length, .map (some F.kb), pt F.T.p 0, pt F.cp 0, .int .i64 br1]) :: ((Gs.ent 102 9 H.s ((H.objs.set n (ObjL.mk x.kind x.proto x.shut x.shape x.ns x.names x.vs (x.vals.set ((QN (TreeV.abs H.V F.T) x.shape x.names key).toNat) (d.1, d.2.1, Qv d.2.2)) x.es x.elems x.is x.inner (if 0 ≤ x.cell then -1 else x.cell))).flatMap ObjL.cells)) ++ ((Gs.ent 9 1 H.ts (H.texts.map Qu)) ++ ((F.kb, .map (kvs Qu Qz H.known)) :: ((TreeV.ent H.V F.T) ++ ((CellsL.ent (CellsL.mk F.cp H.cs cl1)) ++ ((b1, .cells 45 3 [.int .u64 d.1, .int .u64 d.2.1, .int .i64 (Qv d.2.2)]) :: ([]))))))))))))) (by rw [er]) ?_
   refine Qj (Qn ?_)
   refine Qh (.tuple #[]) (fun _ => rfl) ?_
   refine ⟨((ObjL.mk x.kind x.proto x.shut x.shape x.ns x.names x.vs (x.vals.set ((QN (TreeV.abs H.V F.T) x.shape x.names key).toNat) (d.1, d.2.1, Qv d.2.2)) x.es x.elems x.is x.inner (if 0 ≤ x.cell then -1 else x.cell)), H.V, cl1, br1), ?_, rfl, ?_, ⟨rfl, rfl, rfl, rfl, rfl, rfl, rfl, rfl⟩, ?_, hchcl1⟩
   · refine Own.trans (ow (S := ((F.p, .cells 75 6 [Gs.val H.s ((H.objs.set n (ObjL.chg x)).length), Gs.val H.ts H.texts.length, .map (some F.kb), pt F.T.p 0, pt F.cp 0, .int .i64 br1]) :: ((Gs.ent 102 9 H.s ((H.objs.set n (ObjL.mk x.kind x.proto x.shut x.shape x.ns x.names x.vs (x.vals.set ((QN (TreeV.abs H.V F.T) x.shape x.names key).toNat) (d.1, d.2.1, Qv d.2.2)) x.es x.elems x.is x.inner (if 0 ≤ x.cell then -1 else x.cell))).flatMap ObjL.cells)) ++ ((Gs.ent 9 1 x.ns (x.names.map Qu)) ++ ((Gs.ent 45 3 x.vs ((x.vals.set ((QN (TreeV.abs H.V F.T) x.shape x.names key).toNat) (d.1, d.2.1, Qv d.2.2)).flatMap Qk)) ++ ((Gs.ent 33 1 x.es (x.elems.map Qz)) ++ ((Gs.ent 33 1 x.is (x.inner.map Qz)) ++ (((List.eraseIdx (H.objs.set n (ObjL.chg x)) n).flatMap ObjL.ent) ++ ((Gs.ent 9 1 H.ts (H.texts.map Qu)) ++ ((F.kb, .map (kvs Qu Qz H.known)) :: ((TreeV.ent H.V F.T) ++ ((CellsL.ent (CellsL.mk F.cp H.cs cl1)) ++ ([])))))))))))))) (Own.of_perm ?_)
     simpa only [HeapV.put, List.set_set] using HeapV.back (H := (HeapV.mk H.s (H.objs.set n (ObjL.chg x)) H.ts H.texts H.known H.V H.cs cl1 br1)) F (Qd hx) (ObjL.mk x.kind x.proto x.shut x.shape x.ns x.names x.vs (x.vals.set ((QN (TreeV.abs H.V F.T) x.shape x.names key).toNat) (d.1, d.2.1, Qv d.2.2)) x.es x.elems x.is x.inner (if 0 ≤ x.cell then -1 else x.cell))
   · simpa only [HeapV.put, List.set_set] using HeapV.ok.put hH1 (Qd hx) (x' := (ObjL.mk x.kind x.proto x.shut x.shape x.ns x.names x.vs (x.vals.set ((QN (TreeV.abs H.V F.T) x.shape x.names key).toNat) (d.1, d.2.1, Qv d.2.2)) x.es x.elems x.is x.inner (if 0 ≤ x.cell then -1 else x.cell))) ⟨(by first | exact (show Gs.ok 1 (x.names).length x.ns (x.names.map Qu) from (HeapV.ok.at (x := (ObjL.chg x)) hH1 (Qd hx)).ns) | (simp only [List.length_set]; exact (show Gs.ok 1 (x.names).length x.ns (x.names.map Qu) from (HeapV.ok.at (x := (ObjL.chg x)) hH1 (Qd hx)).ns))), (by first | exact hok8 | (simp only [List.length_set]; exact hok8)), (by first | exact (show Gs.ok 1 (x.elems).length x.es (x.elems.map Qz) from (HeapV.ok.at (x := (ObjL.chg x)) hH1 (Qd hx)).es) | (simp only [List.length_set]; exact (show Gs.ok 1 (x.elems).length x.es (x.elems.map Qz) from (HeapV.ok.at (x := (ObjL.chg x)) hH1 (Qd hx)).es))), (by first | exact (show Gs.ok 1 (x.inner).length x.is (x.inner.map Qz) from (HeapV.ok.at (x := (ObjL.chg x)) hH1 (Qd hx)).is) | (simp only [List.length_set]; exact (show Gs.ok 1 (x.inner).length x.is (x.inner.map Qz) from (HeapV.ok.at (x := (ObjL.chg x)) hH1 (Qd hx)).is)))⟩ (HeapV.ok.small hH1 (ObjL.chg x) (List.mem_of_getElem? (Qd hx)))
   · simp only [putS, ObjL.ps, if_pos (show 0 ≤ QN (H.V.abs F.T) x.shape x.names key from by omega), he1, putOld, if_neg (show ¬ (0 ≤ x.shape ∧ (e1.2.2 != Qv d.2.2) = true) from by rintro ⟨q1, q2⟩; first | omega | (simp_all; done))]
  refine Ql (Qi ?_)
  refine Qx ?_
  refine sr ?_
  refine os 3 ?_
  refine L (ld ?_ (hc := Gs.cell hH1.row (fun e he => (Qc (Qt he))) (Qg ObjL.len (Qd hx) (j := 5) (by decide) rfl)) (v := Gs.val x.vs x.vals.length))
  refine os 2 ?_
  refine kp [90, 39, 9, 29, 18, 8, 7, 0, 1, 2, 3] ?_
  refine nt ?_
  refine cdp (fun hc6 : (x.vals.length : Int) ≥ 16 => ?_) (fun hc6 => ?_)
  ·refine Qm ?_
   refine os 2 ?_
   by_cases hp3 : 0 ≤ x.shape
   ·refine L (cl (heap_loose_yes hH1 (n := n) (Qd hx) hp3) ?_ (hp := HeapV.pm))
    rintro _ kg1 ⟨rfl, hkg1⟩
    refine QO _ (by simp only [HeapV.ent, HeapV.put, List.set_set, List.cons_append, List.append_assoc, List.nil_append]; rfl) ?_
    have hH2 : HeapV.ok (HeapV.mk H.s (H.objs.set n (ObjL.loosed (ObjL.chg x) kg1 (QG (TreeV.abs H.V F.T) x.shape))) H.ts H.texts H.known H.V H.cs cl1 br1) F := by simpa only [HeapV.put, List.set_set] using HeapV.ok.put hH1 (Qd hx) (x' := (ObjL.loosed (ObjL.chg x) kg1 (QG (TreeV.abs H.V F.T) x.shape))) ⟨hkg1, (HeapV.ok.at hH1 (Qd hx)).vs, (HeapV.ok.at hH1 (Qd hx)).es, (HeapV.ok.at hH1 (Qd hx)).is⟩ (HeapV.ok.small hH1 (ObjL.chg x) (List.mem_of_getElem? (Qd hx)))
    refine nq ?_
    refine sr ?_
    refine os 3 ?_
    refine L (ld ?_ (hc := Gs.cell hH2.row (fun e he => (Qc (Qt he))) (Qg ObjL.len (Qd hx) (j := 3) (by decide) rfl)) (v := .int .i64 (-1)))
    refine oV (.bool false) ?_
    refine kp [98, 90, 39, 9, 29, 18, 8, 7, 0, 1, 2, 3] ?_
    refine nt ?_
    refine cf ?_
    refine Ql (Qi ?_)
    refine Qx ?_
    refine sr ?_
    refine os 3 ?_
    refine L (ld ?_ (hc := Gs.cell hH2.row (fun e he => (Qc (Qt he))) (Qg ObjL.len (Qd hx) (j := 3) (by decide) rfl)) (v := .int .i64 (-1)))
    refine oV (.bool true) ?_
    refine kp [123, 98, 90, 39, 9, 29, 18, 8, 7, 0, 1, 2, 3] ?_
    refine nt ?_
    refine ct ?_
    have hnm := keysP_len (V := H.V) (T := F.T) hH.tree x.shape
    refine QQ _ (QC (Qr QE)) ?_
    refine QQ ((Gs.ent 9 1 kg1 ((QG (TreeV.abs H.V F.T) x.shape).map Qu)) ++ ((Gs.ent 45 3 x.vs (x.vals.flatMap Qk)) ++ ((Gs.ent 33 1 x.es (x.elems.map Qz)) ++ ((Gs.ent 33 1 x.is (x.inner.map Qz)) ++ (((List.eraseIdx (H.objs.set n (ObjL.loosed (ObjL.chg x) kg1 (QG (TreeV.abs H.V F.T) x.shape))) n).flatMap ObjL.ent) ++ ((F.p, .cells 75 6 [Gs.val H.s ((H.objs.set n (ObjL.loosed (ObjL.chg x) kg1 (QG (TreeV.abs H.V F.T) x.shape))).length), Gs.val H.ts H.texts.length, .map (some F.kb), pt F.T.p 0, pt F.cp 0, .int .i64 br1]) :: ((Gs.ent 102 9 H.s ((H.objs.set n (ObjL.loosed (ObjL.chg x) kg1 (QG (TreeV.abs H.V F.T) x.shape))).flatMap ObjL.cells)) ++ ((Gs.ent 9 1 H.ts (H.texts.map Qu)) ++ ((F.kb, .map (kvs Qu Qz H.known)) :: ((TreeV.ent H.V F.T) ++ ((CellsL.ent (CellsL.mk F.cp H.cs cl1)) ++ ((b1, .cells 45 3 [.int .u64 d.1, .int .u64 d.2.1, .int .i64 (Qv d.2.2)]) :: ([]))))))))))))) (obj_focus (Qd hx) _) ?_
    refine Qm ?_
    refine os 4 ?_
    refine L (ld ?_ (hc := Gs.cell hH2.row (fun e he => (Qa (Qa (Qa (Qa (Qa (Qc (Qt he)))))))) (Qg ObjL.len (Qd hx) (j := 4) (by decide) rfl)) (v := Gs.val kg1 ((QG (TreeV.abs H.V F.T) x.shape).length)))
    refine os 1 ?_
    refine L (nws 9 1 1 [.string key] ?_)
    intro b7
    refine Q4 _ (QC QE) ?_
    refine L (QU (size := 1) (bytes := 16) (z := .string ByteArray.empty) kg1 ((QG (TreeV.abs H.V F.T) x.shape).length) 1 (some ⟨b7, 0, none⟩) 1 ((QG (TreeV.abs H.V F.T) x.shape).map Qu) ([.string key]) (((QG (TreeV.abs H.V F.T) x.shape) ++ [key]).map Qu) (map_snoc _ key rfl) (fun _ => rfl) (fun _ => rfl) Tryz.underlying26 (by kernel_rfl) rfl (by decide) (show Gs.ok 1 ((QG (TreeV.abs H.V F.T) x.shape)).length kg1 ((QG (TreeV.abs H.V F.T) x.shape).map Qu) from (HeapV.ok.at (x := (ObjL.loosed (ObjL.chg x) kg1 (QG (TreeV.abs H.V F.T) x.shape))) hH2 (Qd hx)).ns) rfl (.inr ⟨b7, 0, rfl, Cells.own (Qa Qe) rfl⟩) rfl (by omega) (by decide) rfl ?_)
    intro s8 hks8 hfs8
    rw [show (QG (TreeV.abs H.V F.T) x.shape).length + 1 = ((QG (TreeV.abs H.V F.T) x.shape) ++ [key]).length from by simp]
    rw [show (QG (TreeV.abs H.V F.T) x.shape).length + 1 = ((QG (TreeV.abs H.V F.T) x.shape) ++ [key]).length from by simp] at hks8
    have hls8 : ((QG (TreeV.abs H.V F.T) x.shape) ++ [key]).length = (QG (TreeV.abs H.V F.T) x.shape).length + 1 := by simp
    refine os 2 ?_
    refine kp [133, 131, 123, 98, 90, 39, 9, 29, 18, 8, 7, 0, 1, 2, 3] ?_
    have hok9 := Gs.ok.relen (ys := ((H.objs.set n (ObjL.mk x.kind x.proto x.shut (-1) s8 ((QG (TreeV.abs H.V F.T) x.shape) ++ [key]) x.vs x.vals x.es x.elems x.is x.inner (if 0 ≤ x.cell then -1 else x.cell))).flatMap ObjL.cells)) hH2.row (by simp [QI ObjL.len])
    refine Q4 _ (Qr (QC (Qr (Qr (Qr (Qr (QC QE))))))) ?_
    refine L (Q1 (ys := ((H.objs.set n (ObjL.mk x.kind x.proto x.shut (-1) s8 ((QG (TreeV.abs H.V F.T) x.shape) ++ [key]) x.vs x.vals x.es x.elems x.is x.inner (if 0 ≤ x.cell then -1 else x.cell))).flatMap ObjL.cells)) H.s (n * 9 + 4) (Gs.val s8 (((QG (TreeV.abs H.V F.T) x.shape) ++ [key]).length)) [Gs.val s8 (((QG (TreeV.abs H.V F.T) x.shape) ++ [key]).length)] (Gs.ok.ne hH2.row (by first | omega | (simp; omega))) (fun _ => rfl) (fun _ => rfl) rfl (by kernel_rfl) rfl (by rw [QI ObjL.len]; simp; omega) ((row_lay (j := 4) ObjL.len (ObjL.mk x.kind x.proto x.shut (-1) s8 ((QG (TreeV.abs H.V F.T) x.shape) ++ [key]) x.vs x.vals x.es x.elems x.is x.inner (if 0 ≤ x.cell then -1 else x.cell)) (Qd hx) (Nat.le_of_ble_eq_true rfl) rfl).trans (by rw [List.set_set])) rfl ?_)
    refine nt ?_
    refine QV [((Gs.blk H.s), n * 9 + 5, Gs.val x.vs x.vals.length), (b1, 0, .int .u64 d.1), (b1, 1, .int .u64 d.2.1), (b1, 2, .int .i64 (Qv d.2.2))] [0, 1, 2, 3, 4, 5, 6] (by kernel_rfl) (Qf (Gs.cell hok9 (fun e he => (Qt he)) (Qg ObjL.len (Qd hx) (j := 5) (by decide) rfl)) (Qf (Cell.own (Qa (Qa (Qc (Qa (Qa (Qa (Qa (Qc (Qa (Qc (Qa (Qa Qe)))))))))))) rfl) (Qf (Cell.own (Qa (Qa (Qc (Qa (Qa (Qa (Qa (Qc (Qa (Qc (Qa (Qa Qe)))))))))))) rfl) (Qf (Cell.own (Qa (Qa (Qc (Qa (Qa (Qa (Qa (Qc (Qa (Qc (Qa (Qa Qe)))))))))))) rfl) QP)))) ?_
    refine aS 0 ?_
    refine aS 1 ?_
    refine aS 2 ?_
    refine aF 3 ?_
    refine aL 4 ?_
    refine tr 5 (.agg #[.int .u64 d.1, .int .u64 d.2.1, .int .i64 (Qv d.2.2)]) ?_ (hy := fun δ w_ hr => Q0 b1 0 [.int .u64 d.1, .int .u64 d.2.1, .int .i64 (Qv d.2.2)] rfl (by kernel_rfl) (QA (List.mem_cons_of_mem _ List.mem_cons_self) (QA (List.mem_cons_of_mem _ (List.mem_cons_of_mem _ List.mem_cons_self)) (QA (List.mem_cons_of_mem _ (List.mem_cons_of_mem _ (List.mem_cons_of_mem _ List.mem_cons_self))) Q9))) hr)
    refine sa1 true 6 (h := nws 45 3 1 [.int .u64 d.1, .int .u64 d.2.1, .int .i64 (Qv d.2.2)] ?_)
    intro b9
    refine ⟨fun hnd => (Qf (Gs.cell hok9 (fun e he => (Qc (Qt he))) (Qg ObjL.len (Qd hx) (j := 5) (by decide) rfl)) (Qf (Cell.own (Qc (Qa (Qa (Qc (Qa (Qa (Qa (Qa (Qc (Qa (Qc (Qa (Qa Qe))))))))))))) rfl) (Qf (Cell.own (Qc (Qa (Qa (Qc (Qa (Qa (Qa (Qa (Qc (Qa (Qc (Qa (Qa Qe))))))))))))) rfl) (Qf (Cell.own (Qc (Qa (Qa (Qc (Qa (Qa (Qa (Qa (Qc (Qa (Qc (Qa (Qa Qe))))))))))))) rfl) QP)))), ?_⟩
    refine SA_perm _ (QC (Qr (Qr (QC QE)))) ?_
    refine sa1 false 7 (h := QU (size := 3) (bytes := 24) (z := .agg #[.int .u64 0, .int .u64 0, .int .i64 0]) x.vs x.vals.length 1 (some ⟨b9, 0, none⟩) 1 (x.vals.flatMap Qk) ([.int .u64 d.1, .int .u64 d.2.1, .int .i64 (Qv d.2.2)]) ((x.vals ++ [(d.1, d.2.1, Qv d.2.2)]).flatMap Qk) (flat_snoc _ (d.1, d.2.1, Qv d.2.2) rfl) (fun _ => rfl) (fun _ => rfl) Tryz.underlying99 (by kernel_rfl) rfl (by decide) (show Gs.ok 3 (x.vals).length x.vs (x.vals.flatMap Qk) from (HeapV.ok.at (x := (ObjL.loosed (ObjL.chg x) kg1 (QG (TreeV.abs H.V F.T) x.shape))) hH2 (Qd hx)).vs) rfl (.inr ⟨b9, 0, rfl, Cells.own (Qa Qe) rfl⟩) rfl (by omega) (by decide) rfl ?_)
    intro s10 hks10 hfs10
    rw [show x.vals.length + 1 = (x.vals ++ [(d.1, d.2.1, Qv d.2.2)]).length from by simp]
    rw [show x.vals.length + 1 = (x.vals ++ [(d.1, d.2.1, Qv d.2.2)]).length from by simp] at hks10
    have hls10 : (x.vals ++ [(d.1, d.2.1, Qv d.2.2)]).length = x.vals.length + 1 := by simp
    refine ⟨fun hnd => (by cases hnd), ?_⟩
    refine kpA [141, 134, 123, 98, 90, 39, 9, 29, 18, 8, 7, 0, 1, 2, 3] ?_
    refine aS 8 ?_
    refine aF 9 ?_
    have hok11 := Gs.ok.relen (ys := ((H.objs.set n (ObjL.mk x.kind x.proto x.shut (-1) s8 ((QG (TreeV.abs H.V F.T) x.shape) ++ [key]) s10 (x.vals ++ [(d.1, d.2.1, Qv d.2.2)]) x.es x.elems x.is x.inner (if 0 ≤ x.cell then -1 else x.cell))).flatMap ObjL.cells)) hok9 (by simp [QI ObjL.len])
    refine SA_perm _ (Qr (QC QE)) ?_
    refine sa1 false 10 (h := Q1 (ys := ((H.objs.set n (ObjL.mk x.kind x.proto x.shut (-1) s8 ((QG (TreeV.abs H.V F.T) x.shape) ++ [key]) s10 (x.vals ++ [(d.1, d.2.1, Qv d.2.2)]) x.es x.elems x.is x.inner (if 0 ≤ x.cell then -1 else x.cell))).flatMap ObjL.cells)) H.s (n * 9 + 5) (Gs.val s10 ((x.vals ++ [(d.1, d.2.1, Qv d.2.2)]).length)) [Gs.val s10 ((x.vals ++ [(d.1, d.2.1, Qv d.2.2)]).length)] (Gs.ok.ne hok9 (by first | omega | (simp; omega))) (fun _ => rfl) (fun _ => rfl) rfl (by kernel_rfl) rfl (by rw [QI ObjL.len]; simp; omega) ((row_lay (j := 5) ObjL.len (ObjL.mk x.kind x.proto x.shut (-1) s8 ((QG (TreeV.abs H.V F.T) x.shape) ++ [key]) s10 (x.vals ++ [(d.1, d.2.1, Qv d.2.2)]) x.es x.elems x.is x.inner (if 0 ≤ x.cell then -1 else x.cell)) (Qd hx) (Nat.le_of_ble_eq_true rfl) rfl).trans (by rw [List.set_set])) rfl ?_)
    refine ⟨fun hnd => (by cases hnd), ?_⟩
    refine QS (by kernel_rfl) ?_
    refine body_end' (.tuple #[]) (fun _ => rfl) ?_
    refine ⟨((ObjL.mk x.kind x.proto x.shut (-1) s8 ((QG (TreeV.abs H.V F.T) x.shape) ++ [key]) s10 (x.vals ++ [(d.1, d.2.1, Qv d.2.2)]) x.es x.elems x.is x.inner (if 0 ≤ x.cell then -1 else x.cell)), H.V, cl1, br1), ?_, rfl, ?_, ⟨rfl, rfl, rfl, rfl, rfl, rfl, rfl, rfl⟩, ?_, hchcl1⟩
    · refine Own.trans (ow (S := ((F.p, .cells 75 6 [Gs.val H.s ((H.objs.set n (ObjL.loosed (ObjL.chg x) kg1 (QG (TreeV.abs H.V F.T) x.shape))).length), Gs.val H.ts H.texts.length, .map (some F.kb), pt F.T.p 0, pt F.cp 0, .int .i64 br1]) :: ((Gs.ent 102 9 H.s ((H.objs.set n (ObjL.mk x.kind x.proto x.shut (-1) s8 ((QG (TreeV.abs H.V F.T) x.shape) ++ [key]) s10 (x.vals ++ [(d.1, d.2.1, Qv d.2.2)]) x.es x.elems x.is x.inner (if 0 ≤ x.cell then -1 else x.cell))).flatMap ObjL.cells)) ++ ((Gs.ent 9 1 s8 (((QG (TreeV.abs H.V F.T) x.shape) ++ [key]).map Qu)) ++ ((Gs.ent 45 3 s10 ((x.vals ++ [(d.1, d.2.1, Qv d.2.2)]).flatMap Qk)) ++ ((Gs.ent 33 1 x.es (x.elems.map Qz)) ++ ((Gs.ent 33 1 x.is (x.inner.map Qz)) ++ (((List.eraseIdx (H.objs.set n (ObjL.loosed (ObjL.chg x) kg1 (QG (TreeV.abs H.V F.T) x.shape))) n).flatMap ObjL.ent) ++ ((Gs.ent 9 1 H.ts (H.texts.map Qu)) ++ ((F.kb, .map (kvs Qu Qz H.known)) :: ((TreeV.ent H.V F.T) ++ ((CellsL.ent (CellsL.mk F.cp H.cs cl1)) ++ ([])))))))))))))) (Own.of_perm ?_)
      simpa only [HeapV.put, List.set_set] using HeapV.back (H := (HeapV.mk H.s (H.objs.set n (ObjL.loosed (ObjL.chg x) kg1 (QG (TreeV.abs H.V F.T) x.shape))) H.ts H.texts H.known H.V H.cs cl1 br1)) F (Qd hx) (ObjL.mk x.kind x.proto x.shut (-1) s8 ((QG (TreeV.abs H.V F.T) x.shape) ++ [key]) s10 (x.vals ++ [(d.1, d.2.1, Qv d.2.2)]) x.es x.elems x.is x.inner (if 0 ≤ x.cell then -1 else x.cell))
    · simpa only [HeapV.put, List.set_set] using HeapV.ok.put hH2 (Qd hx) (x' := (ObjL.mk x.kind x.proto x.shut (-1) s8 ((QG (TreeV.abs H.V F.T) x.shape) ++ [key]) s10 (x.vals ++ [(d.1, d.2.1, Qv d.2.2)]) x.es x.elems x.is x.inner (if 0 ≤ x.cell then -1 else x.cell))) ⟨(by first | exact hks8 | (simp only [List.length_set]; exact hks8)), (by first | exact hks10 | (simp only [List.length_set]; exact hks10)), (by first | exact (show Gs.ok 1 (x.elems).length x.es (x.elems.map Qz) from (HeapV.ok.at (x := (ObjL.loosed (ObjL.chg x) kg1 (QG (TreeV.abs H.V F.T) x.shape))) hH2 (Qd hx)).es) | (simp only [List.length_set]; exact (show Gs.ok 1 (x.elems).length x.es (x.elems.map Qz) from (HeapV.ok.at (x := (ObjL.loosed (ObjL.chg x) kg1 (QG (TreeV.abs H.V F.T) x.shape))) hH2 (Qd hx)).es))), (by first | exact (show Gs.ok 1 (x.inner).length x.is (x.inner.map Qz) from (HeapV.ok.at (x := (ObjL.loosed (ObjL.chg x) kg1 (QG (TreeV.abs H.V F.T) x.shape))) hH2 (Qd hx)).is) | (simp only [List.length_set]; exact (show Gs.ok 1 (x.inner).length x.is (x.inner.map Qz) from (HeapV.ok.at (x := (ObjL.loosed (ObjL.chg x) kg1 (QG (TreeV.abs H.V F.T) x.shape))) hH2 (Qd hx)).is)))⟩ (HeapV.ok.small hH2 (ObjL.loosed (ObjL.chg x) kg1 (QG (TreeV.abs H.V F.T) x.shape)) (List.mem_of_getElem? (Qd hx)))
    · simp only [putS, ObjL.ps, if_neg (show ¬ 0 ≤ QN (H.V.abs F.T) x.shape x.names key from by omega), putNew, putFast, if_pos (show 16 ≤ x.vals.length from by omega), looseS, if_pos hp3, if_neg (show ¬ (0 : Int) ≤ -1 from by omega), putName, if_pos (show (-1 : Int) < 0 from by omega)]
   refine L (cl (heap_loose_no hH1 (n := n) (Qd hx) (by simpa using hp3)) ?_ (hp := HeapV.pm))
   rintro v9 _ hv9
   obtain rfl : v9 = .tuple #[] := hv9.trans (rfl)
   refine QO _ HeapV.eq ?_
   refine nq ?_
   refine sr ?_
   refine os 3 ?_
   refine L (ld ?_ (hc := Gs.cell hH1.row (fun e he => (Qc (Qt he))) (Qg ObjL.len (Qd hx) (j := 3) (by decide) rfl)) (v := .int .i64 x.shape))
   refine os 1 ?_
   refine kp [98, 90, 39, 9, 29, 18, 8, 7, 0, 1, 2, 3] ?_
   refine nt ?_
   refine SW_false (fun _ => (congrArg Value.bool (show (decide (x.shape ≥ 0)) = false from (by simp; omega)))) ?_
   refine Ql (Qi ?_)
   refine Qx ?_
   refine sr ?_
   refine os 3 ?_
   refine L (ld ?_ (hc := Gs.cell hH1.row (fun e he => (Qc (Qt he))) (Qg ObjL.len (Qd hx) (j := 3) (by decide) rfl)) (v := .int .i64 x.shape))
   refine os 1 ?_
   refine kp [123, 98, 90, 39, 9, 29, 18, 8, 7, 0, 1, 2, 3] ?_
   refine nt ?_
   refine SW_true (fun _ => (congrArg Value.bool (show (decide (x.shape < 0)) = true from (by simp; omega)))) ?_
   have hnm : x.names.length ≤ 8000000 := by rcases Int.lt_or_le x.shape 0 with q | q; (have := hI.names q; omega); (rw [hI.stale q]; simp)
   refine QQ _ (QC (Qr QE)) ?_
   refine QQ ((Gs.ent 9 1 x.ns (x.names.map Qu)) ++ ((Gs.ent 45 3 x.vs (x.vals.flatMap Qk)) ++ ((Gs.ent 33 1 x.es (x.elems.map Qz)) ++ ((Gs.ent 33 1 x.is (x.inner.map Qz)) ++ (((List.eraseIdx (H.objs.set n (ObjL.chg x)) n).flatMap ObjL.ent) ++ ((F.p, .cells 75 6 [Gs.val H.s ((H.objs.set n (ObjL.chg x)).length), Gs.val H.ts H.texts.length, .map (some F.kb), pt F.T.p 0, pt F.cp 0, .int .i64 br1]) :: ((Gs.ent 102 9 H.s ((H.objs.set n (ObjL.chg x)).flatMap ObjL.cells)) ++ ((Gs.ent 9 1 H.ts (H.texts.map Qu)) ++ ((F.kb, .map (kvs Qu Qz H.known)) :: ((TreeV.ent H.V F.T) ++ ((CellsL.ent (CellsL.mk F.cp H.cs cl1)) ++ ((b1, .cells 45 3 [.int .u64 d.1, .int .u64 d.2.1, .int .i64 (Qv d.2.2)]) :: ([]))))))))))))) (obj_focus (Qd hx) _) ?_
   refine Qm ?_
   refine os 4 ?_
   refine L (ld ?_ (hc := Gs.cell hH1.row (fun e he => (Qa (Qa (Qa (Qa (Qa (Qc (Qt he)))))))) (Qg ObjL.len (Qd hx) (j := 4) (by decide) rfl)) (v := Gs.val x.ns x.names.length))
   refine os 1 ?_
   refine L (nws 9 1 1 [.string key] ?_)
   intro b11
   refine Q4 _ (QC QE) ?_
   refine L (QU (size := 1) (bytes := 16) (z := .string ByteArray.empty) x.ns x.names.length 1 (some ⟨b11, 0, none⟩) 1 (x.names.map Qu) ([.string key]) ((x.names ++ [key]).map Qu) (map_snoc _ key rfl) (fun _ => rfl) (fun _ => rfl) Tryz.underlying26 (by kernel_rfl) rfl (by decide) (show Gs.ok 1 (x.names).length x.ns (x.names.map Qu) from (HeapV.ok.at (x := (ObjL.chg x)) hH1 (Qd hx)).ns) rfl (.inr ⟨b11, 0, rfl, Cells.own (Qa Qe) rfl⟩) rfl (by omega) (by decide) rfl ?_)
   intro s12 hks12 hfs12
   rw [show x.names.length + 1 = (x.names ++ [key]).length from by simp]
   rw [show x.names.length + 1 = (x.names ++ [key]).length from by simp] at hks12
   have hls12 : (x.names ++ [key]).length = x.names.length + 1 := by simp
   refine os 2 ?_
   refine kp [133, 131, 123, 98, 90, 39, 9, 29, 18, 8, 7, 0, 1, 2, 3] ?_
   have hok12 := Gs.ok.relen (ys := ((H.objs.set n (ObjL.mk x.kind x.proto x.shut x.shape s12 (x.names ++ [key]) x.vs x.vals x.es x.elems x.is x.inner (if 0 ≤ x.cell then -1 else x.cell))).flatMap ObjL.cells)) hH1.row (by simp [QI ObjL.len])
   refine Q4 _ (Qr (QC (Qr (Qr (Qr (Qr (QC QE))))))) ?_
   refine L (Q1 (ys := ((H.objs.set n (ObjL.mk x.kind x.proto x.shut x.shape s12 (x.names ++ [key]) x.vs x.vals x.es x.elems x.is x.inner (if 0 ≤ x.cell then -1 else x.cell))).flatMap ObjL.cells)) H.s (n * 9 + 4) (Gs.val s12 ((x.names ++ [key]).length)) [Gs.val s12 ((x.names ++ [key]).length)] (Gs.ok.ne hH1.row (by first | omega | (simp; omega))) (fun _ => rfl) (fun _ => rfl) rfl (by kernel_rfl) rfl (by rw [QI ObjL.len]; simp; omega) ((row_lay (j := 4) ObjL.len (ObjL.mk x.kind x.proto x.shut x.shape s12 (x.names ++ [key]) x.vs x.vals x.es x.elems x.is x.inner (if 0 ≤ x.cell then -1 else x.cell)) (Qd hx) (Nat.le_of_ble_eq_true rfl) rfl).trans (by rw [List.set_set])) rfl ?_)
   refine nt ?_
   refine QV [((Gs.blk H.s), n * 9 + 5, Gs.val x.vs x.vals.length), (b1, 0, .int .u64 d.1), (b1, 1, .int .u64 d.2.1), (b1, 2, .int .i64 (Qv d.2.2))] [0, 1, 2, 3, 4, 5, 6] (by kernel_rfl) (Qf (Gs.cell hok12 (fun e he => (Qt he)) (Qg ObjL.len (Qd hx) (j := 5) (by decide) rfl)) (Qf (Cell.own (Qa (Qa (Qc (Qa (Qa (Qa (Qa (Qc (Qa (Qc (Qa (Qa Qe)))))))))))) rfl) (Qf (Cell.own (Qa (Qa (Qc (Qa (Qa (Qa (Qa (Qc (Qa (Qc (Qa (Qa Qe)))))))))))) rfl) (Qf (Cell.own (Qa (Qa (Qc (Qa (Qa (Qa (Qa (Qc (Qa (Qc (Qa (Qa Qe)))))))))))) rfl) QP)))) ?_
   refine aS 0 ?_
   refine aS 1 ?_
   refine aS 2 ?_
   refine aF 3 ?_
   refine aL 4 ?_
   refine tr 5 (.agg #[.int .u64 d.1, .int .u64 d.2.1, .int .i64 (Qv d.2.2)]) ?_ (hy := fun δ w_ hr => Q0 b1 0 [.int .u64 d.1, .int .u64 d.2.1, .int .i64 (Qv d.2.2)] rfl (by kernel_rfl) (QA (List.mem_cons_of_mem _ List.mem_cons_self) (QA (List.mem_cons_of_mem _ (List.mem_cons_of_mem _ List.mem_cons_self)) (QA (List.mem_cons_of_mem _ (List.mem_cons_of_mem _ (List.mem_cons_of_mem _ List.mem_cons_self))) Q9))) hr)
   refine sa1 true 6 (h := nws 45 3 1 [.int .u64 d.1, .int .u64 d.2.1, .int .i64 (Qv d.2.2)] ?_)
   intro b13
   refine ⟨fun hnd => (Qf (Gs.cell hok12 (fun e he => (Qc (Qt he))) (Qg ObjL.len (Qd hx) (j := 5) (by decide) rfl)) (Qf (Cell.own (Qc (Qa (Qa (Qc (Qa (Qa (Qa (Qa (Qc (Qa (Qc (Qa (Qa Qe))))))))))))) rfl) (Qf (Cell.own (Qc (Qa (Qa (Qc (Qa (Qa (Qa (Qa (Qc (Qa (Qc (Qa (Qa Qe))))))))))))) rfl) (Qf (Cell.own (Qc (Qa (Qa (Qc (Qa (Qa (Qa (Qa (Qc (Qa (Qc (Qa (Qa Qe))))))))))))) rfl) QP)))), ?_⟩
   refine SA_perm _ (QC (Qr (Qr (QC QE)))) ?_
   refine sa1 false 7 (h := QU (size := 3) (bytes := 24) (z := .agg #[.int .u64 0, .int .u64 0, .int .i64 0]) x.vs x.vals.length 1 (some ⟨b13, 0, none⟩) 1 (x.vals.flatMap Qk) ([.int .u64 d.1, .int .u64 d.2.1, .int .i64 (Qv d.2.2)]) ((x.vals ++ [(d.1, d.2.1, Qv d.2.2)]).flatMap Qk) (flat_snoc _ (d.1, d.2.1, Qv d.2.2) rfl) (fun _ => rfl) (fun _ => rfl) Tryz.underlying99 (by kernel_rfl) rfl (by decide) (show Gs.ok 3 (x.vals).length x.vs (x.vals.flatMap Qk) from (HeapV.ok.at (x := (ObjL.chg x)) hH1 (Qd hx)).vs) rfl (.inr ⟨b13, 0, rfl, Cells.own (Qa Qe) rfl⟩) rfl (by omega) (by decide) rfl ?_)
   intro s14 hks14 hfs14
   rw [show x.vals.length + 1 = (x.vals ++ [(d.1, d.2.1, Qv d.2.2)]).length from by simp]
   rw [show x.vals.length + 1 = (x.vals ++ [(d.1, d.2.1, Qv d.2.2)]).length from by simp] at hks14
   have hls14 : (x.vals ++ [(d.1, d.2.1, Qv d.2.2)]).length = x.vals.length + 1 := by simp
   refine ⟨fun hnd => (by cases hnd), ?_⟩
   refine kpA [141, 134, 123, 98, 90, 39, 9, 29, 18, 8, 7, 0, 1, 2, 3] ?_
   refine aS 8 ?_
   refine aF 9 ?_
   have hok14 := Gs.ok.relen (ys := ((H.objs.set n (ObjL.mk x.kind x.proto x.shut x.shape s12 (x.names ++ [key]) s14 (x.vals ++ [(d.1, d.2.1, Qv d.2.2)]) x.es x.elems x.is x.inner (if 0 ≤ x.cell then -1 else x.cell))).flatMap ObjL.cells)) hok12 (by simp [QI ObjL.len])
   refine SA_perm _ (Qr (QC QE)) ?_
   refine sa1 false 10 (h := Q1 (ys := ((H.objs.set n (ObjL.mk x.kind x.proto x.shut x.shape s12 (x.names ++ [key]) s14 (x.vals ++ [(d.1, d.2.1, Qv d.2.2)]) x.es x.elems x.is x.inner (if 0 ≤ x.cell then -1 else x.cell))).flatMap ObjL.cells)) H.s (n * 9 + 5) (Gs.val s14 ((x.vals ++ [(d.1, d.2.1, Qv d.2.2)]).length)) [Gs.val s14 ((x.vals ++ [(d.1, d.2.1, Qv d.2.2)]).length)] (Gs.ok.ne hok12 (by first | omega | (simp; omega))) (fun _ => rfl) (fun _ => rfl) rfl (by kernel_rfl) rfl (by rw [QI ObjL.len]; simp; omega) ((row_lay (j := 5) ObjL.len (ObjL.mk x.kind x.proto x.shut x.shape s12 (x.names ++ [key]) s14 (x.vals ++ [(d.1, d.2.1, Qv d.2.2)]) x.es x.elems x.is x.inner (if 0 ≤ x.cell then -1 else x.cell)) (Qd hx) (Nat.le_of_ble_eq_true rfl) rfl).trans (by rw [List.set_set])) rfl ?_)
   refine ⟨fun hnd => (by cases hnd), ?_⟩
   refine QS (by kernel_rfl) ?_
   refine body_end' (.tuple #[]) (fun _ => rfl) ?_
   refine ⟨((ObjL.mk x.kind x.proto x.shut x.shape s12 (x.names ++ [key]) s14 (x.vals ++ [(d.1, d.2.1, Qv d.2.2)]) x.es x.elems x.is x.inner (if 0 ≤ x.cell then -1 else x.cell)), H.V, cl1, br1), ?_, rfl, ?_, ⟨rfl, rfl, rfl, rfl, rfl, rfl, rfl, rfl⟩, ?_, hchcl1⟩
   · refine Own.trans (ow (S := ((F.p, .cells 75 6 [Gs.val H.s ((H.objs.set n (ObjL.chg x)).length), Gs.val H.ts H.texts.length, .map (some F.kb), pt F.T.p 0, pt F.cp 0, .int .i64 br1]) :: ((Gs.ent 102 9 H.s ((H.objs.set n (ObjL.mk x.kind x.proto x.shut x.shape s12 (x.names ++ [key]) s14 (x.vals ++ [(d.1, d.2.1, Qv d.2.2)]) x.es x.elems x.is x.inner (if 0 ≤ x.cell then -1 else x.cell))).flatMap ObjL.cells)) ++ ((Gs.ent 9 1 s12 ((x.names ++ [key]).map Qu)) ++ ((Gs.ent 45 3 s14 ((x.vals ++ [(d.1, d.2.1, Qv d.2.2)]).flatMap Qk)) ++ ((Gs.ent 33 1 x.es (x.elems.map Qz)) ++ ((Gs.ent 33 1 x.is (x.inner.map Qz)) ++ (((List.eraseIdx (H.objs.set n (ObjL.chg x)) n).flatMap ObjL.ent) ++ ((Gs.ent 9 1 H.ts (H.texts.map Qu)) ++ ((F.kb, .map (kvs Qu Qz H.known)) :: ((TreeV.ent H.V F.T) ++ ((CellsL.ent (CellsL.mk F.cp H.cs cl1)) ++ ([])))))))))))))) (Own.of_perm ?_)
     simpa only [HeapV.put, List.set_set] using HeapV.back (H := (HeapV.mk H.s (H.objs.set n (ObjL.chg x)) H.ts H.texts H.known H.V H.cs cl1 br1)) F (Qd hx) (ObjL.mk x.kind x.proto x.shut x.shape s12 (x.names ++ [key]) s14 (x.vals ++ [(d.1, d.2.1, Qv d.2.2)]) x.es x.elems x.is x.inner (if 0 ≤ x.cell then -1 else x.cell))
   · simpa only [HeapV.put, List.set_set] using HeapV.ok.put hH1 (Qd hx) (x' := (ObjL.mk x.kind x.proto x.shut x.shape s12 (x.names ++ [key]) s14 (x.vals ++ [(d.1, d.2.1, Qv d.2.2)]) x.es x.elems x.is x.inner (if 0 ≤ x.cell then -1 else x.cell))) ⟨(by first | exact hks12 | (simp only [List.length_set]; exact hks12)), (by first | exact hks14 | (simp only [List.length_set]; exact hks14)), (by first | exact (show Gs.ok 1 (x.elems).length x.es (x.elems.map Qz) from (HeapV.ok.at (x := (ObjL.chg x)) hH1 (Qd hx)).es) | (simp only [List.length_set]; exact (show Gs.ok 1 (x.elems).length x.es (x.elems.map Qz) from (HeapV.ok.at (x := (ObjL.chg x)) hH1 (Qd hx)).es))), (by first | exact (show Gs.ok 1 (x.inner).length x.is (x.inner.map Qz) from (HeapV.ok.at (x := (ObjL.chg x)) hH1 (Qd hx)).is) | (simp only [List.length_set]; exact (show Gs.ok 1 (x.inner).length x.is (x.inner.map Qz) from (HeapV.ok.at (x := (ObjL.chg x)) hH1 (Qd hx)).is)))⟩ (HeapV.ok.small hH1 (ObjL.chg x) (List.mem_of_getElem? (Qd hx)))
   · simp only [putS, ObjL.ps, if_neg (show ¬ 0 ≤ QN (H.V.abs F.T) x.shape x.names key from by omega), putNew, putFast, if_pos (show 16 ≤ x.vals.length from by omega), looseS, if_neg hp3, putName, if_pos (show x.shape < 0 from by omega)]
  refine Ql (Qi ?_)
  refine Qx ?_
  refine sr ?_
  refine os 3 ?_
  refine L (ld ?_ (hc := Gs.cell hH1.row (fun e he => (Qc (Qt he))) (Qg ObjL.len (Qd hx) (j := 3) (by decide) rfl)) (v := .int .i64 x.shape))
  refine os 1 ?_
  refine kp [98, 90, 39, 9, 29, 18, 8, 7, 0, 1, 2, 3] ?_
  refine nt ?_
  refine cdp (fun hc15 : x.shape ≥ 0 => ?_) (fun hc15 => ?_)
  ·refine Qx ?_
   refine QV [(F.p, 3, pt F.T.p 0), ((Gs.blk H.s), n * 9 + 3, .int .i64 x.shape), (b1, 2, .int .i64 (Qv d.2.2))] [0, 1, 2, 3, 4, 5, 6, 7, 8, 9, 10] (by kernel_rfl) (Qf (Cell.own Qe rfl) (Qf (Gs.cell hH1.row (fun e he => (Qc (Qt he))) (Qg ObjL.len (Qd hx) (j := 3) (by decide) rfl)) (Qf (Cell.own (Qc (Qa (Qa (Qa (Qc (Qa (Qa Qe))))))) rfl) QP))) ?_
   refine aS 0 ?_
   refine aS 1 ?_
   refine aF 2 ?_
   refine aL 3 ?_
   refine aS 4 ?_
   refine aS 5 ?_
   refine aF 6 ?_
   refine aL 7 ?_
   refine aS 8 ?_
   refine aF 9 ?_
   refine aL 10 ?_
   refine sa1 false 11 (h := cl (shapes_Add hH1.tree x.shape key (Qv d.2.2)) ?_)
   rintro _ TV1 ⟨hTV1, hkTV1, rTV1, okTV1, rfl, hrTV1⟩
   refine ⟨fun hnd => (by cases hnd), ?_⟩
   have hH2 : HeapV.ok (HeapV.mk H.s (H.objs.set n (ObjL.chg x)) H.ts H.texts H.known TV1 H.cs cl1 br1) F := HeapV.ok.withTree hH1 hTV1
   refine kpA [111, 98, 90, 39, 9, 29, 18, 8, 7, 0, 1, 2, 3] ?_
   refine aS 12 ?_
   refine aS 13 ?_
   refine aS 14 ?_
   refine aS 15 ?_
   refine aS 16 ?_
   refine QS (by kernel_rfl) (Qi ?_)
   refine Qm ?_
   refine os 4 ?_
   by_cases hp4 : okTV1 = true
   ·refine L (cl (heap_step_ok hH2 (n := n) (Qd hx) rTV1 (ok := okTV1) hp4) ?_ (hp := HeapV.pm))
    rintro _ _ rfl
    refine QO _ (by simp only [HeapV.ent, HeapV.put, List.set_set, List.cons_append, List.append_assoc, List.nil_append]; rfl) ?_
    have hH3 : HeapV.ok (HeapV.mk H.s (H.objs.set n (ObjL.withShape (ObjL.chg x) rTV1)) H.ts H.texts H.known TV1 H.cs cl1 br1) F := by simpa only [HeapV.put, List.set_set] using HeapV.ok.put hH2 (Qd hx) (x' := (ObjL.withShape (ObjL.chg x) rTV1)) ⟨(HeapV.ok.at hH2 (Qd hx)).ns, (HeapV.ok.at hH2 (Qd hx)).vs, (HeapV.ok.at hH2 (Qd hx)).es, (HeapV.ok.at hH2 (Qd hx)).is⟩ (HeapV.ok.small hH2 (ObjL.chg x) (List.mem_of_getElem? (Qd hx)))
    refine nq ?_
    refine sr ?_
    refine os 3 ?_
    refine kp [121, 13, 12, 98, 90, 39, 9, 29, 18, 8, 7, 0, 1, 2, 3] ?_
    refine L (ld ?_ (hc := Gs.cell hH3.row (fun e he => (Qc (Qt he))) (Qg ObjL.len (Qd hx) (j := 3) (by decide) rfl)) (v := .int .i64 rTV1))
    refine os 1 ?_
    refine nt ?_
    refine cdp (fun hc16 : rTV1 < 0 => ?_) (fun hc16 => ?_)
    ·have hnm : x.names.length ≤ 8000000 := by rcases Int.lt_or_le x.shape 0 with q | q; (have := hI.names q; omega); (rw [hI.stale q]; simp)
     refine QQ _ (QC (Qr QE)) ?_
     refine QQ ((Gs.ent 9 1 x.ns (x.names.map Qu)) ++ ((Gs.ent 45 3 x.vs (x.vals.flatMap Qk)) ++ ((Gs.ent 33 1 x.es (x.elems.map Qz)) ++ ((Gs.ent 33 1 x.is (x.inner.map Qz)) ++ (((List.eraseIdx (H.objs.set n (ObjL.withShape (ObjL.chg x) rTV1)) n).flatMap ObjL.ent) ++ ((F.p, .cells 75 6 [Gs.val H.s ((H.objs.set n (ObjL.withShape (ObjL.chg x) rTV1)).length), Gs.val H.ts H.texts.length, .map (some F.kb), pt F.T.p 0, pt F.cp 0, .int .i64 br1]) :: ((Gs.ent 102 9 H.s ((H.objs.set n (ObjL.withShape (ObjL.chg x) rTV1)).flatMap ObjL.cells)) ++ ((Gs.ent 9 1 H.ts (H.texts.map Qu)) ++ ((F.kb, .map (kvs Qu Qz H.known)) :: ((TreeV.ent TV1 F.T) ++ ((CellsL.ent (CellsL.mk F.cp H.cs cl1)) ++ ((b1, .cells 45 3 [.int .u64 d.1, .int .u64 d.2.1, .int .i64 (Qv d.2.2)]) :: ([]))))))))))))) (obj_focus (Qd hx) _) ?_
     refine Qm ?_
     refine os 4 ?_
     refine L (ld ?_ (hc := Gs.cell hH3.row (fun e he => (Qa (Qa (Qa (Qa (Qa (Qc (Qt he)))))))) (Qg ObjL.len (Qd hx) (j := 4) (by decide) rfl)) (v := Gs.val x.ns x.names.length))
     refine os 1 ?_
     refine L (nws 9 1 1 [.string key] ?_)
     intro b17
     refine Q4 _ (QC QE) ?_
     refine L (QU (size := 1) (bytes := 16) (z := .string ByteArray.empty) x.ns x.names.length 1 (some ⟨b17, 0, none⟩) 1 (x.names.map Qu) ([.string key]) ((x.names ++ [key]).map Qu) (map_snoc _ key rfl) (fun _ => rfl) (fun _ => rfl) Tryz.underlying26 (by kernel_rfl) rfl (by decide) (show Gs.ok 1 (x.names).length x.ns (x.names.map Qu) from (HeapV.ok.at (x := (ObjL.withShape (ObjL.chg x) rTV1)) hH3 (Qd hx)).ns) rfl (.inr ⟨b17, 0, rfl, Cells.own (Qa Qe) rfl⟩) rfl (by omega) (by decide) rfl ?_)
     intro s18 hks18 hfs18
     rw [show x.names.length + 1 = (x.names ++ [key]).length from by simp]
     rw [show x.names.length + 1 = (x.names ++ [key]).length from by simp] at hks18
     have hls18 : (x.names ++ [key]).length = x.names.length + 1 := by simp
     refine os 2 ?_
     refine kp [133, 131, 123, 13, 12, 98, 90, 39, 9, 29, 18, 8, 7, 0, 1, 2, 3] ?_
     have hok15 := Gs.ok.relen (ys := ((H.objs.set n (ObjL.mk x.kind x.proto x.shut rTV1 s18 (x.names ++ [key]) x.vs x.vals x.es x.elems x.is x.inner (if 0 ≤ x.cell then -1 else x.cell))).flatMap ObjL.cells)) hH3.row (by simp [QI ObjL.len])
     refine Q4 _ (Qr (QC (Qr (Qr (Qr (Qr (QC QE))))))) ?_
     refine L (Q1 (ys := ((H.objs.set n (ObjL.mk x.kind x.proto x.shut rTV1 s18 (x.names ++ [key]) x.vs x.vals x.es x.elems x.is x.inner (if 0 ≤ x.cell then -1 else x.cell))).flatMap ObjL.cells)) H.s (n * 9 + 4) (Gs.val s18 ((x.names ++ [key]).length)) [Gs.val s18 ((x.names ++ [key]).length)] (Gs.ok.ne hH3.row (by first | omega | (simp; omega))) (fun _ => rfl) (fun _ => rfl) rfl (by kernel_rfl) rfl (by rw [QI ObjL.len]; simp; omega) ((row_lay (j := 4) ObjL.len (ObjL.mk x.kind x.proto x.shut rTV1 s18 (x.names ++ [key]) x.vs x.vals x.es x.elems x.is x.inner (if 0 ≤ x.cell then -1 else x.cell)) (Qd hx) (Nat.le_of_ble_eq_true rfl) rfl).trans (by rw [List.set_set])) rfl ?_)
     refine nt ?_
     refine QV [((Gs.blk H.s), n * 9 + 5, Gs.val x.vs x.vals.length), (b1, 0, .int .u64 d.1), (b1, 1, .int .u64 d.2.1), (b1, 2, .int .i64 (Qv d.2.2))] [0, 1, 2, 3, 4, 5, 6] (by kernel_rfl) (Qf (Gs.cell hok15 (fun e he => (Qt he)) (Qg ObjL.len (Qd hx) (j := 5) (by decide) rfl)) (Qf (Cell.own (Qa (Qa (Qc (Qa (Qa (Qa (Qa (Qc (Qa (Qc (Qa (Qa Qe)))))))))))) rfl) (Qf (Cell.own (Qa (Qa (Qc (Qa (Qa (Qa (Qa (Qc (Qa (Qc (Qa (Qa Qe)))))))))))) rfl) (Qf (Cell.own (Qa (Qa (Qc (Qa (Qa (Qa (Qa (Qc (Qa (Qc (Qa (Qa Qe)))))))))))) rfl) QP)))) ?_
     refine aS 0 ?_
     refine aS 1 ?_
     refine aS 2 ?_
     refine aF 3 ?_
     refine aL 4 ?_
     refine tr 5 (.agg #[.int .u64 d.1, .int .u64 d.2.1, .int .i64 (Qv d.2.2)]) ?_ (hy := fun δ w_ hr => Q0 b1 0 [.int .u64 d.1, .int .u64 d.2.1, .int .i64 (Qv d.2.2)] rfl (by kernel_rfl) (QA (List.mem_cons_of_mem _ List.mem_cons_self) (QA (List.mem_cons_of_mem _ (List.mem_cons_of_mem _ List.mem_cons_self)) (QA (List.mem_cons_of_mem _ (List.mem_cons_of_mem _ (List.mem_cons_of_mem _ List.mem_cons_self))) Q9))) hr)
     refine sa1 true 6 (h := nws 45 3 1 [.int .u64 d.1, .int .u64 d.2.1, .int .i64 (Qv d.2.2)] ?_)
     intro b19
     refine ⟨fun hnd => (Qf (Gs.cell hok15 (fun e he => (Qc (Qt he))) (Qg ObjL.len (Qd hx) (j := 5) (by decide) rfl)) (Qf (Cell.own (Qc (Qa (Qa (Qc (Qa (Qa (Qa (Qa (Qc (Qa (Qc (Qa (Qa Qe))))))))))))) rfl) (Qf (Cell.own (Qc (Qa (Qa (Qc (Qa (Qa (Qa (Qa (Qc (Qa (Qc (Qa (Qa Qe))))))))))))) rfl) (Qf (Cell.own (Qc (Qa (Qa (Qc (Qa (Qa (Qa (Qa (Qc (Qa (Qc (Qa (Qa Qe))))))))))))) rfl) QP)))), ?_⟩
     refine SA_perm _ (QC (Qr (Qr (QC QE)))) ?_
     refine sa1 false 7 (h := QU (size := 3) (bytes := 24) (z := .agg #[.int .u64 0, .int .u64 0, .int .i64 0]) x.vs x.vals.length 1 (some ⟨b19, 0, none⟩) 1 (x.vals.flatMap Qk) ([.int .u64 d.1, .int .u64 d.2.1, .int .i64 (Qv d.2.2)]) ((x.vals ++ [(d.1, d.2.1, Qv d.2.2)]).flatMap Qk) (flat_snoc _ (d.1, d.2.1, Qv d.2.2) rfl) (fun _ => rfl) (fun _ => rfl) Tryz.underlying99 (by kernel_rfl) rfl (by decide) (show Gs.ok 3 (x.vals).length x.vs (x.vals.flatMap Qk) from (HeapV.ok.at (x := (ObjL.withShape (ObjL.chg x) rTV1)) hH3 (Qd hx)).vs) rfl (.inr ⟨b19, 0, rfl, Cells.own (Qa Qe) rfl⟩) rfl (by omega) (by decide) rfl ?_)
     intro s20 hks20 hfs20
     rw [show x.vals.length + 1 = (x.vals ++ [(d.1, d.2.1, Qv d.2.2)]).length from by simp]
     rw [show x.vals.length + 1 = (x.vals ++ [(d.1, d.2.1, Qv d.2.2)]).length from by simp] at hks20
     have hls20 : (x.vals ++ [(d.1, d.2.1, Qv d.2.2)]).length = x.vals.length + 1 := by simp
     refine ⟨fun hnd => (by cases hnd), ?_⟩
     refine kpA [141, 134, 123, 13, 12, 98, 90, 39, 9, 29, 18, 8, 7, 0, 1, 2, 3] ?_
     refine aS 8 ?_
     refine aF 9 ?_
     have hok17 := Gs.ok.relen (ys := ((H.objs.set n (ObjL.mk x.kind x.proto x.shut rTV1 s18 (x.names ++ [key]) s20 (x.vals ++ [(d.1, d.2.1, Qv d.2.2)]) x.es x.elems x.is x.inner (if 0 ≤ x.cell then -1 else x.cell))).flatMap ObjL.cells)) hok15 (by simp [QI ObjL.len])
     refine SA_perm _ (Qr (QC QE)) ?_
     refine sa1 false 10 (h := Q1 (ys := ((H.objs.set n (ObjL.mk x.kind x.proto x.shut rTV1 s18 (x.names ++ [key]) s20 (x.vals ++ [(d.1, d.2.1, Qv d.2.2)]) x.es x.elems x.is x.inner (if 0 ≤ x.cell then -1 else x.cell))).flatMap ObjL.cells)) H.s (n * 9 + 5) (Gs.val s20 ((x.vals ++ [(d.1, d.2.1, Qv d.2.2)]).length)) [Gs.val s20 ((x.vals ++ [(d.1, d.2.1, Qv d.2.2)]).length)] (Gs.ok.ne hok15 (by first | omega | (simp; omega))) (fun _ => rfl) (fun _ => rfl) rfl (by kernel_rfl) rfl (by rw [QI ObjL.len]; simp; omega) ((row_lay (j := 5) ObjL.len (ObjL.mk x.kind x.proto x.shut rTV1 s18 (x.names ++ [key]) s20 (x.vals ++ [(d.1, d.2.1, Qv d.2.2)]) x.es x.elems x.is x.inner (if 0 ≤ x.cell then -1 else x.cell)) (Qd hx) (Nat.le_of_ble_eq_true rfl) rfl).trans (by rw [List.set_set])) rfl ?_)
     refine ⟨fun hnd => (by cases hnd), ?_⟩
     refine QS (by kernel_rfl) ?_
     refine body_end' (.tuple #[]) (fun _ => rfl) ?_
     refine ⟨((ObjL.mk x.kind x.proto x.shut rTV1 s18 (x.names ++ [key]) s20 (x.vals ++ [(d.1, d.2.1, Qv d.2.2)]) x.es x.elems x.is x.inner (if 0 ≤ x.cell then -1 else x.cell)), TV1, cl1, br1), ?_, rfl, ?_, ⟨rfl, rfl, rfl, rfl, rfl, rfl, rfl, rfl⟩, ?_, hchcl1⟩
     · refine Own.trans (ow (S := ((F.p, .cells 75 6 [Gs.val H.s ((H.objs.set n (ObjL.withShape (ObjL.chg x) rTV1)).length), Gs.val H.ts H.texts.length, .map (some F.kb), pt F.T.p 0, pt F.cp 0, .int .i64 br1]) :: ((Gs.ent 102 9 H.s ((H.objs.set n (ObjL.mk x.kind x.proto x.shut rTV1 s18 (x.names ++ [key]) s20 (x.vals ++ [(d.1, d.2.1, Qv d.2.2)]) x.es x.elems x.is x.inner (if 0 ≤ x.cell then -1 else x.cell))).flatMap ObjL.cells)) ++ ((Gs.ent 9 1 s18 ((x.names ++ [key]).map Qu)) ++ ((Gs.ent 45 3 s20 ((x.vals ++ [(d.1, d.2.1, Qv d.2.2)]).flatMap Qk)) ++ ((Gs.ent 33 1 x.es (x.elems.map Qz)) ++ ((Gs.ent 33 1 x.is (x.inner.map Qz)) ++ (((List.eraseIdx (H.objs.set n (ObjL.withShape (ObjL.chg x) rTV1)) n).flatMap ObjL.ent) ++ ((Gs.ent 9 1 H.ts (H.texts.map Qu)) ++ ((F.kb, .map (kvs Qu Qz H.known)) :: ((TreeV.ent TV1 F.T) ++ ((CellsL.ent (CellsL.mk F.cp H.cs cl1)) ++ ([])))))))))))))) (Own.of_perm ?_)
       simpa only [HeapV.put, List.set_set] using HeapV.back (H := (HeapV.mk H.s (H.objs.set n (ObjL.withShape (ObjL.chg x) rTV1)) H.ts H.texts H.known TV1 H.cs cl1 br1)) F (Qd hx) (ObjL.mk x.kind x.proto x.shut rTV1 s18 (x.names ++ [key]) s20 (x.vals ++ [(d.1, d.2.1, Qv d.2.2)]) x.es x.elems x.is x.inner (if 0 ≤ x.cell then -1 else x.cell))
     · simpa only [HeapV.put, List.set_set] using HeapV.ok.put hH3 (Qd hx) (x' := (ObjL.mk x.kind x.proto x.shut rTV1 s18 (x.names ++ [key]) s20 (x.vals ++ [(d.1, d.2.1, Qv d.2.2)]) x.es x.elems x.is x.inner (if 0 ≤ x.cell then -1 else x.cell))) ⟨(by first | exact hks18 | (simp only [List.length_set]; exact hks18)), (by first | exact hks20 | (simp only [List.length_set]; exact hks20)), (by first | exact (show Gs.ok 1 (x.elems).length x.es (x.elems.map Qz) from (HeapV.ok.at (x := (ObjL.withShape (ObjL.chg x) rTV1)) hH3 (Qd hx)).es) | (simp only [List.length_set]; exact (show Gs.ok 1 (x.elems).length x.es (x.elems.map Qz) from (HeapV.ok.at (x := (ObjL.withShape (ObjL.chg x) rTV1)) hH3 (Qd hx)).es))), (by first | exact (show Gs.ok 1 (x.inner).length x.is (x.inner.map Qz) from (HeapV.ok.at (x := (ObjL.withShape (ObjL.chg x) rTV1)) hH3 (Qd hx)).is) | (simp only [List.length_set]; exact (show Gs.ok 1 (x.inner).length x.is (x.inner.map Qz) from (HeapV.ok.at (x := (ObjL.withShape (ObjL.chg x) rTV1)) hH3 (Qd hx)).is)))⟩ (HeapV.ok.small hH3 (ObjL.withShape (ObjL.chg x) rTV1) (List.mem_of_getElem? (Qd hx)))
     · simp only [putS, ObjL.ps, if_neg (show ¬ 0 ≤ QN (H.V.abs F.T) x.shape x.names key from by omega), putNew, putFast, if_neg (show ¬ 16 ≤ x.vals.length from by omega), if_pos (show 0 ≤ x.shape from by omega), hrTV1, stepS, if_pos hp4, putName, if_pos (show rTV1 < 0 from by omega)]
    refine Ql (Qi ?_)
    refine QQ _ (QC (Qr QE)) ?_
    refine QQ ((Gs.ent 9 1 x.ns (x.names.map Qu)) ++ ((Gs.ent 45 3 x.vs (x.vals.flatMap Qk)) ++ ((Gs.ent 33 1 x.es (x.elems.map Qz)) ++ ((Gs.ent 33 1 x.is (x.inner.map Qz)) ++ (((List.eraseIdx (H.objs.set n (ObjL.withShape (ObjL.chg x) rTV1)) n).flatMap ObjL.ent) ++ ((F.p, .cells 75 6 [Gs.val H.s ((H.objs.set n (ObjL.withShape (ObjL.chg x) rTV1)).length), Gs.val H.ts H.texts.length, .map (some F.kb), pt F.T.p 0, pt F.cp 0, .int .i64 br1]) :: ((Gs.ent 102 9 H.s ((H.objs.set n (ObjL.withShape (ObjL.chg x) rTV1)).flatMap ObjL.cells)) ++ ((Gs.ent 9 1 H.ts (H.texts.map Qu)) ++ ((F.kb, .map (kvs Qu Qz H.known)) :: ((TreeV.ent TV1 F.T) ++ ((CellsL.ent (CellsL.mk F.cp H.cs cl1)) ++ ((b1, .cells 45 3 [.int .u64 d.1, .int .u64 d.2.1, .int .i64 (Qv d.2.2)]) :: ([]))))))))))))) (obj_focus (Qd hx) _) ?_
    refine QV [((Gs.blk H.s), n * 9 + 5, Gs.val x.vs x.vals.length), (b1, 0, .int .u64 d.1), (b1, 1, .int .u64 d.2.1), (b1, 2, .int .i64 (Qv d.2.2))] [0, 1, 2, 3, 4, 5, 6] (by kernel_rfl) (Qf (Gs.cell hH3.row (fun e he => (Qa (Qa (Qa (Qa (Qa (Qc (Qt he)))))))) (Qg ObjL.len (Qd hx) (j := 5) (by decide) rfl)) (Qf (Cell.own (Qa (Qa (Qa (Qa (Qa (Qc (Qa (Qa (Qc (Qa (Qa Qe))))))))))) rfl) (Qf (Cell.own (Qa (Qa (Qa (Qa (Qa (Qc (Qa (Qa (Qc (Qa (Qa Qe))))))))))) rfl) (Qf (Cell.own (Qa (Qa (Qa (Qa (Qa (Qc (Qa (Qa (Qc (Qa (Qa Qe))))))))))) rfl) QP)))) ?_
    refine aS 0 ?_
    refine aS 1 ?_
    refine aS 2 ?_
    refine aF 3 ?_
    refine aL 4 ?_
    refine tr 5 (.agg #[.int .u64 d.1, .int .u64 d.2.1, .int .i64 (Qv d.2.2)]) ?_ (hy := fun δ w_ hr => Q0 b1 0 [.int .u64 d.1, .int .u64 d.2.1, .int .i64 (Qv d.2.2)] rfl (by kernel_rfl) (QA (List.mem_cons_of_mem _ List.mem_cons_self) (QA (List.mem_cons_of_mem _ (List.mem_cons_of_mem _ List.mem_cons_self)) (QA (List.mem_cons_of_mem _ (List.mem_cons_of_mem _ (List.mem_cons_of_mem _ List.mem_cons_self))) Q9))) hr)
    refine sa1 true 6 (h := nws 45 3 1 [.int .u64 d.1, .int .u64 d.2.1, .int .i64 (Qv d.2.2)] ?_)
    intro b21
    refine ⟨fun hnd => (Qf (Gs.cell hH3.row (fun e he => (Qc (Qa (Qa (Qa (Qa (Qa (Qc (Qt he))))))))) (Qg ObjL.len (Qd hx) (j := 5) (by decide) rfl)) (Qf (Cell.own (Qc (Qa (Qa (Qa (Qa (Qa (Qc (Qa (Qa (Qc (Qa (Qa Qe)))))))))))) rfl) (Qf (Cell.own (Qc (Qa (Qa (Qa (Qa (Qa (Qc (Qa (Qa (Qc (Qa (Qa Qe)))))))))))) rfl) (Qf (Cell.own (Qc (Qa (Qa (Qa (Qa (Qa (Qc (Qa (Qa (Qc (Qa (Qa Qe)))))))))))) rfl) QP)))), ?_⟩
    refine SA_perm _ (QC (Qr QE)) ?_
    refine sa1 false 7 (h := QU (size := 3) (bytes := 24) (z := .agg #[.int .u64 0, .int .u64 0, .int .i64 0]) x.vs x.vals.length 1 (some ⟨b21, 0, none⟩) 1 (x.vals.flatMap Qk) ([.int .u64 d.1, .int .u64 d.2.1, .int .i64 (Qv d.2.2)]) ((x.vals ++ [(d.1, d.2.1, Qv d.2.2)]).flatMap Qk) (flat_snoc _ (d.1, d.2.1, Qv d.2.2) rfl) (fun _ => rfl) (fun _ => rfl) Tryz.underlying99 (by kernel_rfl) rfl (by decide) (show Gs.ok 3 (x.vals).length x.vs (x.vals.flatMap Qk) from (HeapV.ok.at (x := (ObjL.withShape (ObjL.chg x) rTV1)) hH3 (Qd hx)).vs) rfl (.inr ⟨b21, 0, rfl, Cells.own (Qa Qe) rfl⟩) rfl (by omega) (by decide) rfl ?_)
    intro s22 hks22 hfs22
    rw [show x.vals.length + 1 = (x.vals ++ [(d.1, d.2.1, Qv d.2.2)]).length from by simp]
    rw [show x.vals.length + 1 = (x.vals ++ [(d.1, d.2.1, Qv d.2.2)]).length from by simp] at hks22
    have hls22 : (x.vals ++ [(d.1, d.2.1, Qv d.2.2)]).length = x.vals.length + 1 := by simp
    refine ⟨fun hnd => (by cases hnd), ?_⟩
    refine kpA [141, 134, 123, 13, 12, 98, 90, 39, 9, 29, 18, 8, 7, 0, 1, 2, 3] ?_
    refine aS 8 ?_
    refine aF 9 ?_
    have hok19 := Gs.ok.relen (ys := ((H.objs.set n (ObjL.mk x.kind x.proto x.shut rTV1 x.ns x.names s22 (x.vals ++ [(d.1, d.2.1, Qv d.2.2)]) x.es x.elems x.is x.inner (if 0 ≤ x.cell then -1 else x.cell))).flatMap ObjL.cells)) hH3.row (by simp [QI ObjL.len])
    refine SA_perm _ (Qr (QC (Qr (Qr (Qr (Qr (QC QE))))))) ?_
    refine sa1 false 10 (h := Q1 (ys := ((H.objs.set n (ObjL.mk x.kind x.proto x.shut rTV1 x.ns x.names s22 (x.vals ++ [(d.1, d.2.1, Qv d.2.2)]) x.es x.elems x.is x.inner (if 0 ≤ x.cell then -1 else x.cell))).flatMap ObjL.cells)) H.s (n * 9 + 5) (Gs.val s22 ((x.vals ++ [(d.1, d.2.1, Qv d.2.2)]).length)) [Gs.val s22 ((x.vals ++ [(d.1, d.2.1, Qv d.2.2)]).length)] (Gs.ok.ne hH3.row (by first | omega | (simp; omega))) (fun _ => rfl) (fun _ => rfl) rfl (by kernel_rfl) rfl (by rw [QI ObjL.len]; simp; omega) ((row_lay (j := 5) ObjL.len (ObjL.mk x.kind x.proto x.shut rTV1 x.ns x.names s22 (x.vals ++ [(d.1, d.2.1, Qv d.2.2)]) x.es x.elems x.is x.inner (if 0 ≤ x.cell then -1 else x.cell)) (Qd hx) (Nat.le_of_ble_eq_true rfl) rfl).trans (by rw [List.set_set])) rfl ?_)
    refine ⟨fun hnd => (by cases hnd), ?_⟩
    refine QS (by kernel_rfl) ?_
    refine body_end' (.tuple #[]) (fun _ => rfl) ?_
    refine ⟨((ObjL.mk x.kind x.proto x.shut rTV1 x.ns x.names s22 (x.vals ++ [(d.1, d.2.1, Qv d.2.2)]) x.es x.elems x.is x.inner (if 0 ≤ x.cell then -1 else x.cell)), TV1, cl1, br1), ?_, rfl, ?_, ⟨rfl, rfl, rfl, rfl, rfl, rfl, rfl, rfl⟩, ?_, hchcl1⟩
    · refine Own.trans (ow (S := ((F.p, .cells 75 6 [Gs.val H.s ((H.objs.set n (ObjL.withShape (ObjL.chg x) rTV1)).length), Gs.val H.ts H.texts.length, .map (some F.kb), pt F.T.p 0, pt F.cp 0, .int .i64 br1]) :: ((Gs.ent 102 9 H.s ((H.objs.set n (ObjL.mk x.kind x.proto x.shut rTV1 x.ns x.names s22 (x.vals ++ [(d.1, d.2.1, Qv d.2.2)]) x.es x.elems x.is x.inner (if 0 ≤ x.cell then -1 else x.cell))).flatMap ObjL.cells)) ++ ((Gs.ent 9 1 x.ns (x.names.map Qu)) ++ ((Gs.ent 45 3 s22 ((x.vals ++ [(d.1, d.2.1, Qv d.2.2)]).flatMap Qk)) ++ ((Gs.ent 33 1 x.es (x.elems.map Qz)) ++ ((Gs.ent 33 1 x.is (x.inner.map Qz)) ++ (((List.eraseIdx (H.objs.set n (ObjL.withShape (ObjL.chg x) rTV1)) n).flatMap ObjL.ent) ++ ((Gs.ent 9 1 H.ts (H.texts.map Qu)) ++ ((F.kb, .map (kvs Qu Qz H.known)) :: ((TreeV.ent TV1 F.T) ++ ((CellsL.ent (CellsL.mk F.cp H.cs cl1)) ++ ([])))))))))))))) (Own.of_perm ?_)
      simpa only [HeapV.put, List.set_set] using HeapV.back (H := (HeapV.mk H.s (H.objs.set n (ObjL.withShape (ObjL.chg x) rTV1)) H.ts H.texts H.known TV1 H.cs cl1 br1)) F (Qd hx) (ObjL.mk x.kind x.proto x.shut rTV1 x.ns x.names s22 (x.vals ++ [(d.1, d.2.1, Qv d.2.2)]) x.es x.elems x.is x.inner (if 0 ≤ x.cell then -1 else x.cell))
    · simpa only [HeapV.put, List.set_set] using HeapV.ok.put hH3 (Qd hx) (x' := (ObjL.mk x.kind x.proto x.shut rTV1 x.ns x.names s22 (x.vals ++ [(d.1, d.2.1, Qv d.2.2)]) x.es x.elems x.is x.inner (if 0 ≤ x.cell then -1 else x.cell))) ⟨(by first | exact (show Gs.ok 1 (x.names).length x.ns (x.names.map Qu) from (HeapV.ok.at (x := (ObjL.withShape (ObjL.chg x) rTV1)) hH3 (Qd hx)).ns) | (simp only [List.length_set]; exact (show Gs.ok 1 (x.names).length x.ns (x.names.map Qu) from (HeapV.ok.at (x := (ObjL.withShape (ObjL.chg x) rTV1)) hH3 (Qd hx)).ns))), (by first | exact hks22 | (simp only [List.length_set]; exact hks22)), (by first | exact (show Gs.ok 1 (x.elems).length x.es (x.elems.map Qz) from (HeapV.ok.at (x := (ObjL.withShape (ObjL.chg x) rTV1)) hH3 (Qd hx)).es) | (simp only [List.length_set]; exact (show Gs.ok 1 (x.elems).length x.es (x.elems.map Qz) from (HeapV.ok.at (x := (ObjL.withShape (ObjL.chg x) rTV1)) hH3 (Qd hx)).es))), (by first | exact (show Gs.ok 1 (x.inner).length x.is (x.inner.map Qz) from (HeapV.ok.at (x := (ObjL.withShape (ObjL.chg x) rTV1)) hH3 (Qd hx)).is) | (simp only [List.length_set]; exact (show Gs.ok 1 (x.inner).length x.is (x.inner.map Qz) from (HeapV.ok.at (x := (ObjL.withShape (ObjL.chg x) rTV1)) hH3 (Qd hx)).is)))⟩ (HeapV.ok.small hH3 (ObjL.withShape (ObjL.chg x) rTV1) (List.mem_of_getElem? (Qd hx)))
    · simp only [putS, ObjL.ps, if_neg (show ¬ 0 ≤ QN (H.V.abs F.T) x.shape x.names key from by omega), putNew, putFast, if_neg (show ¬ 16 ≤ x.vals.length from by omega), if_pos (show 0 ≤ x.shape from by omega), hrTV1, stepS, if_pos hp4, putName, if_neg (show ¬ rTV1 < 0 from by omega)]
   refine L (cl (heap_step_no hH2 (n := n) (Qd hx) rTV1 (ok := okTV1) (by simpa using hp4) (by omega)) ?_ (hp := HeapV.pm))
   rintro _ kg1 ⟨rfl, hkg1⟩
   refine QO _ (by simp only [HeapV.ent, HeapV.put, List.set_set, List.cons_append, List.append_assoc, List.nil_append]; rfl) ?_
   have hH3 : HeapV.ok (HeapV.mk H.s (H.objs.set n (ObjL.loosed (ObjL.chg x) kg1 (QG (TreeV.abs TV1 F.T) x.shape))) H.ts H.texts H.known TV1 H.cs cl1 br1) F := by simpa only [HeapV.put, List.set_set] using HeapV.ok.put hH2 (Qd hx) (x' := (ObjL.loosed (ObjL.chg x) kg1 (QG (TreeV.abs TV1 F.T) x.shape))) ⟨hkg1, (HeapV.ok.at hH2 (Qd hx)).vs, (HeapV.ok.at hH2 (Qd hx)).es, (HeapV.ok.at hH2 (Qd hx)).is⟩ (HeapV.ok.small hH2 (ObjL.chg x) (List.mem_of_getElem? (Qd hx)))
   refine nq ?_
   refine sr ?_
   refine os 3 ?_
   refine kp [121, 13, 12, 98, 90, 39, 9, 29, 18, 8, 7, 0, 1, 2, 3] ?_
   refine L (ld ?_ (hc := Gs.cell hH3.row (fun e he => (Qc (Qt he))) (Qg ObjL.len (Qd hx) (j := 3) (by decide) rfl)) (v := .int .i64 (-1)))
   refine oV (.bool true) ?_
   refine nt ?_
   refine ct ?_
   have hnm := keysP_len (V := TV1) (T := F.T) hTV1 x.shape
   refine QQ _ (QC (Qr QE)) ?_
   refine QQ ((Gs.ent 9 1 kg1 ((QG (TreeV.abs TV1 F.T) x.shape).map Qu)) ++ ((Gs.ent 45 3 x.vs (x.vals.flatMap Qk)) ++ ((Gs.ent 33 1 x.es (x.elems.map Qz)) ++ ((Gs.ent 33 1 x.is (x.inner.map Qz)) ++ (((List.eraseIdx (H.objs.set n (ObjL.loosed (ObjL.chg x) kg1 (QG (TreeV.abs TV1 F.T) x.shape))) n).flatMap ObjL.ent) ++ ((F.p, .cells 75 6 [Gs.val H.s ((H.objs.set n (ObjL.loosed (ObjL.chg x) kg1 (QG (TreeV.abs TV1 F.T) x.shape))).length), Gs.val H.ts H.texts.length, .map (some F.kb), pt F.T.p 0, pt F.cp 0, .int .i64 br1]) :: ((Gs.ent 102 9 H.s ((H.objs.set n (ObjL.loosed (ObjL.chg x) kg1 (QG (TreeV.abs TV1 F.T) x.shape))).flatMap ObjL.cells)) ++ ((Gs.ent 9 1 H.ts (H.texts.map Qu)) ++ ((F.kb, .map (kvs Qu Qz H.known)) :: ((TreeV.ent TV1 F.T) ++ ((CellsL.ent (CellsL.mk F.cp H.cs cl1)) ++ ((b1, .cells 45 3 [.int .u64 d.1, .int .u64 d.2.1, .int .i64 (Qv d.2.2)]) :: ([]))))))))))))) (obj_focus (Qd hx) _) ?_
   refine Qm ?_
   refine os 4 ?_
   refine L (ld ?_ (hc := Gs.cell hH3.row (fun e he => (Qa (Qa (Qa (Qa (Qa (Qc (Qt he)))))))) (Qg ObjL.len (Qd hx) (j := 4) (by decide) rfl)) (v := Gs.val kg1 ((QG (TreeV.abs TV1 F.T) x.shape).length)))
   refine os 1 ?_
   refine L (nws 9 1 1 [.string key] ?_)
   intro b23
   refine Q4 _ (QC QE) ?_
   refine L (QU (size := 1) (bytes := 16) (z := .string ByteArray.empty) kg1 ((QG (TreeV.abs TV1 F.T) x.shape).length) 1 (some ⟨b23, 0, none⟩) 1 ((QG (TreeV.abs TV1 F.T) x.shape).map Qu) ([.string key]) (((QG (TreeV.abs TV1 F.T) x.shape) ++ [key]).map Qu) (map_snoc _ key rfl) (fun _ => rfl) (fun _ => rfl) Tryz.underlying26 (by kernel_rfl) rfl (by decide) (show Gs.ok 1 ((QG (TreeV.abs TV1 F.T) x.shape)).length kg1 ((QG (TreeV.abs TV1 F.T) x.shape).map Qu) from (HeapV.ok.at (x := (ObjL.loosed (ObjL.chg x) kg1 (QG (TreeV.abs TV1 F.T) x.shape))) hH3 (Qd hx)).ns) rfl (.inr ⟨b23, 0, rfl, Cells.own (Qa Qe) rfl⟩) rfl (by omega) (by decide) rfl ?_)
   intro s24 hks24 hfs24
   rw [show (QG (TreeV.abs TV1 F.T) x.shape).length + 1 = ((QG (TreeV.abs TV1 F.T) x.shape) ++ [key]).length from by simp]
   rw [show (QG (TreeV.abs TV1 F.T) x.shape).length + 1 = ((QG (TreeV.abs TV1 F.T) x.shape) ++ [key]).length from by simp] at hks24
   have hls24 : ((QG (TreeV.abs TV1 F.T) x.shape) ++ [key]).length = (QG (TreeV.abs TV1 F.T) x.shape).length + 1 := by simp
   refine os 2 ?_
   refine kp [133, 131, 123, 13, 12, 98, 90, 39, 9, 29, 18, 8, 7, 0, 1, 2, 3] ?_
   have hok20 := Gs.ok.relen (ys := ((H.objs.set n (ObjL.mk x.kind x.proto x.shut (-1) s24 ((QG (TreeV.abs TV1 F.T) x.shape) ++ [key]) x.vs x.vals x.es x.elems x.is x.inner (if 0 ≤ x.cell then -1 else x.cell))).flatMap ObjL.cells)) hH3.row (by simp [QI ObjL.len])
   refine Q4 _ (Qr (QC (Qr (Qr (Qr (Qr (QC QE))))))) ?_
   refine L (Q1 (ys := ((H.objs.set n (ObjL.mk x.kind x.proto x.shut (-1) s24 ((QG (TreeV.abs TV1 F.T) x.shape) ++ [key]) x.vs x.vals x.es x.elems x.is x.inner (if 0 ≤ x.cell then -1 else x.cell))).flatMap ObjL.cells)) H.s (n * 9 + 4) (Gs.val s24 (((QG (TreeV.abs TV1 F.T) x.shape) ++ [key]).length)) [Gs.val s24 (((QG (TreeV.abs TV1 F.T) x.shape) ++ [key]).length)] (Gs.ok.ne hH3.row (by first | omega | (simp; omega))) (fun _ => rfl) (fun _ => rfl) rfl (by kernel_rfl) rfl (by rw [QI ObjL.len]; simp; omega) ((row_lay (j := 4) ObjL.len (ObjL.mk x.kind x.proto x.shut (-1) s24 ((QG (TreeV.abs TV1 F.T) x.shape) ++ [key]) x.vs x.vals x.es x.elems x.is x.inner (if 0 ≤ x.cell then -1 else x.cell)) (Qd hx) (Nat.le_of_ble_eq_true rfl) rfl).trans (by rw [List.set_set])) rfl ?_)
   refine nt ?_
   refine QV [((Gs.blk H.s), n * 9 + 5, Gs.val x.vs x.vals.length), (b1, 0, .int .u64 d.1), (b1, 1, .int .u64 d.2.1), (b1, 2, .int .i64 (Qv d.2.2))] [0, 1, 2, 3, 4, 5, 6] (by kernel_rfl) (Qf (Gs.cell hok20 (fun e he => (Qt he)) (Qg ObjL.len (Qd hx) (j := 5) (by decide) rfl)) (Qf (Cell.own (Qa (Qa (Qc (Qa (Qa (Qa (Qa (Qc (Qa (Qc (Qa (Qa Qe)))))))))))) rfl) (Qf (Cell.own (Qa (Qa (Qc (Qa (Qa (Qa (Qa (Qc (Qa (Qc (Qa (Qa Qe)))))))))))) rfl) (Qf (Cell.own (Qa (Qa (Qc (Qa (Qa (Qa (Qa (Qc (Qa (Qc (Qa (Qa Qe)))))))))))) rfl) QP)))) ?_
   refine aS 0 ?_
   refine aS 1 ?_
   refine aS 2 ?_
   refine aF 3 ?_
   refine aL 4 ?_
   refine tr 5 (.agg #[.int .u64 d.1, .int .u64 d.2.1, .int .i64 (Qv d.2.2)]) ?_ (hy := fun δ w_ hr => Q0 b1 0 [.int .u64 d.1, .int .u64 d.2.1, .int .i64 (Qv d.2.2)] rfl (by kernel_rfl) (QA (List.mem_cons_of_mem _ List.mem_cons_self) (QA (List.mem_cons_of_mem _ (List.mem_cons_of_mem _ List.mem_cons_self)) (QA (List.mem_cons_of_mem _ (List.mem_cons_of_mem _ (List.mem_cons_of_mem _ List.mem_cons_self))) Q9))) hr)
   refine sa1 true 6 (h := nws 45 3 1 [.int .u64 d.1, .int .u64 d.2.1, .int .i64 (Qv d.2.2)] ?_)
   intro b25
   refine ⟨fun hnd => (Qf (Gs.cell hok20 (fun e he => (Qc (Qt he))) (Qg ObjL.len (Qd hx) (j := 5) (by decide) rfl)) (Qf (Cell.own (Qc (Qa (Qa (Qc (Qa (Qa (Qa (Qa (Qc (Qa (Qc (Qa (Qa Qe))))))))))))) rfl) (Qf (Cell.own (Qc (Qa (Qa (Qc (Qa (Qa (Qa (Qa (Qc (Qa (Qc (Qa (Qa Qe))))))))))))) rfl) (Qf (Cell.own (Qc (Qa (Qa (Qc (Qa (Qa (Qa (Qa (Qc (Qa (Qc (Qa (Qa Qe))))))))))))) rfl) QP)))), ?_⟩
   refine SA_perm _ (QC (Qr (Qr (QC QE)))) ?_
   refine sa1 false 7 (h := QU (size := 3) (bytes := 24) (z := .agg #[.int .u64 0, .int .u64 0, .int .i64 0]) x.vs x.vals.length 1 (some ⟨b25, 0, none⟩) 1 (x.vals.flatMap Qk) ([.int .u64 d.1, .int .u64 d.2.1, .int .i64 (Qv d.2.2)]) ((x.vals ++ [(d.1, d.2.1, Qv d.2.2)]).flatMap Qk) (flat_snoc _ (d.1, d.2.1, Qv d.2.2) rfl) (fun _ => rfl) (fun _ => rfl) Tryz.underlying99 (by kernel_rfl) rfl (by decide) (show Gs.ok 3 (x.vals).length x.vs (x.vals.flatMap Qk) from (HeapV.ok.at (x := (ObjL.loosed (ObjL.chg x) kg1 (QG (TreeV.abs TV1 F.T) x.shape))) hH3 (Qd hx)).vs) rfl (.inr ⟨b25, 0, rfl, Cells.own (Qa Qe) rfl⟩) rfl (by omega) (by decide) rfl ?_)
   intro s26 hks26 hfs26
   rw [show x.vals.length + 1 = (x.vals ++ [(d.1, d.2.1, Qv d.2.2)]).length from by simp]
   rw [show x.vals.length + 1 = (x.vals ++ [(d.1, d.2.1, Qv d.2.2)]).length from by simp] at hks26
   have hls26 : (x.vals ++ [(d.1, d.2.1, Qv d.2.2)]).length = x.vals.length + 1 := by simp
   refine ⟨fun hnd => (by cases hnd), ?_⟩
   refine kpA [141, 134, 123, 13, 12, 98, 90, 39, 9, 29, 18, 8, 7, 0, 1, 2, 3] ?_
   refine aS 8 ?_
   refine aF 9 ?_
   have hok22 := Gs.ok.relen (ys := ((H.objs.set n (ObjL.mk x.kind x.proto x.shut (-1) s24 ((QG (TreeV.abs TV1 F.T) x.shape) ++ [key]) s26 (x.vals ++ [(d.1, d.2.1, Qv d.2.2)]) x.es x.elems x.is x.inner (if 0 ≤ x.cell then -1 else x.cell))).flatMap ObjL.cells)) hok20 (by simp [QI ObjL.len])
   refine SA_perm _ (Qr (QC QE)) ?_
   refine sa1 false 10 (h := Q1 (ys := ((H.objs.set n (ObjL.mk x.kind x.proto x.shut (-1) s24 ((QG (TreeV.abs TV1 F.T) x.shape) ++ [key]) s26 (x.vals ++ [(d.1, d.2.1, Qv d.2.2)]) x.es x.elems x.is x.inner (if 0 ≤ x.cell then -1 else x.cell))).flatMap ObjL.cells)) H.s (n * 9 + 5) (Gs.val s26 ((x.vals ++ [(d.1, d.2.1, Qv d.2.2)]).length)) [Gs.val s26 ((x.vals ++ [(d.1, d.2.1, Qv d.2.2)]).length)] (Gs.ok.ne hok20 (by first | omega | (simp; omega))) (fun _ => rfl) (fun _ => rfl) rfl (by kernel_rfl) rfl (by rw [QI ObjL.len]; simp; omega) ((row_lay (j := 5) ObjL.len (ObjL.mk x.kind x.proto x.shut (-1) s24 ((QG (TreeV.abs TV1 F.T) x.shape) ++ [key]) s26 (x.vals ++ [(d.1, d.2.1, Qv d.2.2)]) x.es x.elems x.is x.inner (if 0 ≤ x.cell then -1 else x.cell)) (Qd hx) (Nat.le_of_ble_eq_true rfl) rfl).trans (by rw [List.set_set])) rfl ?_)
   refine ⟨fun hnd => (by cases hnd), ?_⟩
   refine QS (by kernel_rfl) ?_
   refine body_end' (.tuple #[]) (fun _ => rfl) ?_
   refine ⟨((ObjL.mk x.kind x.proto x.shut (-1) s24 ((QG (TreeV.abs TV1 F.T) x.shape) ++ [key]) s26 (x.vals ++ [(d.1, d.2.1, Qv d.2.2)]) x.es x.elems x.is x.inner (if 0 ≤ x.cell then -1 else x.cell)), TV1, cl1, br1), ?_, rfl, ?_, ⟨rfl, rfl, rfl, rfl, rfl, rfl, rfl, rfl⟩, ?_, hchcl1⟩
   · refine Own.trans (ow (S := ((F.p, .cells 75 6 [Gs.val H.s ((H.objs.set n (ObjL.loosed (ObjL.chg x) kg1 (QG (TreeV.abs TV1 F.T) x.shape))).length), Gs.val H.ts H.texts.length, .map (some F.kb), pt F.T.p 0, pt F.cp 0, .int .i64 br1]) :: ((Gs.ent 102 9 H.s ((H.objs.set n (ObjL.mk x.kind x.proto x.shut (-1) s24 ((QG (TreeV.abs TV1 F.T) x.shape) ++ [key]) s26 (x.vals ++ [(d.1, d.2.1, Qv d.2.2)]) x.es x.elems x.is x.inner (if 0 ≤ x.cell then -1 else x.cell))).flatMap ObjL.cells)) ++ ((Gs.ent 9 1 s24 (((QG (TreeV.abs TV1 F.T) x.shape) ++ [key]).map Qu)) ++ ((Gs.ent 45 3 s26 ((x.vals ++ [(d.1, d.2.1, Qv d.2.2)]).flatMap Qk)) ++ ((Gs.ent 33 1 x.es (x.elems.map Qz)) ++ ((Gs.ent 33 1 x.is (x.inner.map Qz)) ++ (((List.eraseIdx (H.objs.set n (ObjL.loosed (ObjL.chg x) kg1 (QG (TreeV.abs TV1 F.T) x.shape))) n).flatMap ObjL.ent) ++ ((Gs.ent 9 1 H.ts (H.texts.map Qu)) ++ ((F.kb, .map (kvs Qu Qz H.known)) :: ((TreeV.ent TV1 F.T) ++ ((CellsL.ent (CellsL.mk F.cp H.cs cl1)) ++ ([])))))))))))))) (Own.of_perm ?_)
     simpa only [HeapV.put, List.set_set] using HeapV.back (H := (HeapV.mk H.s (H.objs.set n (ObjL.loosed (ObjL.chg x) kg1 (QG (TreeV.abs TV1 F.T) x.shape))) H.ts H.texts H.known TV1 H.cs cl1 br1)) F (Qd hx) (ObjL.mk x.kind x.proto x.shut (-1) s24 ((QG (TreeV.abs TV1 F.T) x.shape) ++ [key]) s26 (x.vals ++ [(d.1, d.2.1, Qv d.2.2)]) x.es x.elems x.is x.inner (if 0 ≤ x.cell then -1 else x.cell))
   · simpa only [HeapV.put, List.set_set] using HeapV.ok.put hH3 (Qd hx) (x' := (ObjL.mk x.kind x.proto x.shut (-1) s24 ((QG (TreeV.abs TV1 F.T) x.shape) ++ [key]) s26 (x.vals ++ [(d.1, d.2.1, Qv d.2.2)]) x.es x.elems x.is x.inner (if 0 ≤ x.cell then -1 else x.cell))) ⟨(by first | exact hks24 | (simp only [List.length_set]; exact hks24)), (by first | exact hks26 | (simp only [List.length_set]; exact hks26)), (by first | exact (show Gs.ok 1 (x.elems).length x.es (x.elems.map Qz) from (HeapV.ok.at (x := (ObjL.loosed (ObjL.chg x) kg1 (QG (TreeV.abs TV1 F.T) x.shape))) hH3 (Qd hx)).es) | (simp only [List.length_set]; exact (show Gs.ok 1 (x.elems).length x.es (x.elems.map Qz) from (HeapV.ok.at (x := (ObjL.loosed (ObjL.chg x) kg1 (QG (TreeV.abs TV1 F.T) x.shape))) hH3 (Qd hx)).es))), (by first | exact (show Gs.ok 1 (x.inner).length x.is (x.inner.map Qz) from (HeapV.ok.at (x := (ObjL.loosed (ObjL.chg x) kg1 (QG (TreeV.abs TV1 F.T) x.shape))) hH3 (Qd hx)).is) | (simp only [List.length_set]; exact (show Gs.ok 1 (x.inner).length x.is (x.inner.map Qz) from (HeapV.ok.at (x := (ObjL.loosed (ObjL.chg x) kg1 (QG (TreeV.abs TV1 F.T) x.shape))) hH3 (Qd hx)).is)))⟩ (HeapV.ok.small hH3 (ObjL.loosed (ObjL.chg x) kg1 (QG (TreeV.abs TV1 F.T) x.shape)) (List.mem_of_getElem? (Qd hx)))
   · simp only [putS, ObjL.ps, if_neg (show ¬ 0 ≤ QN (H.V.abs F.T) x.shape x.names key from by omega), putNew, putFast, if_neg (show ¬ 16 ≤ x.vals.length from by omega), if_pos (show 0 ≤ x.shape from by omega), hrTV1, stepS, if_neg hp4, looseS, if_pos (show 0 ≤ x.shape from by omega), putName, if_pos (show (-1 : Int) < 0 from by omega)]
  refine Ql (Qi ?_)
  refine Qx ?_
  refine sr ?_
  refine os 3 ?_
  refine L (ld ?_ (hc := Gs.cell hH1.row (fun e he => (Qc (Qt he))) (Qg ObjL.len (Qd hx) (j := 3) (by decide) rfl)) (v := .int .i64 x.shape))
  refine os 1 ?_
  refine kp [123, 98, 90, 39, 9, 29, 18, 8, 7, 0, 1, 2, 3] ?_
  refine nt ?_
  refine cdp (fun hc27 : x.shape < 0 => ?_) (fun hc27 => ?_)
  ·have hnm : x.names.length ≤ 8000000 := by rcases Int.lt_or_le x.shape 0 with q | q; (have := hI.names q; omega); (rw [hI.stale q]; simp)
   refine QQ _ (QC (Qr QE)) ?_
   refine QQ ((Gs.ent 9 1 x.ns (x.names.map Qu)) ++ ((Gs.ent 45 3 x.vs (x.vals.flatMap Qk)) ++ ((Gs.ent 33 1 x.es (x.elems.map Qz)) ++ ((Gs.ent 33 1 x.is (x.inner.map Qz)) ++ (((List.eraseIdx (H.objs.set n (ObjL.chg x)) n).flatMap ObjL.ent) ++ ((F.p, .cells 75 6 [Gs.val H.s ((H.objs.set n (ObjL.chg x)).length), Gs.val H.ts H.texts.length, .map (some F.kb), pt F.T.p 0, pt F.cp 0, .int .i64 br1]) :: ((Gs.ent 102 9 H.s ((H.objs.set n (ObjL.chg x)).flatMap ObjL.cells)) ++ ((Gs.ent 9 1 H.ts (H.texts.map Qu)) ++ ((F.kb, .map (kvs Qu Qz H.known)) :: ((TreeV.ent H.V F.T) ++ ((CellsL.ent (CellsL.mk F.cp H.cs cl1)) ++ ((b1, .cells 45 3 [.int .u64 d.1, .int .u64 d.2.1, .int .i64 (Qv d.2.2)]) :: ([]))))))))))))) (obj_focus (Qd hx) _) ?_
   refine Qm ?_
   refine os 4 ?_
   refine L (ld ?_ (hc := Gs.cell hH1.row (fun e he => (Qa (Qa (Qa (Qa (Qa (Qc (Qt he)))))))) (Qg ObjL.len (Qd hx) (j := 4) (by decide) rfl)) (v := Gs.val x.ns x.names.length))
   refine os 1 ?_
   refine L (nws 9 1 1 [.string key] ?_)
   intro b28
   refine Q4 _ (QC QE) ?_
   refine L (QU (size := 1) (bytes := 16) (z := .string ByteArray.empty) x.ns x.names.length 1 (some ⟨b28, 0, none⟩) 1 (x.names.map Qu) ([.string key]) ((x.names ++ [key]).map Qu) (map_snoc _ key rfl) (fun _ => rfl) (fun _ => rfl) Tryz.underlying26 (by kernel_rfl) rfl (by decide) (show Gs.ok 1 (x.names).length x.ns (x.names.map Qu) from (HeapV.ok.at (x := (ObjL.chg x)) hH1 (Qd hx)).ns) rfl (.inr ⟨b28, 0, rfl, Cells.own (Qa Qe) rfl⟩) rfl (by omega) (by decide) rfl ?_)
   intro s29 hks29 hfs29
   rw [show x.names.length + 1 = (x.names ++ [key]).length from by simp]
   rw [show x.names.length + 1 = (x.names ++ [key]).length from by simp] at hks29
   have hls29 : (x.names ++ [key]).length = x.names.length + 1 := by simp
   refine os 2 ?_
   refine kp [133, 131, 123, 98, 90, 39, 9, 29, 18, 8, 7, 0, 1, 2, 3] ?_
   have hok23 := Gs.ok.relen (ys := ((H.objs.set n (ObjL.mk x.kind x.proto x.shut x.shape s29 (x.names ++ [key]) x.vs x.vals x.es x.elems x.is x.inner (if 0 ≤ x.cell then -1 else x.cell))).flatMap ObjL.cells)) hH1.row (by simp [QI ObjL.len])
   refine Q4 _ (Qr (QC (Qr (Qr (Qr (Qr (QC QE))))))) ?_
   refine L (Q1 (ys := ((H.objs.set n (ObjL.mk x.kind x.proto x.shut x.shape s29 (x.names ++ [key]) x.vs x.vals x.es x.elems x.is x.inner (if 0 ≤ x.cell then -1 else x.cell))).flatMap ObjL.cells)) H.s (n * 9 + 4) (Gs.val s29 ((x.names ++ [key]).length)) [Gs.val s29 ((x.names ++ [key]).length)] (Gs.ok.ne hH1.row (by first | omega | (simp; omega))) (fun _ => rfl) (fun _ => rfl) rfl (by kernel_rfl) rfl (by rw [QI ObjL.len]; simp; omega) ((row_lay (j := 4) ObjL.len (ObjL.mk x.kind x.proto x.shut x.shape s29 (x.names ++ [key]) x.vs x.vals x.es x.elems x.is x.inner (if 0 ≤ x.cell then -1 else x.cell)) (Qd hx) (Nat.le_of_ble_eq_true rfl) rfl).trans (by rw [List.set_set])) rfl ?_)
   refine nt ?_
   refine QV [((Gs.blk H.s), n * 9 + 5, Gs.val x.vs x.vals.length), (b1, 0, .int .u64 d.1), (b1, 1, .int .u64 d.2.1), (b1, 2, .int .i64 (Qv d.2.2))] [0, 1, 2, 3, 4, 5, 6] (by kernel_rfl) (Qf (Gs.cell hok23 (fun e he => (Qt he)) (Qg ObjL.len (Qd hx) (j := 5) (by decide) rfl)) (Qf (Cell.own (Qa (Qa (Qc (Qa (Qa (Qa (Qa (Qc (Qa (Qc (Qa (Qa Qe)))))))))))) rfl) (Qf (Cell.own (Qa (Qa (Qc (Qa (Qa (Qa (Qa (Qc (Qa (Qc (Qa (Qa Qe)))))))))))) rfl) (Qf (Cell.own (Qa (Qa (Qc (Qa (Qa (Qa (Qa (Qc (Qa (Qc (Qa (Qa Qe)))))))))))) rfl) QP)))) ?_
   refine aS 0 ?_
   refine aS 1 ?_
   refine aS 2 ?_
   refine aF 3 ?_
   refine aL 4 ?_
   refine tr 5 (.agg #[.int .u64 d.1, .int .u64 d.2.1, .int .i64 (Qv d.2.2)]) ?_ (hy := fun δ w_ hr => Q0 b1 0 [.int .u64 d.1, .int .u64 d.2.1, .int .i64 (Qv d.2.2)] rfl (by kernel_rfl) (QA (List.mem_cons_of_mem _ List.mem_cons_self) (QA (List.mem_cons_of_mem _ (List.mem_cons_of_mem _ List.mem_cons_self)) (QA (List.mem_cons_of_mem _ (List.mem_cons_of_mem _ (List.mem_cons_of_mem _ List.mem_cons_self))) Q9))) hr)
   refine sa1 true 6 (h := nws 45 3 1 [.int .u64 d.1, .int .u64 d.2.1, .int .i64 (Qv d.2.2)] ?_)
   intro b30
   refine ⟨fun hnd => (Qf (Gs.cell hok23 (fun e he => (Qc (Qt he))) (Qg ObjL.len (Qd hx) (j := 5) (by decide) rfl)) (Qf (Cell.own (Qc (Qa (Qa (Qc (Qa (Qa (Qa (Qa (Qc (Qa (Qc (Qa (Qa Qe))))))))))))) rfl) (Qf (Cell.own (Qc (Qa (Qa (Qc (Qa (Qa (Qa (Qa (Qc (Qa (Qc (Qa (Qa Qe))))))))))))) rfl) (Qf (Cell.own (Qc (Qa (Qa (Qc (Qa (Qa (Qa (Qa (Qc (Qa (Qc (Qa (Qa Qe))))))))))))) rfl) QP)))), ?_⟩
   refine SA_perm _ (QC (Qr (Qr (QC QE)))) ?_
   refine sa1 false 7 (h := QU (size := 3) (bytes := 24) (z := .agg #[.int .u64 0, .int .u64 0, .int .i64 0]) x.vs x.vals.length 1 (some ⟨b30, 0, none⟩) 1 (x.vals.flatMap Qk) ([.int .u64 d.1, .int .u64 d.2.1, .int .i64 (Qv d.2.2)]) ((x.vals ++ [(d.1, d.2.1, Qv d.2.2)]).flatMap Qk) (flat_snoc _ (d.1, d.2.1, Qv d.2.2) rfl) (fun _ => rfl) (fun _ => rfl) Tryz.underlying99 (by kernel_rfl) rfl (by decide) (show Gs.ok 3 (x.vals).length x.vs (x.vals.flatMap Qk) from (HeapV.ok.at (x := (ObjL.chg x)) hH1 (Qd hx)).vs) rfl (.inr ⟨b30, 0, rfl, Cells.own (Qa Qe) rfl⟩) rfl (by omega) (by decide) rfl ?_)
   intro s31 hks31 hfs31
   rw [show x.vals.length + 1 = (x.vals ++ [(d.1, d.2.1, Qv d.2.2)]).length from by simp]
   rw [show x.vals.length + 1 = (x.vals ++ [(d.1, d.2.1, Qv d.2.2)]).length from by simp] at hks31
   have hls31 : (x.vals ++ [(d.1, d.2.1, Qv d.2.2)]).length = x.vals.length + 1 := by simp
   refine ⟨fun hnd => (by cases hnd), ?_⟩
   refine kpA [141, 134, 123, 98, 90, 39, 9, 29, 18, 8, 7, 0, 1, 2, 3] ?_
   refine aS 8 ?_
   refine aF 9 ?_
   have hok25 := Gs.ok.relen (ys := ((H.objs.set n (ObjL.mk x.kind x.proto x.shut x.shape s29 (x.names ++ [key]) s31 (x.vals ++ [(d.1, d.2.1, Qv d.2.2)]) x.es x.elems x.is x.inner (if 0 ≤ x.cell then -1 else x.cell))).flatMap ObjL.cells)) hok23 (by simp [QI ObjL.len])
   refine SA_perm _ (Qr (QC QE)) ?_
   refine sa1 false 10 (h := Q1 (ys := ((H.objs.set n (ObjL.mk x.kind x.proto x.shut x.shape s29 (x.names ++ [key]) s31 (x.vals ++ [(d.1, d.2.1, Qv d.2.2)]) x.es x.elems x.is x.inner (if 0 ≤ x.cell then -1 else x.cell))).flatMap ObjL.cells)) H.s (n * 9 + 5) (Gs.val s31 ((x.vals ++ [(d.1, d.2.1, Qv d.2.2)]).length)) [Gs.val s31 ((x.vals ++ [(d.1, d.2.1, Qv d.2.2)]).length)] (Gs.ok.ne hok23 (by first | omega | (simp; omega))) (fun _ => rfl) (fun _ => rfl) rfl (by kernel_rfl) rfl (by rw [QI ObjL.len]; simp; omega) ((row_lay (j := 5) ObjL.len (ObjL.mk x.kind x.proto x.shut x.shape s29 (x.names ++ [key]) s31 (x.vals ++ [(d.1, d.2.1, Qv d.2.2)]) x.es x.elems x.is x.inner (if 0 ≤ x.cell then -1 else x.cell)) (Qd hx) (Nat.le_of_ble_eq_true rfl) rfl).trans (by rw [List.set_set])) rfl ?_)
   refine ⟨fun hnd => (by cases hnd), ?_⟩
   refine QS (by kernel_rfl) ?_
   refine body_end' (.tuple #[]) (fun _ => rfl) ?_
   refine ⟨((ObjL.mk x.kind x.proto x.shut x.shape s29 (x.names ++ [key]) s31 (x.vals ++ [(d.1, d.2.1, Qv d.2.2)]) x.es x.elems x.is x.inner (if 0 ≤ x.cell then -1 else x.cell)), H.V, cl1, br1), ?_, rfl, ?_, ⟨rfl, rfl, rfl, rfl, rfl, rfl, rfl, rfl⟩, ?_, hchcl1⟩
   · refine Own.trans (ow (S := ((F.p, .cells 75 6 [Gs.val H.s ((H.objs.set n (ObjL.chg x)).length), Gs.val H.ts H.texts.length, .map (some F.kb), pt F.T.p 0, pt F.cp 0, .int .i64 br1]) :: ((Gs.ent 102 9 H.s ((H.objs.set n (ObjL.mk x.kind x.proto x.shut x.shape s29 (x.names ++ [key]) s31 (x.vals ++ [(d.1, d.2.1, Qv d.2.2)]) x.es x.elems x.is x.inner (if 0 ≤ x.cell then -1 else x.cell))).flatMap ObjL.cells)) ++ ((Gs.ent 9 1 s29 ((x.names ++ [key]).map Qu)) ++ ((Gs.ent 45 3 s31 ((x.vals ++ [(d.1, d.2.1, Qv d.2.2)]).flatMap Qk)) ++ ((Gs.ent 33 1 x.es (x.elems.map Qz)) ++ ((Gs.ent 33 1 x.is (x.inner.map Qz)) ++ (((List.eraseIdx (H.objs.set n (ObjL.chg x)) n).flatMap ObjL.ent) ++ ((Gs.ent 9 1 H.ts (H.texts.map Qu)) ++ ((F.kb, .map (kvs Qu Qz H.known)) :: ((TreeV.ent H.V F.T) ++ ((CellsL.ent (CellsL.mk F.cp H.cs cl1)) ++ ([])))))))))))))) (Own.of_perm ?_)
     simpa only [HeapV.put, List.set_set] using HeapV.back (H := (HeapV.mk H.s (H.objs.set n (ObjL.chg x)) H.ts H.texts H.known H.V H.cs cl1 br1)) F (Qd hx) (ObjL.mk x.kind x.proto x.shut x.shape s29 (x.names ++ [key]) s31 (x.vals ++ [(d.1, d.2.1, Qv d.2.2)]) x.es x.elems x.is x.inner (if 0 ≤ x.cell then -1 else x.cell))
   · simpa only [HeapV.put, List.set_set] using HeapV.ok.put hH1 (Qd hx) (x' := (ObjL.mk x.kind x.proto x.shut x.shape s29 (x.names ++ [key]) s31 (x.vals ++ [(d.1, d.2.1, Qv d.2.2)]) x.es x.elems x.is x.inner (if 0 ≤ x.cell then -1 else x.cell))) ⟨(by first | exact hks29 | (simp only [List.length_set]; exact hks29)), (by first | exact hks31 | (simp only [List.length_set]; exact hks31)), (by first | exact (show Gs.ok 1 (x.elems).length x.es (x.elems.map Qz) from (HeapV.ok.at (x := (ObjL.chg x)) hH1 (Qd hx)).es) | (simp only [List.length_set]; exact (show Gs.ok 1 (x.elems).length x.es (x.elems.map Qz) from (HeapV.ok.at (x := (ObjL.chg x)) hH1 (Qd hx)).es))), (by first | exact (show Gs.ok 1 (x.inner).length x.is (x.inner.map Qz) from (HeapV.ok.at (x := (ObjL.chg x)) hH1 (Qd hx)).is) | (simp only [List.length_set]; exact (show Gs.ok 1 (x.inner).length x.is (x.inner.map Qz) from (HeapV.ok.at (x := (ObjL.chg x)) hH1 (Qd hx)).is)))⟩ (HeapV.ok.small hH1 (ObjL.chg x) (List.mem_of_getElem? (Qd hx)))
   · simp only [putS, ObjL.ps, if_neg (show ¬ 0 ≤ QN (H.V.abs F.T) x.shape x.names key from by omega), putNew, putFast, if_neg (show ¬ 16 ≤ x.vals.length from by omega), if_neg (show ¬ 0 ≤ x.shape from by omega), putName, if_pos (show x.shape < 0 from by omega)]
  refine Ql (Qi ?_)
  refine QQ _ (QC (Qr QE)) ?_
  refine QQ ((Gs.ent 9 1 x.ns (x.names.map Qu)) ++ ((Gs.ent 45 3 x.vs (x.vals.flatMap Qk)) ++ ((Gs.ent 33 1 x.es (x.elems.map Qz)) ++ ((Gs.ent 33 1 x.is (x.inner.map Qz)) ++ (((List.eraseIdx (H.objs.set n (ObjL.chg x)) n).flatMap ObjL.ent) ++ ((F.p, .cells 75 6 [Gs.val H.s ((H.objs.set n (ObjL.chg x)).length), Gs.val H.ts H.texts.length, .map (some F.kb), pt F.T.p 0, pt F.cp 0, .int .i64 br1]) :: ((Gs.ent 102 9 H.s ((H.objs.set n (ObjL.chg x)).flatMap ObjL.cells)) ++ ((Gs.ent 9 1 H.ts (H.texts.map Qu)) ++ ((F.kb, .map (kvs Qu Qz H.known)) :: ((TreeV.ent H.V F.T) ++ ((CellsL.ent (CellsL.mk F.cp H.cs cl1)) ++ ((b1, .cells 45 3 [.int .u64 d.1, .int .u64 d.2.1, .int .i64 (Qv d.2.2)]) :: ([]))))))))))))) (obj_focus (Qd hx) _) ?_
  refine QV [((Gs.blk H.s), n * 9 + 5, Gs.val x.vs x.vals.length), (b1, 0, .int .u64 d.1), (b1, 1, .int .u64 d.2.1), (b1, 2, .int .i64 (Qv d.2.2))] [0, 1, 2, 3, 4, 5, 6] (by kernel_rfl) (Qf (Gs.cell hH1.row (fun e he => (Qa (Qa (Qa (Qa (Qa (Qc (Qt he)))))))) (Qg ObjL.len (Qd hx) (j := 5) (by decide) rfl)) (Qf (Cell.own (Qa (Qa (Qa (Qa (Qa (Qc (Qa (Qa (Qc (Qa (Qa Qe))))))))))) rfl) (Qf (Cell.own (Qa (Qa (Qa (Qa (Qa (Qc (Qa (Qa (Qc (Qa (Qa Qe))))))))))) rfl) (Qf (Cell.own (Qa (Qa (Qa (Qa (Qa (Qc (Qa (Qa (Qc (Qa (Qa Qe))))))))))) rfl) QP)))) ?_
  refine aS 0 ?_
  refine aS 1 ?_
  refine aS 2 ?_
  refine aF 3 ?_
  refine aL 4 ?_
  refine tr 5 (.agg #[.int .u64 d.1, .int .u64 d.2.1, .int .i64 (Qv d.2.2)]) ?_ (hy := fun δ w_ hr => Q0 b1 0 [.int .u64 d.1, .int .u64 d.2.1, .int .i64 (Qv d.2.2)] rfl (by kernel_rfl) (QA (List.mem_cons_of_mem _ List.mem_cons_self) (QA (List.mem_cons_of_mem _ (List.mem_cons_of_mem _ List.mem_cons_self)) (QA (List.mem_cons_of_mem _ (List.mem_cons_of_mem _ (List.mem_cons_of_mem _ List.mem_cons_self))) Q9))) hr)
  refine sa1 true 6 (h := nws 45 3 1 [.int .u64 d.1, .int .u64 d.2.1, .int .i64 (Qv d.2.2)] ?_)
  intro b32
  refine ⟨fun hnd => (Qf (Gs.cell hH1.row (fun e he => (Qc (Qa (Qa (Qa (Qa (Qa (Qc (Qt he))))))))) (Qg ObjL.len (Qd hx) (j := 5) (by decide) rfl)) (Qf (Cell.own (Qc (Qa (Qa (Qa (Qa (Qa (Qc (Qa (Qa (Qc (Qa (Qa Qe)))))))))))) rfl) (Qf (Cell.own (Qc (Qa (Qa (Qa (Qa (Qa (Qc (Qa (Qa (Qc (Qa (Qa Qe)))))))))))) rfl) (Qf (Cell.own (Qc (Qa (Qa (Qa (Qa (Qa (Qc (Qa (Qa (Qc (Qa (Qa Qe)))))))))))) rfl) QP)))), ?_⟩
  refine SA_perm _ (QC (Qr QE)) ?_
  refine sa1 false 7 (h := QU (size := 3) (bytes := 24) (z := .agg #[.int .u64 0, .int .u64 0, .int .i64 0]) x.vs x.vals.length 1 (some ⟨b32, 0, none⟩) 1 (x.vals.flatMap Qk) ([.int .u64 d.1, .int .u64 d.2.1, .int .i64 (Qv d.2.2)]) ((x.vals ++ [(d.1, d.2.1, Qv d.2.2)]).flatMap Qk) (flat_snoc _ (d.1, d.2.1, Qv d.2.2) rfl) (fun _ => rfl) (fun _ => rfl) Tryz.underlying99 (by kernel_rfl) rfl (by decide) (show Gs.ok 3 (x.vals).length x.vs (x.vals.flatMap Qk) from (HeapV.ok.at (x := (ObjL.chg x)) hH1 (Qd hx)).vs) rfl (.inr ⟨b32, 0, rfl, Cells.own (Qa Qe) rfl⟩) rfl (by omega) (by decide) rfl ?_)
  intro s33 hks33 hfs33
  rw [show x.vals.length + 1 = (x.vals ++ [(d.1, d.2.1, Qv d.2.2)]).length from by simp]
  rw [show x.vals.length + 1 = (x.vals ++ [(d.1, d.2.1, Qv d.2.2)]).length from by simp] at hks33
  have hls33 : (x.vals ++ [(d.1, d.2.1, Qv d.2.2)]).length = x.vals.length + 1 := by simp
  refine ⟨fun hnd => (by cases hnd), ?_⟩
  refine aS 8 ?_
  refine aF 9 ?_
  refine kpA [143, 141, 123, 98, 90, 39, 9, 29, 18, 8, 7, 0, 1, 2, 3] ?_
  have hok27 := Gs.ok.relen (ys := ((H.objs.set n (ObjL.mk x.kind x.proto x.shut x.shape x.ns x.names s33 (x.vals ++ [(d.1, d.2.1, Qv d.2.2)]) x.es x.elems x.is x.inner (if 0 ≤ x.cell then -1 else x.cell))).flatMap ObjL.cells)) hH1.row (by simp [QI ObjL.len])
  refine SA_perm _ (Qr (QC (Qr (Qr (Qr (Qr (QC QE))))))) ?_
  refine sa1 false 10 (h := Q1 (ys := ((H.objs.set n (ObjL.mk x.kind x.proto x.shut x.shape x.ns x.names s33 (x.vals ++ [(d.1, d.2.1, Qv d.2.2)]) x.es x.elems x.is x.inner (if 0 ≤ x.cell then -1 else x.cell))).flatMap ObjL.cells)) H.s (n * 9 + 5) (Gs.val s33 ((x.vals ++ [(d.1, d.2.1, Qv d.2.2)]).length)) [Gs.val s33 ((x.vals ++ [(d.1, d.2.1, Qv d.2.2)]).length)] (Gs.ok.ne hH1.row (by first | omega | (simp; omega))) (fun _ => rfl) (fun _ => rfl) rfl (by kernel_rfl) rfl (by rw [QI ObjL.len]; simp; omega) ((row_lay (j := 5) ObjL.len (ObjL.mk x.kind x.proto x.shut x.shape x.ns x.names s33 (x.vals ++ [(d.1, d.2.1, Qv d.2.2)]) x.es x.elems x.is x.inner (if 0 ≤ x.cell then -1 else x.cell)) (Qd hx) (Nat.le_of_ble_eq_true rfl) rfl).trans (by rw [List.set_set])) rfl ?_)
  refine ⟨fun hnd => (by cases hnd), ?_⟩
  refine QS (by kernel_rfl) ?_
  refine body_end' (.tuple #[]) (fun _ => rfl) ?_
  refine ⟨((ObjL.mk x.kind x.proto x.shut x.shape x.ns x.names s33 (x.vals ++ [(d.1, d.2.1, Qv d.2.2)]) x.es x.elems x.is x.inner (if 0 ≤ x.cell then -1 else x.cell)), H.V, cl1, br1), ?_, rfl, ?_, ⟨rfl, rfl, rfl, rfl, rfl, rfl, rfl, rfl⟩, ?_, hchcl1⟩
  · refine Own.trans (ow (S := ((F.p, .cells 75 6 [Gs.val H.s ((H.objs.set n (ObjL.chg x)).length), Gs.val H.ts H.texts.length, .map (some F.kb), pt F.T.p 0, pt F.cp 0, .int .i64 br1]) :: ((Gs.ent 102 9 H.s ((H.objs.set n (ObjL.mk x.kind x.proto x.shut x.shape x.ns x.names s33 (x.vals ++ [(d.1, d.2.1, Qv d.2.2)]) x.es x.elems x.is x.inner (if 0 ≤ x.cell then -1 else x.cell))).flatMap ObjL.cells)) ++ ((Gs.ent 9 1 x.ns (x.names.map Qu)) ++ ((Gs.ent 45 3 s33 ((x.vals ++ [(d.1, d.2.1, Qv d.2.2)]).flatMap Qk)) ++ ((Gs.ent 33 1 x.es (x.elems.map Qz)) ++ ((Gs.ent 33 1 x.is (x.inner.map Qz)) ++ (((List.eraseIdx (H.objs.set n (ObjL.chg x)) n).flatMap ObjL.ent) ++ ((Gs.ent 9 1 H.ts (H.texts.map Qu)) ++ ((F.kb, .map (kvs Qu Qz H.known)) :: ((TreeV.ent H.V F.T) ++ ((CellsL.ent (CellsL.mk F.cp H.cs cl1)) ++ ([])))))))))))))) (Own.of_perm ?_)
    simpa only [HeapV.put, List.set_set] using HeapV.back (H := (HeapV.mk H.s (H.objs.set n (ObjL.chg x)) H.ts H.texts H.known H.V H.cs cl1 br1)) F (Qd hx) (ObjL.mk x.kind x.proto x.shut x.shape x.ns x.names s33 (x.vals ++ [(d.1, d.2.1, Qv d.2.2)]) x.es x.elems x.is x.inner (if 0 ≤ x.cell then -1 else x.cell))
  · simpa only [HeapV.put, List.set_set] using HeapV.ok.put hH1 (Qd hx) (x' := (ObjL.mk x.kind x.proto x.shut x.shape x.ns x.names s33 (x.vals ++ [(d.1, d.2.1, Qv d.2.2)]) x.es x.elems x.is x.inner (if 0 ≤ x.cell then -1 else x.cell))) ⟨(by first | exact (show Gs.ok 1 (x.names).length x.ns (x.names.map Qu) from (HeapV.ok.at (x := (ObjL.chg x)) hH1 (Qd hx)).ns) | (simp only [List.length_set]; exact (show Gs.ok 1 (x.names).length x.ns (x.names.map Qu) from (HeapV.ok.at (x := (ObjL.chg x)) hH1 (Qd hx)).ns))), (by first | exact hks33 | (simp only [List.length_set]; exact hks33)), (by first | exact (show Gs.ok 1 (x.elems).length x.es (x.elems.map Qz) from (HeapV.ok.at (x := (ObjL.chg x)) hH1 (Qd hx)).es) | (simp only [List.length_set]; exact (show Gs.ok 1 (x.elems).length x.es (x.elems.map Qz) from (HeapV.ok.at (x := (ObjL.chg x)) hH1 (Qd hx)).es))), (by first | exact (show Gs.ok 1 (x.inner).length x.is (x.inner.map Qz) from (HeapV.ok.at (x := (ObjL.chg x)) hH1 (Qd hx)).is) | (simp only [List.length_set]; exact (show Gs.ok 1 (x.inner).length x.is (x.inner.map Qz) from (HeapV.ok.at (x := (ObjL.chg x)) hH1 (Qd hx)).is)))⟩ (HeapV.ok.small hH1 (ObjL.chg x) (List.mem_of_getElem? (Qd hx)))
  · simp only [putS, ObjL.ps, if_neg (show ¬ 0 ≤ QN (H.V.abs F.T) x.shape x.names key from by omega), putNew, putFast, if_neg (show ¬ 16 ≤ x.vals.length from by omega), if_neg (show ¬ 0 ≤ x.shape from by omega), putName, if_neg (show ¬ x.shape < 0 from by omega)]

end Go.Proofs.YthflblophelioaaGreatDoor
