/-
  What functions of heap and word do to the memory they own, step by step: each theorem is one function's contract. Conditions: those that each theorem names.
-/
import Derived.Test.YthflblophelioaaGreatDoorPa2
set_option linter.unusedVariables false
set_option linter.unusedSimpArgs false
set_option maxRecDepth 100000
set_option maxHeartbeats 4000000
namespace Go.Proofs.YthflblophelioaaGreatDoor
open Go.Sl

theorem heap_Get_none {W0 : World} {F : HeapF} {H : HeapV} (hH : H.ok F) {w : Int} (h0 : QA w H.objs.length = none) (key : ByteArray) : SC Tryz.prog W0 55 #[.pointer (some ⟨F.p, 0, none⟩), .int .u64 w, .string key] (HeapV.ent H F) (Ret (fun _ : Unit => H.ent F) (fun v _ => v = descR none)) := by
 refine Qx (fn := Tryz.f55) (n := 30) Tryz.func55 rfl (by kernel_rfl) (ρ := [(0, pt F.p 0), (1, .int .u64 w), (2, .string key)]) rfl ?_
 refine QG _ HeapV.eq0 ?_
 refine sr ?_
 refine L (nw 45 3 [.int .u64 0, .int .u64 0, .int .i64 0] ?_)
 intro b1
 refine os 1 ?_
 refine nsr ?_
 refine os 2 ?_
 refine L (cl (heap_at hH w) ?_ (hp := HeapV.pm))
 rintro v1 _ hv1
 obtain rfl : v1 = .pointer none := hv1.trans (by rw [h0])
 refine SL_sig _ HeapV.eq ?_
 refine os 1 ?_
 refine kp [8, 7, 6, 0, 1, 2] ?_
 refine nq ?_
 refine sr ?_
 refine os 1 ?_
 refine oV (.bool true) ?_
 refine nt ?_
 refine ct ?_
 refine sr ?_
 refine oV (.agg #[.int .u64 0, .int .u64 0, .int .i64 0]) ?_
 refine L (st [.int .u64 0, .int .u64 0, .int .i64 0] ?_)
 refine os 1 ?_
 refine nt ?_
 refine Qi (Qm ?_)
 refine Qr [.agg #[.int .u64 0, .int .u64 0, .int .i64 0], .bool false] (fun _ => (.cons ⟨b1, 0, rfl, .inl ⟨[.int .u64 0, .int .u64 0, .int .i64 0], by kernel_rfl, (Qb (Cell.own Qe rfl) (Qb (Cell.own Qe rfl) (Qb (Cell.own Qe rfl) Qo))), rfl⟩⟩ (.cons rfl .nil))) ?_
 exact ⟨(), HeapV.own, rfl⟩

theorem heap_Get_some {W0 : World} {F : HeapF} {H : HeapV} (hH : H.ok F) {w : Int} {n : Nat} {x : ObjL} (h0 : QA w H.objs.length = some n) (hx : H.objs[n]? = some x) (hI : OInv (H.V.abs F.T) x) (key : ByteArray) : SC Tryz.prog W0 55 #[.pointer (some ⟨F.p, 0, none⟩), .int .u64 w, .string key] (HeapV.ent H F) (Ret (fun _ : Unit => H.ent F) (fun v _ => v = descR (getO (H.V.abs F.T) x key))) := by
 refine Qx (fn := Tryz.f55) (n := 30) Tryz.func55 rfl (by kernel_rfl) (ρ := [(0, pt F.p 0), (1, .int .u64 w), (2, .string key)]) rfl ?_
 refine QG _ HeapV.eq0 ?_
 refine sr ?_
 refine L (nw 45 3 [.int .u64 0, .int .u64 0, .int .i64 0] ?_)
 intro b1
 refine os 1 ?_
 refine nsr ?_
 refine os 2 ?_
 refine L (cl (heap_at hH w) ?_ (hp := HeapV.pm))
 rintro v1 _ hv1
 obtain rfl : v1 = pt (Gs.blk H.s) (n * 9) := hv1.trans (by rw [h0])
 refine SL_sig _ HeapV.eq ?_
 refine os 1 ?_
 refine kp [8, 7, 6, 0, 1, 2] ?_
 refine nq ?_
 refine sr ?_
 refine os 1 ?_
 refine oV (.bool false) ?_
 refine nt ?_
 refine cf ?_
 refine Ql (Qj ?_)
 refine sr ?_
 refine os 3 ?_
 refine L (cl (heap_place hH (n := n) hx key) ?_ (hp := HeapV.pm))
 rintro _ _ rfl
 refine SL_sig _ HeapV.eq ?_
 refine os 1 ?_
 refine kp [9, 14, 8, 7, 6, 0, 1, 2] ?_
 refine nq ?_
 refine sr ?_
 refine os 2 ?_
 refine nt ?_
 refine cdp (fun hc2 : (placeO (TreeV.abs H.V F.T) x.shape x.names key) < 0 => ?_) (fun hc2 => ?_)
 ·refine sr ?_
  refine oV (.agg #[.int .u64 0, .int .u64 0, .int .i64 0]) ?_
  refine L (st [.int .u64 0, .int .u64 0, .int .i64 0] ?_)
  refine os 1 ?_
  refine nt ?_
  refine Qi (Qm ?_)
  refine Qr [.agg #[.int .u64 0, .int .u64 0, .int .i64 0], .bool false] (fun _ => (.cons ⟨b1, 0, rfl, .inl ⟨[.int .u64 0, .int .u64 0, .int .i64 0], by kernel_rfl, (Qb (Cell.own Qe rfl) (Qb (Cell.own Qe rfl) (Qb (Cell.own Qe rfl) Qo))), rfl⟩⟩ (.cons rfl .nil))) ?_
  exact ⟨(), HeapV.own, by unfold getO; rw [if_pos (by omega)]; rfl⟩
 have hpl := placeO_lt hI (key := key) (by omega)
 refine Ql (Qj ?_)
 refine sr ?_
 refine os 3 ?_
 refine L (ld ?_ (hc := Gs.cell hH.row (fun e he => (Qc (Qs he))) (Qh ObjL.len hx (j := 5) (by decide) rfl)))
 refine os 1 ?_
 refine L (ixg (placeO (TreeV.abs H.V F.T) x.shape x.names key) (((placeO (TreeV.abs H.V F.T) x.shape x.names key).toNat) * 3) ((HeapV.ok.at hH hx).vs) Tryz.underlying99 ?_)
 obtain ⟨e1, he1⟩ : ∃ y_, x.vals[((placeO (TreeV.abs H.V F.T) x.shape x.names key).toNat)]? = some y_ := ⟨_, List.getElem?_eq_getElem (by omega)⟩
 refine L (ldr [.int .u64 e1.1, .int .u64 e1.2.1, .int .i64 e1.2.2] (Qb (Gs.cell (HeapV.ok.at hH hx).vs (fun e he => (Qc (Qa (Qs ((ObjL.mvs hx) _ he))))) (Qh descCells_len he1 (j := 0) (by decide) rfl)) (Qb (Gs.cell (HeapV.ok.at hH hx).vs (fun e he => (Qc (Qa (Qs ((ObjL.mvs hx) _ he))))) (Qh descCells_len he1 (j := 1) (by decide) rfl)) (Qb (Gs.cell (HeapV.ok.at hH hx).vs (fun e he => (Qc (Qa (Qs ((ObjL.mvs hx) _ he))))) (Qh descCells_len he1 (j := 2) (by decide) rfl)) Qo))) ?_)
 refine L (st [.int .u64 e1.1, .int .u64 e1.2.1, .int .i64 e1.2.2] ?_)
 refine os 1 ?_
 refine kp [7, 21, 9, 14, 8, 6, 0, 1, 2] ?_
 refine nt ?_
 refine Qi ?_
 refine Qr [.agg #[.int .u64 e1.1, .int .u64 e1.2.1, .int .i64 e1.2.2], .bool true] (fun _ => (.cons ⟨b1, 0, rfl, .inl ⟨[.int .u64 e1.1, .int .u64 e1.2.1, .int .i64 e1.2.2], by kernel_rfl, (Qb (Cell.own Qe rfl) (Qb (Cell.own Qe rfl) (Qb (Cell.own Qe rfl) Qo))), rfl⟩⟩ (.cons rfl .nil))) ?_
 exact ⟨(), HeapV.own, by unfold getO; rw [if_neg (by omega), he1]; rfl⟩

end Go.Proofs.YthflblophelioaaGreatDoor
namespace Go.Proofs.YthflblophelioaaGreatDoor
open Go.Sl

theorem words_Clone {W0 : World} {σ : Qp} {l : List Int} {A : Option Addr} {c : Nat} (hs : Src W0 σ A (l.map Qw)) (hr : l.length ≤ 1099511627776) : SC Tryz.prog W0 119 #[.slice A l.length c] σ (Ret (fun s : Gs => s.ent 33 1 (l.map Qw) ++ (σ ++ [])) (fun v s => v = s.val l.length ∧ s.ok 1 l.length (l.map Qw))) := by
 cases A with
 | none =>
   obtain rfl : l = [] := by
     rcases hs with h | ⟨b, o, e, _⟩
     · exact List.eq_nil_of_length_eq_zero (by simpa using h)
     · cases e
   refine Qx (fn := Tryz.f119) (n := 8) Tryz.func119 rfl (by kernel_rfl) (ρ := [(0, .slice none (([] : List Int).length) c)]) rfl ?_
   refine QG (σ ++ ([])) (by simp only [List.append_nil, List.append_assoc]) ?_
   refine sr ?_
   refine os 1 ?_
   refine nq ?_
   refine sr ?_
   refine os 1 ?_
   refine oV (.bool true) ?_
   refine nt ?_
   refine ct ?_
   refine sr ?_
   refine os 1 ?_
   refine nt ?_
   refine Qi (Qm ?_)
   refine Qg (.slice none 0 0) (fun _ => rfl) ?_
   exact ⟨.nil, Own.of_perm (by simp [Gs.ent]), rfl, ⟨rfl, rfl⟩⟩
 | some a =>
   refine Qx (fn := Tryz.f119) (n := 8) Tryz.func119 rfl (by kernel_rfl) (ρ := [(0, .slice (some a) l.length c)]) rfl ?_
   refine QG (σ ++ ([])) (by simp only [List.append_nil, List.append_assoc]) ?_
   refine sr ?_
   refine os 1 ?_
   refine nq ?_
   refine sr ?_
   refine os 1 ?_
   refine oV (.bool false) ?_
   refine nt ?_
   refine cf ?_
   refine Ql (Qj ?_)
   refine sr ?_
   refine L (nws 33 0 0 [] ?_)
   intro b1
   refine os 1 ?_
   refine SL_sig ((Gs.ent 33 1 (Gs.at b1 0) (([] : List Int).map Qw)) ++ (σ ++ ([]))) rfl ?_
   refine L (O_append (size := 1) (bytes := 8) (z := .int .u64 0) (Gs.at b1 0) 0 l.length (some a) c (([] : List Int).map Qw) (l.map Qw) ((([] : List Int) ++ l).map Qw) (map_app _ _) (fun _ => rfl) (fun _ => rfl) Tryz.underlying100 (by kernel_rfl) rfl (by decide) ⟨Nat.le_refl _, by unfold maxLen; omega, rfl⟩ (by simp) (Src.elems (hs.mono (fun e he => (Qa (Qs he)))) (by simp)) (map_one (fun _ => rfl) _) (by omega) (by decide) rfl ?_)
   intro s2 hks2 hfs2
   rw [show 0 + l.length = (([] : List Int) ++ l).length from by simp]
   rw [show 0 + l.length = (([] : List Int) ++ l).length from by simp] at hks2
   have hls2 : (([] : List Int) ++ l).length = ([] : List Int).length + l.length := by simp
   refine os 1 ?_
   refine kp [2, 4, 0] ?_
   refine nt ?_
   refine Qi ?_
   refine Qg (Gs.val s2 ((([] : List Int) ++ l).length)) (fun _ => rfl) ?_
   exact ⟨s2, (ow (S := ((Gs.ent 33 1 s2 ((([] : List Int) ++ l).map Qw)) ++ (σ ++ ([]))))), rfl, hks2⟩

end Go.Proofs.YthflblophelioaaGreatDoor
namespace Go.Proofs.YthflblophelioaaGreatDoor
open Go.Sl
theorem flat_drop {α : Type} {f : α → List Value} {k : Nat} (hk : ∀ a, (f a).length = k) (l : List α) (i : Nat) : (l.flatMap f).drop (i * k) = (l.drop i).flatMap f := by
 by_cases h : i ≤ l.length
 · have e : l.flatMap f = (l.take i).flatMap f ++ (l.drop i).flatMap f := by rw [← List.flatMap_append, List.take_append_drop]
   rw [e, List.drop_left' (by rw [QF hk, List.length_take]; congr 1; omega)]
 · have e1 : l.drop i = [] := List.drop_eq_nil_of_le (by omega)
   have e2 : (l.flatMap f).drop (i * k) = [] := List.drop_eq_nil_of_le (by rw [QF hk]; exact Nat.mul_le_mul_right _ (by omega))
   rw [e1, e2]; rfl
theorem del_src {W0 : World} {α : Type} {f : α → List Value} {k : Nat} (hk : ∀ a, (f a).length = k) {l : List α} {i g c N : Nat} {e : TypeId} {τ : Qp} (hi : i < l.length) (hc : l.length ≤ c) :
   l.length - (i + 1) = 0 ∨ ∃ b off, tailA g c (i + 1) k = some ⟨b, off, none⟩ ∧ Cells W0 ((g, .cells e N (l.flatMap f)) :: τ) b off ((l.drop (i + 1)).flatMap f) := by
 by_cases h : l.length - (i + 1) = 0
 · exact .inl h
 · refine .inr ⟨g, (i + 1) * k, by unfold tailA; rw [if_neg (by omega)], Cells.own (N := N) (e := e) (cs := l.flatMap f) Qe ?_⟩
   rw [flat_drop hk, List.take_length]
theorem del_fit {α : Type} {f : α → List Value} {k : Nat} (hk : ∀ a, (f a).length = k) {l : List α} {i : Nat} (hi : i < l.length) : i * k + ((l.drop (i + 1)).flatMap f).length ≤ (l.flatMap f).length := by
 rw [QF hk, QF hk, List.length_drop, ← Nat.add_mul]
 exact Nat.mul_le_mul_right _ (by omega)
theorem lay_tail {a tl zs : List Value} {off : Nat} (h : a.length = off) (hz : zs.length = tl.length) : lay (a ++ tl) off zs = a ++ zs := by
 unfold lay
 rw [List.take_left' h, List.append_assoc, List.drop_eq_nil_of_le (by simp; omega), List.append_nil]
theorem erase_len {α : Type} {f : α → List Value} {k : Nat} (hk : ∀ a, (f a).length = k) {l : List α} {i : Nat} (hi : i < l.length) : ((l.eraseIdx i).flatMap f).length = (l.length - 1) * k := by
 rw [QF hk, List.length_eraseIdx, if_pos hi]
structure ObjS where
  kind : Int
  proto : Int
  shut : Bool
  names : List ByteArray
  descs : List QI
  elems : List Int
  inner : List Int
def pubO (t : TreeP) (x : ObjL) : ObjS := ⟨x.kind, x.proto, x.shut, keysOf t x, x.vals, x.elems, x.inner⟩
def HeapV.pub (H : HeapV) (F : HeapF) : List ObjS := H.objs.map (pubO (H.V.abs F.T))
abbrev txtW (i : Nat) : Int := 65532 * 281474976710656 + i
abbrev objW (i : Nat) : Int := 65530 * 281474976710656 + i
structure Known (texts : List ByteArray) (known : List (ByteArray × Int)) : Prop where
  to : ∀ s w, mget known s = some w → ∃ i, texts[i]? = some s ∧ w = txtW i
  back : ∀ (i : Nat) s, texts[i]? = some s → mget known s = some (txtW i)
structure HInv (k : Nat) (H : HeapV) (F : HeapF) : Prop where
  ok : H.ok F
  tree : TInv (H.V.abs F.T)
  objs : ∀ x ∈ H.objs, OInv (H.V.abs F.T) x
  bud : H.bud k
  inner : ∀ x ∈ H.objs, x.inner.length ≤ 1048576
  known : Known H.texts H.known
variable {k : Nat} {H : HeapV} {F : HeapF} {n : Nat} {x : ObjL} {W0 : World}
theorem HInv.obj (h : HInv k H F) (hx : H.objs[n]? = some x) : OInv (H.V.abs F.T) x := h.objs x (List.mem_of_getElem? hx)
theorem HInv.in' (h : HInv k H F) (hx : H.objs[n]? = some x) : x.inner.length ≤ 1048576 := h.inner x (List.mem_of_getElem? hx)
theorem HeapV.bud.mono {k' : Nat} (h : H.bud k) (hk : k ≤ k') : H.bud k' :=
 ⟨fun x hx => Nat.le_trans (h.vals x hx) hk, Nat.le_trans h.cl (Nat.mul_le_mul_right _ hk), h.abv, h.each⟩
theorem HInv.mono {k' : Nat} (h : HInv k H F) (hk : k ≤ k') : HInv k' H F := ⟨h.ok, h.tree, h.objs, h.bud.mono hk, h.inner, h.known⟩
theorem HeapV.pub_at (F : HeapF) (hx : H.objs[n]? = some x) : (H.pub F)[n]? = some (pubO (H.V.abs F.T) x) := by simp [HeapV.pub, hx]
theorem HeapV.pub_len (H : HeapV) (F : HeapF) : (H.pub F).length = H.objs.length := by simp [HeapV.pub]
theorem HInv.put (h : HInv k H F) (hx : H.objs[n]? = some x) {x' : ObjL} (hok : x'.ok) (hs : x'.elems.length ≤ 4096) (ho : OInv (H.V.abs F.T) x') (hv : x'.vals.length ≤ k) (hi : x'.inner.length ≤ 1048576) :
   HInv k (H.put n x') F ∧ (H.put n x').pub F = (H.pub F).set n (pubO (H.V.abs F.T) x') := by
 refine ⟨⟨h.ok.put hx hok hs, h.tree, fun y hy => ?_, ⟨fun y hy => ?_, h.bud.cl, h.bud.abv, h.bud.each⟩, fun y hy => ?_, h.known⟩, ?_⟩
 · rcases List.mem_or_eq_of_mem_set hy with h1 | rfl
   · exact h.objs y h1
   · exact ho
 · rcases List.mem_or_eq_of_mem_set hy with h1 | rfl
   · exact h.bud.vals y h1
   · exact hv
 · rcases List.mem_or_eq_of_mem_set hy with h1 | rfl
   · exact h.inner y h1
   · exact hi
 · simp only [HeapV.pub, List.map_set]
theorem Chg.same {cell : Int} {l l' : List CellL} (h : Chg cell l l') : l'.length = l.length ∧ (l'.map CellL.abs).map (·.2) = (l.map CellL.abs).map (·.2) := by
 unfold Chg at h
 split at h
 · have := h.shape
   exact ⟨by simpa using congrArg List.length this, this⟩
 · subst h; exact ⟨rfl, rfl⟩
theorem Chg.bud {cell : Int} {l' : List CellL} (h : Chg cell H.cl l') (hb : H.bud k) : l'.length ≤ k * 65537 ∧ abv (l'.map CellL.abs) ≤ l'.length ∧ ∀ c ∈ l', c.above.length ≤ l'.length := by
 obtain ⟨h1, h2⟩ := h.same
 refine ⟨by rw [h1]; exact hb.cl, ?_, fun c hc => ?_⟩
 · rw [h1]
   have : abv (l'.map CellL.abs) = abv (H.cl.map CellL.abs) := by
     unfold Proofs.YthflblophelioaaGreatDoor.abv
     have e : ∀ m : List PCell, (m.map (·.2.length)).sum = ((m.map (·.2)).map List.length).sum := fun m => by rw [List.map_map]; rfl
     rw [e, e, h2]
   rw [this]; exact hb.abv
 · rw [h1]
   have hm : c.above ∈ (l'.map CellL.abs).map (·.2) := by
     simp only [List.map_map, List.mem_map]; exact ⟨c, hc, rfl⟩
   rw [h2] at hm
   simp only [List.map_map, List.mem_map] at hm
   obtain ⟨c', hc', e⟩ := hm
   have := hb.each c' hc'
   simp only [Function.comp, CellL.abs] at e
   rw [← e]; exact this
theorem HInv.upd (h : HInv k H F) (hx : H.objs[n]? = some x) {x' : ObjL} {V : TreeV} {cl : List CellL} {br : Int} {k' : Nat} (hk : k ≤ k') (hok : (H.upd n x' V cl br).ok F) (ht : TInv (V.abs F.T)) (he : Ext (H.V.abs F.T) (V.abs F.T))
   (ho : OInv (V.abs F.T) x') (hv : x'.vals.length ≤ k') (hi : x'.inner.length ≤ 1048576) (hc : Chg x.cell H.cl cl) :
   HInv k' (H.upd n x' V cl br) F ∧ (H.upd n x' V cl br).pub F = (H.pub F).set n (pubO (V.abs F.T) x') := by
 obtain ⟨b1, b2, b3⟩ := hc.bud (h.bud.mono hk)
 refine ⟨⟨hok, ht, fun y hy => ?_, ⟨fun y hy => ?_, b1, b2, b3⟩, fun y hy => ?_, h.known⟩, ?_⟩
 · rcases List.mem_or_eq_of_mem_set hy with h1 | rfl
   · exact ((h.objs y h1).ext he).1
   · exact ho
 · rcases List.mem_or_eq_of_mem_set hy with h1 | rfl
   · exact Nat.le_trans (h.bud.vals y h1) hk
   · exact hv
 · rcases List.mem_or_eq_of_mem_set hy with h1 | rfl
   · exact h.inner y h1
   · exact hi
 · simp only [HeapV.pub, List.map_set]
   congr 1
   refine List.map_congr_left fun y hy => ?_
   unfold pubO
   rw [((h.objs y hy).ext he).2]
theorem SC.ret {P : Program} {f : FuncId} {args : Array Value} {S : Qp} {X Y : Type} {T : X → Qp} {G : Value → X → Prop} {T' : Y → Qp} {G' : Value → Y → Prop} (hc : SC P W0 f args S (Ret T G))
   (g : ∀ v x, G v x → ∃ y, T' y = T x ∧ G' v y) : SC P W0 f args S (Ret T' G') :=
 hc.mono fun v σ ⟨x, ho, hg⟩ => by obtain ⟨y, e, h'⟩ := g v x hg; exact ⟨y, e ▸ ho, h'⟩

structure SameE (x x' : ObjL) (l : List Int) : Prop where
  kind : x'.kind = x.kind
  proto : x'.proto = x.proto
  shut : x'.shut = x.shut
  shape : x'.shape = x.shape
  ns : x'.ns = x.ns
  names : x'.names = x.names
  vs : x'.vs = x.vs
  vals : x'.vals = x.vals
  elems : x'.elems = l
  is : x'.is = x.is
  inner : x'.inner = x.inner
  cell : x'.cell = if 0 ≤ x.cell then -1 else x.cell
theorem hi_New (most : Int) : SC Tryz.prog W0 11 #[.int .i64 most] [] (Ret (fun r : HeapV × HeapF => r.1.ent r.2) (fun v r => v = .pointer (some ⟨r.2.p, 0, none⟩) ∧ HInv 0 r.1 r.2 ∧ r.1.objs = [] ∧ r.1.texts = [] ∧ r.1.V = ⟨.nil, [], []⟩ ∧ r.1.cl = [] ∧ r.1.br = 0 ∧
   r.2.T.most = (if 0 > (if 256 < most then 256 else most) then 0 else (if 256 < most then 256 else most)))) := by
 refine SC.ret (heap_New most) fun v r ⟨h1, h2, h3⟩ => ⟨(_, r.1), rfl, h1, ⟨⟨⟨rfl, rfl⟩, fun x hx => (nomatch hx), ⟨rfl, rfl⟩, ⟨⟨rfl, rfl⟩, fun x hx => (nomatch hx), fun i s hs => (by simp at hs), ?_, ?_⟩, h3, Nat.zero_le _, Nat.zero_le _, fun x hx => (nomatch hx)⟩, ?_, fun x hx => (nomatch hx), ⟨fun x hx => (nomatch hx), Nat.zero_le _, Nat.zero_le _, fun x hx => (nomatch hx)⟩, fun x hx => (nomatch hx), ⟨fun s w h => (by simp [mget] at h), fun i s h => (by simp at h)⟩⟩, rfl, rfl, rfl, rfl, rfl, h2⟩
 · rw [h2]; split <;> split <;> omega
 · show ((0 : Nat) : Int) ≤ r.1.T.most
   rw [h2]; split <;> split <;> omega
 · exact TInv.nil _
theorem newObj_inv {t t' : TreeP} {kind proto m : Int} {ok : Bool} (ht : TInv t) (hr : rootP t (rootKey proto kind) = (t', m, ok)) : TInv t' ∧ Ext t t' ∧ OInv t' (newObj kind proto (if ok = true then m else -1)) ∧ keysOf t' (newObj kind proto (if ok = true then m else -1)) = [] := by
 have g := rootP_got ht (rootKey proto kind)
 rw [hr] at g
 simp only [] at g
 have hk : keysOf t' (newObj kind proto (if ok = true then m else -1)) = [] ∧ (0 ≤ (if ok = true then m else -1) → ∃ s, shapeAt t' (if ok = true then m else -1) = some s ∧ s.proto = rootKey proto kind ∧ s.l = []) := by
   by_cases hok : ok = true
   · rw [if_pos hok]
     obtain ⟨s, h1, h2, h3⟩ := g.it hok
     have h0 := (shapeAt_iff.1 h1).1
     refine ⟨?_, fun _ => ⟨s, h1, h2, h3⟩⟩
     unfold keysOf
     rw [if_neg (by simp only []; omega), keysP_at h1, h3]; rfl
   · rw [if_neg hok]
     refine ⟨?_, fun h => absurd h (by decide)⟩
     unfold keysOf
     rw [if_pos (show (newObj kind proto (-1)).shape < 0 from by show (-1 : Int) < 0; decide)]
 refine ⟨g.inv, g.ext, ⟨fun h0 => ?_, by rw [hk.1]; rfl, by rw [hk.1]; exact List.nodup_nil, fun _ => rfl⟩, hk.1⟩
 obtain ⟨s, h1, h2, h3⟩ := hk.2 h0
 exact ⟨s, h1, h2, by rw [h3]; rfl⟩
theorem hi_Make (h : HInv k H F) {kind proto : Int} (hmay : mayMake H kind proto) : SC Tryz.prog W0 31 #[.pointer (some ⟨F.p, 0, none⟩), .int .i64 kind, .int .u64 proto] (H.ent F)
   (Ret (fun r : Gs × Int × TreeV => (H.add r.1 (newObj kind proto r.2.1) r.2.2).ent F) (fun v r => v = .tuple #[.int .u64 (objW H.objs.length), .bool true] ∧ HInv k (H.add r.1 (newObj kind proto r.2.1) r.2.2) F ∧
     (H.add r.1 (newObj kind proto r.2.1) r.2.2).pub F = H.pub F ++ [⟨kind, proto, false, [], [], [], []⟩] ∧ ∃ m ok, rootP (H.V.abs F.T) (rootKey proto kind) = (r.2.2.abs F.T, m, ok) ∧ r.2.1 = if ok = true then m else -1)) := by
 refine SC.ret (heap_Make_yes h.ok hmay) fun v r hg => ?_
 obtain ⟨h1, h2, m, ok, h3, h4⟩ := hg
 obtain ⟨g1, g2, g3, g4⟩ := newObj_inv h.tree h3
 rw [← h4] at g3 g4
 refine ⟨r, rfl, h1, ⟨h2, g1, fun y hy => ?_, ⟨fun y hy => ?_, h.bud.cl, h.bud.abv, h.bud.each⟩, fun y hy => ?_, h.known⟩, ?_, m, ok, h3, h4⟩
 · rcases List.mem_append.1 hy with q | q
   · exact ((h.objs y q).ext g2).1
   · rw [List.mem_singleton.1 q]; exact g3
 · rcases List.mem_append.1 hy with q | q
   · exact h.bud.vals y q
   · rw [List.mem_singleton.1 q]; exact Nat.zero_le _
 · rcases List.mem_append.1 hy with q | q
   · exact h.inner y q
   · rw [List.mem_singleton.1 q]; exact Nat.zero_le _
 · simp only [HeapV.pub, List.map_append, List.map_cons, List.map_nil]
   congr 1
   · refine List.map_congr_left fun y hy => ?_
     unfold pubO
     rw [((h.objs y hy).ext g2).2]
   · unfold pubO
     rw [g4]
theorem objAt_mk {n len : Nat} (h : n < len) (hl : len ≤ 65536) : QA (objW n) len = some n := by
 unfold QA
 rw [show tagOf (objW n) 65530 = some n from tagOf_mk (by decide) (by omega)]
 simp only [if_pos h]
theorem pub_obj {o : ObjS} (ho : (H.pub F)[n]? = some o) : ∃ x, H.objs[n]? = some x ∧ pubO (H.V.abs F.T) x = o := by
 simp only [HeapV.pub, List.getElem?_map, Option.map_eq_some_iff] at ho
 exact ho
theorem hp_New (most : Int) : SC Tryz.prog W0 11 #[.int .i64 most] [] (Ret (fun r : HeapV × HeapF => r.1.ent r.2) (fun v r => v = .pointer (some ⟨r.2.p, 0, none⟩) ∧ HInv 0 r.1 r.2 ∧ r.1.pub r.2 = [] ∧ r.1.texts = [] ∧
   r.1.V.abs r.2.T = ⟨if 0 > (if 256 < most then 256 else most) then 0 else (if 256 < most then 256 else most), [], []⟩ ∧ r.1.objs = [] ∧ r.1.cl = [])) := by
 refine SC.ret (hi_New most) fun v r ⟨h1, h2, h3, h4, h5, h6, h7, h8⟩ => ⟨r, rfl, h1, h2, by rw [HeapV.pub, h3]; rfl, h4, ?_, h3, h6⟩
 rw [h5, TreeV.abs, h8]; rfl
def mayP (l : List ObjS) (kind proto : Int) : Prop := (0 ≤ kind ∧ kind ≤ 6) ∧ (proto = 18445336698825998337 ∨ QA proto l.length ≠ none) ∧ l.length < 65536
theorem mayP_iff {kind proto : Int} : mayP (H.pub F) kind proto ↔ mayMake H kind proto := by unfold mayP mayMake; rw [HeapV.pub_len]
end Go.Proofs.YthflblophelioaaGreatDoor
