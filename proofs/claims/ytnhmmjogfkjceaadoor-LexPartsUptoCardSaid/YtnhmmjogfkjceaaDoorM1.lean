/-
  Strings as lists of bytes: pieces of them, single bytes. No condition.
-/
import Derived.Test.YtnhmmjogfkjceaaDoorM0
import Derived.Lib.ConvBytes
import Derived.Laws.RangeString
import Derived.Laws.RangeAny
import Derived.Lib.OthersKept
import Derived.Lib.UnsafeStr
import Derived.Lib.FrozenHead
import Derived.Lib.Builder
import Derived.Lib.Bytealg
import Derived.Lib.BitFns
import Derived.Lib.SlTrimSet
import Derived.Lib.Strings
import Derived.Shelf.Lays
import Derived.Shelf.LaysM
import Derived.Shelf.Small.Strs
import Derived.Shelf.Small.Bits
import Derived.Shelf.Strings.SlTrimAscii
import Derived.Shelf.Strings.Prefix
import Derived.Shelf.Strings.Search3
import Derived.Test.YtnhmmjogfkjceaaDoorProg
import Derived.Shelf.Strings.Shaped
import Derived.Shelf.Strings.SplitShaped
import Derived.Shelf.Strings.Builder1
import Derived.Lib.IndexAny
import Derived.Lib.IndexLaws
import Derived.Lib.Fields
import Derived.Lib.IndexMore
set_option linter.unusedVariables false
set_option linter.unusedSimpArgs false
set_option maxRecDepth 100000
namespace Go.Sl
open Go
abbrev bS (l : List UInt8) : ByteArray := ⟨l.toArray⟩
theorem bS_list (l : List UInt8) : (bS l).data.toList = l := by simp
theorem bS_size (l : List UInt8) : (bS l).size = l.length := by simp [ByteArray.size]
theorem bS_of (s : ByteArray) : s = bS s.data.toList := by cases s; simp
theorem bS_inj {a b : List UInt8} (h : bS a = bS b) : a = b := by rw [← bS_list a, h, bS_list]
theorem bS_app (a b : List UInt8) : bS a ++ bS b = bS (a ++ b) := by
 apply ByteArray.ext
 rw [ByteArray.data_append]
 simp
theorem bS_extract (l : List UInt8) (a b : Nat) : (bS l).extract a b = bS ((l.take b).drop a) := by
 apply ByteArray.ext
 rw [ByteArray.data_extract]
 apply Array.ext'
 simp only [List.extract_toArray, List.extract_eq_take_drop, List.drop_take]
theorem bS_byte {l : List UInt8} {i : Nat} {c : UInt8} (h : l[i]? = some c) : byteN (bS l) (i : Int) = (c.toNat : Int) := byteN_at (by rw [bS_list]; exact h)
section
variable {P : Program} {ρ : Fr} {w : World} {δ : Nat → Value} {l : List UInt8} {dst : Option Tmp} {t ty : TypeId} {x : Operand} {pos : String} {after : Array Edge} {gd : Option (Nat × Bool)}
theorem run_strTo (h : Int) (k : IntKind) {hx : Operand} (ht : P.underlying t = some .string) (hv : ev δ ρ x = .string (bS l)) (hh : ev δ ρ hx = .int k h) (h0 : 0 ≤ h) (h1 : h ≤ l.length) :
   (execOp (ev δ ρ) ⟨dst, .slice t x none (some hx) none, ty, pos, after, gd⟩).run P w = .ok (.value (.string (bS (l.take h.toNat)))) w := by
 have hs := bS_size l
 simp only [execOp, Option.map_none, Option.map_some, hv, hh, Sem.run_bind, Sem.run_pure]
 rw [run_sliceAt_string w t (.string (bS l)) none (some (.int k h)) none ht, run_slice_string_h w t (bS l) ht k h h0 (by omega), Result.andThen_ok, bS_extract]
 simp
theorem run_strFrom (g : Int) (k : IntKind) {gx : Operand} (ht : P.underlying t = some .string) (hv : ev δ ρ x = .string (bS l)) (hg : ev δ ρ gx = .int k g) (h0 : 0 ≤ g) (h1 : g ≤ l.length) :
   (execOp (ev δ ρ) ⟨dst, .slice t x (some gx) none none, ty, pos, after, gd⟩).run P w = .ok (.value (.string (bS (l.drop g.toNat)))) w := by
 have hs := bS_size l
 simp only [execOp, Option.map_none, Option.map_some, hv, hg, Sem.run_bind, Sem.run_pure]
 rw [run_sliceAt_string w t (.string (bS l)) (some (.int k g)) none none ht, run_slice_string_l w t (bS l) ht k g h0 (by omega), Result.andThen_ok, bS_extract, hs, List.take_length]
theorem run_strMid (g h : Int) (k k' : IntKind) {gx hx : Operand} (ht : P.underlying t = some .string) (hv : ev δ ρ x = .string (bS l)) (hg : ev δ ρ gx = .int k g) (hh : ev δ ρ hx = .int k' h) (h0 : 0 ≤ g) (h1 : g ≤ h) (h2 : h ≤ l.length) :
   (execOp (ev δ ρ) ⟨dst, .slice t x (some gx) (some hx) none, ty, pos, after, gd⟩).run P w = .ok (.value (.string (bS ((l.take h.toNat).drop g.toNat)))) w := by
 have hs := bS_size l
 simp only [execOp, Option.map_none, Option.map_some, hv, hg, hh, Sem.run_bind, Sem.run_pure]
 rw [run_sliceAt_string w t (.string (bS l)) (some (.int k g)) (some (.int k' h)) none ht, run_slice_string w t (bS l) k k' g h ht h0 h1 (by omega), Result.andThen_ok, bS_extract]
end
theorem run_make_cap {P : Program} (t e : TypeId) (z : Value) (bytes : Nat) (ht : P.underlying t = some (.slice e)) (hinfo : (P.info? e).map (fun i => (i.zero, i.size, i.bytes)) = some (some z, 1, bytes)) (hz1 : z.cells = #[z])
   (kl kc : IntKind) (m n : Nat) (hmn : m ≤ n) (hbytes : bytes * n ≤ 281474976710656) (h63 : n ≤ 9223372036854775807) (w : World) :
   (Instr.makeSlice t (.int kl (m : Int)) (.int kc (n : Int))).run P w = .ok (.slice (some ⟨w.heap.size, 0, none⟩) m n) (w.alloc (.cells (madeCells #[z] n) e)) := by
 obtain ⟨i, hi, hzz⟩ := Option.map_eq_some_iff.1 hinfo
 simp only [Prod.mk.injEq] at hzz
 obtain ⟨hz, hs, hb⟩ := hzz
 have hb' : (i.bytes : Int) * (n : Int) ≤ 281474976710656 := by
   have h : ((i.bytes * n : Nat) : Int) ≤ 281474976710656 := by rw [hb]; omega
   rwa [Int.natCast_mul] at h
 have hr := run_make (P := P) w t e i z ht hi hz kl kc m n (by omega) (by omega) hb' (by omega)
 simp only [Int.toNat_natCast, hs, Nat.mul_one, hz1] at hr
 exact hr
section
variable {P : Program} {W0 : World} {n : Nat} {Q : SQ} {ρ : Fr} {σ : Heaplet} {K : Fr → Heaplet → Prop}
theorem O_make2 (m cap : Nat) (z : Value) {e t ty : TypeId} {bytes : Nat} {k k' : IntKind} {dst : Option Tmp} {l c : Operand} {pos : String} {after : Array Edge} {gd : Option (Nat × Bool)}
   (hl : ∀ δ, ev δ ρ l = .int k (m : Int)) (hc : ∀ δ, ev δ ρ c = .int k' (cap : Int)) (ht : P.underlying t = some (.slice e)) (hi : (P.info? e).map (fun i => (i.zero, i.size, i.bytes)) = some (some z, 1, bytes))
   (hz : z.cells = #[z]) (hb : bytes * cap ≤ 281474976710656) (hm : cap ≤ 140737488355328) (hmc : m ≤ cap) (hd : dstOk n dst = true)
   (h : ∀ b, W0.heap.size ≤ b → b ∉ keys σ → K (putF ρ dst ((Gs.at b cap).val m)) ((Gs.at b cap).ent e 1 (List.replicate m z ++ List.replicate (cap - m) z) ++ σ)) :
   SO P W0 n Q ⟨dst, .makeSlice t l c, ty, pos, after, gd⟩ ρ σ K := by
 refine O_new (fun b => (Gs.at b cap).val m) (.cells (madeCells #[z] cap) e) (.cells e (cap * 1) (List.replicate m z ++ List.replicate (cap - m) z)) hd (fun δ w => ?_) ?_ h
 · have := run_make_cap (P := P) t e z bytes ht hi hz k k' m cap hmc hb (by omega) w
   simp only [execOp, hl, hc, Sem.run_bind, this, Result.andThen_ok, Sem.run_pure, Gs.val, Gs.addr, Gs.cap]
 · have e1 : (madeCells #[z] cap).toList = List.replicate m z ++ List.replicate (cap - m) z := by
     rw [List.replicate_append_replicate, show m + (cap - m) = cap by omega]
     apply List.ext_getElem?
     intro i
     simp only [Array.getElem?_toList, List.getElem?_replicate]
     by_cases hi : i < cap
     · simp [madeCells, hi, Nat.mod_one]
     · rw [if_neg hi, Array.getElem?_eq_none (by simp [madeCells]; omega)]
   exact ⟨rfl, rfl, by rw [← Array.length_toList, e1]; simp; omega, e1⟩
end
section
variable {P : Program} {ρ : Fr} {dst : Option Tmp} {t t2 ty : TypeId} {x y : Operand} {pos : String} {after : Array Edge} {gd : Option (Nat × Bool)} {k k' : IntKind} {m c : Int}
theorem shlR (v : Int) (h0 : 0 ≤ c) (hv : k.wrap (m * 2 ^ min c.toNat k.bits) = v) (hx : ∀ δ, ev δ ρ x = .int k m := by exact fun _ => rfl) (hy : ∀ δ, ev δ ρ y = .int k' c := by exact fun _ => rfl) :
   ∀ δ w, (execOp (ev δ ρ) ⟨dst, .binOp .shl t x y t2, ty, pos, after, gd⟩).run P w = .ok (.value (.int k v)) w := by
 intro δ w
 simp only [execOp, hx, hy, Sem.run_bind]
 simp only [binOp, Op.shift]
 rw [if_neg (by omega), hv]
 rfl
theorem orR (v : Int) (hv : IntKind.wrap .u64 ((BitVec.ofInt 64 m ||| BitVec.ofInt 64 c).toNat) = v) (hx : ∀ δ, ev δ ρ x = .int .u64 m := by exact fun _ => rfl) (hy : ∀ δ, ev δ ρ y = .int .u64 c := by exact fun _ => rfl) :
   ∀ δ w, (execOp (ev δ ρ) ⟨dst, .binOp .or t x y t2, ty, pos, after, gd⟩).run P w = .ok (.value (.int .u64 v)) w := by
 intro δ w
 simp only [execOp, hx, hy, Sem.run_bind]
 rw [← hv]
 rfl
theorem orR32 (v : Int) (hv : IntKind.wrap .u32 ((BitVec.ofInt 32 m ||| BitVec.ofInt 32 c).toNat) = v) (hx : ∀ δ, ev δ ρ x = .int .u32 m := by exact fun _ => rfl) (hy : ∀ δ, ev δ ρ y = .int .u32 c := by exact fun _ => rfl) :
   ∀ δ w, (execOp (ev δ ρ) ⟨dst, .binOp .or t x y t2, ty, pos, after, gd⟩).run P w = .ok (.value (.int .u32 v)) w := by
 intro δ w
 simp only [execOp, hx, hy, Sem.run_bind]
 rw [← hv]
 rfl
theorem or8R (v : Int) (hv : IntKind.wrap .u8 ((BitVec.ofInt 8 m ||| BitVec.ofInt 8 c).toNat) = v) (hx : ∀ δ, ev δ ρ x = .int .u8 m := by exact fun _ => rfl) (hy : ∀ δ, ev δ ρ y = .int .u8 c := by exact fun _ => rfl) :
   ∀ δ w, (execOp (ev δ ρ) ⟨dst, .binOp .or t x y t2, ty, pos, after, gd⟩).run P w = .ok (.value (.int .u8 v)) w := by
 intro δ w
 simp only [execOp, hx, hy, Sem.run_bind]
 rw [← hv]
 rfl
theorem andR (v : Int) (hv : IntKind.wrap .u64 ((BitVec.ofInt 64 m &&& BitVec.ofInt 64 c).toNat) = v) (hx : ∀ δ, ev δ ρ x = .int .u64 m := by exact fun _ => rfl) (hy : ∀ δ, ev δ ρ y = .int .u64 c := by exact fun _ => rfl) :
   ∀ δ w, (execOp (ev δ ρ) ⟨dst, .binOp .and t x y t2, ty, pos, after, gd⟩).run P w = .ok (.value (.int .u64 v)) w := by
 intro δ w
 simp only [execOp, hx, hy, Sem.run_bind]
 rw [← hv]
 rfl
theorem shrR (v : Int) (h0 : 0 ≤ c) (hv : m.fdiv (2 ^ min c.toNat k.bits) = v) (hx : ∀ δ, ev δ ρ x = .int k m := by exact fun _ => rfl) (hy : ∀ δ, ev δ ρ y = .int k' c := by exact fun _ => rfl) :
   ∀ δ w, (execOp (ev δ ρ) ⟨dst, .binOp .shr t x y t2, ty, pos, after, gd⟩).run P w = .ok (.value (.int k v)) w := by
 intro δ w
 simp only [execOp, hx, hy, Sem.run_bind]
 simp only [binOp, Op.shift]
 rw [if_neg (by omega), hv]
 rfl
end
theorem rem_nn {m n : Int} (h0 : 0 ≤ m) : Int.tmod m n = m % n := Int.tmod_eq_emod_of_nonneg h0
theorem wrap64 (z : Int) : IntKind.wrap .u64 z = z % 18446744073709551616 := by simp [IntKind.wrap, IntKind.bits, IntKind.signed]
theorem or_apart64 {a b s : Nat} (hb : b < 2 ^ s) (h : a * 2 ^ s + b < 18446744073709551616) : IntKind.wrap .u64 ((BitVec.ofInt 64 ((b : Nat) : Int) ||| BitVec.ofInt 64 ((a * 2 ^ s : Nat) : Int)).toNat) = ((a * 2 ^ s + b : Nat) : Int) := by
 rw [Nat.mul_comm a (2 ^ s)] at h ⊢
 have h1 : (BitVec.ofInt 64 ((2 ^ s * a : Nat) : Int)).toNat = 2 ^ s * a := by
   rw [BitVec.toNat_ofInt]; generalize 2 ^ s * a = z at *; omega
 have h2 : (BitVec.ofInt 64 ((b : Nat) : Int)).toNat = b := by rw [BitVec.toNat_ofInt]; omega
 rw [BitVec.toNat_or, h1, h2, Nat.or_comm, ← Nat.two_pow_add_eq_or_of_lt hb, wrap64]
 omega
theorem Gs.ok_cap {b m c : Nat} {xs : List Value} (h : xs.length = m) (hc : m ≤ c) (hm : c ≤ maxLen) : (Gs.at b c).ok 1 m xs := ⟨hc, hm, by rw [h, Nat.mul_one]⟩
theorem Gs.ok_less {s : Gs} {m k : Nat} {xs ys : List Value} (h : s.ok 1 m xs) (hy : ys.length = k) (hk : k ≤ m) : s.ok 1 k ys := by
 cases s with
 | nil => obtain ⟨h1, h2⟩ := h; exact ⟨by omega, List.eq_nil_of_length_eq_zero (by omega)⟩
 | «at» g c => exact ⟨Nat.le_trans hk h.1, h.2.1, by rw [hy, Nat.mul_one]⟩
section
variable {P : Program} {W0 : World} {n : Nat} {Q : SQ} {ρ : Fr} {σ : Heaplet} {K : Fr → Heaplet → Prop}
def txtV (X : List UInt8) : List Value := X.map fun c => Value.int .u8 c.toNat
theorem txt_at {X : List UInt8} {i : Nat} {c : UInt8} (h : X[i]? = some c) : (txtV X)[i]? = some (.int .u8 c.toNat) := by simp [txtV, h]
theorem Sat.txt {w : World} (h : Sat W0 w σ) (e : TypeId) (s : ByteArray) : Sat W0 (Lib.bytesWorld w e s) ((w.heap.size, .txt (txtV s.data.toList)) :: σ) := by
 have hlt : ∀ e ∈ σ, e.1 < w.heap.size := fun e he => (h.has e he).2.lt
 refine ⟨h.below.trans ⟨rfl, rfl, rfl, by rw [Lib.bytesWorld_size]; omega, fun j hj => Lib.bytesWorld_at_old w e s j (Nat.lt_of_lt_of_le hj h.below.size)⟩, ?_, fun q hq => ?_⟩
 · simp only [keys, List.map_cons, List.nodup_cons]
   refine ⟨fun hm => ?_, h.nodup⟩
   obtain ⟨e, he, h1⟩ := List.mem_map.1 hm
   have := hlt e he
   omega
 · rcases List.mem_cons.1 hq with rfl | hq
   · refine ⟨h.below.size, _, e, _, Lib.bytesWorld_at_new w e s, fun i v hv => ?_⟩
     have hi : i < s.data.size := by
       have := (List.getElem?_eq_some_iff.1 hv).1
       simpa [txtV] using this
     simp only [Lib.bytesCells]
     rw [Array.getElem?_append_left (by simpa using hi)]
     simpa [txtV] using hv
   · have h1 := h.has q hq
     exact ⟨h1.1, h1.2.of_block (Lib.bytesWorld_at_old w e s _ (hlt q hq))⟩
theorem O_txt (s : ByteArray) {src dt e ty : TypeId} {u : TypeDesc} {dst : Option Tmp} {x : Operand} {pos : String} {after : Array Edge} {gd : Option (Nat × Bool)}
   (hs : P.underlying src = some u) (hd : P.underlying dt = some (.slice e)) (he : P.underlying e = some (.int .u8)) (hx : ∀ δ, ev δ ρ x = .string s) (hdst : dstOk n dst = true)
   (h : ∀ b cap, s.size ≤ cap → K (putF ρ dst (.slice (some ⟨b, 0, none⟩) s.size cap)) ((b, .txt (txtV s.data.toList)) :: σ)) : SO P W0 n Q ⟨dst, .convert src dt x, ty, pos, after, gd⟩ ρ σ K := by
 intro w0 K0 a w g1 g2 g3
 have hr : (execOp (ev (slot a) ρ) ⟨dst, .convert src dt x, ty, pos, after, gd⟩).run P w = .ok (.value (.slice (some ⟨w.heap.size, 0, none⟩) s.size (grownCap w s.size 0 e))) (Lib.bytesWorld w e s) := by
   simp only [execOp, hx, Sem.run_bind, Lib.run_convert_string_bytes w src dt e s hs hd he]
   rfl
 unfold Oper.wp
 rw [FSd.eval g1, hr]
 refine ⟨_, _, (FSd.put g1 hdst _).fs, g2.txt e s, ?_, h _ _ ?_⟩
 · refine g3.trans ⟨by rw [Lib.bytesWorld_size]; omega, fun b hb _ => Lib.bytesWorld_at_old w e s b hb, fun b hb => ?_⟩
   simp only [keys, List.map_cons, List.mem_cons] at hb
   rcases hb with rfl | hb
   · exact .inr (Nat.le_refl _)
   · exact .inl hb
 · exact grownCap_ge ..
end
theorem ixb {P : Program} {W0 : World} {n : Nat} {Q : SQ} {ρ : Fr} {σ : Heaplet} {ops : Array Oper} {rest : List Oper} (i : Int) (X : List UInt8) (k : IntKind) (c : UInt8) {d : Nat} {t ty : TypeId} {x ix : Operand} {pos : String} {after : Array Edge} {gd : Option (Nat × Bool)}
   (ht : P.underlying t = some .string) (hc : X[i.toNat]? = some c) (h : SL P W0 n ops Q rest ((d, .int .u8 (c.toNat : Int)) :: ρ) σ) (h0 : 0 ≤ i := by omega) (hx : ∀ δ, ev δ ρ x = .string (bS X) := by exact fun _ => rfl) (hi : ∀ δ, ev δ ρ ix = .int k i := by exact fun _ => rfl)
   (hw : ∀ δ, Region.wanted ⟨some d, .index t x ix, ty, pos, after, gd⟩ (yieldF ops n δ ρ) = true := by exact fun _ => rfl) (hd : Nat.blt d n = true := by exact rfl) : SL P W0 n ops Q (⟨some d, .index t x ix, ty, pos, after, gd⟩ :: rest) ρ σ := by
 have h1 := (List.getElem?_eq_some_iff.1 hc).1
 have hs := bS_size X
 have e : byteN (bS X) i = (c.toNat : Int) := by
   have := bS_byte hc
   rwa [Int.toNat_of_nonneg h0] at this
 rw [← e] at h
 exact ixs i (bS X) k ht h h0 (by omega) hx hi hw hd
theorem run_catB {P : Program} {ρ : Fr} {w : World} {δ : Nat → Value} (a b : List UInt8) (hs : a.length + b.length ≤ 9223372036854775807) {dst : Option Tmp} {t t2 ty : TypeId} {x y : Operand} {pos : String} {after : Array Edge} {gd : Option (Nat × Bool)}
   (hx : ev δ ρ x = .string (bS a)) (hy : ev δ ρ y = .string (bS b)) : (execOp (ev δ ρ) ⟨dst, .binOp .add t x y t2, ty, pos, after, gd⟩).run P w = .ok (.value (.string (bS (a ++ b)))) w := by
 rw [← bS_app]
 exact run_cat (bS a) (bS b) (by rw [bS_size, bS_size]; exact hs) hx hy
theorem strB_eq (a b : List UInt8) : ((bS a).toList == (bS b).toList) = decide (a = b) := by
 rw [str_eq]
 exact decide_eq_decide.2 ⟨bS_inj, fun h => by rw [h]⟩
section
variable {P : Program} {W0 : World} {n : Nat} {Q : SQ} {ρ : Fr} {σ : Heaplet} {K : Fr → Heaplet → Prop} {dst : Option Tmp} {t ty : TypeId} {x : Operand} {pos : String} {after : Array Edge} {gd : Option (Nat × Bool)}
theorem O_range (s : ByteArray) (ht : P.underlying t = some .string) (hx : ∀ δ, ev δ ρ x = .string s) (hd : dstOk n dst = true)
   (h : ∀ b, K (putF ρ dst (.pointer (some ⟨b, 0, none⟩))) ((b, .it s 0) :: σ)) : SO P W0 n Q ⟨dst, .range t x, ty, pos, after, gd⟩ ρ σ K :=
 O_new (fun b => .pointer (some ⟨b, 0, none⟩)) (.stringIter s 0) (.it s 0) hd (fun δ w => by simp only [execOp, hx, run_range_string w t s ht, Sem.run_bind]; rfl) ⟨rfl, rfl⟩ fun b _ _ => h b
theorem O_next {b : Nat} {s : ByteArray} {p p' : Nat} (v : Value) (hd : dstOk n dst = true) (hx : ∀ δ, ev δ ρ x = .pointer (some ⟨b, 0, none⟩))
   (hr : ∀ w : World, w.heap[b]? = some (.stringIter s p) → (Instr.next (.pointer (some ⟨b, 0, none⟩)) true ty).run P w = .ok v (w.iterAt b s p'))
   (h : K (putF ρ dst v) ((b, .it s p') :: σ)) : SO P W0 n Q ⟨dst, .next x true, ty, pos, after, gd⟩ ρ ((b, .it s p) :: σ) K := by
 intro w0 K0 a w g1 g2 g3
 have hb : w.heap[b]? = some (.stringIter s p) := (g2.has (b, .it s p) (by simp)).2
 have hrun : (execOp (ev (slot a) ρ) ⟨dst, .next x true, ty, pos, after, gd⟩).run P w = .ok (.value v) (w.iterAt b s p') := by
   simp only [execOp, hx, Sem.run_bind, hr w hb]
   rfl
 have hlt : b < w.heap.size := (Array.getElem?_eq_some_iff.1 hb).1
 have hz : w.heap.size = (w.iterAt b s p').heap.size := by simp [World.iterAt]
 have hk : ∀ k, k ≠ b → (w.iterAt b s p').heap[k]? = w.heap[k]? := fun k hk => by
   simp only [World.iterAt, Array.getElem?_setIfInBounds]
   rw [if_neg (fun q => hk q.symm)]
 unfold Oper.wp
 rw [FSd.eval g1, hrun]
 exact ⟨_, _, (FSd.put g1 hd _).fs, g2.upd hz rfl rfl rfl hk (show Has (w.iterAt b s p') b (.it s p') from Lib.iterAt_heap w b s p p' hb), g3.trans (Upd.upd hz hk), h⟩
theorem O_nextE {b : Nat} {s : ByteArray} {p : Nat} (hp : ¬ p < s.size) (hd : dstOk n dst = true) (hx : ∀ δ, ev δ ρ x = .pointer (some ⟨b, 0, none⟩))
   (h : K (putF ρ dst (.tuple #[.bool false])) ((b, .it s p) :: σ)) : SO P W0 n Q ⟨dst, .next x true, ty, pos, after, gd⟩ ρ ((b, .it s p) :: σ) K := by
 intro w0 K0 a w g1 g2 g3
 have hb : w.heap[b]? = some (.stringIter s p) := (g2.has (b, .it s p) (by simp)).2
 have hrun : (execOp (ev (slot a) ρ) ⟨dst, .next x true, ty, pos, after, gd⟩).run P w = .ok (.value (.tuple #[.bool false])) w := by
   simp only [execOp, hx, Sem.run_bind, Lib.run_next_end_at w b s p ty hb hp]
   rfl
 unfold Oper.wp
 rw [FSd.eval g1, hrun]
 exact ⟨_, _, (FSd.put g1 hd _).fs, g2, g3, h⟩
end
section
variable {P : Program} {W0 : World} {n : Nat} {Q : SQ} {ρ : Fr} {σ : Heaplet} {K : Fr → Heaplet → Prop} {dst : Option Tmp} {t ty pt it : TypeId} {x y : Operand} {pos : String} {after : Array Edge} {gd : Option (Nat × Bool)}
theorem run_usd {w : World} {δ : Nat → Value} (g m c : Nat) (hc : c ≠ 0) (hx : ev δ ρ x = .slice (some ⟨g, 0, none⟩) m c) :
   (execOp (ev δ ρ) ⟨dst, .call ⟨.builtin .unsafeSliceData, #[x], #[t]⟩, ty, pos, after, gd⟩).run P w = .ok (.value (.pointer (some ⟨g, 0, none⟩))) w := by
 simp only [execOp, resolve, List.map_toArray, List.map_cons, List.map_nil, hx, invoke, builtin, Sem.run_bind, Sem.run_pure, Result.andThen_ok, Lib.run_unsafeSliceData_row w #[t] ty _ m c hc]
theorem run_usd_nil {w : World} {δ : Nat → Value} (m c : Nat) (hx : ev δ ρ x = .slice none m c) :
   (execOp (ev δ ρ) ⟨dst, .call ⟨.builtin .unsafeSliceData, #[x], #[t]⟩, ty, pos, after, gd⟩).run P w = .ok (.value (.pointer none)) w := by
 simp only [execOp, resolve, List.map_toArray, List.map_cons, List.map_nil, hx, invoke, builtin, Sem.run_bind, Sem.run_pure, Result.andThen_ok, Lib.run_unsafeSliceData_nil w #[t] ty m c]
theorem run_us_none {w : World} {δ : Nat → Value} (hx : ev δ ρ x = .pointer none) (hy : ev δ ρ y = .int .i64 0) :
   (execOp (ev δ ρ) ⟨dst, .call ⟨.builtin .unsafeString, #[x, y], #[pt, it]⟩, ty, pos, after, gd⟩).run P w = .ok (.value (.string (bS []))) w := by
 simp only [execOp, resolve, List.map_toArray, List.map_cons, List.map_nil, hx, hy, invoke, builtin, Sem.run_bind, Sem.run_pure, Result.andThen_ok, Lib.run_unsafeString_none w pt it ty none]
 rfl
theorem O_us (g c : Nat) (l : List UInt8) {e : TypeId} (hp : P.underlying pt = some (.pointer e)) (hce : P.cellsOf e = 1) (h0 : l ≠ []) (hk : (Gs.at g c).ok 1 l.length (txtV l)) (hx : ∀ δ, ev δ ρ x = .pointer (some ⟨g, 0, none⟩)) (hy : ∀ δ, ev δ ρ y = .int .i64 (l.length : Int)) (hd : dstOk n dst = true)
   (h : K (putF ρ dst (.string (bS l))) ((g, .txt (txtV l)) :: σ)) : SO P W0 n Q ⟨dst, .call ⟨.builtin .unsafeString, #[x, y], #[pt, it]⟩, ty, pos, after, gd⟩ ρ ((Gs.at g c).ent e 1 (txtV l) ++ σ) K := by
 intro w0 K0 a w g1 g2 g3
 obtain ⟨_, C, hb, hN, hC⟩ := g2.has (g, .cells e (c * 1) (txtV l)) (by simp [Gs.ent])
 simp only at hb hN hC
 obtain ⟨hk1, hk2, hk3⟩ := hk
 have h63 : l.length ≤ 9223372036854775807 := by unfold maxLen at hk2; omega
 have hcell : ∀ j x, l[j]? = some x → w.cell? ((⟨g, 0, none⟩ : Addr).add j) = some (.int .u8 x.toNat) := fun j x hx => by
   have := hC j (.int .u8 x.toNat) (txt_at hx)
   rw [Addr.add_mid]
   simp [World.cell?, hb, this]
 have hsh : w.shape? g = some (e, C.size) := by simp [World.shape?, hb]
 have hrow := Lib.run_unsafeString_row (P := P) w pt it ty e hp hce g C.size hsh l h0 (by omega) h63 hcell
 have hrun : (execOp (ev (slot a) ρ) ⟨dst, .call ⟨.builtin .unsafeString, #[x, y], #[pt, it]⟩, ty, pos, after, gd⟩).run P w = .ok (.value (.string (bS l))) (w.freeze ⟨g, 0, none⟩ l.length) := by
   simp only [execOp, resolve, List.map_toArray, List.map_cons, List.map_nil, hx, hy, invoke, builtin, Sem.run_bind, Sem.run_pure, Result.andThen_ok, hrow]
 have hz : w.heap.size = (w.freeze ⟨g, 0, none⟩ l.length).heap.size := by unfold World.freeze; split <;> simp
 have hkeep : ∀ k, k ≠ g → (w.freeze ⟨g, 0, none⟩ l.length).heap[k]? = w.heap[k]? := fun k hk => by
   unfold World.freeze
   split
   · rfl
   · simp only [Array.getElem?_modify]; rw [if_neg (fun q => hk q.symm)]
 have hnew : Has (w.freeze ⟨g, 0, none⟩ l.length) g (.txt (txtV l)) := by
   have : ∃ fr, (w.freeze ⟨g, 0, none⟩ l.length).heap[g]? = some (.cells C e fr) := by
     unfold World.freeze
     split
     · exact ⟨_, hb⟩
     · simp only [Array.getElem?_modify, if_true, hb, Option.map_some]; exact ⟨_, rfl⟩
   obtain ⟨fr, hfr⟩ := this
   exact ⟨C, e, fr, hfr, hC⟩
 have hos : (w.freeze ⟨g, 0, none⟩ l.length).os = w.os ∧ (w.freeze ⟨g, 0, none⟩ l.length).tape = w.tape ∧ (w.freeze ⟨g, 0, none⟩ l.length).output = w.output := by unfold World.freeze; split <;> exact ⟨rfl, rfl, rfl⟩
 unfold Oper.wp
 rw [FSd.eval g1, hrun]
 have g2' : Sat W0 w ((g, .cells e (c * 1) (txtV l)) :: σ) := g2
 exact ⟨_, _, (FSd.put g1 hd _).fs, g2'.upd hz hos.1 hos.2.1 hos.2.2 hkeep hnew, g3.trans (Upd.upd hz hkeep), h⟩
end
theorem run_indexB {P : Program} {ρ : Fr} {w : World} {δ : Nat → Value} (i : Int) (X : List UInt8) (k : IntKind) (c : UInt8) {dst : Option Tmp} {t ty : TypeId} {x ix : Operand} {pos : String} {after : Array Edge} {gd : Option (Nat × Bool)}
   (ht : P.underlying t = some .string) (hx : ev δ ρ x = .string (bS X)) (hi : ev δ ρ ix = .int k i) (h0 : 0 ≤ i) (hc : X[i.toNat]? = some c) : (execOp (ev δ ρ) ⟨dst, .index t x ix, ty, pos, after, gd⟩).run P w = .ok (.value (.int .u8 (c.toNat : Int))) w := by
 have h1 := (List.getElem?_eq_some_iff.1 hc).1
 have hs := bS_size X
 have e : byteN (bS X) i = (c.toNat : Int) := by
   have := bS_byte hc
   rwa [Int.toNat_of_nonneg h0] at this
 rw [← e]
 exact run_indexS i (bS X) k ht hx hi h0 (by omega)
section
variable {P : Program} {W0 : World} {n : Nat} {Q : SQ} {ρ : Fr} {σ : Heaplet} {K : Fr → Heaplet → Prop} {dst : Option Tmp} {ty t2 : TypeId} {x y : Operand} {pos : String} {after : Array Edge} {gd : Option (Nat × Bool)}
theorem Has.shape {w : World} {b N : Nat} {e : TypeId} {cs : List Value} (h : Has w b (.cells e N cs)) : w.shape? b = some (e, N) := by
 obtain ⟨C, hb, hN, _⟩ := h
 simp [World.shape?, hb, hN]
theorem O_toU {b N sz : Nat} {e src dt t : TypeId} {cs : List Value} (hs : P.underlying src = some (.pointer t)) (hd : P.underlying dt = some .unsafePointer) (ht : (P.info? t).map (·.size) = some sz) (hz : sz ≠ 0) (hN : 0 < N)
   (hx : ∀ δ, ev δ ρ x = .pointer (some ⟨b, 0, none⟩)) (hm : (b, Blk.cells e N cs) ∈ σ) (hdst : dstOk n dst = true) (h : K (putF ρ dst (.pointer (some ⟨b, 0, none⟩))) σ) : SO P W0 n Q ⟨dst, .convert src dt x, ty, pos, after, gd⟩ ρ σ K := by
 obtain ⟨j, hj, hjs⟩ := Option.map_eq_some_iff.1 ht
 refine O_val _ hdst (fun δ w hw => ?_) h
 have hsh := (hw.has _ hm).2.shape
 simp only [execOp, hx, Sem.run_bind, Lib.run_to_unsafe w ⟨b, 0, none⟩ hs hd hj (by rw [hjs]; exact hz) hsh hN]
 rfl
theorem O_fromU {b N : Nat} {e src dt t : TypeId} {cs : List Value} (hs : P.underlying src = some .unsafePointer) (hd : P.underlying dt = some (.pointer t)) (ht : (P.info? t).isSome = true) (hl : liesAt P P.depth e (N / P.cellsOf e) 0 t 1 = true)
   (hx : ∀ δ, ev δ ρ x = .pointer (some ⟨b, 0, none⟩)) (hm : (b, Blk.cells e N cs) ∈ σ) (hdst : dstOk n dst = true) (h : K (putF ρ dst (.pointer (some ⟨b, 0, none⟩))) σ) : SO P W0 n Q ⟨dst, .convert src dt x, ty, pos, after, gd⟩ ρ σ K := by
 obtain ⟨j, hj⟩ := Option.isSome_iff_exists.1 ht
 refine O_val _ hdst (fun δ w hw => ?_) h
 have hsh := (hw.has _ hm).2.shape
 simp only [execOp, hx, Sem.run_bind, Lib.run_from_unsafe w ⟨b, 0, none⟩ hs hd hj hsh hl]
 rfl
theorem run_neqP {w : World} {δ : Nat → Value} {b : Nat} {t te : TypeId} (ht : P.underlying t = some (.pointer te)) (hi : (P.info? te).isSome = true) (hx : ev δ ρ x = .pointer (some ⟨b, 0, none⟩)) (hy : ev δ ρ y = .pointer (some ⟨b, 0, none⟩)) :
   (execOp (ev δ ρ) ⟨dst, .binOp .neq t x y t2, ty, pos, after, gd⟩).run P w = .ok (.value (.bool false)) w := by
 obtain ⟨j, hj⟩ := Option.isSome_iff_exists.1 hi
 simp only [execOp, hx, hy, Sem.run_bind]
 rw [show (eqGuard BinOp.neq t x y (.pointer (some ⟨b, 0, none⟩)) (.pointer (some ⟨b, 0, none⟩))).run P w = .ok () w from rfl, Result.andThen_ok, Lib.run_neq_ptr_same w _ ht hj]
 rfl
theorem next_ascii {w : World} {b i : Nat} {X : List UInt8} {c : UInt8} (hc : X[i]? = some c) (ha : c.toNat < 128) (hb : w.heap[b]? = some (.stringIter (bS X) i)) :
   (Instr.next (.pointer (some ⟨b, 0, none⟩)) true ty).run P w = .ok (.tuple #[.bool true, .int .i64 i, .int .i32 (c.toNat : Int)]) (w.iterAt b (bS X) (i + 1)) := by
 have hl := (List.getElem?_eq_some_iff.1 hc)
 have h : i < (bS X).size := by rw [bS_size]; exact hl.1
 have e : (bS X)[i]'h = c := by
   have := bS_byte hc
   have h2 : (bS X)[i]'h = X[i]'hl.1 := by show X.toArray[i]'_ = _; simp
   rw [h2, hl.2]
 have := Lib.run_next_ascii_at (P := P) w b (bS X) i ty hb h (by rw [e]; exact ha)
 rw [e] at this
 exact this
theorem next_high {w : World} {b i : Nat} {X : List UInt8} {c : UInt8} (hc : X[i]? = some c) (hb : w.heap[b]? = some (.stringIter (bS X) i)) :
   (Instr.next (.pointer (some ⟨b, 0, none⟩)) true ty).run P w = .ok (.tuple #[.bool true, .int .i64 i, .int .i32 ((Utf8.decode (bS X) i).1 : Int)]) (w.iterAt b (bS X) (i + (Utf8.decode (bS X) i).2)) := by
 have hl := (List.getElem?_eq_some_iff.1 hc)
 exact Lib.run_next_any_at (P := P) w b (bS X) i ty hb (by rw [bS_size]; exact hl.1)
theorem decode_hi {i : Nat} {X : List UInt8} {c : UInt8} (hc : X[i]? = some c) (ha : ¬ c.toNat < 128) : 128 ≤ (Utf8.decode (bS X) i).1 := by
 have hl := (List.getElem?_eq_some_iff.1 hc)
 have h : i < (bS X).size := by rw [bS_size]; exact hl.1
 have e : (bS X)[i]'h = c := by
   have h2 : (bS X)[i]'h = X[i]'hl.1 := by show X.toArray[i]'_ = _; simp
   rw [h2, hl.2]
 exact (decode_high (bS X) i h (by rw [e]; omega)).1
end
end Go.Sl
namespace Go.Proofs.YtnhmmjogfkjceaaDoor
open Go.Sl
theorem limV_snoc (ys : List Int) (z : Nat) : limV (ys ++ [(z : Int)]) = limV ys + 4294967296 ^ ys.length * z := by
 rw [limV_app]
 simp [limV]
theorem pow_split {B i c : Nat} (hB : 0 < B) : B ^ i * (c % B) + B ^ (i + 1) * (c / B) = B ^ i * c := by
 rw [Nat.pow_succ, Nat.mul_assoc, ← Nat.mul_add, Nat.mod_add_div]
theorem times_step {l ys : List Int} {i n more carry : Nat} {x : Int} (hl : ys.length = i) (hx : l[i]? = some x) (h : limV ys + 4294967296 ^ i * carry = limV (l.take i) * n + more) :
   limV (ys ++ [(((carry + x.toNat * n) % 4294967296 : Nat) : Int)]) + 4294967296 ^ (i + 1) * ((carry + x.toNat * n) / 4294967296) = limV (l.take (i + 1)) * n + more := by
 rw [limV_snoc, limV_step hx, hl]
 have e := pow_split (B := 4294967296) (i := i) (c := carry + x.toNat * n) (by decide)
 have e2 : 4294967296 ^ i * (carry + x.toNat * n) = 4294967296 ^ i * carry + 4294967296 ^ i * x.toNat * n := by rw [Nat.mul_add, Nat.mul_assoc]
 have e3 : (limV (l.take i) + 4294967296 ^ i * x.toNat) * n = limV (l.take i) * n + 4294967296 ^ i * x.toNat * n := Nat.add_mul _ _ _
 omega
theorem times_carry {x carry n : Nat} (hx : x < 4294967296) (hc : carry < 4294967296) (hn : n < 4294967296) : carry + x * n < 18446744073709551616 ∧ (carry + x * n) / 4294967296 < 4294967296 := by
 have h : x * n ≤ 4294967295 * 4294967295 := Nat.mul_le_mul (by omega) (by omega)
 omega
theorem LimOk.snoc {ys : List Int} {z : Nat} (h : LimOk ys) (hz : z < 4294967296) : LimOk (ys ++ [(z : Int)]) := h.app fun x hx => by rw [List.mem_singleton.1 hx]; omega
theorem wrap_u32 (z : Int) : IntKind.wrap .u32 z = z % 4294967296 := by simp [IntKind.wrap, IntKind.bits, IntKind.signed]
theorem times_body {l ys : List Int} {i n more : Nat} {c e : Int} (hyl : ys.length = i) (hyo : LimOk ys) (hx : l[i]? = some e) (he : 0 ≤ e ∧ e < 4294967296) (hc : 0 ≤ c ∧ c < 4294967296) (hn : n < 4294967296)
   (h : limV ys + 4294967296 ^ i * c.toNat = limV (l.take i) * n + more) :
   (ys ++ [IntKind.wrap .u32 (c + e * (n : Int))]).length = i + 1 ∧ LimOk (ys ++ [IntKind.wrap .u32 (c + e * (n : Int))]) ∧ (0 ≤ (c + e * (n : Int)) / 4294967296 ∧ (c + e * (n : Int)) / 4294967296 < 4294967296) ∧
   limV (ys ++ [IntKind.wrap .u32 (c + e * (n : Int))]) + 4294967296 ^ (i + 1) * ((c + e * (n : Int)) / 4294967296).toNat = limV (l.take (i + 1)) * n + more := by
 obtain ⟨cn, rfl⟩ := Int.eq_ofNat_of_zero_le hc.1
 obtain ⟨en, rfl⟩ := Int.eq_ofNat_of_zero_le he.1
 have e1 : (cn : Int) + (en : Int) * (n : Int) = ((cn + en * n : Nat) : Int) := by simp
 rw [e1, wrap_u32]
 have e2 : ((cn + en * n : Nat) : Int) % 4294967296 = (((cn + en * n) % 4294967296 : Nat) : Int) := by omega
 have e3 : (((cn + en * n : Nat) : Int) / 4294967296).toNat = (cn + en * n) / 4294967296 := by omega
 rw [e2, e3]
 obtain ⟨h1, h2⟩ := times_carry (x := en) (carry := cn) (n := n) (by omega) (by omega) hn
 refine ⟨by simp [hyl], LimOk.snoc hyo (by omega), by omega, ?_⟩
 have := times_step (l := l) (ys := ys) (i := i) (n := n) (more := more) (carry := cn) (x := (en : Int)) hyl hx (by simpa using h)
 simpa using this
theorem times_mul {e : Int} {n : Nat} (he : 0 ≤ e ∧ e < 4294967296) (hn : n < 4294967296) : 0 ≤ e * (n : Int) ∧ e * (n : Int) ≤ 18446744065119617025 := by
 obtain ⟨en, rfl⟩ := Int.eq_ofNat_of_zero_le he.1
 have h : en * n ≤ 4294967295 * 4294967295 := Nat.mul_le_mul (by omega) (by omega)
 have e1 : (en : Int) * (n : Int) = ((en * n : Nat) : Int) := by simp
 rw [e1]; omega
theorem times_end {l ys : List Int} {n more : Nat} {c : Int} (hyl : ys.length = l.length) (hyo : LimOk ys) (hc : 0 ≤ c ∧ c < 4294967296) (h : limV ys + 4294967296 ^ l.length * c.toNat = limV (l.take l.length) * n + more) :
   LimOk (ys ++ [c]) ∧ limV (ys ++ [c]) = limV l * n + more := by
 obtain ⟨cn, rfl⟩ := Int.eq_ofNat_of_zero_le hc.1
 refine ⟨hyo.snoc (by omega), ?_⟩
 rw [limV_snoc, hyl]
 rw [List.take_length] at h
 simpa using h
theorem limV_zeros (k : Nat) : limV (List.replicate k 0) = 0 := by
 induction k with
 | zero => rfl
 | succ k ih => rw [List.replicate_succ]; show (0 : Int).toNat + 4294967296 * limV (List.replicate k 0) = 0; rw [ih]; rfl
theorem limOk_zeros (k : Nat) : LimOk (List.replicate k 0) := fun x hx => by rw [List.eq_of_mem_replicate hx]; omega
theorem up_body {l ys : List Int} {i s : Nat} {c e : Int} (hyl : ys.length = i) (hyo : LimOk ys) (hx : l[i]? = some e) (he : 0 ≤ e ∧ e < 4294967296) (hs : s < 32) (hc : 0 ≤ c ∧ c < ((2 ^ s : Nat) : Int))
   (h : limV ys + 4294967296 ^ i * c.toNat = limV (l.take i) * 2 ^ s) :
   0 ≤ e * ((2 ^ s : Nat) : Int) + c ∧ e * ((2 ^ s : Nat) : Int) + c < 18446744073709551616 ∧ (ys ++ [IntKind.wrap .u32 (e * ((2 ^ s : Nat) : Int) + c)]).length = i + 1 ∧ LimOk (ys ++ [IntKind.wrap .u32 (e * ((2 ^ s : Nat) : Int) + c)]) ∧
   (0 ≤ (e * ((2 ^ s : Nat) : Int) + c) / 4294967296 ∧ (e * ((2 ^ s : Nat) : Int) + c) / 4294967296 < ((2 ^ s : Nat) : Int)) ∧
   limV (ys ++ [IntKind.wrap .u32 (e * ((2 ^ s : Nat) : Int) + c)]) + 4294967296 ^ (i + 1) * ((e * ((2 ^ s : Nat) : Int) + c) / 4294967296).toNat = limV (l.take (i + 1)) * 2 ^ s := by
 have hp : 2 ^ s ≤ 2 ^ 31 := Nat.pow_le_pow_right (by decide) (by omega)
 have hp1 : 0 < 2 ^ s := Nat.two_pow_pos s
 obtain ⟨cn, rfl⟩ := Int.eq_ofNat_of_zero_le hc.1
 obtain ⟨en, rfl⟩ := Int.eq_ofNat_of_zero_le he.1
 generalize hq : 2 ^ s = n at *
 have e1 : (en : Int) * (n : Int) + (cn : Int) = ((cn + en * n : Nat) : Int) := by simp [Int.add_comm]
 rw [e1, wrap_u32]
 have hen : en * n ≤ 4294967295 * n := Nat.mul_le_mul_right n (by omega)
 have hen2 : 4294967295 * n ≤ 4294967295 * 2147483648 := Nat.mul_le_mul_left _ hp
 have e2 : ((cn + en * n : Nat) : Int) % 4294967296 = (((cn + en * n) % 4294967296 : Nat) : Int) := by omega
 have e3 : (((cn + en * n : Nat) : Int) / 4294967296).toNat = (cn + en * n) / 4294967296 := by omega
 rw [e2, e3]
 refine ⟨by omega, by omega, by simp [hyl], LimOk.snoc hyo (by omega), ⟨by omega, ?_⟩, ?_⟩
 · have : (cn + en * n) / 4294967296 < n := by
     rw [Nat.div_lt_iff_lt_mul (by decide)]
     have : n * 4294967296 = 4294967295 * n + n := by omega
     omega
   omega
 · have := times_step (l := l) (ys := ys) (i := i) (n := n) (more := 0) (carry := cn) (x := (en : Int)) hyl hx (by simpa using h)
   simpa using this
theorem up_shl {e : Int} {k s : Nat} (hs : s < 32) (he : 0 ≤ e ∧ e < 4294967296) : IntKind.wrap .u64 (e * 2 ^ min (((32 * k + s : Nat) : Int) % 32).toNat (IntKind.bits .u64)) = e * ((2 ^ s : Nat) : Int) := by
 have h1 : min (((32 * k + s : Nat) : Int) % 32).toNat (IntKind.bits .u64) = s := by
   have : IntKind.bits .u64 = 64 := rfl
   rw [this]; omega
 rw [h1, wrap64]
 have hp : 2 ^ s ≤ 2 ^ 31 := Nat.pow_le_pow_right (by decide) (by omega)
 obtain ⟨en, rfl⟩ := Int.eq_ofNat_of_zero_le he.1
 have hen : en * 2 ^ s ≤ 4294967295 * 2147483648 := Nat.mul_le_mul (by omega) hp
 have e1 : (en : Int) * ((2 ^ s : Nat) : Int) = ((en * 2 ^ s : Nat) : Int) := by simp
 have e2 : (en : Int) * 2 ^ s = ((en * 2 ^ s : Nat) : Int) := by simp
 rw [e1, e2]
 generalize en * 2 ^ s = z at *
 omega
theorem up_or {e c : Int} {s : Nat} (he : 0 ≤ e ∧ e < 4294967296) (hc : 0 ≤ c ∧ c < ((2 ^ s : Nat) : Int)) (h : e * ((2 ^ s : Nat) : Int) + c < 18446744073709551616) :
   IntKind.wrap .u64 ((BitVec.ofInt 64 c ||| BitVec.ofInt 64 (e * ((2 ^ s : Nat) : Int))).toNat) = e * ((2 ^ s : Nat) : Int) + c := by
 obtain ⟨cn, rfl⟩ := Int.eq_ofNat_of_zero_le hc.1
 obtain ⟨en, rfl⟩ := Int.eq_ofNat_of_zero_le he.1
 have e1 : (en : Int) * ((2 ^ s : Nat) : Int) = ((en * 2 ^ s : Nat) : Int) := by simp
 rw [e1] at h ⊢
 rw [or_apart64 (s := s) (by omega) (by omega)]
 simp
theorem up_end {l ys : List Int} {s k : Nat} {c : Int} (hyl : ys.length = l.length) (hyo : LimOk ys) (hc : 0 ≤ c ∧ c < 4294967296) (h : limV ys + 4294967296 ^ l.length * c.toNat = limV (l.take l.length) * 2 ^ s) :
   LimOk (List.replicate k 0 ++ ys ++ [c]) ∧ limV (List.replicate k 0 ++ ys ++ [c]) = limV l * 2 ^ (32 * k + s) := by
 obtain ⟨cn, rfl⟩ := Int.eq_ofNat_of_zero_le hc.1
 refine ⟨(LimOk.app (limOk_zeros k) hyo).snoc (by omega), ?_⟩
 rw [List.append_assoc, limV_app, limV_zeros, limV_snoc, hyl, List.length_replicate, Nat.zero_add]
 rw [List.take_length] at h
 rw [show limV ys + 4294967296 ^ l.length * cn = limV l * 2 ^ s by simpa using h, Nat.pow_add, Nat.pow_mul]
 rw [show (2 : Nat) ^ 32 = 4294967296 by decide, ← Nat.mul_assoc, ← Nat.mul_assoc, Nat.mul_comm (4294967296 ^ k)]
def halfL : List Int → List Int
 | [] => []
 | [x] => [x / 2]
 | x :: y :: r => (x / 2 + y % 2 * 2147483648) :: halfL (y :: r)
theorem halfL_len : ∀ l : List Int, (halfL l).length = l.length
 | [] => rfl
 | [x] => rfl
 | x :: y :: r => by show (halfL (y :: r)).length + 1 = _; rw [halfL_len (y :: r)]; rfl
theorem halfL_ok : ∀ {l : List Int}, LimOk l → LimOk (halfL l)
 | [], _ => fun x hx => by cases hx
 | [x], h => fun y hy => by
   have := h x (List.mem_cons_self ..)
   rw [List.mem_singleton.1 hy]; omega
 | x :: y :: r, h => fun z hz => by
   have h1 := h x (List.mem_cons_self ..)
   rcases List.mem_cons.1 hz with q | q
   · rw [q]; omega
   · exact halfL_ok (l := y :: r) (fun w hw => h w (List.mem_cons_of_mem _ hw)) z q
theorem halfL_val : ∀ {l : List Int}, LimOk l → limV (halfL l) = limV l / 2
 | [], _ => rfl
 | [x], h => by
   have := h x (List.mem_cons_self ..)
   show (x / 2).toNat + 4294967296 * 0 = (x.toNat + 4294967296 * 0) / 2
   omega
 | x :: y :: r, h => by
   have h1 := h x (List.mem_cons_self ..)
   have h2 := h y (List.mem_cons_of_mem _ (List.mem_cons_self ..))
   have ih := halfL_val (l := y :: r) fun w hw => h w (List.mem_cons_of_mem _ hw)
   have e1 : limV (halfL (x :: y :: r)) = (x / 2 + y % 2 * 2147483648).toNat + 4294967296 * limV (halfL (y :: r)) := rfl
   have e2 : limV (x :: y :: r) = x.toNat + 4294967296 * limV (y :: r) := rfl
   have e3 : limV (y :: r) = y.toNat + 4294967296 * limV r := rfl
   rw [e1, e2, ih]
   omega
theorem halfL_at : ∀ {l : List Int} {i : Nat} {x : Int}, l[i]? = some x → (halfL l)[i]? = some (x / 2 + (match l[i + 1]? with | some y => y % 2 * 2147483648 | none => 0))
 | [x], 0, _, h => by simp at h; subst h; simp [halfL]
 | [_], i + 1, _, h => by simp at h
 | x :: y :: r, 0, _, h => by simp at h; subst h; simp [halfL]
 | x :: y :: r, i + 1, z, h => by
   show (halfL (y :: r))[i]? = _
   rw [halfL_at (l := y :: r) (i := i) (x := z) (by simpa using h)]
   simp
theorem half_shl (y : Int) : IntKind.wrap .u32 (y * 2147483648) = y % 2 * 2147483648 := by rw [wrap_u32]; omega
theorem or_apart32 {a b s : Nat} (hb : b < 2 ^ s) (h : a * 2 ^ s + b < 4294967296) : IntKind.wrap .u32 ((BitVec.ofInt 32 ((b : Nat) : Int) ||| BitVec.ofInt 32 ((a * 2 ^ s : Nat) : Int)).toNat) = ((a * 2 ^ s + b : Nat) : Int) := by
 rw [Nat.mul_comm a (2 ^ s)] at h ⊢
 have h1 : (BitVec.ofInt 32 ((2 ^ s * a : Nat) : Int)).toNat = 2 ^ s * a := by
   rw [BitVec.toNat_ofInt]; generalize 2 ^ s * a = z at *; omega
 have h2 : (BitVec.ofInt 32 ((b : Nat) : Int)).toNat = b := by rw [BitVec.toNat_ofInt]; omega
 rw [BitVec.toNat_or, h1, h2, Nat.or_comm, ← Nat.two_pow_add_eq_or_of_lt hb, wrap_u32]
 omega
theorem half_or {e y : Int} (he : 0 ≤ e ∧ e < 4294967296) : IntKind.wrap .u32 ((BitVec.ofInt 32 (e / 2) ||| BitVec.ofInt 32 (y % 2 * 2147483648)).toNat) = e / 2 + y % 2 * 2147483648 := by
 obtain ⟨en, rfl⟩ := Int.eq_ofNat_of_zero_le he.1
 obtain ⟨yn, hy⟩ := Int.eq_ofNat_of_zero_le (show 0 ≤ y % 2 by omega)
 rw [hy]
 have e1 : ((en : Int)) / 2 = ((en / 2 : Nat) : Int) := by omega
 have e2 : (yn : Int) * 2147483648 = ((yn * 2 ^ 31 : Nat) : Int) := by omega
 rw [e1, e2, or_apart32 (s := 31) (by omega) (by omega)]
 omega
def halfM (l : List Int) (i : Nat) : List Int := (halfL l).take i ++ l.drop i
theorem halfM_zero (l : List Int) : halfM l 0 = l := by simp [halfM]
theorem halfM_len {l : List Int} {i : Nat} (hi : i ≤ l.length) : (halfM l i).length = l.length := by
 unfold halfM; rw [List.length_append, List.length_take, List.length_drop, halfL_len]; omega
theorem halfM_at {l : List Int} {i : Nat} (hi : i < l.length) : (halfM l i)[i]? = l[i]? := by
 unfold halfM
 rw [List.getElem?_append_right (by rw [List.length_take]; omega), List.length_take, halfL_len, Nat.min_eq_left (by omega), List.getElem?_drop]
 simp
theorem halfM_end {l : List Int} : halfM l l.length = halfL l := by
 unfold halfM; rw [List.drop_length, List.append_nil, ← halfL_len l, List.take_length]
theorem halfM_step {l : List Int} {i : Nat} {v : Int} (hv : (halfL l)[i]? = some v) : (halfM l i).set i v = halfM l (i + 1) := by
 have hi := (List.getElem?_eq_some_iff.1 hv).1
 rw [halfL_len] at hi
 apply List.ext_getElem?
 intro j
 have h1 : ((halfL l).take i).length = i := by rw [List.length_take, halfL_len]; omega
 have h2 : ((halfL l).take (i + 1)).length = i + 1 := by rw [List.length_take, halfL_len]; omega
 by_cases hj : j = i
 · subst hj
   rw [List.getElem?_set_self (by rw [halfM_len (by omega)]; omega)]
   unfold halfM
   rw [List.getElem?_append_left (by omega), List.getElem?_take_of_lt (by omega), hv]
 · rw [List.getElem?_set_ne (fun z => hj z.symm)]
   unfold halfM
   by_cases hlt : j < i
   · rw [List.getElem?_append_left (by omega), List.getElem?_append_left (by omega), List.getElem?_take_of_lt hlt, List.getElem?_take_of_lt (by omega)]
   · rw [List.getElem?_append_right (by omega), List.getElem?_append_right (by omega), h1, h2, List.getElem?_drop, List.getElem?_drop]
     congr 1; omega
def lessL : List Int → List Int → Int → List Int
 | [], _, _ => []
 | x :: r, m, b => ((x - (b + m.headD 0)) % 4294967296) :: lessL r m.tail (if x < b + m.headD 0 then 1 else 0)
def lessB : List Int → List Int → Int → Int
 | [], _, b => b
 | x :: r, m, b => lessB r m.tail (if x < b + m.headD 0 then 1 else 0)
theorem lessL_len : ∀ (l m : List Int) (b : Int), (lessL l m b).length = l.length
 | [], _, _ => rfl
 | x :: r, m, b => by show (lessL r m.tail _).length + 1 = _; rw [lessL_len]; rfl
theorem lessL_ok : ∀ (l m : List Int) (b : Int), LimOk (lessL l m b)
 | [], _, _ => fun x hx => by cases hx
 | x :: r, m, b => fun y hy => by
   rcases List.mem_cons.1 hy with q | q
   · rw [q]; omega
   · exact lessL_ok r m.tail _ y q
theorem lessL_val : ∀ {l m : List Int} {b : Int}, LimOk l → LimOk m → m.length ≤ l.length → (b = 0 ∨ b = 1) →
   (limV (lessL l m b) : Int) + limV m + b = limV l + 4294967296 ^ l.length * lessB l m b ∧ (lessB l m b = 0 ∨ lessB l m b = 1)
 | [], m, b, _, _, hm, hb => by
   rw [List.eq_nil_of_length_eq_zero (show m.length = 0 by simpa using hm)]
   exact ⟨by simp [lessL, lessB, limV], hb⟩
 | x :: r, m, b, hl, hok, hm, hb => by
   have h1 := hl x (List.mem_cons_self ..)
   have hr : LimOk r := fun y hy => hl y (List.mem_cons_of_mem _ hy)
   have ht : LimOk m.tail := fun y hy => hok y (List.mem_of_mem_tail hy)
   have hh : 0 ≤ m.headD 0 ∧ m.headD 0 < 4294967296 := by
     cases m with
     | nil => simp
     | cons y s => exact hok y (List.mem_cons_self ..)
   have hmv : limV m = (m.headD 0).toNat + 4294967296 * limV m.tail := by
     cases m with
     | nil => rfl
     | cons y s => rfl
   have hmt : m.tail.length ≤ r.length := by simp at hm ⊢; omega
   obtain ⟨ih, ihb⟩ := lessL_val (l := r) (m := m.tail) (b := if x < b + m.headD 0 then 1 else 0) hr ht hmt (by split <;> simp)
   refine ⟨?_, ihb⟩
   have e1 : limV (lessL (x :: r) m b) = ((x - (b + m.headD 0)) % 4294967296).toNat + 4294967296 * limV (lessL r m.tail (if x < b + m.headD 0 then 1 else 0)) := rfl
   have e2 : limV (x :: r) = x.toNat + 4294967296 * limV r := rfl
   have e3 : lessB (x :: r) m b = lessB r m.tail (if x < b + m.headD 0 then 1 else 0) := rfl
   rw [e1, e2, e3, hmv, List.length_cons, Int.pow_succ]
   generalize lessB r m.tail (if x < b + m.headD 0 then 1 else 0) = B at *
   generalize limV (lessL r m.tail (if x < b + m.headD 0 then 1 else 0)) = V at *
   have e4 : (4294967296 : Int) ^ r.length * 4294967296 * B = 4294967296 * (4294967296 ^ r.length * B) := by rw [Int.mul_comm ((4294967296 : Int) ^ r.length) 4294967296, Int.mul_assoc]
   rw [e4]
   split at ih <;> omega
theorem lessL_sub {l m : List Int} (hl : LimOk l) (hm : LimOk m) (h : limV m ≤ limV l) (hlen : m.length ≤ l.length) : limV (lessL l m 0) = limV l - limV m := by
 obtain ⟨e, hb⟩ := lessL_val hl hm hlen (.inl rfl)
 have h1 := limV_lt (lessL_ok l m 0)
 rw [lessL_len] at h1
 rcases hb with q | q
 · rw [q] at e; simp at e; omega
 · rw [q] at e
   have h2 : ((4294967296 ^ l.length : Nat) : Int) = (4294967296 : Int) ^ l.length := by simp
   have h3 : (limV (lessL l m 0) : Int) < (4294967296 : Int) ^ l.length := by rw [← h2]; exact_mod_cast h1
   omega
theorem order_len {a b : Nat} (h : (lim a).length < (lim b).length) : a < b := by
 apply Classical.byContradiction
 intro hc
 have := lim_len_mono (show b ≤ a by omega)
 omega
theorem order_at {l m : List Int} {i : Nat} (hl : LimOk l) (hm : LimOk m) (hlen : l.length = m.length) (hi : i < l.length) (hs : l.drop (i + 1) = m.drop (i + 1)) {x y : Int} (hx : l[i]? = some x) (hy : m[i]? = some y) (h : x < y) : limV l < limV m := by
 have e1 := limV_app (l.take (i + 1)) (l.drop (i + 1))
 have e2 := limV_app (m.take (i + 1)) (m.drop (i + 1))
 rw [List.take_append_drop] at e1 e2
 rw [hs] at e1
 have h1 := limV_step hx
 have h2 := limV_step hy
 have h3 := limV_lt (hl.take i)
 have h4 := hl x (List.mem_of_getElem? hx)
 have h5 : 4294967296 ^ i * x.toNat + 4294967296 ^ i ≤ 4294967296 ^ i * y.toNat := by
   have := Nat.mul_le_mul_left (4294967296 ^ i) (show x.toNat + 1 ≤ y.toNat by omega)
   rw [Nat.mul_add, Nat.mul_one] at this
   exact this
 rw [List.length_take, Nat.min_eq_left (by omega)] at h3 e1 e2
 omega
end Go.Proofs.YtnhmmjogfkjceaaDoor
namespace Go.Proofs.YtnhmmjogfkjceaaDoor
open Go.Sl
abbrev Bytes := List UInt8
def isDig (c : UInt8) : Bool := decide (48 ≤ c.toNat ∧ c.toNat ≤ 57)
abbrev digs : Bytes := [48, 49, 50, 51, 52, 53, 54, 55, 56, 57]
structure DecP where
  ahead : Bytes
  behind : Bytes
  power : Int
def powN : Int → Bytes → Int
 | a, [] => a
 | a, c :: r => powN (min (a * 10 + ((c.toNat : Int) - 48)) 1099511627776) r
def fracP (s : Bytes) : Bytes × Bytes := match s with
 | 46 :: r => (r.takeWhile isDig, r.dropWhile isDig)
 | _ => ([], s)
def wayP (r : Bytes) : Int × Bytes := match r with
 | d :: t => if d = 43 ∨ d = 45 then (44 - (d.toNat : Int), t) else (1, r)
 | [] => (1, r)
def decP (s : Bytes) : DecP × Bool :=
 let a := s.takeWhile isDig
 let f := fracP (s.dropWhile isDig)
 if a = [] ∧ f.1 = [] then (⟨a, f.1, 0⟩, false)
 else match f.2 with
   | [] => (⟨a, f.1, 0⟩, true)
   | c :: r => if c ≠ 101 ∧ c ≠ 69 then (⟨a, f.1, 0⟩, false)
     else (⟨a, f.1, powN 0 ((wayP r).2.takeWhile isDig) * (wayP r).1⟩, decide ((wayP r).2.takeWhile isDig ≠ [] ∧ (wayP r).2.dropWhile isDig = []))
def ofD : Bytes → Nat := fun l => l.foldl (fun a c => a * 10 + (c.toNat - 48)) 0
def bitsN (n : Nat) : Nat := if h : n = 0 then 0 else bitsN (n / 2) + 1
decreasing_by omega
def formNear (m : Nat) (exp : Int) (half : Bool) : Nat :=
 if exp + 63 > 1023 then 9218868437227405312
 else
   let biased := exp + 63 + 1023
   let shift : Int := if biased < 1 then 12 - biased else 11
   let b : Int := if biased < 1 then 1 else biased
   if shift > 64 then 0
   else
     let man := m / 2 ^ shift.toNat
     let rest := m * 2 ^ (64 - shift.toNat) % 18446744073709551616
     (b - 1).toNat * 4503599627370496 + (if rest > 9223372036854775808 ∨ (rest = 9223372036854775808 ∧ (half = true ∨ man % 2 = 1)) then man + 1 else man)
def nearN (man : Nat) (exp : Int) (half : Bool) : Nat :=
 let e := min (max exp (-5000)) 5000
 if man = 0 ∧ half = true then formNear 9223372036854775808 (e - 1 - 63) false
 else if man = 0 then 0
 else
   let shift := 64 - bitsN man
   if half = true ∧ shift > 0 then formNear (man * 2 ^ shift + 2 ^ (shift - 1)) (e - shift) false else formNear (man * 2 ^ shift) (e - shift) half
def divN : Nat → Nat → Nat → Nat → Nat × Nat
 | 0, p, _, man => (p, man)
 | k + 1, p, t, man => if t ≤ p then divN k (p - t) (t / 2) (man * 2 % 18446744073709551616 + 1) else divN k p (t / 2) (man * 2 % 18446744073709551616)
def roundN (p q : Nat) : Nat :=
 let up : Int := 63 - bitsN p + bitsN q
 let r := divN 64 (p * 2 ^ up.toNat) (q * 2 ^ (-up).toNat * 2 ^ 63) 0
 nearN r.2 (-up) (decide (0 < (lim r.1).length))
def cutD (l : Bytes) (p : Int) : Bytes × Int :=
 if l.length > 800 then (if (l.drop 800).any (· != 48) = true then (l.take 800 ++ [49], p + (l.length - 800 : Nat) - 1) else (l.take 800, p + (l.length - 800 : Nat))) else (l, p)
def nearD (l : Bytes) (p : Int) : Nat :=
 if l = [] ∨ (l.length : Int) + p < -330 then 0
 else if (l.length : Int) + p > 310 then 9218868437227405312
 else roundN (ofD l * 10 ^ p.toNat) (10 ^ (-p).toNat)
def nearestP (n : DecP) : Nat :=
 let c := cutD ((n.ahead ++ n.behind).dropWhile (· == 48)) (n.power - n.behind.length)
 nearD c.1 c.2
abbrev nibs : Bytes := [48, 49, 50, 51, 52, 53, 54, 55, 56, 57, 97, 98, 99, 100, 101, 102]
def hexD (c : UInt8) : Option Nat :=
 let d := Lib.indexByte nibs (c ||| 32)
 if c.toNat < 48 ∨ d < 0 ∨ (d < 10 ∧ (c.toNat : Int) ≠ 48 + d) then none else some d.toNat
def hexGo : Nat → Int → Bool → Bytes → Option (Nat × Int × Bool)
 | man, exp, lost, [] => some (man, exp, lost)
 | man, exp, lost, c :: r => match hexD c with
   | none => none
   | some d => if man / 1152921504606846976 = 0 then hexGo (man * 16 + d) exp lost r else hexGo man (exp + 4) (lost || decide (0 < d)) r
def hexP (s : Bytes) : Nat × Bool := match hexGo 0 0 false s with
 | none => (0, false)
 | some (man, exp, lost) => (nearN man exp lost, decide (s ≠ []))
def litP (s : Bytes) : Nat × Bool :=
 if Lib.hasPrefix s [48, 120] = true then hexP (s.drop 2)
 else
   let n := decP s
   if n.2 = false ∨ n.1.ahead = [] ∨ (46 ∈ s ∧ n.1.behind = []) ∨ (n.1.ahead.length > 1 ∧ n.1.ahead.head? = some 48) then (0, false)
   else (nearestP n.1, true)
theorem small_ok {n : Nat} (h : n < 18446744073709551616) : LimOk [IntKind.wrap .u32 (n : Int), IntKind.wrap .u32 ((n : Int) / 4294967296)] := by
 intro x hx
 simp only [wrap_u32, List.mem_cons, List.not_mem_nil, or_false] at hx
 rcases hx with rfl | rfl <;> omega
theorem small_val {n : Nat} (h : n < 18446744073709551616) : limV [IntKind.wrap .u32 (n : Int), IntKind.wrap .u32 ((n : Int) / 4294967296)] = n := by
 simp only [wrap_u32, limV]
 omega
def cmpN (a b : Nat) : Int := if a < b then -1 else if b < a then 1 else 0
theorem cmp_lt {a b : Nat} (h : a < b) : cmpN a b = -1 := if_pos h
theorem cmp_gt {a b : Nat} (h : b < a) : cmpN a b = 1 := by unfold cmpN; rw [if_neg (by omega), if_pos h]
theorem cmp_eq {a b : Nat} (h : a = b) : cmpN a b = 0 := by unfold cmpN; rw [if_neg (by omega), if_neg (by omega)]
theorem order_same {a b : Nat} (h : (lim a).drop 0 = (lim b).drop 0) : a = b := by
 have := congrArg limV h
 rw [List.drop_zero, List.drop_zero, lim_val, lim_val] at this
 exact this
theorem order_next {l m : List Int} {j : Nat} {x y : Int} (hj : 0 < j) (hx : l[j - 1]? = some x) (hy : m[j - 1]? = some y) (h : x = y) (hd : l.drop j = m.drop j) : l.drop (j - 1) = m.drop (j - 1) := by
 have h1 := (List.getElem?_eq_some_iff.1 hx)
 have h2 := (List.getElem?_eq_some_iff.1 hy)
 rw [List.drop_eq_getElem_cons h1.1, List.drop_eq_getElem_cons h2.1, h1.2, h2.2, h, show j - 1 + 1 = j by omega, hd]
theorem order_top {a b : Nat} {j : Nat} {x y : Int} (hl : (lim a).length = (lim b).length) (hj : 0 < j) (hd : (lim a).drop j = (lim b).drop j) (hx : (lim a)[j - 1]? = some x) (hy : (lim b)[j - 1]? = some y) (h : x < y) : a < b := by
 have h1 := (List.getElem?_eq_some_iff.1 hx).1
 have := order_at (lim_ok a) (lim_ok b) hl (i := j - 1) h1 (by rw [show j - 1 + 1 = j by omega]; exact hd) hx hy h
 rw [lim_val, lim_val] at this
 exact this
theorem bitsN_zero : bitsN 0 = 0 := by rw [bitsN, dif_pos rfl]
theorem bitsN_pos {n : Nat} (h : n ≠ 0) : bitsN n = bitsN (n / 2) + 1 := by rw [bitsN, dif_neg h]
theorem bitsN_lt : ∀ n : Nat, n < 2 ^ bitsN n := by
 intro n
 induction n using Nat.strongRecOn with
 | _ n ih =>
   by_cases h : n = 0
   · rw [h, bitsN_zero]; decide
   · rw [bitsN_pos h, Nat.pow_succ]
     have := ih (n / 2) (by omega)
     omega
theorem bitsN_ge : ∀ n : Nat, n ≠ 0 → 2 ^ (bitsN n - 1) ≤ n := by
 intro n
 induction n using Nat.strongRecOn with
 | _ n ih =>
   intro h
   rw [bitsN_pos h]
   by_cases h2 : n / 2 = 0
   · rw [h2, bitsN_zero]; simp; omega
   · have h3 := ih (n / 2) (by omega) h2
     have h4 : bitsN (n / 2) ≠ 0 := by rw [bitsN_pos h2]; omega
     rw [show bitsN (n / 2) + 1 - 1 = (bitsN (n / 2) - 1) + 1 by omega, Nat.pow_succ]
     omega
theorem bitsN_iff {n k : Nat} (h1 : 2 ^ k ≤ n) (h2 : n < 2 ^ (k + 1)) : bitsN n = k + 1 := by
 have hn : n ≠ 0 := by have := Nat.two_pow_pos k; omega
 have a := bitsN_lt n
 have b := bitsN_ge n hn
 have hp : bitsN n ≠ 0 := by rw [bitsN_pos hn]; omega
 have c : k < bitsN n := (Nat.pow_lt_pow_iff_right (by decide : 1 < 2)).1 (Nat.lt_of_le_of_lt h1 a)
 have d : bitsN n - 1 < k + 1 := (Nat.pow_lt_pow_iff_right (by decide : 1 < 2)).1 (Nat.lt_of_le_of_lt b h2)
 omega
theorem bitLenAux_eq : ∀ (f x : Nat), x < 2 ^ f → Lib.bitLenAux f x = bitsN x
 | 0, x, h => by rw [show x = 0 by simpa using h, bitsN_zero]; rfl
 | f + 1, x, h => by
   unfold Lib.bitLenAux
   by_cases hx : x = 0
   · rw [if_pos hx, hx, bitsN_zero]
   · rw [if_neg hx, bitLenAux_eq f (x / 2) (by rw [Nat.pow_succ] at h; omega), bitsN_pos hx, Nat.add_comm]
theorem bitLen_eq {x : Nat} (h : x < 18446744073709551616) : Lib.bitLen x = bitsN x := bitLenAux_eq 64 x (by simpa using h)
theorem size_zero {n : Nat} (h : (lim n).length = 0) : (0 : Int) = (bitsN n : Int) := by rw [lim_len_eq.1 h, bitsN_zero]; rfl
theorem bitsN_shift {x k y : Nat} (hx : x ≠ 0) (hy : y < 2 ^ k) : bitsN (x * 2 ^ k + y) = bitsN x + k := by
 have a := bitsN_lt x
 have b := bitsN_ge x hx
 have hp : bitsN x ≠ 0 := by rw [bitsN_pos hx]; omega
 have e : bitsN x + k = (bitsN x - 1 + k) + 1 := by omega
 rw [e]
 apply bitsN_iff
 · rw [Nat.pow_add]
   have := Nat.mul_le_mul_right (2 ^ k) b
   omega
 · rw [show bitsN x - 1 + k + 1 = bitsN x + k by omega, Nat.pow_add]
   have := Nat.mul_le_mul_right (2 ^ k) (show x + 1 ≤ 2 ^ bitsN x from a)
   rw [Nat.add_mul, Nat.one_mul] at this
   omega
theorem size_top {n : Nat} {x : Int} (h : (lim n).length ≠ 0) (hx : (lim n)[(lim n).length - 1]? = some x) : 32 * ((lim n).length : Int) - (32 - (Lib.bitLen x.toNat : Int)) = (bitsN n : Int) := by
 have hl := (List.getElem?_eq_some_iff.1 hx).1
 have ho := lim_ok n x (List.mem_of_getElem? hx)
 have hv := limV_step hx
 rw [show (lim n).length - 1 + 1 = (lim n).length by omega, List.take_length, lim_val] at hv
 have hlt := limV_lt ((lim_ok n).take ((lim n).length - 1))
 rw [List.length_take, Nat.min_eq_left (by omega)] at hlt
 have hx0 : x.toNat ≠ 0 := by
   intro q
   rw [q, Nat.mul_zero, Nat.add_zero] at hv
   have := lim_len_lt (n := n) (k := (lim n).length - 1) (by omega)
   omega
 have e : (4294967296 : Nat) ^ ((lim n).length - 1) = 2 ^ (32 * ((lim n).length - 1)) := by rw [Nat.pow_mul]
 rw [e] at hv hlt
 have hb : bitsN n = bitsN x.toNat + 32 * ((lim n).length - 1) := by
   have := bitsN_shift (x := x.toNat) (k := 32 * ((lim n).length - 1)) (y := limV ((lim n).take ((lim n).length - 1))) hx0 hlt
   rw [← this]
   congr 1
   have hc := Nat.mul_comm (2 ^ (32 * ((lim n).length - 1))) x.toNat
   omega
 rw [bitLen_eq (by omega), hb]
 omega
end Go.Proofs.YtnhmmjogfkjceaaDoor
namespace Go.Proofs
open Go.Shelf
def Tryd.lays133_ren : Go.Shelf.Ren := ⟨fun | 133 => 125 | 128 => 133 | n => n, fun | 51 => 107 | 3 => 3 | 4 => 4 | 46 => 54 | 5 => 5 | 9 => 9 | n => n, fun | n => n⟩
theorem Tryd.lays133 : Go.Proofs.Lays.n133 Tryd.prog Tryd.lays133_ren := {
 mixed := by kernel_rfl
 f128 := Tryd.func133.trans (congrArg some (by kernel_rfl))
 f133 := Tryd.func125.trans (congrArg some (by kernel_rfl))
 t3 := Tryd.underlying3
 a3 := Tryd.isAgg3
 z3 := Tryd.sizeOf3
 v3 := Tryd.zeroValue3
 t4 := Tryd.underlying4
 a4 := Tryd.isAgg4
 z4 := Tryd.sizeOf4
 v4 := Tryd.zeroValue4
 t5 := Tryd.underlying5
 a5 := Tryd.isAgg5
 z5 := Tryd.sizeOf5
 v5 := Tryd.zeroValue5
 t9 := Tryd.underlying9
 a9 := Tryd.isAgg9
 z9 := Tryd.sizeOf9
 v9 := Tryd.zeroValue9
 t46 := Tryd.underlying54
 a46 := Tryd.isAgg54
 z46 := Tryd.sizeOf54
 v46 := Tryd.zeroValue54
 t51 := Tryd.underlying107
 a51 := Tryd.isAgg107
 z51 := Tryd.sizeOf107
 v51 := Tryd.zeroValue107 }
def Tryd.lays134_ren : Go.Shelf.Ren := ⟨fun | 134 => 96 | 129 => 103 | n => n, fun | 53 => 27 | 3 => 3 | 4 => 4 | 46 => 54 | 5 => 5 | 9 => 9 | n => n, fun | n => n⟩
theorem Tryd.lays134 : Go.Proofs.Lays.n134 Tryd.prog Tryd.lays134_ren := {
 mixed := by kernel_rfl
 f129 := Tryd.func103.trans (congrArg some (by kernel_rfl))
 f134 := Tryd.func96.trans (congrArg some (by kernel_rfl))
 t3 := Tryd.underlying3
 a3 := Tryd.isAgg3
 z3 := Tryd.sizeOf3
 v3 := Tryd.zeroValue3
 t4 := Tryd.underlying4
 a4 := Tryd.isAgg4
 z4 := Tryd.sizeOf4
 v4 := Tryd.zeroValue4
 t5 := Tryd.underlying5
 a5 := Tryd.isAgg5
 z5 := Tryd.sizeOf5
 v5 := Tryd.zeroValue5
 t9 := Tryd.underlying9
 a9 := Tryd.isAgg9
 z9 := Tryd.sizeOf9
 v9 := Tryd.zeroValue9
 t46 := Tryd.underlying54
 a46 := Tryd.isAgg54
 z46 := Tryd.sizeOf54
 v46 := Tryd.zeroValue54
 t53 := Tryd.underlying27
 a53 := Tryd.isAgg27
 z53 := Tryd.sizeOf27
 v53 := Tryd.zeroValue27 }
def Tryd.lays99_ren : Go.Shelf.Ren := ⟨fun | 99 => 27 | 206 => 56 | n => n, fun | 9 => 9 | 4 => 4 | 3 => 3 | n => n, fun | n => n⟩
theorem Tryd.lays99 : Go.Proofs.Lays.n99 Tryd.prog Tryd.lays99_ren := {
 mixed := by kernel_rfl
 f99 := Tryd.func27.trans (congrArg some (by kernel_rfl))
 f206 := Tryd.func56.trans (congrArg some (by kernel_rfl))
 t3 := Tryd.underlying3
 a3 := Tryd.isAgg3
 z3 := Tryd.sizeOf3
 v3 := Tryd.zeroValue3
 t4 := Tryd.underlying4
 a4 := Tryd.isAgg4
 z4 := Tryd.sizeOf4
 v4 := Tryd.zeroValue4
 t9 := Tryd.underlying9
 a9 := Tryd.isAgg9
 z9 := Tryd.sizeOf9
 v9 := Tryd.zeroValue9 }
def Tryd.lays137_ren : Go.Shelf.Ren := ⟨fun | 137 => 57 | 217 => 95 | 266 => 122 | n => n, fun | 9 => 9 | 5 => 5 | 3 => 3 | n => n, fun | n => n⟩
theorem Tryd.lays137 : Go.Proofs.Lays.n137 Tryd.prog Tryd.lays137_ren := {
 mixed := by kernel_rfl
 f137 := Tryd.func57.trans (congrArg some (by kernel_rfl))
 f217 := Tryd.func95.trans (congrArg some (by kernel_rfl))
 f266 := Tryd.func122.trans (congrArg some (by kernel_rfl))
 t3 := Tryd.underlying3
 a3 := Tryd.isAgg3
 z3 := Tryd.sizeOf3
 v3 := Tryd.zeroValue3
 t5 := Tryd.underlying5
 a5 := Tryd.isAgg5
 z5 := Tryd.sizeOf5
 v5 := Tryd.zeroValue5
 t9 := Tryd.underlying9
 a9 := Tryd.isAgg9
 z9 := Tryd.sizeOf9
 v9 := Tryd.zeroValue9 }
def Tryd.lays160_ren : Go.Shelf.Ren := ⟨fun | 160 => 26 | 232 => 50 | 231 => 49 | 227 => 51 | 234 => 53 | 233 => 52 | 236 => 55 | 235 => 54 | 228 => 91 | 271 => 94 | 151 => 93 | 197 => 92 | 120 => 121 | 152 => 120 | 260 => 119 | 137 => 57 | 119 => 132 | 224 => 108 | 225 => 107 | 217 => 95 | 266 => 122 | n => n, fun | 9 => 9 | 4 => 4 | 3 => 3 | 5 => 5 | 117 => 72 | 116 => 71 | 0 => 0 | 124 => 75 | 21 => 21 | 105 => 116 | 46 => 54 | 119 => 131 | 139 => 152 | 138 => 151 | n => n, fun | 3 => 4 | 4 => 5 | n => n⟩
theorem Tryd.lays160 : Go.Proofs.Lays.n160 Tryd.prog Tryd.lays160_ren := {
 mixed := by kernel_rfl
 f119 := Tryd.func132.trans (congrArg some (by kernel_rfl))
 f120 := Tryd.func121.trans (congrArg some (by kernel_rfl))
 f137 := Tryd.func57.trans (congrArg some (by kernel_rfl))
 f151 := Tryd.func93.trans (congrArg some (by kernel_rfl))
 f152 := Tryd.func120.trans (congrArg some (by kernel_rfl))
 f160 := Tryd.func26.trans (congrArg some (by kernel_rfl))
 f197 := Tryd.func92.trans (congrArg some (by kernel_rfl))
 f217 := Tryd.func95.trans (congrArg some (by kernel_rfl))
 f224 := Tryd.func108.trans (congrArg some (by kernel_rfl))
 f225 := Tryd.func107.trans (congrArg some (by kernel_rfl))
 f227 := Tryd.func51.trans (congrArg some (by kernel_rfl))
 f228 := Tryd.func91.trans (congrArg some (by kernel_rfl))
 f231 := Tryd.func49.trans (congrArg some (by kernel_rfl))
 f232 := Tryd.func50.trans (congrArg some (by kernel_rfl))
 f233 := Tryd.func52.trans (congrArg some (by kernel_rfl))
 f234 := Tryd.func53.trans (congrArg some (by kernel_rfl))
 f235 := Tryd.func54.trans (congrArg some (by kernel_rfl))
 f236 := Tryd.func55.trans (congrArg some (by kernel_rfl))
 f260 := Tryd.func119.trans (congrArg some (by kernel_rfl))
 f266 := Tryd.func122.trans (congrArg some (by kernel_rfl))
 f271 := Tryd.func94.trans (congrArg some (by kernel_rfl))
 t0 := Tryd.underlying0
 a0 := Tryd.isAgg0
 z0 := Tryd.sizeOf0
 v0 := Tryd.zeroValue0
 t3 := Tryd.underlying3
 a3 := Tryd.isAgg3
 z3 := Tryd.sizeOf3
 v3 := Tryd.zeroValue3
 t4 := Tryd.underlying4
 a4 := Tryd.isAgg4
 z4 := Tryd.sizeOf4
 v4 := Tryd.zeroValue4
 t5 := Tryd.underlying5
 a5 := Tryd.isAgg5
 z5 := Tryd.sizeOf5
 v5 := Tryd.zeroValue5
 t9 := Tryd.underlying9
 a9 := Tryd.isAgg9
 z9 := Tryd.sizeOf9
 v9 := Tryd.zeroValue9
 t21 := Tryd.underlying21
 a21 := Tryd.isAgg21
 z21 := Tryd.sizeOf21
 v21 := Tryd.zeroValue21
 t46 := Tryd.underlying54
 a46 := Tryd.isAgg54
 z46 := Tryd.sizeOf54
 v46 := Tryd.zeroValue54
 t105 := Tryd.underlying116
 a105 := Tryd.isAgg116
 z105 := Tryd.sizeOf116
 v105 := Tryd.zeroValue116
 t116 := Tryd.underlying71
 a116 := Tryd.isAgg71
 z116 := Tryd.sizeOf71
 t117 := Tryd.underlying72
 a117 := Tryd.isAgg72
 z117 := Tryd.sizeOf72
 v117 := Tryd.zeroValue72
 t119 := Tryd.underlying131
 a119 := Tryd.isAgg131
 z119 := Tryd.sizeOf131
 t124 := Tryd.underlying75
 a124 := Tryd.isAgg75
 z124 := Tryd.sizeOf75
 v124 := Tryd.zeroValue75
 t138 := Tryd.underlying151
 a138 := Tryd.isAgg151
 z138 := Tryd.sizeOf151
 v138 := Tryd.zeroValue151
 t139 := Tryd.underlying152
 a139 := Tryd.isAgg152
 z139 := Tryd.sizeOf152
 v139 := Tryd.zeroValue152
 g3 := by kernel_rfl
 g4 := by kernel_rfl }
def Tryd.lays161_ren : Go.Shelf.Ren := ⟨fun | 161 => 60 | 231 => 49 | 227 => 51 | 233 => 52 | 235 => 54 | 228 => 91 | 197 => 92 | 151 => 93 | 260 => 119 | 152 => 120 | 137 => 57 | 119 => 132 | 224 => 108 | 225 => 107 | 217 => 95 | 266 => 122 | n => n, fun | 9 => 9 | 4 => 4 | 3 => 3 | 5 => 5 | 117 => 72 | 116 => 71 | 0 => 0 | 124 => 75 | 105 => 116 | 21 => 21 | 119 => 131 | 46 => 54 | 139 => 152 | 138 => 151 | n => n, fun | 3 => 4 | 4 => 5 | n => n⟩
theorem Tryd.lays161 : Go.Proofs.Lays.n161 Tryd.prog Tryd.lays161_ren := {
 mixed := by kernel_rfl
 f119 := Tryd.func132.trans (congrArg some (by kernel_rfl))
 f137 := Tryd.func57.trans (congrArg some (by kernel_rfl))
 f151 := Tryd.func93.trans (congrArg some (by kernel_rfl))
 f152 := Tryd.func120.trans (congrArg some (by kernel_rfl))
 f161 := Tryd.func60.trans (congrArg some (by kernel_rfl))
 f197 := Tryd.func92.trans (congrArg some (by kernel_rfl))
 f217 := Tryd.func95.trans (congrArg some (by kernel_rfl))
 f224 := Tryd.func108.trans (congrArg some (by kernel_rfl))
 f225 := Tryd.func107.trans (congrArg some (by kernel_rfl))
 f227 := Tryd.func51.trans (congrArg some (by kernel_rfl))
 f228 := Tryd.func91.trans (congrArg some (by kernel_rfl))
 f231 := Tryd.func49.trans (congrArg some (by kernel_rfl))
 f233 := Tryd.func52.trans (congrArg some (by kernel_rfl))
 f235 := Tryd.func54.trans (congrArg some (by kernel_rfl))
 f260 := Tryd.func119.trans (congrArg some (by kernel_rfl))
 f266 := Tryd.func122.trans (congrArg some (by kernel_rfl))
 t0 := Tryd.underlying0
 a0 := Tryd.isAgg0
 z0 := Tryd.sizeOf0
 v0 := Tryd.zeroValue0
 t3 := Tryd.underlying3
 a3 := Tryd.isAgg3
 z3 := Tryd.sizeOf3
 v3 := Tryd.zeroValue3
 t4 := Tryd.underlying4
 a4 := Tryd.isAgg4
 z4 := Tryd.sizeOf4
 v4 := Tryd.zeroValue4
 t5 := Tryd.underlying5
 a5 := Tryd.isAgg5
 z5 := Tryd.sizeOf5
 v5 := Tryd.zeroValue5
 t9 := Tryd.underlying9
 a9 := Tryd.isAgg9
 z9 := Tryd.sizeOf9
 v9 := Tryd.zeroValue9
 t21 := Tryd.underlying21
 a21 := Tryd.isAgg21
 z21 := Tryd.sizeOf21
 v21 := Tryd.zeroValue21
 t46 := Tryd.underlying54
 a46 := Tryd.isAgg54
 z46 := Tryd.sizeOf54
 v46 := Tryd.zeroValue54
 t105 := Tryd.underlying116
 a105 := Tryd.isAgg116
 z105 := Tryd.sizeOf116
 v105 := Tryd.zeroValue116
 t116 := Tryd.underlying71
 a116 := Tryd.isAgg71
 z116 := Tryd.sizeOf71
 t117 := Tryd.underlying72
 a117 := Tryd.isAgg72
 z117 := Tryd.sizeOf72
 v117 := Tryd.zeroValue72
 t119 := Tryd.underlying131
 a119 := Tryd.isAgg131
 z119 := Tryd.sizeOf131
 t124 := Tryd.underlying75
 a124 := Tryd.isAgg75
 z124 := Tryd.sizeOf75
 v124 := Tryd.zeroValue75
 t138 := Tryd.underlying151
 a138 := Tryd.isAgg151
 z138 := Tryd.sizeOf151
 v138 := Tryd.zeroValue151
 t139 := Tryd.underlying152
 a139 := Tryd.isAgg152
 z139 := Tryd.sizeOf152
 v139 := Tryd.zeroValue152
 g3 := by kernel_rfl
 g4 := by kernel_rfl }
def Tryd.lays144_ren : Go.Shelf.Ren := ⟨fun | 144 => 43 | 143 => 36 | 219 => 70 | 217 => 95 | 225 => 107 | 224 => 108 | 267 => 109 | 266 => 122 | 314 => 128 | n => n, fun | 9 => 9 | 4 => 4 | 3 => 3 | 5 => 5 | 46 => 54 | 146 => 134 | 51 => 107 | n => n, fun | 1 => 1 | n => n⟩
theorem Tryd.lays144 : Go.Proofs.Lays.n144 Tryd.prog Tryd.lays144_ren := {
 mixed := by kernel_rfl
 f143 := Tryd.func36.trans (congrArg some (by kernel_rfl))
 f144 := Tryd.func43.trans (congrArg some (by kernel_rfl))
 f217 := Tryd.func95.trans (congrArg some (by kernel_rfl))
 f219 := Tryd.func70.trans (congrArg some (by kernel_rfl))
 f224 := Tryd.func108.trans (congrArg some (by kernel_rfl))
 f225 := Tryd.func107.trans (congrArg some (by kernel_rfl))
 f266 := Tryd.func122.trans (congrArg some (by kernel_rfl))
 f267 := Tryd.func109.trans (congrArg some (by kernel_rfl))
 f314 := Tryd.func128.trans (congrArg some (by kernel_rfl))
 t3 := Tryd.underlying3
 a3 := Tryd.isAgg3
 z3 := Tryd.sizeOf3
 v3 := Tryd.zeroValue3
 t4 := Tryd.underlying4
 a4 := Tryd.isAgg4
 z4 := Tryd.sizeOf4
 v4 := Tryd.zeroValue4
 t5 := Tryd.underlying5
 a5 := Tryd.isAgg5
 z5 := Tryd.sizeOf5
 v5 := Tryd.zeroValue5
 t9 := Tryd.underlying9
 a9 := Tryd.isAgg9
 z9 := Tryd.sizeOf9
 v9 := Tryd.zeroValue9
 t46 := Tryd.underlying54
 a46 := Tryd.isAgg54
 z46 := Tryd.sizeOf54
 v46 := Tryd.zeroValue54
 t51 := Tryd.underlying107
 a51 := Tryd.isAgg107
 z51 := Tryd.sizeOf107
 v51 := Tryd.zeroValue107
 t146 := Tryd.underlying134
 a146 := Tryd.isAgg134
 z146 := Tryd.sizeOf134
 v146 := Tryd.zeroValue134
 g1 := by kernel_rfl }
end Go.Proofs
namespace Go.Proofs.YtnhmmjogfkjceaaDoor
open Go.Sl Go.RowKit
variable {W0 : World} {σ : Heaplet}
theorem str_lz32 (x : Int) (h : 0 ≤ x ∧ x < 4294967296) : SC Tryd.prog W0 125 #[.int .u32 x] σ (Ret (fun _ : Unit => σ) (fun v _ => v = .int .i64 (32 - (Lib.bitLen x.toNat : Int)))) := by
 refine SC.of_below fun w hb => ?_
 refine (Any.bits_LeadingZeros32 Tryd.lays133 x w h.1 (by omega)).mono ?_
 rintro e w' ⟨rfl, rfl⟩
 exact ⟨_, rfl, Below.refl _ _, rfl⟩
theorem str_lz64 (x : Int) (h : 0 ≤ x ∧ x < 18446744073709551616) : SC Tryd.prog W0 96 #[.int .u64 x] σ (Ret (fun _ : Unit => σ) (fun v _ => v = .int .i64 (64 - (Lib.bitLen x.toNat : Int)))) := by
 refine SC.of_below fun w hb => ?_
 refine (Any.bits_LeadingZeros64 Tryd.lays134 x w h.1 (by omega)).mono ?_
 rintro e w' ⟨rfl, rfl⟩
 exact ⟨_, rfl, Below.refl _ _, rfl⟩
theorem str_HasPrefix (l p : List UInt8) : SC Tryd.prog W0 27 #[.string (bS l), .string (bS p)] σ (Ret (fun _ : Unit => σ) (fun v _ => v = .bool (Lib.hasPrefix l p))) := by
 refine SC.of_below fun w hb => ?_
 refine (Any.strings_HasPrefix Tryd.lays99 (bS l) (bS p) w).mono ?_
 rintro e w' ⟨rfl, rfl⟩
 exact ⟨_, rfl, Below.refl _ _, by rw [bS_list, bS_list]⟩
theorem str_IndexByte (l : List UInt8) (c : UInt8) : SC Tryd.prog W0 57 #[.string (bS l), .int .u8 (c.toNat : Int)] σ (Ret (fun _ : Unit => σ) (fun v _ => v = .int .i64 (Lib.indexByte l c))) := by
 refine SC.of_below fun w hb => ?_
 refine (Any.strings_IndexByte Tryd.lays137 (bS l) (c.toNat : Int) w).mono ?_
 rintro e w' ⟨rfl, rfl⟩
 exact ⟨_, rfl, Below.refl _ _, by rw [bS_list, Int.toNat_natCast]; simp⟩
theorem str_TrimLeft (l cs : List UInt8) (hc : cs.length < 4294967281) (ha : cs.all (fun b => decide (b.toNat < 128)) = true) : SC Tryd.prog W0 60 #[.string (bS l), .string (bS cs)] σ (Ret (fun _ : Unit => σ) (fun v _ => v = .string (bS (Lib.trimLeftS l cs)))) := by
 refine SC.of_below fun w hb => ?_
 refine (Any.strings_TrimLeft_laid Tryd.lays161 (by kernel_rfl) (bS l) (bS cs) w (by rw [bS_size]; exact hc) (by rw [bS_list]; exact ascii_of_all ha)).mono ?_
 rintro e w' ⟨rfl, hw⟩
 exact ⟨_, rfl, hw, by rw [bS_list, bS_list]⟩
theorem str_Trim (l cs : List UInt8) (hl : l.length ≤ 9223372036854775807) (hc : cs.length < 4294967281) (ha : cs.all (fun b => decide (b.toNat < 128)) = true) : SC Tryd.prog W0 26 #[.string (bS l), .string (bS cs)] σ (Ret (fun _ : Unit => σ) (fun v _ => v = .string (bS (Lib.trimS l cs)))) := by
 refine SC.of_below fun w hb => ?_
 refine (Any.strings_Trim_laid Tryd.lays160 (by kernel_rfl) (bS l) (bS cs) w (by rw [bS_size]; exact hl) (by rw [bS_size]; exact hc) (by rw [bS_list]; exact ascii_of_all ha)).mono ?_
 rintro e w' ⟨rfl, hw⟩
 exact ⟨_, rfl, hw, by rw [bS_list, bS_list]⟩
theorem str_Contains1 (l : List UInt8) (c : UInt8) : SC Tryd.prog W0 43 #[.string (bS l), .string (bS [c])] σ (Ret (fun _ : Unit => σ) (fun v _ => v = .bool (decide (0 ≤ Lib.indexByte l c)))) := by
 refine SC.of_below fun w hb => ?_
 refine (Any.strings_Contains_one Tryd.lays144 (bS l) c w).mono ?_
 rintro e w' ⟨rfl, rfl⟩
 exact ⟨_, rfl, Below.refl _ _, by rw [bS_list]⟩
end Go.Proofs.YtnhmmjogfkjceaaDoor
namespace Go.Proofs
open Go.Shelf
def Tryd.laysM143_ren : Go.Shelf.Ren := ⟨fun | 143 => 36 | 219 => 70 | 217 => 95 | 225 => 107 | 224 => 108 | 267 => 109 | 266 => 122 | 314 => 128 | n => n, fun | 9 => 9 | 3 => 3 | 4 => 4 | 5 => 5 | 46 => 54 | 146 => 134 | 51 => 107 | n => n, fun | 1 => 1 | n => n⟩
theorem Tryd.laysM143 : Go.Proofs.LaysM.n143 Tryd.prog Tryd.laysM143_ren := {
 mixed := by kernel_rfl
 f143 := Tryd.func36.trans (congrArg some (by kernel_rfl))
 f217 := Tryd.func95.trans (congrArg some (by kernel_rfl))
 f219 := Tryd.func70.trans (congrArg some (by kernel_rfl))
 f224 := Tryd.func108.trans (congrArg some (by kernel_rfl))
 f225 := Tryd.func107.trans (congrArg some (by kernel_rfl))
 f266 := Tryd.func122.trans (congrArg some (by kernel_rfl))
 f267 := Tryd.func109.trans (congrArg some (by kernel_rfl))
 f314 := Tryd.func128.trans (congrArg some (by kernel_rfl))
 t3 := Tryd.underlying3
 a3 := Tryd.isAgg3
 z3 := Tryd.sizeOf3
 v3 := Tryd.zeroValue3
 t4 := Tryd.underlying4
 a4 := Tryd.isAgg4
 z4 := Tryd.sizeOf4
 v4 := Tryd.zeroValue4
 t5 := Tryd.underlying5
 a5 := Tryd.isAgg5
 z5 := Tryd.sizeOf5
 v5 := Tryd.zeroValue5
 t9 := Tryd.underlying9
 a9 := Tryd.isAgg9
 z9 := Tryd.sizeOf9
 v9 := Tryd.zeroValue9
 t46 := Tryd.underlying54
 a46 := Tryd.isAgg54
 z46 := Tryd.sizeOf54
 v46 := Tryd.zeroValue54
 t51 := Tryd.underlying107
 a51 := Tryd.isAgg107
 z51 := Tryd.sizeOf107
 v51 := Tryd.zeroValue107
 t146 := Tryd.underlying134
 a146 := Tryd.isAgg134
 z146 := Tryd.sizeOf134
 v146 := Tryd.zeroValue134
 g1 := by kernel_rfl
 i3 := by kernel_rfl
 i4 := by kernel_rfl
 i5 := by kernel_rfl
 i9 := by kernel_rfl
 i46 := by kernel_rfl
 i51 := by kernel_rfl
 i146 := by kernel_rfl
 m1 := by kernel_rfl
 s1_3 := fun w h => Go.Proofs.cell_of_shapedOpen_int (zero := #[.int .i64 0]) (t := 3) h (of_decide_eq_true (by kernel_rfl)) (by kernel_rfl) rfl (by kernel_rfl) (by kernel_rfl) Tryd.underlying3 }
def Tryd.laysM144_ren : Go.Shelf.Ren := ⟨fun | 144 => 43 | 143 => 36 | 219 => 70 | 217 => 95 | 225 => 107 | 224 => 108 | 267 => 109 | 266 => 122 | 314 => 128 | n => n, fun | 9 => 9 | 4 => 4 | 3 => 3 | 5 => 5 | 46 => 54 | 146 => 134 | 51 => 107 | n => n, fun | 1 => 1 | n => n⟩
theorem Tryd.laysM144 : Go.Proofs.LaysM.n144 Tryd.prog Tryd.laysM144_ren := {
 mixed := by kernel_rfl
 f143 := Tryd.func36.trans (congrArg some (by kernel_rfl))
 f144 := Tryd.func43.trans (congrArg some (by kernel_rfl))
 f217 := Tryd.func95.trans (congrArg some (by kernel_rfl))
 f219 := Tryd.func70.trans (congrArg some (by kernel_rfl))
 f224 := Tryd.func108.trans (congrArg some (by kernel_rfl))
 f225 := Tryd.func107.trans (congrArg some (by kernel_rfl))
 f266 := Tryd.func122.trans (congrArg some (by kernel_rfl))
 f267 := Tryd.func109.trans (congrArg some (by kernel_rfl))
 f314 := Tryd.func128.trans (congrArg some (by kernel_rfl))
 t3 := Tryd.underlying3
 a3 := Tryd.isAgg3
 z3 := Tryd.sizeOf3
 v3 := Tryd.zeroValue3
 t4 := Tryd.underlying4
 a4 := Tryd.isAgg4
 z4 := Tryd.sizeOf4
 v4 := Tryd.zeroValue4
 t5 := Tryd.underlying5
 a5 := Tryd.isAgg5
 z5 := Tryd.sizeOf5
 v5 := Tryd.zeroValue5
 t9 := Tryd.underlying9
 a9 := Tryd.isAgg9
 z9 := Tryd.sizeOf9
 v9 := Tryd.zeroValue9
 t46 := Tryd.underlying54
 a46 := Tryd.isAgg54
 z46 := Tryd.sizeOf54
 v46 := Tryd.zeroValue54
 t51 := Tryd.underlying107
 a51 := Tryd.isAgg107
 z51 := Tryd.sizeOf107
 v51 := Tryd.zeroValue107
 t146 := Tryd.underlying134
 a146 := Tryd.isAgg134
 z146 := Tryd.sizeOf134
 v146 := Tryd.zeroValue134
 g1 := by kernel_rfl
 i3 := by kernel_rfl
 i4 := by kernel_rfl
 i5 := by kernel_rfl
 i9 := by kernel_rfl
 i46 := by kernel_rfl
 i51 := by kernel_rfl
 i146 := by kernel_rfl
 m1 := by kernel_rfl
 s1_3 := fun w h => Go.Proofs.cell_of_shapedOpen_int (zero := #[.int .i64 0]) (t := 3) h (of_decide_eq_true (by kernel_rfl)) (by kernel_rfl) rfl (by kernel_rfl) (by kernel_rfl) Tryd.underlying3 }
def Tryd.laysM157_ren : Go.Shelf.Ren := ⟨fun | 157 => 76 | 229 => 112 | 199 => 113 | 261 => 130 | 311 => 134 | 312 => 135 | n => n, fun | 9 => 9 | 31 => 48 | 3 => 3 | 5 => 5 | 4 => 4 | 119 => 131 | 0 => 0 | 40 => 42 | 152 => 144 | 21 => 21 | 154 => 146 | 51 => 107 | 141 => 148 | 196 => 158 | 193 => 155 | 198 => 161 | 49 => 159 | 194 => 156 | 201 => 164 | 226 => 166 | 46 => 54 | 227 => 167 | n => n, fun | 0 => 2 | 6 => 3 | n => n⟩
theorem Tryd.laysM157 : Go.Proofs.LaysM.n157 Tryd.prog Tryd.laysM157_ren := {
 mixed := by kernel_rfl
 f157 := Tryd.func76.trans (congrArg some (by kernel_rfl))
 f199 := Tryd.func113.trans (congrArg some (by kernel_rfl))
 f229 := Tryd.func112.trans (congrArg some (by kernel_rfl))
 f261 := Tryd.func130.trans (congrArg some (by kernel_rfl))
 f311 := Tryd.func134.trans (congrArg some (by kernel_rfl))
 f312 := Tryd.func135.trans (congrArg some (by kernel_rfl))
 t0 := Tryd.underlying0
 a0 := Tryd.isAgg0
 z0 := Tryd.sizeOf0
 v0 := Tryd.zeroValue0
 t3 := Tryd.underlying3
 a3 := Tryd.isAgg3
 z3 := Tryd.sizeOf3
 v3 := Tryd.zeroValue3
 t4 := Tryd.underlying4
 a4 := Tryd.isAgg4
 z4 := Tryd.sizeOf4
 v4 := Tryd.zeroValue4
 t5 := Tryd.underlying5
 a5 := Tryd.isAgg5
 z5 := Tryd.sizeOf5
 v5 := Tryd.zeroValue5
 t9 := Tryd.underlying9
 a9 := Tryd.isAgg9
 z9 := Tryd.sizeOf9
 v9 := Tryd.zeroValue9
 t21 := Tryd.underlying21
 a21 := Tryd.isAgg21
 z21 := Tryd.sizeOf21
 v21 := Tryd.zeroValue21
 t31 := Tryd.underlying48
 a31 := Tryd.isAgg48
 z31 := Tryd.sizeOf48
 v31 := Tryd.zeroValue48
 t40 := Tryd.underlying42
 a40 := Tryd.isAgg42
 z40 := Tryd.sizeOf42
 v40 := Tryd.zeroValue42
 t46 := Tryd.underlying54
 a46 := Tryd.isAgg54
 z46 := Tryd.sizeOf54
 v46 := Tryd.zeroValue54
 t49 := Tryd.underlying159
 a49 := Tryd.isAgg159
 z49 := Tryd.sizeOf159
 v49 := Tryd.zeroValue159
 t51 := Tryd.underlying107
 a51 := Tryd.isAgg107
 z51 := Tryd.sizeOf107
 v51 := Tryd.zeroValue107
 t119 := Tryd.underlying131
 a119 := Tryd.isAgg131
 z119 := Tryd.sizeOf131
 t141 := Tryd.underlying148
 a141 := Tryd.isAgg148
 z141 := Tryd.sizeOf148
 v141 := Tryd.zeroValue148
 t152 := Tryd.underlying144
 a152 := Tryd.isAgg144
 z152 := Tryd.sizeOf144
 v152 := Tryd.zeroValue144
 t154 := Tryd.underlying146
 a154 := Tryd.isAgg146
 z154 := Tryd.sizeOf146
 v154 := Tryd.zeroValue146
 t193 := Tryd.underlying155
 a193 := Tryd.isAgg155
 z193 := Tryd.sizeOf155
 v193 := Tryd.zeroValue155
 t194 := Tryd.underlying156
 a194 := Tryd.isAgg156
 z194 := Tryd.sizeOf156
 v194 := Tryd.zeroValue156
 t196 := Tryd.underlying158
 a196 := Tryd.isAgg158
 z196 := Tryd.sizeOf158
 v196 := Tryd.zeroValue158
 t198 := Tryd.underlying161
 a198 := Tryd.isAgg161
 z198 := Tryd.sizeOf161
 v198 := Tryd.zeroValue161
 t201 := Tryd.underlying164
 a201 := Tryd.isAgg164
 z201 := Tryd.sizeOf164
 v201 := Tryd.zeroValue164
 t226 := Tryd.underlying166
 a226 := Tryd.isAgg166
 z226 := Tryd.sizeOf166
 v226 := Tryd.zeroValue166
 t227 := Tryd.underlying167
 a227 := Tryd.isAgg167
 z227 := Tryd.sizeOf167
 v227 := Tryd.zeroValue167
 g0 := by kernel_rfl
 g6 := by kernel_rfl
 i0 := by kernel_rfl
 i3 := by kernel_rfl
 i4 := by kernel_rfl
 i5 := by kernel_rfl
 i9 := by kernel_rfl
 i21 := by kernel_rfl
 i31 := by kernel_rfl
 i40 := by kernel_rfl
 i46 := by kernel_rfl
 i49 := by kernel_rfl
 i51 := by kernel_rfl
 i141 := by kernel_rfl
 i152 := by kernel_rfl
 i154 := by kernel_rfl
 i193 := by kernel_rfl
 i194 := by kernel_rfl
 i196 := by kernel_rfl
 i198 := by kernel_rfl
 i201 := by kernel_rfl
 i226 := by kernel_rfl
 i227 := by kernel_rfl
 m0 := by kernel_rfl
 m6 := by kernel_rfl }
end Go.Proofs
namespace Go.Proofs.YtnhmmjogfkjceaaDoor
open Go.Sl Go.RowKit
structure LaidL (W0 : World) : Prop where
  max : ∃ m, ∀ w, Below W0.heap.size W0 w → w.cell? ⟨Tryd.laysM143_ren.g 1, 0, none⟩ = some (.int .i64 m)
  tab : ∀ w, Below W0.heap.size W0 w → Lib.TabIs Tryd.prog w "strings.asciiSpace" .u8 Lib.asciiSpaceTab
variable {W0 : World} {σ : Heaplet}
theorem str_Index (hL : LaidL W0) (l p : List UInt8) (hl : l.length < 4294967281) : SC Tryd.prog W0 36 #[.string (bS l), .string (bS p)] σ (Ret (fun _ : Unit => σ) (fun v _ => v = .int .i64 (Lib.index l p))) := by
 refine SC.of_below fun w hb => ?_
 obtain ⟨m, hm⟩ := hL.max
 refine (Any.strings_Index { Tryd.laysM143 with } (bS l) (bS p) m w (by rw [bS_size]; exact hl) (hm w hb)).mono ?_
 rintro e w' ⟨rfl, rfl⟩
 exact ⟨_, rfl, Below.refl _ _, by rw [bS_list, bS_list]⟩
theorem str_Contains (hL : LaidL W0) (l p : List UInt8) (hl : l.length < 4294967281) : SC Tryd.prog W0 43 #[.string (bS l), .string (bS p)] σ (Ret (fun _ : Unit => σ) (fun v _ => v = .bool (Lib.contains l p))) := by
 refine SC.of_below fun w hb => ?_
 obtain ⟨m, hm⟩ := hL.max
 refine (Any.strings_Contains { Tryd.laysM144 with } (bS l) (bS p) m w (by rw [bS_size]; exact hl) (hm w hb)).mono ?_
 rintro e w' ⟨rfl, rfl⟩
 exact ⟨_, rfl, Below.refl _ _, by rw [bS_list, bS_list]⟩
theorem str_Fields (hL : LaidL W0) (l : List UInt8) (hl : l.length < 4294967281) (ha : l.all (fun b => decide (b.toNat < 128)) = true) :
   SC Tryd.prog W0 76 #[.string (bS l)] [] (Ret (fun b : Nat => [(b, .txt ((Lib.fields l).map fun q => Value.string (bS q)))]) (fun v b => v = .slice (some ⟨b, 0, none⟩) (Lib.fields l).length (Lib.fields l).length)) := by
 intro w h2
 refine (Any.strings_Fields_laid Tryd.laysM157 (bS l) w (by rw [bS_size]; exact hl) (fun j b hj => by rw [bS_list] at hj; exact ascii_of_all ha j b hj) (hL.tab w h2.below)).mono ?_
 rintro e w' ⟨rfl, rfl⟩
 rw [bS_list]
 exact ⟨_, [(w.heap.size, .txt ((Lib.fields l).map fun q => Value.string (bS q)))], rfl, h2.alloc (by show Array.toList _ = _; simp), (Upd.refl w _).alloc _ _, w.heap.size, Own.refl _, rfl⟩
end Go.Proofs.YtnhmmjogfkjceaaDoor
namespace Go.Proofs.YtnhmmjogfkjceaaDoor
open Go.Sl
def mixM (n l : List Int) (i : Nat) : List Int := n.take i ++ l.drop i
theorem mixM_zero (n l : List Int) : mixM n l 0 = l := by simp [mixM]
theorem mixM_len {n l : List Int} {i : Nat} (hn : n.length = l.length) (hi : i ≤ l.length) : (mixM n l i).length = l.length := by
 unfold mixM; rw [List.length_append, List.length_take, List.length_drop]; omega
theorem mixM_at {n l : List Int} {i : Nat} (hn : n.length = l.length) (hi : i < l.length) : (mixM n l i)[i]? = l[i]? := by
 unfold mixM
 rw [List.getElem?_append_right (by rw [List.length_take]; omega), List.length_take, Nat.min_eq_left (by omega), List.getElem?_drop]
 simp
theorem mixM_end {n l : List Int} (hn : n.length = l.length) : mixM n l l.length = n := by
 unfold mixM; rw [List.drop_length, List.append_nil, ← hn, List.take_length]
theorem mixM_step {n l : List Int} {i : Nat} {v : Int} (hn : n.length = l.length) (hv : n[i]? = some v) : (mixM n l i).set i v = mixM n l (i + 1) := by
 have hi := (List.getElem?_eq_some_iff.1 hv).1
 apply List.ext_getElem?
 intro j
 have h1 : (n.take i).length = i := by rw [List.length_take]; omega
 have h2 : (n.take (i + 1)).length = i + 1 := by rw [List.length_take]; omega
 by_cases hj : j = i
 · subst hj
   rw [List.getElem?_set_self (by rw [mixM_len hn (by omega)]; omega)]
   unfold mixM
   rw [List.getElem?_append_left (by omega), List.getElem?_take_of_lt (by omega), hv]
 · rw [List.getElem?_set_ne (fun z => hj z.symm)]
   unfold mixM
   by_cases hlt : j < i
   · rw [List.getElem?_append_left (by omega), List.getElem?_append_left (by omega), List.getElem?_take_of_lt hlt, List.getElem?_take_of_lt (by omega)]
   · rw [List.getElem?_append_right (by omega), List.getElem?_append_right (by omega), h1, h2, List.getElem?_drop, List.getElem?_drop]
     congr 1; omega
theorem lessL_at : ∀ {l m : List Int} {i : Nat} {x b : Int}, l[i]? = some x → (lessL l m b)[i]? = some ((x - (lessB (l.take i) m b + m[i]?.getD 0)) % 4294967296)
 | [], m, i, x, b, h => by simp at h
 | z :: r, m, 0, x, b, h => by
   simp at h; subst h
   cases m <;> simp [lessL, lessB]
 | z :: r, m, i + 1, x, b, h => by
   show (lessL r m.tail (if z < b + m.headD 0 then 1 else 0))[i]? = _
   rw [lessL_at (l := r) (m := m.tail) (i := i) (x := x) (by simpa using h)]
   cases m <;> simp [lessB]
theorem lessB_step : ∀ {l m : List Int} {i : Nat} {x b : Int}, l[i]? = some x → lessB (l.take (i + 1)) m b = if x < lessB (l.take i) m b + m[i]?.getD 0 then 1 else 0
 | [], m, i, x, b, h => by simp at h
 | z :: r, m, 0, x, b, h => by
   simp at h; subst h
   cases m <;> simp [lessB]
 | z :: r, m, i + 1, x, b, h => by
   have := lessB_step (l := r) (m := m.tail) (i := i) (x := x) (b := if z < b + m.headD 0 then 1 else 0) (by simpa using h)
   cases m <;> simpa [lessB] using this
theorem less_wrap (x z : Int) : IntKind.wrap .u32 (x - IntKind.wrap .u32 z) = (x - z) % 4294967296 := by rw [wrap_u32, wrap_u32]; omega
theorem less_y {l m : List Int} {i : Nat} {x y c : Int} (hx : l[i]? = some x) (hy : m[i]? = some y) (hc : c = lessB (l.take i) m 0) :
   (mixM (lessL l m 0) l i).set i (IntKind.wrap .u32 (x - IntKind.wrap .u32 (c + y))) = mixM (lessL l m 0) l (i + 1) ∧ (x < c + y → 1 = lessB (l.take (i + 1)) m 0) ∧ (¬ x < c + y → 0 = lessB (l.take (i + 1)) m 0) := by
 refine ⟨mixM_step (lessL_len ..) ?_, fun h => ?_, fun h => ?_⟩
 · rw [lessL_at hx, hy, less_wrap, hc]; rfl
 · rw [lessB_step hx, hy, ← hc]; exact (if_pos h).symm
 · rw [lessB_step hx, hy, ← hc]; exact (if_neg h).symm
theorem less_n {l m : List Int} {i : Nat} {x c : Int} (hx : l[i]? = some x) (hy : m.length ≤ i) (hc : c = lessB (l.take i) m 0) :
   (mixM (lessL l m 0) l i).set i (IntKind.wrap .u32 (x - IntKind.wrap .u32 c)) = mixM (lessL l m 0) l (i + 1) ∧ (x < c → 1 = lessB (l.take (i + 1)) m 0) ∧ (¬ x < c → 0 = lessB (l.take (i + 1)) m 0) := by
 have e : m[i]? = none := List.getElem?_eq_none hy
 refine ⟨mixM_step (lessL_len ..) ?_, fun h => ?_, fun h => ?_⟩
 · rw [lessL_at hx, e, less_wrap, hc]; simp
 · rw [lessB_step hx, e, ← hc]; simp [h]
 · rw [lessB_step hx, e, ← hc]; simp [h]
theorem pow_mono10 {a i n : Nat} (h : i ≤ n) : a * 10 ^ i ≤ a * 10 ^ n := Nat.mul_le_mul_left _ (Nat.pow_le_pow_right (by decide) h)
theorem ofD_app (l : Bytes) (c : UInt8) : ofD (l ++ [c]) = ofD l * 10 + (c.toNat - 48) := by simp [ofD, List.foldl_append]
theorem ofD_step {X : Bytes} {i : Nat} {c : UInt8} (h : X[i]? = some c) : ofD (X.take (i + 1)) = ofD (X.take i) * 10 + (c.toNat - 48) := by
 rw [List.take_add_one, h]; exact ofD_app _ _
theorem ofD_ge : ∀ (l : Bytes) (a : Nat), a ≤ l.foldl (fun a c => a * 10 + (c.toNat - 48)) a
 | [], a => Nat.le_refl _
 | c :: r, a => Nat.le_trans (by omega) (ofD_ge r (a * 10 + (c.toNat - 48)))
theorem ofD_take_le (X : Bytes) (i : Nat) : ofD (X.take i) ≤ ofD X := by
 have h : ofD X = (X.drop i).foldl (fun a c => a * 10 + (c.toNat - 48)) (ofD (X.take i)) := by
   conv => lhs; rw [← List.take_append_drop i X]
   unfold ofD; rw [List.foldl_append]
 rw [h]; exact ofD_ge _ _
end Go.Proofs.YtnhmmjogfkjceaaDoor
namespace Go.Proofs.YtnhmmjogfkjceaaDoor
open Go.Sl
def clampE (e : Int) : Int := min (max e (-5000)) 5000
theorem clampE_in (e : Int) : -5000 ≤ clampE e ∧ clampE e ≤ 5000 := by unfold clampE; omega
theorem clampE_eq (e : Int) : (if 5000 < (if -5000 > e then -5000 else e) then 5000 else (if -5000 > e then -5000 else e)) = clampE e := by
 unfold clampE; split <;> split <;> omega
theorem and1_64 (m : Nat) (h : m < 18446744073709551616) : IntKind.wrap .u64 ((BitVec.ofInt 64 (m : Int) &&& BitVec.ofInt 64 1).toNat) = ((m % 2 : Nat) : Int) := by
 rw [BitVec.toNat_and, show (BitVec.ofInt 64 1).toNat = 2 ^ 1 - 1 by decide, Nat.and_two_pow_sub_one_eq_mod, BitVec.toNat_ofInt]
 have : (((m : Int) % ((2 ^ 64 : Nat) : Int)).toNat) = m := by omega
 rw [this]
 simp [IntKind.wrap, IntKind.bits, IntKind.signed]
 omega
theorem formNear_hi {m : Nat} {e : Int} {h : Bool} (h1 : e + 63 > 1023) : formNear m e h = 9218868437227405312 := by unfold formNear; rw [if_pos h1]
theorem formNear_lo {m : Nat} {e : Int} {h : Bool} (h2 : e + 63 + 1023 < 1) (h3 : 12 - (e + 63 + 1023) > 64) : formNear m e h = 0 := by
 unfold formNear; rw [if_neg (by omega)]; simp only [if_pos h2]; rw [if_pos h3]
abbrev upIf (R M : Nat) (h : Bool) : Prop := R > 9223372036854775808 ∨ (R = 9223372036854775808 ∧ (h = true ∨ M % 2 = 1))
theorem formNear_d {m M R : Nat} {e : Int} {h : Bool} (h2 : e + 63 + 1023 < 1) (h3 : ¬ 12 - (e + 63 + 1023) > 64) (hM : M = m / 2 ^ (12 - (e + 63 + 1023)).toNat) (hR : R = m * 2 ^ (64 - (12 - (e + 63 + 1023)).toNat) % 18446744073709551616) :
   (formNear m e h : Int) = ((if upIf R M h then M + 1 else M : Nat) : Int) := by
 unfold formNear; rw [if_neg (by omega)]; simp only [if_pos h2]; rw [if_neg h3, ← hM, ← hR]; simp
theorem formNear_n {m M R : Nat} {e : Int} {h : Bool} (h1 : ¬ e + 63 > 1023) (h2 : ¬ e + 63 + 1023 < 1) (hM : M = m / 2 ^ 11) (hR : R = m * 2 ^ 53 % 18446744073709551616) :
   (formNear m e h : Int) = (e + 63 + 1023 - 1) * 4503599627370496 + ((if upIf R M h then M + 1 else M : Nat) : Int) := by
 unfold formNear; rw [if_neg h1]; simp only [if_neg h2]; rw [if_neg (by decide)]
 rw [show (11 : Int).toNat = 11 from rfl, show 64 - 11 = 53 from rfl, ← hM, ← hR]
 generalize (if R > 9223372036854775808 ∨ (R = 9223372036854775808 ∧ (h = true ∨ M % 2 = 1)) then M + 1 else M : Nat) = r
 omega
theorem up_if {p : Prop} [Decidable p] {a : Nat} (h : p) : ((if p then a + 1 else a : Nat) : Int) = (a : Int) + 1 := by rw [if_pos h]; simp
theorem dn_if {p : Prop} [Decidable p] {a : Nat} (h : ¬ p) : ((if p then a + 1 else a : Nat) : Int) = (a : Int) := by rw [if_neg h]
theorem div_pow_lt {m s : Nat} (h : m < 18446744073709551616) (hs : 11 ≤ s) : m / 2 ^ s < 9007199254740992 := by
 rw [Nat.div_lt_iff_lt_mul (Nat.two_pow_pos s)]
 have : 2 ^ 11 ≤ 2 ^ s := Nat.pow_le_pow_right (by decide) hs
 omega
theorem one_shl {k : Nat} (h : k < 64) : IntKind.wrap .u64 ((1 : Int) * 2 ^ min (k : Int).toNat IntKind.u64.bits) = ((2 ^ k : Nat) : Int) := by
 rw [Int.toNat_natCast, show IntKind.u64.bits = 64 from rfl, Nat.min_eq_left (by omega), wrap64]
 have h1 : (1 : Int) * 2 ^ k = ((2 ^ k : Nat) : Int) := by simp
 have h2 : 2 ^ k ≤ 2 ^ 63 := Nat.pow_le_pow_right (by decide) (by omega)
 rw [h1]
 generalize 2 ^ k = z at *
 omega
theorem or_half {m k : Nat} (hk : 0 < k) (h : m * 2 ^ k + 2 ^ (k - 1) < 18446744073709551616) : IntKind.wrap .u64 ((BitVec.ofInt 64 ((m * 2 ^ k : Nat) : Int) ||| BitVec.ofInt 64 ((2 ^ (k - 1) : Nat) : Int)).toNat) = ((m * 2 ^ k + 2 ^ (k - 1) : Nat) : Int) := by
 rw [show (BitVec.ofInt 64 ((m * 2 ^ k : Nat) : Int) ||| BitVec.ofInt 64 ((2 ^ (k - 1) : Nat) : Int)) = (BitVec.ofInt 64 ((2 ^ (k - 1) : Nat) : Int) ||| BitVec.ofInt 64 ((m * 2 ^ k : Nat) : Int)) from BitVec.or_comm _ _]
 exact or_apart64 (Nat.pow_lt_pow_right (by decide) (by omega)) h
theorem lz_one : (64 - (Lib.bitLen (1 : Int).toNat : Int)) = 63 := by decide
theorem bitsN_le64 {m : Nat} (h : m < 18446744073709551616) : bitsN m ≤ 64 := by
 by_cases h0 : m = 0
 · rw [h0, bitsN_zero]; decide
 · have := bitsN_ge m h0
   apply Classical.byContradiction
   intro hc
   have : 2 ^ 64 ≤ 2 ^ (bitsN m - 1) := Nat.pow_le_pow_right (by decide) (by omega)
   omega
theorem lz_eq {m : Nat} (h : m < 18446744073709551616) : (64 - (Lib.bitLen (m : Int).toNat : Int)) = ((64 - bitsN m : Nat) : Int) := by
 rw [Int.toNat_natCast, bitLen_eq h]
 have := bitsN_le64 h
 omega
theorem shl_top {m : Nat} (h : m < 18446744073709551616) : m * 2 ^ (64 - bitsN m) < 18446744073709551616 := by
 have h1 := bitsN_lt m
 have h2 := bitsN_le64 h
 have : m * 2 ^ (64 - bitsN m) < 2 ^ bitsN m * 2 ^ (64 - bitsN m) := Nat.mul_lt_mul_of_pos_right h1 (Nat.two_pow_pos _)
 rw [← Nat.pow_add, show bitsN m + (64 - bitsN m) = 64 by omega] at this
 exact this
theorem shl_wrap {m k : Nat} (h : m * 2 ^ k < 18446744073709551616) (hk : k ≤ 64) : IntKind.wrap .u64 ((m : Int) * 2 ^ min (k : Int).toNat IntKind.u64.bits) = ((m * 2 ^ k : Nat) : Int) := by
 rw [Int.toNat_natCast, show IntKind.u64.bits = 64 from rfl, Nat.min_eq_left hk, wrap64]
 have : (m : Int) * 2 ^ k = ((m * 2 ^ k : Nat) : Int) := by simp
 rw [this]; omega
theorem shl_half {m k : Nat} (h : m * 2 ^ k < 18446744073709551616) (hk : 0 < k) (hk2 : k ≤ 64) : m * 2 ^ k + 2 ^ (k - 1) < 18446744073709551616 := by
 obtain ⟨j, rfl⟩ : ∃ j, k = j + 1 := ⟨k - 1, by omega⟩
 rw [Nat.add_sub_cancel]
 rw [Nat.pow_succ] at h ⊢
 by_cases hj : j = 63
 · subst hj; have : m = 0 := by omega
   subst this; decide
 · have : 2 ^ j ≤ 2 ^ 62 := Nat.pow_le_pow_right (by decide) (by omega)
   have e : m * (2 ^ j * 2) = 2 * (m * 2 ^ j) := by rw [← Nat.mul_assoc, Nat.mul_comm]
   rw [e] at h ⊢
   have h64 : (18446744073709551616 : Nat) = 2 ^ j * (2 * 2 ^ (63 - j)) := by rw [show (2 : Nat) * 2 ^ (63 - j) = 2 ^ (64 - j) by rw [show 64 - j = (63 - j) + 1 by omega, Nat.pow_succ, Nat.mul_comm], ← Nat.pow_add, show j + (64 - j) = 64 by omega]
   have h2 : 2 * (m * 2 ^ j) = 2 ^ j * (2 * m) := by rw [← Nat.mul_assoc, Nat.mul_comm]
   rw [h2, h64] at h ⊢
   have h3 : 2 * m < 2 * 2 ^ (63 - j) := Nat.lt_of_mul_lt_mul_left h
   have h4 := Nat.mul_le_mul_left (2 ^ j) (show 2 * m + 2 ≤ 2 * 2 ^ (63 - j) by omega)
   rw [Nat.mul_add] at h4
   have := Nat.two_pow_pos j
   omega
theorem near_z {e : Int} : nearN 0 e true = formNear 9223372036854775808 (clampE e - 1 - 63) false := by unfold nearN clampE; rw [if_pos ⟨rfl, rfl⟩]
theorem near_0 {e : Int} {h : Bool} (hh : h = false) : nearN 0 e h = 0 := by subst hh; unfold nearN; simp
theorem near_half {m : Nat} {e : Int} {h : Bool} (hm : m ≠ 0) (hh : h = true) (hs : 0 < 64 - bitsN m) : nearN m e h = formNear (m * 2 ^ (64 - bitsN m) + 2 ^ (64 - bitsN m - 1)) (clampE e - (64 - bitsN m : Nat)) false := by
 unfold nearN clampE; rw [if_neg (fun q => hm q.1), if_neg hm]; simp only []; rw [if_pos ⟨hh, hs⟩]
theorem near_up {m : Nat} {e : Int} {h : Bool} (hm : m ≠ 0) (hs : ¬ (h = true ∧ 0 < 64 - bitsN m)) : nearN m e h = formNear (m * 2 ^ (64 - bitsN m)) (clampE e - (64 - bitsN m : Nat)) h := by
 unfold nearN clampE; rw [if_neg (fun q => hm q.1), if_neg hm]; simp only []; rw [if_neg hs]
theorem max0_eq (z : Int) : (if 0 > z then 0 else z) = (z.toNat : Int) := by split <;> omega
theorem cmp_ge {a b : Nat} (h : cmpN a b ≥ 0) : b ≤ a := by unfold cmpN at h; split at h <;> omega
theorem cmp_nge {a b : Nat} (h : ¬ cmpN a b ≥ 0) : ¬ b ≤ a := by
 unfold cmpN at h
 split at h <;> first | omega | (split at h <;> omega)
theorem shl_one (m : Nat) : IntKind.wrap .u64 ((m : Int) * 2 ^ min (1 : Int).toNat IntKind.u64.bits) = ((m * 2 % 18446744073709551616 : Nat) : Int) := by
 rw [show min (1 : Int).toNat IntKind.u64.bits = 1 from rfl, wrap64]; omega
theorem or_one (m : Nat) : IntKind.wrap .u64 ((BitVec.ofInt 64 ((m * 2 % 18446744073709551616 : Nat) : Int) ||| BitVec.ofInt 64 1).toNat) = ((m * 2 % 18446744073709551616 + 1 : Nat) : Int) := by
 have e : m * 2 % 18446744073709551616 = (m % 9223372036854775808) * 2 ^ 1 := by omega
 rw [e, BitVec.or_comm]
 exact or_apart64 (a := m % 9223372036854775808) (b := 1) (s := 1) (by decide) (by omega)
theorem bitsN_mono {x y : Nat} (h : x ≤ y) : bitsN x ≤ bitsN y := by
 by_cases hx : x = 0
 · rw [hx, bitsN_zero]; omega
 · have h1 := bitsN_ge x hx
   have h2 := bitsN_lt y
   have h3 : bitsN x - 1 < bitsN y := (Nat.pow_lt_pow_iff_right (by decide : 1 < 2)).1 (Nat.lt_of_le_of_lt (Nat.le_trans h1 h) h2)
   omega
theorem bitsN_mul_pow (x n : Nat) : bitsN (x * 2 ^ n) ≤ bitsN x + n := by
 by_cases hx : x = 0
 · rw [hx, Nat.zero_mul, bitsN_zero]; omega
 · have := bitsN_shift (x := x) (k := n) (y := 0) hx (Nat.two_pow_pos n)
   rw [Nat.add_zero] at this; omega
theorem len_bits {x k : Nat} (h : bitsN x ≤ 32 * k) : (lim x).length ≤ k := by
 apply lim_len_lt
 rw [show (4294967296 : Nat) = 2 ^ 32 from rfl, ← Nat.pow_mul]
 exact Nat.lt_of_lt_of_le (bitsN_lt x) (Nat.pow_le_pow_right (by decide) h)
theorem len_mono {x y k : Nat} (h : x ≤ y) (hk : (lim y).length ≤ k) : (lim x).length ≤ k := Nat.le_trans (lim_len_mono h) hk
theorem divN_step1 {k p t man : Nat} (h : t ≤ p) : divN (k + 1) p t man = divN k (p - t) (t / 2) (man * 2 % 18446744073709551616 + 1) := by rw [divN, if_pos h]
theorem divN_step0 {k p t man : Nat} (h : ¬ t ≤ p) : divN (k + 1) p t man = divN k p (t / 2) (man * 2 % 18446744073709551616) := by rw [divN, if_neg h]
theorem roundN_eq {p q p' t' man : Nat} (h : divN 0 p' t' man = divN 64 (p * 2 ^ (63 - (bitsN p : Int) + (bitsN q : Int)).toNat) (q * 2 ^ (-(63 - (bitsN p : Int) + (bitsN q : Int))).toNat * 2 ^ 63) 0) :
   roundN p q = nearN man (-(63 - (bitsN p : Int) + (bitsN q : Int))) (decide (((lim p').length : Int) > 0)) := by
 unfold roundN
 simp only []
 rw [← h, divN]
 simp
end Go.Proofs.YtnhmmjogfkjceaaDoor
namespace Go.Proofs.YtnhmmjogfkjceaaDoor
open Go.Sl
theorem digs_contains (c : UInt8) : digs.contains c = isDig c := by
 have h : ∀ n : Fin 256, digs.contains (UInt8.ofNat n) = isDig (UInt8.ofNat n) := by decide
 have := h ⟨c.toNat, c.toNat_lt⟩
 simpa using this
theorem trimLeft_digs (X : Bytes) : Lib.trimLeftS X digs = X.dropWhile isDig := by
 unfold Lib.trimLeftS
 congr 1
 funext c
 exact digs_contains c
theorem take_drop_len (p : UInt8 → Bool) (X : Bytes) : X.take (X.length - (X.dropWhile p).length) = X.takeWhile p := by
 have h : X.takeWhile p ++ X.dropWhile p = X := List.takeWhile_append_dropWhile
 have hl : (X.takeWhile p).length + (X.dropWhile p).length = X.length := by rw [← List.length_append, h]
 conv => lhs; arg 2; rw [← h]
 rw [show X.length - (X.dropWhile p).length = (X.takeWhile p).length by omega, List.take_left']
 rfl
theorem dropWhile_len (p : UInt8 → Bool) (X : Bytes) : (X.dropWhile p).length ≤ X.length := (List.dropWhile_sublist p).length_le
theorem takeWhile_len (p : UInt8 → Bool) (X : Bytes) : (X.takeWhile p).length ≤ X.length := (List.takeWhile_sublist p).length_le
theorem takeWhile_all (p : UInt8 → Bool) : ∀ {X : Bytes} {c : UInt8}, c ∈ X.takeWhile p → p c = true
 | x :: r, c, h => by
   rw [List.takeWhile_cons] at h
   split at h
   · rcases List.mem_cons.1 h with q | q
     · rw [q]; assumption
     · exact takeWhile_all p q
   · cases h
theorem takeWhile_dig {X : Bytes} {c : UInt8} (h : c ∈ X.takeWhile isDig) : 48 ≤ c.toNat ∧ c.toNat ≤ 57 := by
 have := takeWhile_all isDig h
 simpa [isDig] using this
def numV (n : DecP × Bool) : Value := .tuple #[.agg #[.string (bS n.1.ahead), .string (bS n.1.behind), .int .i64 n.1.power], .bool n.2]
theorem pre_dot {D : Bytes} (h : Lib.hasPrefix D [46] = true) : ∃ r, D = 46 :: r := by
 cases D with
 | nil => simp [Lib.hasPrefix] at h
 | cons c r => simp [Lib.hasPrefix] at h; exact ⟨r, by rw [h]⟩
theorem fracP_no {D : Bytes} (h : Lib.hasPrefix D [46] = false) : fracP D = ([], D) := by
 cases D with
 | nil => rfl
 | cons c r =>
   unfold fracP
   split
   · rename_i heq; simp at heq; rw [heq.1] at h; simp [Lib.hasPrefix] at h
   · rfl
theorem fracP_len (D : Bytes) : (fracP D).1.length ≤ D.length ∧ (fracP D).2.length ≤ D.length := by
 unfold fracP
 split
 · rename_i r
   have := takeWhile_len isDig r
   have := dropWhile_len isDig r
   simp; omega
 · simp
theorem wayP_at {d : UInt8} {t : Bytes} (h : d = 43 ∨ d = 45) : wayP (d :: t) = (44 - (d.toNat : Int), t) := if_pos h
theorem wayP_no {d : UInt8} {t : Bytes} (h : ¬ (d = 43 ∨ d = 45)) : wayP (d :: t) = (1, d :: t) := if_neg h
theorem wayP_in (r : Bytes) : (wayP r).1 = 1 ∨ (wayP r).1 = -1 := by
 cases r with
 | nil => exact .inl rfl
 | cons d t =>
   by_cases h : d = 43 ∨ d = 45
   · rw [wayP_at h]; rcases h with rfl | rfl; exact .inl rfl; exact .inr rfl
   · rw [wayP_no h]; exact .inl rfl
theorem wayP_len (r : Bytes) : (wayP r).2.length ≤ r.length := by
 cases r with
 | nil => exact Nat.le_refl _
 | cons d t =>
   by_cases h : d = 43 ∨ d = 45
   · rw [wayP_at h]; simp
   · rw [wayP_no h]; exact Nat.le_refl _
theorem powN_in : ∀ (l : Bytes) (a : Int), 0 ≤ a ∧ a ≤ 1099511627776 → (∀ c ∈ l, 48 ≤ c.toNat ∧ c.toNat ≤ 57) → 0 ≤ powN a l ∧ powN a l ≤ 1099511627776
 | [], a, h, _ => h
 | c :: r, a, h, hd => powN_in r _ (by have := hd c (List.mem_cons_self ..); omega) fun x hx => hd x (List.mem_cons_of_mem _ hx)
theorem powN_app : ∀ (l m : Bytes) (a : Int), powN a (l ++ m) = powN (powN a l) m
 | [], _, _ => rfl
 | c :: r, m, a => powN_app r m _
theorem powN_step {l : Bytes} {i : Nat} {c : UInt8} (h : l[i]? = some c) : powN 0 (l.take (i + 1)) = min (powN 0 (l.take i) * 10 + ((c.toNat : Int) - 48)) 1099511627776 := by
 rw [List.take_add_one, h, powN_app]; rfl
theorem way_mul {p w : Int} (hp : 0 ≤ p ∧ p ≤ 1099511627776) (hw : w = 1 ∨ w = -1) : -1099511627776 ≤ p * w ∧ p * w ≤ 1099511627776 := by rcases hw with rfl | rfl <;> omega
section
variable {X A B R r : Bytes} {c : UInt8} (hA : X.takeWhile isDig = A) (hB : (fracP (X.dropWhile isDig)).1 = B) (hR : (fracP (X.dropWhile isDig)).2 = R)
include hA hB
theorem decP_none (h : A = [] ∧ B = []) : decP X = (⟨A, B, 0⟩, false) := by unfold decP; simp only [hA, hB, if_pos h]
include hR
theorem decP_end (h : ¬ (A = [] ∧ B = [])) (h1 : R = []) : decP X = (⟨A, B, 0⟩, true) := by unfold decP; simp only [hA, hB, hR, if_neg h, h1]
theorem decP_other (h : ¬ (A = [] ∧ B = [])) (h1 : R = c :: r) (h2 : c ≠ 101 ∧ c ≠ 69) : decP X = (⟨A, B, 0⟩, false) := by unfold decP; simp only [hA, hB, hR, if_neg h, h1, if_pos h2]
theorem decP_pow (h : ¬ (A = [] ∧ B = [])) (h1 : R = c :: r) (h2 : c = 101 ∨ c = 69) : decP X = (⟨A, B, powN 0 ((wayP r).2.takeWhile isDig) * (wayP r).1⟩, decide ((wayP r).2.takeWhile isDig ≠ [] ∧ (wayP r).2.dropWhile isDig = [])) := by
 unfold decP; simp only [hA, hB, hR, if_neg h, h1]; rw [if_neg (by rcases h2 with rfl | rfl <;> decide)]
end
theorem cons_of_at {R : Bytes} {c : UInt8} (h : R[0]? = some c) : R = c :: R.drop 1 := by
 cases R with
 | nil => simp at h
 | cons d t => simp at h; rw [h]; rfl
theorem wayP_hit {r : Bytes} {d : UInt8} (h : r[0]? = some d) (hd : d = 43 ∨ d = 45) : wayP r = (44 - (d.toNat : Int), r.drop 1) := by
 rw [cons_of_at h, wayP_at hd]; rfl
theorem wayP_miss {r : Bytes} {d : UInt8} (h : r[0]? = some d) (hd : ¬ (d = 43 ∨ d = 45)) : wayP r = (1, r) := by
 conv => lhs; rw [cons_of_at h]
 rw [wayP_no hd, ← cons_of_at h]
theorem min_if (a b : Int) : (if b < a then b else a) = min a b := by split <;> omega
theorem num_eq {A B : Bytes} {p p' : Int} {b b' : Bool} (hp : p = p') (hb : b = b') : Value.tuple #[.agg #[.string (bS A), .string (bS B), .int .i64 p], .bool b] = numV (⟨A, B, p'⟩, b') := by rw [hp, hb]; rfl
theorem u8_eq {c : UInt8} {n : Nat} (hn : n < 256) : ((c.toNat : Int) = (n : Int)) ↔ c = UInt8.ofNat n := by
 constructor
 · intro h
   apply UInt8.toNat_inj.1
   rw [UInt8.toNat_ofNat']
   omega
 · intro h; rw [h, UInt8.toNat_ofNat']; omega
end Go.Proofs.YtnhmmjogfkjceaaDoor
namespace Go.Proofs.YtnhmmjogfkjceaaDoor
open Go.Sl
theorem trimLeft_0 (X : Bytes) : Lib.trimLeftS X [48] = X.dropWhile (· == 48) := by
 unfold Lib.trimLeftS
 congr 1
 funext c
 exact Lib.contains_one 48 c
theorem dropWhile_nil_iff (p : UInt8 → Bool) : ∀ X : Bytes, X.dropWhile p = [] ↔ X.all p = true
 | [] => by simp
 | c :: r => by
   rw [List.dropWhile_cons, List.all_cons]
   by_cases h : p c = true
   · rw [if_pos h, dropWhile_nil_iff p r, h, Bool.true_and]
   · rw [if_neg h]; simp [h]
theorem trimS_nil (X : Bytes) : Lib.trimS X [48] = [] ↔ X.any (· != 48) = false := by
 have h1 : Lib.trimS X [48] = [] ↔ (Lib.trimRightS X [48]).all (· == 48) = true := by
   unfold Lib.trimS
   rw [trimLeft_0, dropWhile_nil_iff]
 rw [h1]
 unfold Lib.trimRightS
 have h2 : ([48].contains · : UInt8 → Bool) = (· == 48) := by funext c; exact Lib.contains_one 48 c
 rw [h2, List.all_reverse]
 constructor
 · intro h
   have h3 : (X.reverse.dropWhile (· == 48)) = [] := by
     cases hd : X.reverse.dropWhile (· == 48) with
     | nil => rfl
     | cons c r =>
       rw [hd, List.all_cons] at h
       have : (c == 48) = true := by simp at h; simp [h.1]
       have h4 := List.head?_dropWhile_not (· == 48) X.reverse
       rw [hd] at h4
       simp at h4 this
       exact absurd this h4
   rw [dropWhile_nil_iff, List.all_reverse] at h3
   rw [List.all_eq_true] at h3
   rw [List.any_eq_false]
   intro c hc
   have := h3 c hc
   simpa using this
 · intro h
   rw [List.any_eq_false] at h
   rw [List.all_eq_true]
   intro c hc
   have := h c (by have := (List.dropWhile_sublist _).subset hc; simpa using this)
   simpa using this
theorem cutD_more {L : Bytes} {P : Int} (h : L.length > 800) (ha : ¬ Lib.trimS (L.drop 800) [48] = []) : cutD L P = (L.take 800 ++ [49], P + ((L.length : Int) - 800) - 1) := by
 unfold cutD
 rw [if_pos h, if_pos (by rw [trimS_nil] at ha; simpa using ha), show ((L.length - 800 : Nat) : Int) = (L.length : Int) - 800 by omega]
theorem cutD_cut {L : Bytes} {P : Int} (h : L.length > 800) (ha : Lib.trimS (L.drop 800) [48] = []) : cutD L P = (L.take 800, P + ((L.length : Int) - 800)) := by
 unfold cutD
 rw [if_pos h, if_neg (by rw [trimS_nil] at ha; rw [ha]; decide), show ((L.length - 800 : Nat) : Int) = (L.length : Int) - 800 by omega]
theorem cutD_no {L : Bytes} {P : Int} (h : ¬ L.length > 800) : cutD L P = (L, P) := by unfold cutD; rw [if_neg h]
theorem cutD_facts {L : Bytes} {P : Int} (hd : ∀ c ∈ L, 48 ≤ c.toNat ∧ c.toNat ≤ 57) : (cutD L P).1.length ≤ 801 ∧ (∀ c ∈ (cutD L P).1, 48 ≤ c.toNat ∧ c.toNat ≤ 57) ∧ (P - 1 ≤ (cutD L P).2 ∧ (cutD L P).2 ≤ P + L.length) := by
 by_cases h : L.length > 800
 · by_cases ha : Lib.trimS (L.drop 800) [48] = []
   · rw [cutD_cut h ha]
     exact ⟨by simp; omega, fun c hc => hd c (List.mem_of_mem_take hc), by simp only []; omega⟩
   · rw [cutD_more h ha]
     refine ⟨by simp; omega, fun c hc => ?_, by simp only []; omega⟩
     rcases List.mem_append.1 hc with q | q
     · exact hd c (List.mem_of_mem_take q)
     · rw [List.mem_singleton.1 q]; decide
 · rw [cutD_no h]
   exact ⟨by simp only []; omega, hd, by simp only []; omega⟩
theorem ofD_lt : ∀ (n : Nat) (L : Bytes), L.length = n → (∀ c ∈ L, 48 ≤ c.toNat ∧ c.toNat ≤ 57) → ofD L < 10 ^ n := by
 intro n
 induction n with
 | zero => intro L h _; rw [List.eq_nil_of_length_eq_zero h]; decide
 | succ n ih =>
   intro L h hd
   have hl : L ≠ [] := by intro q; rw [q] at h; cases h
   have h1 := ih L.dropLast (by rw [List.length_dropLast]; omega) fun c hc => hd c (List.dropLast_subset _ hc)
   have h2 := hd _ (List.getLast_mem hl)
   rw [← List.dropLast_concat_getLast hl, ofD_app, Nat.pow_succ]
   omega
theorem bitsN_ten {x k : Nat} (h : x ≤ 10 ^ k) : bitsN x ≤ 4 * k + 1 := by
 have h1 : (10 : Nat) ^ k ≤ 2 ^ (4 * k) := by rw [Nat.pow_mul]; exact Nat.pow_le_pow_left (by decide) k
 have h2 : bitsN x ≤ bitsN (1 * 2 ^ (4 * k)) := bitsN_mono (by omega)
 have h3 := bitsN_mul_pow 1 (4 * k)
 have h4 : bitsN 1 = 1 := by rw [bitsN_pos (by decide), show 1 / 2 = 0 from rfl, bitsN_zero]
 omega
theorem ofD_tensK {K : Nat} {L : Bytes} {n : Nat} (hd : ∀ c ∈ L, 48 ≤ c.toNat ∧ c.toNat ≤ 57) (hl : L.length ≤ K) : ofD L * 10 ^ n ≤ 10 ^ (K + n) := by
 have h := ofD_lt _ L rfl hd
 rw [Nat.pow_add]
 exact Nat.mul_le_mul_right _ (Nat.le_trans (Nat.le_of_lt h) (Nat.pow_le_pow_right (by decide) hl))
theorem ofD_tens {L : Bytes} {n : Nat} (hd : ∀ c ∈ L, 48 ≤ c.toNat ∧ c.toNat ≤ 57) (hl : L.length ≤ 801) : ofD L * 10 ^ n ≤ 10 ^ (801 + n) := ofD_tensK hd hl
theorem one_tens (n : Nat) : 1 * 10 ^ n ≤ 10 ^ n := by omega
theorem nearD_none {L : Bytes} {p : Int} (h : L = [] ∨ (L.length : Int) + p < -330) : nearD L p = 0 := by unfold nearD; rw [if_pos h]
theorem nearD_inf {L : Bytes} {p : Int} (h : ¬ L = []) (h1 : ¬ (L.length : Int) + p < -330) (h2 : (L.length : Int) + p > 310) : nearD L p = 9218868437227405312 := by unfold nearD; rw [if_neg (by rintro (q | q) <;> contradiction), if_pos h2]
theorem nearD_some {L : Bytes} {p : Int} (h : ¬ L = []) (h1 : ¬ (L.length : Int) + p < -330) (h2 : ¬ (L.length : Int) + p > 310) : nearD L p = roundN (ofD L * 10 ^ p.toNat) (1 * 10 ^ (-p).toNat) := by
 unfold nearD; rw [if_neg (by rintro (q | q) <;> contradiction), if_neg h2, Nat.one_mul]
theorem nearestP_eq {A B L M : Bytes} {p P q : Int} (hL : (A ++ B).dropWhile (· == 48) = L) (hP : p - (B.length : Int) = P) (h1 : (cutD L P).1 = M) (h2 : (cutD L P).2 = q) : nearestP ⟨A, B, p⟩ = nearD M q := by
 unfold nearestP; simp only [hL, hP, h1, h2]
theorem or8 (c : UInt8) : IntKind.wrap .u8 ((BitVec.ofInt 8 (c.toNat : Int) ||| BitVec.ofInt 8 32).toNat) = ((c ||| 32).toNat : Int) := by
 have h : ∀ n : Fin 256, IntKind.wrap .u8 ((BitVec.ofInt 8 (((UInt8.ofNat n).toNat : Nat) : Int) ||| BitVec.ofInt 8 32).toNat) = (((UInt8.ofNat n) ||| 32).toNat : Int) := by decide
 have := h ⟨c.toNat, c.toNat_lt⟩
 simpa using this
theorem nib_lt (c : UInt8) : Lib.indexByte nibs c < 16 := by
 rcases Int.lt_or_le (Lib.indexByte nibs c) 0 with h | h
 · omega
 · obtain ⟨o, ho⟩ := Int.eq_ofNat_of_zero_le h
   have := (List.getElem?_eq_some_iff.1 (Lib.indexByte_some ho).1).1
   have h16 : nibs.length = 16 := rfl
   omega
theorem hexD_none {c : UInt8} (h : c.toNat < 48 ∨ Lib.indexByte nibs (c ||| 32) < 0 ∨ (Lib.indexByte nibs (c ||| 32) < 10 ∧ (c.toNat : Int) ≠ 48 + Lib.indexByte nibs (c ||| 32))) : hexD c = none := by unfold hexD; exact if_pos h
theorem hexD_some {c : UInt8} (h : ¬ (c.toNat < 48 ∨ Lib.indexByte nibs (c ||| 32) < 0 ∨ (Lib.indexByte nibs (c ||| 32) < 10 ∧ (c.toNat : Int) ≠ 48 + Lib.indexByte nibs (c ||| 32)))) : hexD c = some (Lib.indexByte nibs (c ||| 32)).toNat := by unfold hexD; exact if_neg h
theorem drop_at {X : Bytes} {i : Nat} {c : UInt8} (h : X[i]? = some c) : X.drop i = c :: X.drop (i + 1) := by
 obtain ⟨h1, h2⟩ := List.getElem?_eq_some_iff.1 h
 rw [List.drop_eq_getElem_cons h1, h2]
theorem hexGo_none {m : Nat} {x : Int} {b : Bool} {c : UInt8} {r : Bytes} (h : hexD c = none) : hexGo m x b (c :: r) = none := by unfold hexGo; rw [h]
theorem hexGo_in {m d : Nat} {x : Int} {b : Bool} {c : UInt8} {r : Bytes} (h : hexD c = some d) (h2 : m / 1152921504606846976 = 0) : hexGo m x b (c :: r) = hexGo (m * 16 + d) x b r := by
 conv => lhs; unfold hexGo
 rw [h]; exact if_pos h2
theorem hexGo_out {m d : Nat} {x : Int} {b : Bool} {c : UInt8} {r : Bytes} (h : hexD c = some d) (h2 : ¬ m / 1152921504606846976 = 0) : hexGo m x b (c :: r) = hexGo m (x + 4) (b || decide (0 < d)) r := by
 conv => lhs; unfold hexGo
 rw [h]; exact if_neg h2
theorem hexP_none {X : Bytes} (h : hexGo 0 0 false X = none) : hexP X = (0, false) := by unfold hexP; rw [h]
theorem hexP_some {X : Bytes} {m : Nat} {x : Int} {b : Bool} (h : hexGo 0 0 false X = some (m, x, b)) : hexP X = (nearN m x b, decide (X ≠ [])) := by unfold hexP; rw [h]
theorem or_nib {m d : Nat} (hm : m < 1152921504606846976) (hd : d < 16) : IntKind.wrap .u64 ((BitVec.ofInt 64 ((m * 16 : Nat) : Int) ||| BitVec.ofInt 64 (d : Int)).toNat) = ((m * 16 + d : Nat) : Int) := by
 rw [BitVec.or_comm]
 exact or_apart64 (a := m) (b := d) (s := 4) (by omega) (by omega)
theorem shl_nib (m : Nat) (h : m < 1152921504606846976) : IntKind.wrap .u64 ((m : Int) * 2 ^ min (4 : Int).toNat IntKind.u64.bits) = ((m * 16 : Nat) : Int) := by
 rw [show min (4 : Int).toNat IntKind.u64.bits = 4 from rfl, wrap64]; omega
theorem decP_facts (X : Bytes) : (∀ c ∈ (decP X).1.ahead ++ (decP X).1.behind, 48 ≤ c.toNat ∧ c.toNat ≤ 57) ∧ (decP X).1.ahead.length + (decP X).1.behind.length ≤ X.length ∧ (-1099511627776 ≤ (decP X).1.power ∧ (decP X).1.power ≤ 1099511627776) := by
 have e1 : (decP X).1.ahead = X.takeWhile isDig := by
   unfold decP
   simp only []
   repeat' split
   all_goals rfl
 have e2 : (decP X).1.behind = (fracP (X.dropWhile isDig)).1 := by
   unfold decP
   simp only []
   repeat' split
   all_goals rfl
 have e3 : (decP X).1.power = 0 ∨ ∃ r, (decP X).1.power = powN 0 ((wayP r).2.takeWhile isDig) * (wayP r).1 := by
   unfold decP
   simp only []
   repeat' split
   all_goals first | exact .inl rfl | exact .inr ⟨_, rfl⟩
 refine ⟨fun c hc => ?_, ?_, ?_⟩
 · rw [e1, e2] at hc
   rcases List.mem_append.1 hc with q | q
   · exact takeWhile_dig q
   · unfold fracP at q
     split at q
     · exact takeWhile_dig q
     · cases q
 · rw [e1, e2]
   have h : (X.takeWhile isDig).length + (X.dropWhile isDig).length = X.length := by rw [← List.length_append, List.takeWhile_append_dropWhile]
   have := (fracP_len (X.dropWhile isDig)).1
   omega
 · rcases e3 with q | ⟨r, q⟩
   · rw [q]; omega
   · rw [q]; exact way_mul (powN_in _ 0 (by omega) fun c hc => takeWhile_dig hc) (wayP_in r)
theorem has_dot (l : Bytes) (c : UInt8) : decide (0 ≤ Lib.indexByte l c) = decide (c ∈ l) := by
 rw [← Lib.contains_iff_indexByte]
 simp
def litBad (s : Bytes) : Prop := (decP s).2 = false ∨ (decP s).1.ahead = [] ∨ (46 ∈ s ∧ (decP s).1.behind = []) ∨ ((decP s).1.ahead.length > 1 ∧ (decP s).1.ahead.head? = some 48)
theorem litP_hex {s : Bytes} (h : Lib.hasPrefix s [48, 120] = true) : litP s = hexP (s.drop 2) := by unfold litP; exact if_pos h
theorem litP_bad {s : Bytes} (h : Lib.hasPrefix s [48, 120] = false) (hb : litBad s) : litP s = (0, false) := by
 unfold litP; rw [if_neg (by rw [h]; decide)]; exact if_pos hb
theorem litP_good {s : Bytes} (h : Lib.hasPrefix s [48, 120] = false) (hb : ¬ litBad s) : litP s = (nearestP (decP s).1, true) := by
 unfold litP; rw [if_neg (by rw [h]; decide)]; exact if_neg hb
theorem head_at {l : Bytes} {c : UInt8} (h : l[0]? = some c) : l.head? = some c := by cases l <;> simp at h ⊢; exact h
theorem head_c {l : Bytes} {c : UInt8} (h : l[0]? = some c) (hc : (c.toNat : Int) = 48) : l.head? = some 48 := by
 rw [head_at h, (u8_eq (n := 48) (by decide)).1 hc]; rfl
theorem head_n {l : Bytes} {c : UInt8} (h : l[0]? = some c) (hc : l.head? = some 48) : (c.toNat : Int) = 48 := by
 rw [head_at h] at hc
 rw [Option.some.inj hc]; rfl
theorem pre_len {s p : Bytes} (h : Lib.hasPrefix s p = true) : p.length ≤ s.length := (List.isPrefixOf_iff_prefix.1 h).length_le
section
variable {X T : Bytes} (hT : Lib.trimS X [9, 10, 32] = T)
include hT
end
end Go.Proofs.YtnhmmjogfkjceaaDoor
namespace Go.Proofs.YtnhmmjogfkjceaaDoor
open Go.Sl
def isSm (c : UInt8) : Bool := decide ((97 ≤ c.toNat ∧ c.toNat ≤ 122) ∨ (65 ≤ c.toNat ∧ c.toNat ≤ 90) ∨ c.toNat = 95 ∨ c.toNat = 36 ∨ (48 ≤ c.toNat ∧ c.toNat ≤ 57))
def isHx (c : UInt8) : Bool := decide ((48 ≤ c.toNat ∧ c.toNat ≤ 57) ∨ (97 ≤ c.toNat ∧ c.toNat ≤ 102) ∨ (65 ≤ c.toNat ∧ c.toNat ≤ 70))
def notNl (c : UInt8) : Bool := decide (c.toNat ≠ 10)
def okR (z : Int) : Bool := decide (z = 9 ∨ z = 10 ∨ (32 ≤ z ∧ z ≤ 126))
def nibV (c : UInt8) : Nat := if c.toNat ≤ 57 then c.toNat - 48 else (c ||| 32).toNat - 87
def atB (X : Bytes) (n : Nat) : UInt8 := X[n]?.getD 0
def runL (p : UInt8 → Bool) (X : Bytes) (n : Nat) : Nat := n + ((X.drop n).takeWhile p).length
structure Tok where
  kind : Int
  pos : Nat
  text : Bytes
  num : Nat
def Tok.cells (x : Tok) : List Value := [.int .i64 x.kind, .int .i64 (x.pos : Int), .string (bS x.text), .int .u64 (x.num : Int)]
theorem Tok.len (x : Tok) : x.cells.length = 4 := rfl
inductive TokR where
  | bad (e : Int)
  | tok (kind : Int) (text : Bytes) (num tz : Nat)
def TokR.err : TokR → Int
 | bad e => e
 | tok .. => 0
def TokR.past (a : Nat) : TokR → Nat
 | bad _ => a
 | tok _ _ _ t => t
def TokR.toks (a : Nat) (l : List Tok) : TokR → List Tok
 | bad _ => l
 | tok k t n _ => l ++ [⟨k, a, t, n⟩]
theorem dig_at {c : UInt8} : isDig c = decide (48 ≤ (c.toNat : Int) ∧ (c.toNat : Int) ≤ 57) := decide_eq_decide.2 (by omega)
theorem or32 (c : UInt8) : (c ||| 32).toNat = if c.toNat / 32 % 2 = 0 then c.toNat + 32 else c.toNat := by
 have h : ∀ n : Fin 256, ((UInt8.ofNat n) ||| 32).toNat = if (UInt8.ofNat n).toNat / 32 % 2 = 0 then (UInt8.ofNat n).toNat + 32 else (UInt8.ofNat n).toNat := by decide
 have := h ⟨c.toNat, c.toNat_lt⟩
 simpa using this
theorem runL_step {p : UInt8 → Bool} {X : Bytes} {n : Nat} {c : UInt8} (h : X[n]? = some c) (hp : p c = true) : runL p X n = runL p X (n + 1) := by
 unfold runL; rw [drop_at h, List.takeWhile_cons, if_pos hp]; simp; omega
theorem runL_stop {p : UInt8 → Bool} {X : Bytes} {n : Nat} {c : UInt8} (h : X[n]? = some c) (hp : p c = false) : runL p X n = n := by
 unfold runL; rw [drop_at h, List.takeWhile_cons, if_neg (by rw [hp]; decide)]; rfl
theorem runL_end {p : UInt8 → Bool} {X : Bytes} {n : Nat} (h : X.length ≤ n) : runL p X n = n := by
 unfold runL; rw [List.drop_eq_nil_of_le h]; rfl
theorem runL_ge (p : UInt8 → Bool) (X : Bytes) (n : Nat) : n ≤ runL p X n := by unfold runL; omega
theorem runL_le {p : UInt8 → Bool} {X : Bytes} {n : Nat} (h : n ≤ X.length) : runL p X n ≤ X.length := by
 unfold runL
 have := takeWhile_len p (X.drop n)
 rw [List.length_drop] at this
 omega
theorem atB_some {X : Bytes} {n : Nat} {c : UInt8} (h : X[n]? = some c) : atB X n = c := by unfold atB; rw [h]; rfl
theorem atB_none {X : Bytes} {n : Nat} (h : X.length ≤ n) : atB X n = 0 := by unfold atB; rw [List.getElem?_eq_none h]; rfl
theorem atB_lt {X : Bytes} {n : Nat} (h : (atB X n).toNat ≠ 0) : n < X.length := by
 apply Classical.byContradiction
 intro hc
 rw [atB_none (by omega)] at h
 exact h rfl
theorem index_room {s p : Bytes} {i : Nat} (h : Lib.index s p = (i : Int)) : i + p.length ≤ s.length := by
 induction s generalizing i with
 | nil =>
   unfold Lib.index at h
   split at h
   · rename_i hp; simp at hp; subst hp; simp at h ⊢; omega
   · omega
 | cons c r ih =>
   unfold Lib.index at h
   split at h
   · rename_i hp
     have := (List.isPrefixOf_iff_prefix.1 hp).length_le
     have h0 : i = 0 := by omega
     subst h0; omega
   · split at h
     · omega
     · obtain ⟨j, hj⟩ : ∃ j : Nat, Lib.index r p = (j : Int) := Int.eq_ofNat_of_zero_le (by have := Lib.index_ge r p; rename_i hne; simp at hne; omega)
       have := ih hj
       rw [List.length_cons]; omega
def blE : Nat → Bytes → Nat → Nat × Bool
 | 0, _, a => (a, true)
 | f + 1, X, a =>
   if X.length ≤ a then (a, true)
   else if (atB X a).toNat = 32 ∨ (atB X a).toNat = 10 ∨ (atB X a).toNat = 9 then blE f X (a + 1)
   else if (atB X a).toNat = 47 ∧ (atB X (a + 1)).toNat = 47 then blE f X (runL notNl X a)
   else if (atB X a).toNat = 47 ∧ (atB X (a + 1)).toNat = 42 then (if Lib.index (X.drop (a + 2)) [42, 47] < 0 then (a, false) else blE f X (a + ((Lib.index (X.drop (a + 2)) [42, 47]).toNat + 4)))
   else (a, true)
theorem blE_end {f : Nat} {X : Bytes} {a : Nat} (h : X.length ≤ a) : blE f X a = (a, true) := by
 cases f with
 | zero => rfl
 | succ f => unfold blE; rw [if_pos h]
theorem blE_sp {f : Nat} {X : Bytes} {a : Nat} (h : a < X.length) (h1 : (atB X a).toNat = 32 ∨ (atB X a).toNat = 10 ∨ (atB X a).toNat = 9) : blE (f + 1) X a = blE f X (a + 1) := by
 conv => lhs; unfold blE
 rw [if_neg (by omega), if_pos h1]
theorem blE_line {f : Nat} {X : Bytes} {a : Nat} (h : a < X.length) (h1 : (atB X a).toNat = 47) (h2 : (atB X (a + 1)).toNat = 47) : blE (f + 1) X a = blE f X (runL notNl X a) := by
 conv => lhs; unfold blE
 rw [if_neg (by omega), if_neg (by omega), if_pos ⟨h1, h2⟩]
theorem blE_bad {f : Nat} {X : Bytes} {a : Nat} (h : a < X.length) (h1 : (atB X a).toNat = 47) (h2 : (atB X (a + 1)).toNat = 42) (h3 : Lib.index (X.drop (a + 2)) [42, 47] < 0) : blE (f + 1) X a = (a, false) := by
 unfold blE
 rw [if_neg (by omega), if_neg (by omega), if_neg (by omega), if_pos ⟨h1, h2⟩, if_pos h3]
theorem blE_rem {f : Nat} {X : Bytes} {a : Nat} (h : a < X.length) (h1 : (atB X a).toNat = 47) (h2 : (atB X (a + 1)).toNat = 42) (h3 : ¬ Lib.index (X.drop (a + 2)) [42, 47] < 0) : blE (f + 1) X a = blE f X (a + ((Lib.index (X.drop (a + 2)) [42, 47]).toNat + 4)) := by
 conv => lhs; unfold blE
 rw [if_neg (by omega), if_neg (by omega), if_neg (by omega), if_pos ⟨h1, h2⟩, if_neg h3]
theorem blE_other {f : Nat} {X : Bytes} {a : Nat} (h : a < X.length) (h1 : ¬ ((atB X a).toNat = 32 ∨ (atB X a).toNat = 10 ∨ (atB X a).toNat = 9)) (h2 : ¬ ((atB X a).toNat = 47 ∧ (atB X (a + 1)).toNat = 47)) (h3 : ¬ ((atB X a).toNat = 47 ∧ (atB X (a + 1)).toNat = 42)) : blE (f + 1) X a = (a, true) := by
 unfold blE
 rw [if_neg (by omega), if_neg h1, if_neg h2, if_neg h3]
theorem line_gt {X : Bytes} {a : Nat} (h : a < X.length) (h1 : (atB X a).toNat = 47) : a + 1 ≤ runL notNl X a := by
 obtain ⟨c, hc⟩ : ∃ c, X[a]? = some c := ⟨_, List.getElem?_eq_getElem h⟩
 rw [atB_some hc] at h1
 rw [runL_step hc (by unfold notNl; exact decide_eq_true (by omega))]
 exact runL_ge ..
theorem blE_le {X : Bytes} : ∀ (f a : Nat), a ≤ X.length → (blE f X a).1 ≤ X.length
 | 0, a, h => h
 | f + 1, a, h => by
   by_cases h0 : X.length ≤ a
   · rw [blE_end h0]; exact h
   · have hl : a < X.length := by omega
     by_cases h1 : (atB X a).toNat = 32 ∨ (atB X a).toNat = 10 ∨ (atB X a).toNat = 9
     · rw [blE_sp hl h1]; exact blE_le f _ (by omega)
     · by_cases h2 : (atB X a).toNat = 47 ∧ (atB X (a + 1)).toNat = 47
       · rw [blE_line hl h2.1 h2.2]; exact blE_le f _ (runL_le h)
       · by_cases h3 : (atB X a).toNat = 47 ∧ (atB X (a + 1)).toNat = 42
         · by_cases h4 : Lib.index (X.drop (a + 2)) [42, 47] < 0
           · rw [blE_bad hl h3.1 h3.2 h4]; exact h
           · rw [blE_rem hl h3.1 h3.2 h4]
             obtain ⟨j, hj⟩ := Int.eq_ofNat_of_zero_le (show 0 ≤ Lib.index (X.drop (a + 2)) [42, 47] by omega)
             have := index_room hj
             have h5 := atB_lt (X := X) (n := a + 1) (by omega)
             rw [List.length_drop] at this
             rw [hj]
             exact blE_le f _ (by simp at this ⊢; omega)
         · rw [blE_other hl h1 h2 h3]; exact h
def blP (X : Bytes) (a : Nat) : Nat × Bool := blE (X.length + 1) X a
end Go.Proofs.YtnhmmjogfkjceaaDoor
namespace Go.Proofs.YtnhmmjogfkjceaaDoor
open Go.Sl
def wordsB : Bytes := [32, 98, 114, 101, 97, 107, 32, 99, 97, 116, 99, 104, 32, 99, 111, 110, 115, 116, 32, 99, 111, 110, 116, 105, 110, 117, 101, 32, 100, 101, 108, 101, 116, 101, 32, 101, 108, 115, 101, 32, 102, 97, 108, 115, 101, 32, 102, 105, 110, 97, 108, 108, 121, 32, 102, 111, 114, 32, 102, 117, 110, 99, 116, 105, 111, 110, 32, 105, 102, 32, 105, 110, 32, 105, 110, 115, 116, 97, 110, 99, 101, 111, 102, 32, 108, 101, 116, 32, 110, 101, 119, 32, 110, 117, 108, 108, 32, 114, 101, 116, 117, 114, 110, 32, 116, 104, 105, 115, 32, 116, 104, 114, 111, 119, 32, 116, 114, 117, 101, 32, 116, 114, 121, 32, 116, 121, 112, 101, 111, 102, 32, 117, 110, 100, 101, 102, 105, 110, 101, 100, 32, 118, 111, 105, 100, 32, 119, 104, 105, 108, 101, 32, 121, 105, 101, 108, 100, 32]
def signsB : Bytes := [62, 62, 62, 61, 32, 61, 61, 61, 32, 33, 61, 61, 32, 60, 60, 61, 32, 62, 62, 61, 32, 62, 62, 62, 32, 61, 61, 32, 33, 61, 32, 60, 61, 32, 62, 61, 32, 43, 43, 32, 45, 45, 32, 60, 60, 32, 62, 62, 32, 38, 38, 32, 124, 124, 32, 43, 61, 32, 45, 61, 32, 42, 61, 32, 47, 61, 32, 37, 61, 32, 38, 61, 32, 124, 61, 32, 94, 61, 32, 40, 32, 41, 32, 123, 32, 125, 32, 91, 32, 93, 32, 59, 32, 44, 32, 46, 32, 58, 32, 63, 32, 61, 32, 60, 32, 62, 32, 43, 32, 45, 32, 42, 32, 47, 32, 37, 32, 38, 32, 124, 32, 94, 32, 126, 32, 33]
def wordsL : List Bytes := [[98, 114, 101, 97, 107], [99, 97, 116, 99, 104], [99, 111, 110, 115, 116], [99, 111, 110, 116, 105, 110, 117, 101], [100, 101, 108, 101, 116, 101], [101, 108, 115, 101], [102, 97, 108, 115, 101], [102, 105, 110, 97, 108, 108, 121], [102, 111, 114], [102, 117, 110, 99, 116, 105, 111, 110], [105, 102], [105, 110], [105, 110, 115, 116, 97, 110, 99, 101, 111, 102], [108, 101, 116], [110, 101, 119], [110, 117, 108, 108], [114, 101, 116, 117, 114, 110], [116, 104, 105, 115], [116, 104, 114, 111, 119], [116, 114, 117, 101], [116, 114, 121], [116, 121, 112, 101, 111, 102], [117, 110, 100, 101, 102, 105, 110, 101, 100], [118, 111, 105, 100], [119, 104, 105, 108, 101], [121, 105, 101, 108, 100]]
def signsL : List Bytes := [[62, 62, 62, 61], [61, 61, 61], [33, 61, 61], [60, 60, 61], [62, 62, 61], [62, 62, 62], [61, 61], [33, 61], [60, 61], [62, 61], [43, 43], [45, 45], [60, 60], [62, 62], [38, 38], [124, 124], [43, 61], [45, 61], [42, 61], [47, 61], [37, 61], [38, 61], [124, 61], [94, 61], [40], [41], [123], [125], [91], [93], [59], [44], [46], [58], [63], [61], [60], [62], [43], [45], [42], [47], [37], [38], [124], [94], [126], [33]]
theorem signs_fields : Lib.fields signsB = signsL := by decide +kernel
theorem signs_ascii : signsB.all (fun b => decide (b.toNat < 128)) = true := by decide +kernel
end Go.Proofs.YtnhmmjogfkjceaaDoor
namespace Go.Proofs.YtnhmmjogfkjceaaDoor
open Go.Sl
abbrev u8V (c : UInt8) : Value := .int .u8 c.toNat
def nameT (X : Bytes) (a : Nat) : Bytes := (X.take (runL isSm X a)).drop a
def nameR (X : Bytes) (a : Nat) : TokR := if (nameT X a).length > 32 then .bad 53 else .tok (if Lib.contains wordsB ([32] ++ nameT X a ++ [32]) = true then 2 else 1) (nameT X a) 0 (runL isSm X a)
def numFr (X : Bytes) (t : Nat) : Nat := if t + 1 < X.length ∧ (atB X t).toNat = 46 ∧ isDig (atB X (t + 1)) = true then runL isDig X (t + 1) else t
def numSg (X : Bytes) (t : Nat) : Nat := if t < X.length ∧ ((atB X t).toNat = 43 ∨ (atB X t).toNat = 45) then t + 1 else t
def numEx (X : Bytes) (t : Nat) : Nat := if t < X.length ∧ (atB X t ||| 32).toNat = 101 then runL isDig X (numSg X (t + 1)) else t
def numE (X : Bytes) (a : Nat) : Nat := if (atB X a).toNat = 48 ∧ (atB X (a + 1)).toNat = 120 then runL isHx X (a + 2) else numEx X (numFr X (runL isDig X a))
def numR (X : Bytes) (a : Nat) : TokR :=
 let e := numE X a
 let r := litP ((X.take e).drop a)
 if r.2 = false ∨ (e < X.length ∧ isSm (atB X e) = true) then .bad 54 else .tok 3 [] r.1 e
theorem numFr_le {X : Bytes} {t : Nat} (h : t ≤ X.length) : numFr X t ≤ X.length := by
 unfold numFr; split
 · exact runL_le (by omega)
 · exact h
theorem numFr_ge (X : Bytes) (t : Nat) : t ≤ numFr X t := by
 unfold numFr; split
 · have := runL_ge isDig X (t + 1); omega
 · exact Nat.le_refl _
theorem numSg_le {X : Bytes} {t : Nat} (h : t ≤ X.length) : numSg X t ≤ X.length := by
 unfold numSg; split <;> omega
theorem numSg_ge (X : Bytes) (t : Nat) : t ≤ numSg X t := by unfold numSg; split <;> omega
theorem numEx_le {X : Bytes} {t : Nat} (h : t ≤ X.length) : numEx X t ≤ X.length := by
 unfold numEx; split
 · exact runL_le (numSg_le (by omega))
 · exact h
theorem numEx_ge (X : Bytes) (t : Nat) : t ≤ numEx X t := by
 unfold numEx; split
 · have := runL_ge isDig X (numSg X (t + 1)); have := numSg_ge X (t + 1); omega
 · exact Nat.le_refl _
theorem numE_le {X : Bytes} {a : Nat} (h : a ≤ X.length) : numE X a ≤ X.length := by
 unfold numE; split
 · rename_i hc
   have := atB_lt (X := X) (n := a + 1) (by omega)
   exact runL_le (by omega)
 · exact numEx_le (numFr_le (runL_le h))
theorem numE_ge (X : Bytes) (a : Nat) : a ≤ numE X a := by
 unfold numE; split
 · have := runL_ge isHx X (a + 2); omega
 · have h1 := runL_ge isDig X a
   have h2 := numFr_ge X (runL isDig X a)
   have h3 := numEx_ge X (numFr X (runL isDig X a))
   omega
section
variable {X : Bytes} {t : Nat} {e d : UInt8}
theorem numFr_yes (h1 : X[t]? = some e) (h2 : X[t + 1]? = some d) (he : (e.toNat : Int) = 46) (hd : 48 ≤ (d.toNat : Int) ∧ (d.toNat : Int) ≤ 57) : numFr X t = runL isDig X (t + 1) := by
 unfold numFr
 rw [atB_some h1, atB_some h2, if_pos ⟨(List.getElem?_eq_some_iff.1 h2).1, by omega, by unfold isDig; exact decide_eq_true (by omega)⟩]
theorem numFr_no1 (h : ¬ t + 1 < X.length) : numFr X t = t := by unfold numFr; rw [if_neg fun q => h q.1]
theorem numFr_no2 (h1 : X[t]? = some e) (he : ¬ (e.toNat : Int) = 46) : numFr X t = t := by unfold numFr; rw [atB_some h1, if_neg fun q => he (by omega)]
theorem numFr_no3 (h2 : X[t + 1]? = some d) (hd : ¬ (48 ≤ (d.toNat : Int) ∧ (d.toNat : Int) ≤ 57)) : numFr X t = t := by
 unfold numFr
 rw [atB_some h2, if_neg]
 rintro ⟨_, _, q⟩
 unfold isDig at q
 have := of_decide_eq_true q
 omega
theorem numSg_yes (h1 : X[t]? = some e) (he : (e.toNat : Int) = 43 ∨ (e.toNat : Int) = 45) : numSg X t = t + 1 := by
 unfold numSg
 rw [atB_some h1, if_pos ⟨(List.getElem?_eq_some_iff.1 h1).1, by omega⟩]
theorem numSg_no1 (h : ¬ t < X.length) : numSg X t = t := by unfold numSg; rw [if_neg fun q => h q.1]
theorem numSg_no2 (h1 : X[t]? = some e) (he : ¬ ((e.toNat : Int) = 43 ∨ (e.toNat : Int) = 45)) : numSg X t = t := by unfold numSg; rw [atB_some h1, if_neg fun q => he (by omega)]
theorem numEx_yes (h1 : X[t]? = some e) (he : ((e ||| 32).toNat : Int) = 101) : numEx X t = runL isDig X (numSg X (t + 1)) := by
 unfold numEx
 rw [atB_some h1, if_pos ⟨(List.getElem?_eq_some_iff.1 h1).1, by omega⟩]
theorem numEx_no1 (h : ¬ t < X.length) : numEx X t = t := by unfold numEx; rw [if_neg fun q => h q.1]
theorem numEx_no2 (h1 : X[t]? = some e) (he : ¬ ((e ||| 32).toNat : Int) = 101) : numEx X t = t := by unfold numEx; rw [atB_some h1, if_neg fun q => he (by omega)]
end
section
variable {X : Bytes} {a : Nat}
theorem numE_hex (h : (atB X a).toNat = 48 ∧ (atB X (a + 1)).toNat = 120) : numE X a = runL isHx X (a + 2) := by unfold numE; rw [if_pos h]
theorem numE_dec (h : ¬ ((atB X a).toNat = 48 ∧ (atB X (a + 1)).toNat = 120)) : numE X a = numEx X (numFr X (runL isDig X a)) := by unfold numE; rw [if_neg h]
theorem numR_bad1 (h : (litP ((X.take (numE X a)).drop a)).2 = false) : numR X a = .bad 54 := by unfold numR; simp only []; rw [if_pos (.inl h)]
theorem numR_bad2 {e : UInt8} (h : X[numE X a]? = some e) (he : isSm e = true) : numR X a = .bad 54 := by unfold numR; simp only []; rw [if_pos (.inr ⟨(List.getElem?_eq_some_iff.1 h).1, by rw [atB_some h]; exact he⟩)]
theorem numR_ok1 (h : (litP ((X.take (numE X a)).drop a)).2 = true) (h1 : ¬ numE X a < X.length) : numR X a = .tok 3 [] (litP ((X.take (numE X a)).drop a)).1 (numE X a) := by
 unfold numR; simp only []; rw [if_neg]; rintro (q | q)
 · rw [h] at q; cases q
 · exact h1 q.1
theorem numR_ok2 {e : UInt8} (h : (litP ((X.take (numE X a)).drop a)).2 = true) (h1 : X[numE X a]? = some e) (he : isSm e = false) : numR X a = .tok 3 [] (litP ((X.take (numE X a)).drop a)).1 (numE X a) := by
 unfold numR; simp only []; rw [if_neg]; rintro (q | q)
 · rw [h] at q; cases q
 · rw [atB_some h1, he] at q; cases q.2
theorem nameR_bad (h : (nameT X a).length > 32) : nameR X a = .bad 53 := by unfold nameR; rw [if_pos h]
theorem nameR_word (h : ¬ (nameT X a).length > 32) (h1 : Lib.contains wordsB ([32] ++ nameT X a ++ [32]) = true) : nameR X a = .tok 2 (nameT X a) 0 (runL isSm X a) := by unfold nameR; rw [if_neg h, if_pos h1]
theorem nameR_name (h : ¬ (nameT X a).length > 32) (h1 : Lib.contains wordsB ([32] ++ nameT X a ++ [32]) = false) : nameR X a = .tok 1 (nameT X a) 0 (runL isSm X a) := by unfold nameR; rw [if_neg h, if_neg (by rw [h1]; decide)]
end
def nib16 (a b : UInt8) : UInt8 := UInt8.ofNat (nibV a * 16 + nibV b)
def escP (Y : Bytes) : UInt8 × Nat :=
 if Y.length > 3 ∧ (atB Y 1).toNat = 120 ∧ isHx (atB Y 2) = true ∧ isHx (atB Y 3) = true then (nib16 (atB Y 2) (atB Y 3), 4)
 else if Y.length < 2 then (0, 0)
 else if Lib.indexByte [110, 116, 92, 39, 34] (atB Y 1) < 0 then (0, 0)
 else (atB [10, 9, 92, 39, 34] (Lib.indexByte [110, 116, 92, 39, 34] (atB Y 1)).toNat, 2)
theorem nibV_lt {c : UInt8} (h : isHx c = true) : nibV c < 16 := by
 have ho := or32 c
 have hc : (48 ≤ c.toNat ∧ c.toNat ≤ 57) ∨ (97 ≤ c.toNat ∧ c.toNat ≤ 102) ∨ (65 ≤ c.toNat ∧ c.toNat ≤ 70) := by simpa [isHx] using h
 unfold nibV
 split
 · omega
 · split at ho <;> omega
theorem nib16_at {a b : UInt8} (ha : nibV a < 16) (hb : nibV b < 16) : (nib16 a b).toNat = nibV a * 16 + nibV b := by
 unfold nib16; rw [UInt8.toNat_ofNat']; omega
theorem or_nib8 {m d : Nat} (hm : m < 16) (hd : d < 16) : IntKind.wrap .u8 ((BitVec.ofInt 8 ((m : Int) * 16) ||| BitVec.ofInt 8 (d : Int)).toNat) = ((m * 16 + d : Nat) : Int) := by
 have e : ((m : Int) * 16) = ((m * 2 ^ 4 : Nat) : Int) := by omega
 rw [e, BitVec.or_comm]
 have h : ∀ x y : Fin 16, IntKind.wrap .u8 ((BitVec.ofInt 8 ((y.val : Nat) : Int) ||| BitVec.ofInt 8 ((x.val * 2 ^ 4 : Nat) : Int)).toNat) = ((x.val * 16 + y.val : Nat) : Int) := by decide
 exact h ⟨m, hm⟩ ⟨d, hd⟩
abbrev escB : Bytes := [10, 9, 92, 39, 34]
theorem idx_lt (c : UInt8) : (Lib.indexByte [110, 116, 92, 39, 34] c).toNat < [10, 9, 92, 39, 34].length := by
 have h : ∀ n : Fin 256, (Lib.indexByte [110, 116, 92, 39, 34] (UInt8.ofNat n)).toNat < [10, 9, 92, 39, 34].length := by decide
 have := h ⟨c.toNat, c.toNat_lt⟩
 simpa using this
theorem escP_hex {Y : Bytes} (h1 : Y.length > 3) (h2 : (atB Y 1).toNat = 120) (h3 : isHx (atB Y 2) = true) (h4 : isHx (atB Y 3) = true) : escP Y = (nib16 (atB Y 2) (atB Y 3), 4) := by unfold escP; rw [if_pos ⟨h1, h2, h3, h4⟩]
theorem escP_short {Y : Bytes} (h : ¬ (Y.length > 3 ∧ (atB Y 1).toNat = 120 ∧ isHx (atB Y 2) = true ∧ isHx (atB Y 3) = true)) (h1 : Y.length < 2) : escP Y = (0, 0) := by unfold escP; rw [if_neg h, if_pos h1]
theorem escP_none {Y : Bytes} (h : ¬ (Y.length > 3 ∧ (atB Y 1).toNat = 120 ∧ isHx (atB Y 2) = true ∧ isHx (atB Y 3) = true)) (h1 : ¬ Y.length < 2) (h2 : Lib.indexByte [110, 116, 92, 39, 34] (atB Y 1) < 0) : escP Y = (0, 0) := by unfold escP; rw [if_neg h, if_neg h1, if_pos h2]
theorem escP_one {Y : Bytes} (h : ¬ (Y.length > 3 ∧ (atB Y 1).toNat = 120 ∧ isHx (atB Y 2) = true ∧ isHx (atB Y 3) = true)) (h1 : ¬ Y.length < 2) (h2 : ¬ Lib.indexByte [110, 116, 92, 39, 34] (atB Y 1) < 0) : escP Y = (atB [10, 9, 92, 39, 34] (Lib.indexByte [110, 116, 92, 39, 34] (atB Y 1)).toNat, 2) := by unfold escP; rw [if_neg h, if_neg h1, if_neg h2]
theorem escP_in (Y : Bytes) : ((escP Y).2 = 0 ∨ 2 ≤ (escP Y).2) ∧ (escP Y).2 ≤ Y.length := by
 unfold escP
 repeat' split
 all_goals first | exact ⟨.inl rfl, Nat.zero_le _⟩ | exact ⟨.inr (by dsimp only; omega), by dsimp only; omega⟩
def strE : Nat → Bytes → UInt8 → Nat → Bytes → Option (Bytes × Nat)
 | 0, _, _, _, _ => none
 | f + 1, X, q, t, m =>
   if X.length ≤ t then none
   else if atB X t = q then some (m, t)
   else if (atB X t).toNat = 10 then none
   else if (atB X t).toNat = 92 then (if (escP (X.drop t)).2 = 0 then none else strE f X q (t + (escP (X.drop t)).2) (m ++ [(escP (X.drop t)).1]))
   else strE f X q (t + 1) (m ++ [atB X t])
def strP (X : Bytes) (a : Nat) : Option (Bytes × Nat) := strE (X.length + 1) X (atB X a) (a + 1) []
def textR (X : Bytes) (a : Nat) : TokR := match strP X a with
 | none => .bad 55
 | some (m, t) => if m.length > 4096 then .bad 56 else .tok 4 m 0 (t + 1)
section
variable {f : Nat} {X m : Bytes} {q : UInt8} {t : Nat}
theorem strE_end (h : X.length ≤ t) : strE f X q t m = none := by cases f <;> unfold strE; rfl; rw [if_pos h]
theorem strE_close (h : t < X.length) (h1 : atB X t = q) : strE (f + 1) X q t m = some (m, t) := by unfold strE; rw [if_neg (by omega), if_pos h1]
theorem strE_nl (h : t < X.length) (h1 : atB X t ≠ q) (h2 : (atB X t).toNat = 10) : strE (f + 1) X q t m = none := by unfold strE; rw [if_neg (by omega), if_neg h1, if_pos h2]
theorem strE_no (h : t < X.length) (h1 : atB X t ≠ q) (h2 : (atB X t).toNat = 92) (h3 : (escP (X.drop t)).2 = 0) : strE (f + 1) X q t m = none := by unfold strE; rw [if_neg (by omega), if_neg h1, if_neg (by omega), if_pos h2, if_pos h3]
theorem strE_esc (h : t < X.length) (h1 : atB X t ≠ q) (h2 : (atB X t).toNat = 92) (h3 : ¬ (escP (X.drop t)).2 = 0) : strE (f + 1) X q t m = strE f X q (t + (escP (X.drop t)).2) (m ++ [(escP (X.drop t)).1]) := by
 conv => lhs; unfold strE
 rw [if_neg (by omega), if_neg h1, if_neg (by omega), if_pos h2, if_neg h3]
theorem strE_one (h : t < X.length) (h1 : atB X t ≠ q) (h2 : ¬ (atB X t).toNat = 10) (h3 : ¬ (atB X t).toNat = 92) : strE (f + 1) X q t m = strE f X q (t + 1) (m ++ [atB X t]) := by
 conv => lhs; unfold strE
 rw [if_neg (by omega), if_neg h1, if_neg h2, if_neg h3]
end
theorem textR_none {X : Bytes} {a : Nat} (h : strP X a = none) : textR X a = .bad 55 := by unfold textR; rw [h]
theorem textR_long {X m : Bytes} {a t : Nat} (h : strP X a = some (m, t)) (h1 : m.length > 4096) : textR X a = .bad 56 := by unfold textR; rw [h]; exact if_pos h1
theorem textR_some {X m : Bytes} {a t : Nat} (h : strP X a = some (m, t)) (h1 : ¬ m.length > 4096) : textR X a = .tok 4 m 0 (t + 1) := by unfold textR; rw [h]; exact if_neg h1
def signR (X : Bytes) (a : Nat) : TokR := match signsL.find? (fun s => Lib.hasPrefix (X.drop a) s) with
 | none => .bad 57
 | some s => .tok 5 s 0 (a + s.length)
def tokR (X : Bytes) (a : Nat) : TokR :=
 if isDig (atB X a) = true then numR X a else if isSm (atB X a) = true then nameR X a
 else if (atB X a).toNat = 34 ∨ (atB X a).toNat = 39 then textR X a else signR X a
end Go.Proofs.YtnhmmjogfkjceaaDoor
