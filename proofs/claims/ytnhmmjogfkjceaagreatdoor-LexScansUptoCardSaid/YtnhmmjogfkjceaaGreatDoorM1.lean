/-
  Strings as lists of bytes: pieces of them, single bytes. No condition.
-/
import Derived.Test.YtnhmmjogfkjceaaGreatDoorM0
import Derived.Lib.ConvBytes
import Derived.Laws.RangeString
import Derived.Laws.RangeAny
import Derived.Lib.OthersKept
import Derived.Lib.UnsafeStr
import Derived.Lib.FrozenHead
import Derived.Lib.Builder
import Derived.Test.YtnhmmjogfkjceaaGreatDoorCards
import Derived.Test.YtnhmmjogfkjceaaGreatDoorTie
import Derived.Deep.Slices
import Derived.Deep.Grids
import Derived.Deep.DeepHandedRow
import Derived.Deep.DeepWitnessRowRef
import Derived.Lib.LaidTab
import Derived.Lib.Bytealg
import Derived.Lib.BitFns
import Derived.Lib.SlTrimSet
import Derived.Lib.Strings
import Derived.Shelf.Lays
import Derived.Shelf.LaysM
import Derived.Shelf.Small.Strs
import Derived.Shelf.Small.Bits
import Derived.Shelf.Strings.SlTrimAscii
import Derived.Shelf.Strings.Prefix
import Derived.Shelf.Strings.Search3
import Derived.Test.YtnhmmjogfkjceaaGreatDoorProg
import Derived.Shelf.Strings.Shaped
import Derived.Shelf.Strings.SplitShaped
import Derived.Shelf.Strings.Builder1
import Derived.Lib.IndexAny
import Derived.Lib.IndexLaws
import Derived.Lib.Fields
import Derived.Lib.IndexMore
set_option linter.unusedVariables false
set_option linter.unusedSimpArgs false
set_option maxRecDepth 100000
namespace Go.Sl
open Go
abbrev bS (l : List UInt8) : ByteArray := ⟨l.toArray⟩
theorem bS_list (l : List UInt8) : (bS l).data.toList = l := by simp
theorem bS_size (l : List UInt8) : (bS l).size = l.length := by simp [ByteArray.size]
theorem bS_of (s : ByteArray) : s = bS s.data.toList := by cases s; simp
theorem bS_inj {a b : List UInt8} (h : bS a = bS b) : a = b := by rw [← bS_list a, h, bS_list]
theorem bS_app (a b : List UInt8) : bS a ++ bS b = bS (a ++ b) := by
 apply ByteArray.ext
 rw [ByteArray.data_append]
 simp
theorem bS_extract (l : List UInt8) (a b : Nat) : (bS l).extract a b = bS ((l.take b).drop a) := by
 apply ByteArray.ext
 rw [ByteArray.data_extract]
 apply Array.ext'
 simp only [List.extract_toArray, List.extract_eq_take_drop, List.drop_take]
theorem bS_byte {l : List UInt8} {i : Nat} {c : UInt8} (h : l[i]? = some c) : byteN (bS l) (i : Int) = (c.toNat : Int) := byteN_at (by rw [bS_list]; exact h)
section
variable {P : Program} {ρ : Fr} {w : World} {δ : Nat → Value} {l : List UInt8} {dst : Option Tmp} {t ty : TypeId} {x : Operand} {pos : String} {after : Array Edge} {gd : Option (Nat × Bool)}
theorem run_strTo (h : Int) (k : IntKind) {hx : Operand} (ht : P.underlying t = some .string) (hv : ev δ ρ x = .string (bS l)) (hh : ev δ ρ hx = .int k h) (h0 : 0 ≤ h) (h1 : h ≤ l.length) :
   (execOp (ev δ ρ) ⟨dst, .slice t x none (some hx) none, ty, pos, after, gd⟩).run P w = .ok (.value (.string (bS (l.take h.toNat)))) w := by
 have hs := bS_size l
 simp only [execOp, Option.map_none, Option.map_some, hv, hh, Sem.run_bind, Sem.run_pure]
 rw [run_sliceAt_string w t (.string (bS l)) none (some (.int k h)) none ht, run_slice_string_h w t (bS l) ht k h h0 (by omega), Result.andThen_ok, bS_extract]
 simp
theorem run_strFrom (g : Int) (k : IntKind) {gx : Operand} (ht : P.underlying t = some .string) (hv : ev δ ρ x = .string (bS l)) (hg : ev δ ρ gx = .int k g) (h0 : 0 ≤ g) (h1 : g ≤ l.length) :
   (execOp (ev δ ρ) ⟨dst, .slice t x (some gx) none none, ty, pos, after, gd⟩).run P w = .ok (.value (.string (bS (l.drop g.toNat)))) w := by
 have hs := bS_size l
 simp only [execOp, Option.map_none, Option.map_some, hv, hg, Sem.run_bind, Sem.run_pure]
 rw [run_sliceAt_string w t (.string (bS l)) (some (.int k g)) none none ht, run_slice_string_l w t (bS l) ht k g h0 (by omega), Result.andThen_ok, bS_extract, hs, List.take_length]
theorem run_strMid (g h : Int) (k k' : IntKind) {gx hx : Operand} (ht : P.underlying t = some .string) (hv : ev δ ρ x = .string (bS l)) (hg : ev δ ρ gx = .int k g) (hh : ev δ ρ hx = .int k' h) (h0 : 0 ≤ g) (h1 : g ≤ h) (h2 : h ≤ l.length) :
   (execOp (ev δ ρ) ⟨dst, .slice t x (some gx) (some hx) none, ty, pos, after, gd⟩).run P w = .ok (.value (.string (bS ((l.take h.toNat).drop g.toNat)))) w := by
 have hs := bS_size l
 simp only [execOp, Option.map_none, Option.map_some, hv, hg, hh, Sem.run_bind, Sem.run_pure]
 rw [run_sliceAt_string w t (.string (bS l)) (some (.int k g)) (some (.int k' h)) none ht, run_slice_string w t (bS l) k k' g h ht h0 h1 (by omega), Result.andThen_ok, bS_extract]
end
theorem run_make_cap {P : Program} (t e : TypeId) (z : Value) (bytes : Nat) (ht : P.underlying t = some (.slice e)) (hinfo : (P.info? e).map (fun i => (i.zero, i.size, i.bytes)) = some (some z, 1, bytes)) (hz1 : z.cells = #[z])
   (kl kc : IntKind) (m n : Nat) (hmn : m ≤ n) (hbytes : bytes * n ≤ 281474976710656) (h63 : n ≤ 9223372036854775807) (w : World) :
   (Instr.makeSlice t (.int kl (m : Int)) (.int kc (n : Int))).run P w = .ok (.slice (some ⟨w.heap.size, 0, none⟩) m n) (w.alloc (.cells (madeCells #[z] n) e)) := by
 obtain ⟨i, hi, hzz⟩ := Option.map_eq_some_iff.1 hinfo
 simp only [Prod.mk.injEq] at hzz
 obtain ⟨hz, hs, hb⟩ := hzz
 have hb' : (i.bytes : Int) * (n : Int) ≤ 281474976710656 := by
   have h : ((i.bytes * n : Nat) : Int) ≤ 281474976710656 := by rw [hb]; omega
   rwa [Int.natCast_mul] at h
 have hr := run_make (P := P) w t e i z ht hi hz kl kc m n (by omega) (by omega) hb' (by omega)
 simp only [Int.toNat_natCast, hs, Nat.mul_one, hz1] at hr
 exact hr
section
variable {P : Program} {W0 : World} {n : Nat} {Q : SQ} {ρ : Fr} {σ : Heaplet} {K : Fr → Heaplet → Prop}
theorem O_make2 (m cap : Nat) (z : Value) {e t ty : TypeId} {bytes : Nat} {k k' : IntKind} {dst : Option Tmp} {l c : Operand} {pos : String} {after : Array Edge} {gd : Option (Nat × Bool)}
   (hl : ∀ δ, ev δ ρ l = .int k (m : Int)) (hc : ∀ δ, ev δ ρ c = .int k' (cap : Int)) (ht : P.underlying t = some (.slice e)) (hi : (P.info? e).map (fun i => (i.zero, i.size, i.bytes)) = some (some z, 1, bytes))
   (hz : z.cells = #[z]) (hb : bytes * cap ≤ 281474976710656) (hm : cap ≤ 140737488355328) (hmc : m ≤ cap) (hd : dstOk n dst = true)
   (h : ∀ b, W0.heap.size ≤ b → b ∉ keys σ → K (putF ρ dst ((Gs.at b cap).val m)) ((Gs.at b cap).ent e 1 (List.replicate m z ++ List.replicate (cap - m) z) ++ σ)) :
   SO P W0 n Q ⟨dst, .makeSlice t l c, ty, pos, after, gd⟩ ρ σ K := by
 refine O_new (fun b => (Gs.at b cap).val m) (.cells (madeCells #[z] cap) e) (.cells e (cap * 1) (List.replicate m z ++ List.replicate (cap - m) z)) hd (fun δ w => ?_) ?_ h
 · have := run_make_cap (P := P) t e z bytes ht hi hz k k' m cap hmc hb (by omega) w
   simp only [execOp, hl, hc, Sem.run_bind, this, Result.andThen_ok, Sem.run_pure, Gs.val, Gs.addr, Gs.cap]
 · have e1 : (madeCells #[z] cap).toList = List.replicate m z ++ List.replicate (cap - m) z := by
     rw [List.replicate_append_replicate, show m + (cap - m) = cap by omega]
     apply List.ext_getElem?
     intro i
     simp only [Array.getElem?_toList, List.getElem?_replicate]
     by_cases hi : i < cap
     · simp [madeCells, hi, Nat.mod_one]
     · rw [if_neg hi, Array.getElem?_eq_none (by simp [madeCells]; omega)]
   exact ⟨rfl, rfl, by rw [← Array.length_toList, e1]; simp; omega, e1⟩
end
section
variable {P : Program} {ρ : Fr} {dst : Option Tmp} {t t2 ty : TypeId} {x y : Operand} {pos : String} {after : Array Edge} {gd : Option (Nat × Bool)} {k k' : IntKind} {m c : Int}
theorem shlR (v : Int) (h0 : 0 ≤ c) (hv : k.wrap (m * 2 ^ min c.toNat k.bits) = v) (hx : ∀ δ, ev δ ρ x = .int k m := by exact fun _ => rfl) (hy : ∀ δ, ev δ ρ y = .int k' c := by exact fun _ => rfl) :
   ∀ δ w, (execOp (ev δ ρ) ⟨dst, .binOp .shl t x y t2, ty, pos, after, gd⟩).run P w = .ok (.value (.int k v)) w := by
 intro δ w
 simp only [execOp, hx, hy, Sem.run_bind]
 simp only [binOp, Op.shift]
 rw [if_neg (by omega), hv]
 rfl
theorem orR (v : Int) (hv : IntKind.wrap .u64 ((BitVec.ofInt 64 m ||| BitVec.ofInt 64 c).toNat) = v) (hx : ∀ δ, ev δ ρ x = .int .u64 m := by exact fun _ => rfl) (hy : ∀ δ, ev δ ρ y = .int .u64 c := by exact fun _ => rfl) :
   ∀ δ w, (execOp (ev δ ρ) ⟨dst, .binOp .or t x y t2, ty, pos, after, gd⟩).run P w = .ok (.value (.int .u64 v)) w := by
 intro δ w
 simp only [execOp, hx, hy, Sem.run_bind]
 rw [← hv]
 rfl
theorem orR32 (v : Int) (hv : IntKind.wrap .u32 ((BitVec.ofInt 32 m ||| BitVec.ofInt 32 c).toNat) = v) (hx : ∀ δ, ev δ ρ x = .int .u32 m := by exact fun _ => rfl) (hy : ∀ δ, ev δ ρ y = .int .u32 c := by exact fun _ => rfl) :
   ∀ δ w, (execOp (ev δ ρ) ⟨dst, .binOp .or t x y t2, ty, pos, after, gd⟩).run P w = .ok (.value (.int .u32 v)) w := by
 intro δ w
 simp only [execOp, hx, hy, Sem.run_bind]
 rw [← hv]
 rfl
theorem or8R (v : Int) (hv : IntKind.wrap .u8 ((BitVec.ofInt 8 m ||| BitVec.ofInt 8 c).toNat) = v) (hx : ∀ δ, ev δ ρ x = .int .u8 m := by exact fun _ => rfl) (hy : ∀ δ, ev δ ρ y = .int .u8 c := by exact fun _ => rfl) :
   ∀ δ w, (execOp (ev δ ρ) ⟨dst, .binOp .or t x y t2, ty, pos, after, gd⟩).run P w = .ok (.value (.int .u8 v)) w := by
 intro δ w
 simp only [execOp, hx, hy, Sem.run_bind]
 rw [← hv]
 rfl
theorem andR (v : Int) (hv : IntKind.wrap .u64 ((BitVec.ofInt 64 m &&& BitVec.ofInt 64 c).toNat) = v) (hx : ∀ δ, ev δ ρ x = .int .u64 m := by exact fun _ => rfl) (hy : ∀ δ, ev δ ρ y = .int .u64 c := by exact fun _ => rfl) :
   ∀ δ w, (execOp (ev δ ρ) ⟨dst, .binOp .and t x y t2, ty, pos, after, gd⟩).run P w = .ok (.value (.int .u64 v)) w := by
 intro δ w
 simp only [execOp, hx, hy, Sem.run_bind]
 rw [← hv]
 rfl
theorem andNotR (v : Int) (hv : IntKind.wrap .u64 ((BitVec.ofInt 64 m &&& ~~~ BitVec.ofInt 64 c).toNat) = v) (hx : ∀ δ, ev δ ρ x = .int .u64 m := by exact fun _ => rfl) (hy : ∀ δ, ev δ ρ y = .int .u64 c := by exact fun _ => rfl) :
   ∀ δ w, (execOp (ev δ ρ) ⟨dst, .binOp .andNot t x y t2, ty, pos, after, gd⟩).run P w = .ok (.value (.int .u64 v)) w := by
 intro δ w
 simp only [execOp, hx, hy, Sem.run_bind]
 rw [← hv]
 rfl
theorem shrR (v : Int) (h0 : 0 ≤ c) (hv : m.fdiv (2 ^ min c.toNat k.bits) = v) (hx : ∀ δ, ev δ ρ x = .int k m := by exact fun _ => rfl) (hy : ∀ δ, ev δ ρ y = .int k' c := by exact fun _ => rfl) :
   ∀ δ w, (execOp (ev δ ρ) ⟨dst, .binOp .shr t x y t2, ty, pos, after, gd⟩).run P w = .ok (.value (.int k v)) w := by
 intro δ w
 simp only [execOp, hx, hy, Sem.run_bind]
 simp only [binOp, Op.shift]
 rw [if_neg (by omega), hv]
 rfl
end
theorem rem_nn {m n : Int} (h0 : 0 ≤ m) : Int.tmod m n = m % n := Int.tmod_eq_emod_of_nonneg h0
theorem wrap64 (z : Int) : IntKind.wrap .u64 z = z % 18446744073709551616 := by simp [IntKind.wrap, IntKind.bits, IntKind.signed]
theorem or_apart64 {a b s : Nat} (hb : b < 2 ^ s) (h : a * 2 ^ s + b < 18446744073709551616) : IntKind.wrap .u64 ((BitVec.ofInt 64 ((b : Nat) : Int) ||| BitVec.ofInt 64 ((a * 2 ^ s : Nat) : Int)).toNat) = ((a * 2 ^ s + b : Nat) : Int) := by
 rw [Nat.mul_comm a (2 ^ s)] at h ⊢
 have h1 : (BitVec.ofInt 64 ((2 ^ s * a : Nat) : Int)).toNat = 2 ^ s * a := by
   rw [BitVec.toNat_ofInt]; generalize 2 ^ s * a = z at *; omega
 have h2 : (BitVec.ofInt 64 ((b : Nat) : Int)).toNat = b := by rw [BitVec.toNat_ofInt]; omega
 rw [BitVec.toNat_or, h1, h2, Nat.or_comm, ← Nat.two_pow_add_eq_or_of_lt hb, wrap64]
 omega
theorem Gs.ok_cap {b m c : Nat} {xs : List Value} (h : xs.length = m) (hc : m ≤ c) (hm : c ≤ maxLen) : (Gs.at b c).ok 1 m xs := ⟨hc, hm, by rw [h, Nat.mul_one]⟩
theorem Gs.ok_less {s : Gs} {m k : Nat} {xs ys : List Value} (h : s.ok 1 m xs) (hy : ys.length = k) (hk : k ≤ m) : s.ok 1 k ys := by
 cases s with
 | nil => obtain ⟨h1, h2⟩ := h; exact ⟨by omega, List.eq_nil_of_length_eq_zero (by omega)⟩
 | «at» g c => exact ⟨Nat.le_trans hk h.1, h.2.1, by rw [hy, Nat.mul_one]⟩
section
variable {P : Program} {W0 : World} {n : Nat} {Q : SQ} {ρ : Fr} {σ : Heaplet} {K : Fr → Heaplet → Prop}
def txtV (X : List UInt8) : List Value := X.map fun c => Value.int .u8 c.toNat
theorem txt_at {X : List UInt8} {i : Nat} {c : UInt8} (h : X[i]? = some c) : (txtV X)[i]? = some (.int .u8 c.toNat) := by simp [txtV, h]
theorem Sat.txt {w : World} (h : Sat W0 w σ) (e : TypeId) (s : ByteArray) : Sat W0 (Lib.bytesWorld w e s) ((w.heap.size, .txt (txtV s.data.toList)) :: σ) := by
 have hlt : ∀ e ∈ σ, e.1 < w.heap.size := fun e he => (h.has e he).2.lt
 refine ⟨h.below.trans ⟨rfl, rfl, rfl, by rw [Lib.bytesWorld_size]; omega, fun j hj => Lib.bytesWorld_at_old w e s j (Nat.lt_of_lt_of_le hj h.below.size)⟩, ?_, fun q hq => ?_⟩
 · simp only [keys, List.map_cons, List.nodup_cons]
   refine ⟨fun hm => ?_, h.nodup⟩
   obtain ⟨e, he, h1⟩ := List.mem_map.1 hm
   have := hlt e he
   omega
 · rcases List.mem_cons.1 hq with rfl | hq
   · refine ⟨h.below.size, _, e, _, Lib.bytesWorld_at_new w e s, fun i v hv => ?_⟩
     have hi : i < s.data.size := by
       have := (List.getElem?_eq_some_iff.1 hv).1
       simpa [txtV] using this
     simp only [Lib.bytesCells]
     rw [Array.getElem?_append_left (by simpa using hi)]
     simpa [txtV] using hv
   · have h1 := h.has q hq
     exact ⟨h1.1, h1.2.of_block (Lib.bytesWorld_at_old w e s _ (hlt q hq))⟩
theorem O_txt (s : ByteArray) {src dt e ty : TypeId} {u : TypeDesc} {dst : Option Tmp} {x : Operand} {pos : String} {after : Array Edge} {gd : Option (Nat × Bool)}
   (hs : P.underlying src = some u) (hd : P.underlying dt = some (.slice e)) (he : P.underlying e = some (.int .u8)) (hx : ∀ δ, ev δ ρ x = .string s) (hdst : dstOk n dst = true)
   (h : ∀ b cap, s.size ≤ cap → K (putF ρ dst (.slice (some ⟨b, 0, none⟩) s.size cap)) ((b, .txt (txtV s.data.toList)) :: σ)) : SO P W0 n Q ⟨dst, .convert src dt x, ty, pos, after, gd⟩ ρ σ K := by
 intro w0 K0 a w g1 g2 g3
 have hr : (execOp (ev (slot a) ρ) ⟨dst, .convert src dt x, ty, pos, after, gd⟩).run P w = .ok (.value (.slice (some ⟨w.heap.size, 0, none⟩) s.size (grownCap w s.size 0 e))) (Lib.bytesWorld w e s) := by
   simp only [execOp, hx, Sem.run_bind, Lib.run_convert_string_bytes w src dt e s hs hd he]
   rfl
 unfold Oper.wp
 rw [FSd.eval g1, hr]
 refine ⟨_, _, (FSd.put g1 hdst _).fs, g2.txt e s, ?_, h _ _ ?_⟩
 · refine g3.trans ⟨by rw [Lib.bytesWorld_size]; omega, fun b hb _ => Lib.bytesWorld_at_old w e s b hb, fun b hb => ?_⟩
   simp only [keys, List.map_cons, List.mem_cons] at hb
   rcases hb with rfl | hb
   · exact .inr (Nat.le_refl _)
   · exact .inl hb
 · exact grownCap_ge ..
end
theorem ixb {P : Program} {W0 : World} {n : Nat} {Q : SQ} {ρ : Fr} {σ : Heaplet} {ops : Array Oper} {rest : List Oper} (i : Int) (X : List UInt8) (k : IntKind) (c : UInt8) {d : Nat} {t ty : TypeId} {x ix : Operand} {pos : String} {after : Array Edge} {gd : Option (Nat × Bool)}
   (ht : P.underlying t = some .string) (hc : X[i.toNat]? = some c) (h : SL P W0 n ops Q rest ((d, .int .u8 (c.toNat : Int)) :: ρ) σ) (h0 : 0 ≤ i := by omega) (hx : ∀ δ, ev δ ρ x = .string (bS X) := by exact fun _ => rfl) (hi : ∀ δ, ev δ ρ ix = .int k i := by exact fun _ => rfl)
   (hw : ∀ δ, Region.wanted ⟨some d, .index t x ix, ty, pos, after, gd⟩ (yieldF ops n δ ρ) = true := by exact fun _ => rfl) (hd : Nat.blt d n = true := by exact rfl) : SL P W0 n ops Q (⟨some d, .index t x ix, ty, pos, after, gd⟩ :: rest) ρ σ := by
 have h1 := (List.getElem?_eq_some_iff.1 hc).1
 have hs := bS_size X
 have e : byteN (bS X) i = (c.toNat : Int) := by
   have := bS_byte hc
   rwa [Int.toNat_of_nonneg h0] at this
 rw [← e] at h
 exact ixs i (bS X) k ht h h0 (by omega) hx hi hw hd
theorem run_catB {P : Program} {ρ : Fr} {w : World} {δ : Nat → Value} (a b : List UInt8) (hs : a.length + b.length ≤ 9223372036854775807) {dst : Option Tmp} {t t2 ty : TypeId} {x y : Operand} {pos : String} {after : Array Edge} {gd : Option (Nat × Bool)}
   (hx : ev δ ρ x = .string (bS a)) (hy : ev δ ρ y = .string (bS b)) : (execOp (ev δ ρ) ⟨dst, .binOp .add t x y t2, ty, pos, after, gd⟩).run P w = .ok (.value (.string (bS (a ++ b)))) w := by
 rw [← bS_app]
 exact run_cat (bS a) (bS b) (by rw [bS_size, bS_size]; exact hs) hx hy
theorem strB_eq (a b : List UInt8) : ((bS a).toList == (bS b).toList) = decide (a = b) := by
 rw [str_eq]
 exact decide_eq_decide.2 ⟨bS_inj, fun h => by rw [h]⟩
section
variable {P : Program} {W0 : World} {n : Nat} {Q : SQ} {ρ : Fr} {σ : Heaplet} {K : Fr → Heaplet → Prop} {dst : Option Tmp} {t ty : TypeId} {x : Operand} {pos : String} {after : Array Edge} {gd : Option (Nat × Bool)}
theorem O_range (s : ByteArray) (ht : P.underlying t = some .string) (hx : ∀ δ, ev δ ρ x = .string s) (hd : dstOk n dst = true)
   (h : ∀ b, K (putF ρ dst (.pointer (some ⟨b, 0, none⟩))) ((b, .it s 0) :: σ)) : SO P W0 n Q ⟨dst, .range t x, ty, pos, after, gd⟩ ρ σ K :=
 O_new (fun b => .pointer (some ⟨b, 0, none⟩)) (.stringIter s 0) (.it s 0) hd (fun δ w => by simp only [execOp, hx, run_range_string w t s ht, Sem.run_bind]; rfl) ⟨rfl, rfl⟩ fun b _ _ => h b
theorem O_next {b : Nat} {s : ByteArray} {p p' : Nat} (v : Value) (hd : dstOk n dst = true) (hx : ∀ δ, ev δ ρ x = .pointer (some ⟨b, 0, none⟩))
   (hr : ∀ w : World, w.heap[b]? = some (.stringIter s p) → (Instr.next (.pointer (some ⟨b, 0, none⟩)) true ty).run P w = .ok v (w.iterAt b s p'))
   (h : K (putF ρ dst v) ((b, .it s p') :: σ)) : SO P W0 n Q ⟨dst, .next x true, ty, pos, after, gd⟩ ρ ((b, .it s p) :: σ) K := by
 intro w0 K0 a w g1 g2 g3
 have hb : w.heap[b]? = some (.stringIter s p) := (g2.has (b, .it s p) (by simp)).2
 have hrun : (execOp (ev (slot a) ρ) ⟨dst, .next x true, ty, pos, after, gd⟩).run P w = .ok (.value v) (w.iterAt b s p') := by
   simp only [execOp, hx, Sem.run_bind, hr w hb]
   rfl
 have hlt : b < w.heap.size := (Array.getElem?_eq_some_iff.1 hb).1
 have hz : w.heap.size = (w.iterAt b s p').heap.size := by simp [World.iterAt]
 have hk : ∀ k, k ≠ b → (w.iterAt b s p').heap[k]? = w.heap[k]? := fun k hk => by
   simp only [World.iterAt, Array.getElem?_setIfInBounds]
   rw [if_neg (fun q => hk q.symm)]
 unfold Oper.wp
 rw [FSd.eval g1, hrun]
 exact ⟨_, _, (FSd.put g1 hd _).fs, g2.upd hz rfl rfl rfl hk (show Has (w.iterAt b s p') b (.it s p') from Lib.iterAt_heap w b s p p' hb), g3.trans (Upd.upd hz hk), h⟩
theorem O_nextE {b : Nat} {s : ByteArray} {p : Nat} (hp : ¬ p < s.size) (hd : dstOk n dst = true) (hx : ∀ δ, ev δ ρ x = .pointer (some ⟨b, 0, none⟩))
   (h : K (putF ρ dst (.tuple #[.bool false])) ((b, .it s p) :: σ)) : SO P W0 n Q ⟨dst, .next x true, ty, pos, after, gd⟩ ρ ((b, .it s p) :: σ) K := by
 intro w0 K0 a w g1 g2 g3
 have hb : w.heap[b]? = some (.stringIter s p) := (g2.has (b, .it s p) (by simp)).2
 have hrun : (execOp (ev (slot a) ρ) ⟨dst, .next x true, ty, pos, after, gd⟩).run P w = .ok (.value (.tuple #[.bool false])) w := by
   simp only [execOp, hx, Sem.run_bind, Lib.run_next_end_at w b s p ty hb hp]
   rfl
 unfold Oper.wp
 rw [FSd.eval g1, hrun]
 exact ⟨_, _, (FSd.put g1 hd _).fs, g2, g3, h⟩
end
section
variable {P : Program} {W0 : World} {n : Nat} {Q : SQ} {ρ : Fr} {σ : Heaplet} {K : Fr → Heaplet → Prop} {dst : Option Tmp} {t ty pt it : TypeId} {x y : Operand} {pos : String} {after : Array Edge} {gd : Option (Nat × Bool)}
theorem run_usd {w : World} {δ : Nat → Value} (g m c : Nat) (hc : c ≠ 0) (hx : ev δ ρ x = .slice (some ⟨g, 0, none⟩) m c) :
   (execOp (ev δ ρ) ⟨dst, .call ⟨.builtin .unsafeSliceData, #[x], #[t]⟩, ty, pos, after, gd⟩).run P w = .ok (.value (.pointer (some ⟨g, 0, none⟩))) w := by
 simp only [execOp, resolve, List.map_toArray, List.map_cons, List.map_nil, hx, invoke, builtin, Sem.run_bind, Sem.run_pure, Result.andThen_ok, Lib.run_unsafeSliceData_row w #[t] ty _ m c hc]
theorem run_usd_nil {w : World} {δ : Nat → Value} (m c : Nat) (hx : ev δ ρ x = .slice none m c) :
   (execOp (ev δ ρ) ⟨dst, .call ⟨.builtin .unsafeSliceData, #[x], #[t]⟩, ty, pos, after, gd⟩).run P w = .ok (.value (.pointer none)) w := by
 simp only [execOp, resolve, List.map_toArray, List.map_cons, List.map_nil, hx, invoke, builtin, Sem.run_bind, Sem.run_pure, Result.andThen_ok, Lib.run_unsafeSliceData_nil w #[t] ty m c]
theorem run_us_none {w : World} {δ : Nat → Value} (hx : ev δ ρ x = .pointer none) (hy : ev δ ρ y = .int .i64 0) :
   (execOp (ev δ ρ) ⟨dst, .call ⟨.builtin .unsafeString, #[x, y], #[pt, it]⟩, ty, pos, after, gd⟩).run P w = .ok (.value (.string (bS []))) w := by
 simp only [execOp, resolve, List.map_toArray, List.map_cons, List.map_nil, hx, hy, invoke, builtin, Sem.run_bind, Sem.run_pure, Result.andThen_ok, Lib.run_unsafeString_none w pt it ty none]
 rfl
theorem O_us (g c : Nat) (l : List UInt8) {e : TypeId} (hp : P.underlying pt = some (.pointer e)) (hce : P.cellsOf e = 1) (h0 : l ≠ []) (hk : (Gs.at g c).ok 1 l.length (txtV l)) (hx : ∀ δ, ev δ ρ x = .pointer (some ⟨g, 0, none⟩)) (hy : ∀ δ, ev δ ρ y = .int .i64 (l.length : Int)) (hd : dstOk n dst = true)
   (h : K (putF ρ dst (.string (bS l))) ((g, .txt (txtV l)) :: σ)) : SO P W0 n Q ⟨dst, .call ⟨.builtin .unsafeString, #[x, y], #[pt, it]⟩, ty, pos, after, gd⟩ ρ ((Gs.at g c).ent e 1 (txtV l) ++ σ) K := by
 intro w0 K0 a w g1 g2 g3
 obtain ⟨_, C, hb, hN, hC⟩ := g2.has (g, .cells e (c * 1) (txtV l)) (by simp [Gs.ent])
 simp only at hb hN hC
 obtain ⟨hk1, hk2, hk3⟩ := hk
 have h63 : l.length ≤ 9223372036854775807 := by unfold maxLen at hk2; omega
 have hcell : ∀ j x, l[j]? = some x → w.cell? ((⟨g, 0, none⟩ : Addr).add j) = some (.int .u8 x.toNat) := fun j x hx => by
   have := hC j (.int .u8 x.toNat) (txt_at hx)
   rw [Addr.add_mid]
   simp [World.cell?, hb, this]
 have hsh : w.shape? g = some (e, C.size) := by simp [World.shape?, hb]
 have hrow := Lib.run_unsafeString_row (P := P) w pt it ty e hp hce g C.size hsh l h0 (by omega) h63 hcell
 have hrun : (execOp (ev (slot a) ρ) ⟨dst, .call ⟨.builtin .unsafeString, #[x, y], #[pt, it]⟩, ty, pos, after, gd⟩).run P w = .ok (.value (.string (bS l))) (w.freeze ⟨g, 0, none⟩ l.length) := by
   simp only [execOp, resolve, List.map_toArray, List.map_cons, List.map_nil, hx, hy, invoke, builtin, Sem.run_bind, Sem.run_pure, Result.andThen_ok, hrow]
 have hz : w.heap.size = (w.freeze ⟨g, 0, none⟩ l.length).heap.size := by unfold World.freeze; split <;> simp
 have hkeep : ∀ k, k ≠ g → (w.freeze ⟨g, 0, none⟩ l.length).heap[k]? = w.heap[k]? := fun k hk => by
   unfold World.freeze
   split
   · rfl
   · simp only [Array.getElem?_modify]; rw [if_neg (fun q => hk q.symm)]
 have hnew : Has (w.freeze ⟨g, 0, none⟩ l.length) g (.txt (txtV l)) := by
   have : ∃ fr, (w.freeze ⟨g, 0, none⟩ l.length).heap[g]? = some (.cells C e fr) := by
     unfold World.freeze
     split
     · exact ⟨_, hb⟩
     · simp only [Array.getElem?_modify, if_true, hb, Option.map_some]; exact ⟨_, rfl⟩
   obtain ⟨fr, hfr⟩ := this
   exact ⟨C, e, fr, hfr, hC⟩
 have hos : (w.freeze ⟨g, 0, none⟩ l.length).os = w.os ∧ (w.freeze ⟨g, 0, none⟩ l.length).tape = w.tape ∧ (w.freeze ⟨g, 0, none⟩ l.length).output = w.output := by unfold World.freeze; split <;> exact ⟨rfl, rfl, rfl⟩
 unfold Oper.wp
 rw [FSd.eval g1, hrun]
 have g2' : Sat W0 w ((g, .cells e (c * 1) (txtV l)) :: σ) := g2
 exact ⟨_, _, (FSd.put g1 hd _).fs, g2'.upd hz hos.1 hos.2.1 hos.2.2 hkeep hnew, g3.trans (Upd.upd hz hkeep), h⟩
end
theorem run_indexB {P : Program} {ρ : Fr} {w : World} {δ : Nat → Value} (i : Int) (X : List UInt8) (k : IntKind) (c : UInt8) {dst : Option Tmp} {t ty : TypeId} {x ix : Operand} {pos : String} {after : Array Edge} {gd : Option (Nat × Bool)}
   (ht : P.underlying t = some .string) (hx : ev δ ρ x = .string (bS X)) (hi : ev δ ρ ix = .int k i) (h0 : 0 ≤ i) (hc : X[i.toNat]? = some c) : (execOp (ev δ ρ) ⟨dst, .index t x ix, ty, pos, after, gd⟩).run P w = .ok (.value (.int .u8 (c.toNat : Int))) w := by
 have h1 := (List.getElem?_eq_some_iff.1 hc).1
 have hs := bS_size X
 have e : byteN (bS X) i = (c.toNat : Int) := by
   have := bS_byte hc
   rwa [Int.toNat_of_nonneg h0] at this
 rw [← e]
 exact run_indexS i (bS X) k ht hx hi h0 (by omega)
section
variable {P : Program} {W0 : World} {n : Nat} {Q : SQ} {ρ : Fr} {σ : Heaplet} {K : Fr → Heaplet → Prop} {dst : Option Tmp} {ty t2 : TypeId} {x y : Operand} {pos : String} {after : Array Edge} {gd : Option (Nat × Bool)}
theorem Has.shape {w : World} {b N : Nat} {e : TypeId} {cs : List Value} (h : Has w b (.cells e N cs)) : w.shape? b = some (e, N) := by
 obtain ⟨C, hb, hN, _⟩ := h
 simp [World.shape?, hb, hN]
theorem O_toU {b N sz : Nat} {e src dt t : TypeId} {cs : List Value} (hs : P.underlying src = some (.pointer t)) (hd : P.underlying dt = some .unsafePointer) (ht : (P.info? t).map (·.size) = some sz) (hz : sz ≠ 0) (hN : 0 < N)
   (hx : ∀ δ, ev δ ρ x = .pointer (some ⟨b, 0, none⟩)) (hm : (b, Blk.cells e N cs) ∈ σ) (hdst : dstOk n dst = true) (h : K (putF ρ dst (.pointer (some ⟨b, 0, none⟩))) σ) : SO P W0 n Q ⟨dst, .convert src dt x, ty, pos, after, gd⟩ ρ σ K := by
 obtain ⟨j, hj, hjs⟩ := Option.map_eq_some_iff.1 ht
 refine O_val _ hdst (fun δ w hw => ?_) h
 have hsh := (hw.has _ hm).2.shape
 simp only [execOp, hx, Sem.run_bind, Lib.run_to_unsafe w ⟨b, 0, none⟩ hs hd hj (by rw [hjs]; exact hz) hsh hN]
 rfl
theorem O_fromU {b N : Nat} {e src dt t : TypeId} {cs : List Value} (hs : P.underlying src = some .unsafePointer) (hd : P.underlying dt = some (.pointer t)) (ht : (P.info? t).isSome = true) (hl : liesAt P P.depth e (N / P.cellsOf e) 0 t 1 = true)
   (hx : ∀ δ, ev δ ρ x = .pointer (some ⟨b, 0, none⟩)) (hm : (b, Blk.cells e N cs) ∈ σ) (hdst : dstOk n dst = true) (h : K (putF ρ dst (.pointer (some ⟨b, 0, none⟩))) σ) : SO P W0 n Q ⟨dst, .convert src dt x, ty, pos, after, gd⟩ ρ σ K := by
 obtain ⟨j, hj⟩ := Option.isSome_iff_exists.1 ht
 refine O_val _ hdst (fun δ w hw => ?_) h
 have hsh := (hw.has _ hm).2.shape
 simp only [execOp, hx, Sem.run_bind, Lib.run_from_unsafe w ⟨b, 0, none⟩ hs hd hj hsh hl]
 rfl
theorem run_neqP {w : World} {δ : Nat → Value} {b : Nat} {t te : TypeId} (ht : P.underlying t = some (.pointer te)) (hi : (P.info? te).isSome = true) (hx : ev δ ρ x = .pointer (some ⟨b, 0, none⟩)) (hy : ev δ ρ y = .pointer (some ⟨b, 0, none⟩)) :
   (execOp (ev δ ρ) ⟨dst, .binOp .neq t x y t2, ty, pos, after, gd⟩).run P w = .ok (.value (.bool false)) w := by
 obtain ⟨j, hj⟩ := Option.isSome_iff_exists.1 hi
 simp only [execOp, hx, hy, Sem.run_bind]
 rw [show (eqGuard BinOp.neq t x y (.pointer (some ⟨b, 0, none⟩)) (.pointer (some ⟨b, 0, none⟩))).run P w = .ok () w from rfl, Result.andThen_ok, Lib.run_neq_ptr_same w _ ht hj]
 rfl
theorem next_ascii {w : World} {b i : Nat} {X : List UInt8} {c : UInt8} (hc : X[i]? = some c) (ha : c.toNat < 128) (hb : w.heap[b]? = some (.stringIter (bS X) i)) :
   (Instr.next (.pointer (some ⟨b, 0, none⟩)) true ty).run P w = .ok (.tuple #[.bool true, .int .i64 i, .int .i32 (c.toNat : Int)]) (w.iterAt b (bS X) (i + 1)) := by
 have hl := (List.getElem?_eq_some_iff.1 hc)
 have h : i < (bS X).size := by rw [bS_size]; exact hl.1
 have e : (bS X)[i]'h = c := by
   have := bS_byte hc
   have h2 : (bS X)[i]'h = X[i]'hl.1 := by show X.toArray[i]'_ = _; simp
   rw [h2, hl.2]
 have := Lib.run_next_ascii_at (P := P) w b (bS X) i ty hb h (by rw [e]; exact ha)
 rw [e] at this
 exact this
theorem next_high {w : World} {b i : Nat} {X : List UInt8} {c : UInt8} (hc : X[i]? = some c) (hb : w.heap[b]? = some (.stringIter (bS X) i)) :
   (Instr.next (.pointer (some ⟨b, 0, none⟩)) true ty).run P w = .ok (.tuple #[.bool true, .int .i64 i, .int .i32 ((Utf8.decode (bS X) i).1 : Int)]) (w.iterAt b (bS X) (i + (Utf8.decode (bS X) i).2)) := by
 have hl := (List.getElem?_eq_some_iff.1 hc)
 exact Lib.run_next_any_at (P := P) w b (bS X) i ty hb (by rw [bS_size]; exact hl.1)
theorem decode_hi {i : Nat} {X : List UInt8} {c : UInt8} (hc : X[i]? = some c) (ha : ¬ c.toNat < 128) : 128 ≤ (Utf8.decode (bS X) i).1 := by
 have hl := (List.getElem?_eq_some_iff.1 hc)
 have h : i < (bS X).size := by rw [bS_size]; exact hl.1
 have e : (bS X)[i]'h = c := by
   have h2 : (bS X)[i]'h = X[i]'hl.1 := by show X.toArray[i]'_ = _; simp
   rw [h2, hl.2]
 exact (decode_high (bS X) i h (by rw [e]; omega)).1
end
end Go.Sl
namespace Go.Proofs.YtnhmmjogfkjceaaGreatDoor
open Go.Sl Go.ChangeShapes Go.WideShapes Go.ChangeAt Go.RowKit Go.Deep
theorem laidVars_drop {P : Program} {w : World} : ∀ {l1 l2 : List (String × DataW Unit)} {ps : List MemPlace}, DataW.LaidVars P w (l1 ++ l2) ps → ∃ qs, DataW.LaidVars P w l2 qs
 | [], _, ps, h => ⟨ps, h⟩
 | _ :: _, _, _, h => by
   obtain ⟨g, t, cs, fuel, p, q, _, _, _, _, h, _⟩ := h
   exact laidVars_drop h
theorem var_below {P : Program} {W w : World} {name : String} {cs : Array Value} (hb : Below W.heap.size W w) (h : W.var? P name = some cs) : w.var? P name = some cs := by
 unfold World.var? at h ⊢
 cases hg : P.globalNamed name with
 | none => rw [hg] at h; cases h
 | some g =>
   rw [hg] at h
   simp only [Option.bind_some] at h ⊢
   have hlt : g < W.heap.size := by
     rcases Nat.lt_or_ge g W.heap.size with q | q
     · exact q
     · rw [Array.getElem?_eq_none q] at h; cases h
   rw [hb.block g hlt]
   exact h
theorem laid_tab {W : World} {name : String} {k : IntKind} {zs : List Int} {rest : List (String × DataW Unit)} {ps : List MemPlace} {g : Nat} {t e : TypeId} {n : Nat} {P : Program}
   (hg : P.globalNamed name = some g) (hty : (P.globals[g]?).map (·.type) = some t) (ht : P.underlying t = some (.array n e)) (he : P.underlying e = some (.int k)) (hce : P.cellsOf e = 1) (hct : P.cellsOf t = n)
   (h : DataW.LaidVars P W ((name, Lib.tabData k zs) :: rest) ps) : Lib.TabIs P W name k zs := by
 obtain ⟨g', t', cs, fuel, p, q, hg', ht', hvar, hd, _, _⟩ := h
 obtain rfl := Option.some.inj (hg.symm.trans hg')
 obtain rfl := Option.some.inj (hty.symm.trans ht')
 unfold Lib.TabIs
 rw [hvar, ← Lib.cells_of_tab ht he hce hct hd]
theorem cell_below {W w : World} {b off : Nat} {v : Value} (hb : Below W.heap.size W w) (h : W.cell? ⟨b, off, none⟩ = some v) : w.cell? ⟨b, off, none⟩ = some v := by
 have hlt : b < W.heap.size := by
   rcases Nat.lt_or_ge b W.heap.size with q | q
   · exact q
   · simp [World.cell?, Array.getElem?_eq_none q] at h
 unfold World.cell? at h ⊢
 rw [hb.block b hlt]
 exact h
def flatCells : DataW Unit → List Value
  | .lit (.int k n) => [.int k n]
  | .lit (.string s) => [.string ⟨s.toArray⟩]
  | .lit (.bool b) => [.bool b]
  | .agg l => flatAll l
  | _ => []
where flatAll : List (DataW Unit) → List Value
  | [] => []
  | d :: r => flatCells d ++ flatAll r
def spaceRows : DataW Unit → List (DataW Unit)
 | .ptr (.agg (.slice l _ :: _)) => l
 | _ => []
noncomputable def lowW : Nat := (World.holding Tryz.prog default ⟨#[], #[], []⟩).heap.size
noncomputable def putG (h : Array Obj) (g : Nat) (cs : Array Value) : Array Obj := h.modify g fun
  | .cells _ t frozen => .cells cs t frozen
  | o => o
theorem arg_strB {H : Type} {enc : TypeId × Value → H} {W : World} {b0 : Nat} {v : Value} {d : DataW H} {ps : List MemPlace} {l : List (DataW H)} (hk : Rows.uptoSmall H l = true) (hm : d ∈ l) (hv : Value.okWide Tryz.prog W .any b0 9 v) (hd : DataW.Trod enc Tryz.prog W 0 (fun _ => true) true 9 v d ps) : ∃ s : List UInt8, v = .string (bS s) ∧ s.length ≤ 1048576 := by
 obtain ⟨s, rfl⟩ := okWide_string Tryz.underlying9 hv
 obtain ⟨fuel, hf⟩ := hd
 obtain ⟨s', hs, hz, -⟩ := DataW.trod_string Tryz.underlying9 hf
 have e : s = s' := by simpa [Value.cells] using hs
 subst e
 have h1 := Nat.le_trans (part_leB hm) (boundB hk)
 rw [show d = .lit (.string s.data.toList) from congrArg Prod.fst hz] at h1
 simp only [Rows.uptoBulk] at h1
 exact ⟨s.data.toList, by rw [← bS_of], by omega⟩
end Go.Proofs.YtnhmmjogfkjceaaGreatDoor
namespace Go.Proofs.YtnhmmjogfkjceaaGreatDoor
open Go.Sl
abbrev encP (n : Int) : Value := .int .u32 n
def limV : List Int → Nat
 | [] => 0
 | x :: r => x.toNat + 4294967296 * limV r
def LimOk (l : List Int) : Prop := ∀ x ∈ l, 0 ≤ x ∧ x < 4294967296
def lim (n : Nat) : List Int := if h : n = 0 then [] else ((n % 4294967296 : Nat) : Int) :: lim (n / 4294967296)
decreasing_by omega
theorem lim_zero : lim 0 = [] := by rw [lim, dif_pos rfl]
theorem lim_pos {n : Nat} (h : n ≠ 0) : lim n = ((n % 4294967296 : Nat) : Int) :: lim (n / 4294967296) := by rw [lim, dif_neg h]
theorem lim_val : ∀ n : Nat, limV (lim n) = n := by
 intro n
 induction n using Nat.strongRecOn with
 | _ n ih =>
   by_cases h : n = 0
   · rw [h, lim_zero]; rfl
   · rw [lim_pos h]
     show (((n % 4294967296 : Nat) : Int)).toNat + 4294967296 * limV (lim (n / 4294967296)) = n
     rw [ih _ (by omega), Int.toNat_natCast]
     omega
theorem lim_ok : ∀ n : Nat, LimOk (lim n) := by
 intro n
 induction n using Nat.strongRecOn with
 | _ n ih =>
   by_cases h : n = 0
   · rw [h, lim_zero]; intro x hx; cases hx
   · rw [lim_pos h]
     intro x hx
     rcases List.mem_cons.1 hx with q | q
     · rw [q]; omega
     · exact ih _ (by omega) x q
theorem limV_app (l m : List Int) : limV (l ++ m) = limV l + 4294967296 ^ l.length * limV m := by
 induction l with
 | nil => simp [limV]
 | cons x r ih =>
   simp only [List.cons_append, limV, List.length_cons, ih, Nat.pow_succ]
   rw [Nat.mul_add, ← Nat.mul_assoc, Nat.mul_comm (4294967296 ^ r.length) 4294967296]
   omega
theorem limV_lt {l : List Int} (h : LimOk l) : limV l < 4294967296 ^ l.length := by
 induction l with
 | nil => simp [limV]
 | cons x r ih =>
   have h1 := h x (List.mem_cons_self ..)
   have h2 := ih fun y hy => h y (List.mem_cons_of_mem _ hy)
   simp only [limV, List.length_cons, Nat.pow_succ]
   have : limV r + 1 ≤ 4294967296 ^ r.length := h2
   have h3 := Nat.mul_le_mul_left 4294967296 this
   rw [Nat.mul_comm (4294967296 ^ r.length)]
   omega
theorem LimOk.app {l m : List Int} (h : LimOk l) (g : LimOk m) : LimOk (l ++ m) := fun x hx => (List.mem_append.1 hx).elim (h x) (g x)
theorem LimOk.take {l : List Int} (h : LimOk l) (n : Nat) : LimOk (l.take n) := fun x hx => h x (List.mem_of_mem_take hx)
theorem lim_uniq : ∀ {l : List Int}, LimOk l → l.getLast? ≠ some 0 → l = lim (limV l)
 | [], _, _ => by rw [show limV [] = 0 from rfl, lim_zero]
 | x :: r, h, hz => by
   have h1 := h x (List.mem_cons_self ..)
   have h2 : LimOk r := fun y hy => h y (List.mem_cons_of_mem _ hy)
   have hr : r.getLast? ≠ some 0 := by
     cases r with
     | nil => simp
     | cons y s => rw [List.getLast?_cons_cons] at hz; exact hz
   have ih := lim_uniq h2 hr
   have hne : limV (x :: r) ≠ 0 := by
     intro q
     have q1 : x.toNat + 4294967296 * limV r = 0 := q
     have q2 : limV r = 0 := by omega
     have q3 : x = 0 := by omega
     rw [q2, lim_zero] at ih
     subst ih
     exact hz (by rw [q3]; rfl)
   rw [lim_pos hne]
   have e1 : limV (x :: r) = x.toNat + 4294967296 * limV r := rfl
   rw [show limV (x :: r) % 4294967296 = x.toNat by omega, show limV (x :: r) / 4294967296 = limV r by omega, ← ih, Int.toNat_of_nonneg h1.1]
theorem limV_take {l : List Int} {n : Nat} (hn : n < l.length) (hz : l[n]? = some 0) : limV (l.take (n + 1)) = limV (l.take n) := by
 rw [List.take_add_one, hz, limV_app]
 simp [limV]
theorem lim_take {l : List Int} (h : LimOk l) {n : Nat} (hn : n ≤ l.length) (hv : limV (l.take n) = limV l) (hz : n = 0 ∨ ∃ x, l[n - 1]? = some x ∧ x ≠ 0) : l.take n = lim (limV l) := by
 rw [← hv]
 refine lim_uniq (h.take n) ?_
 rcases hz with q | ⟨x, q1, q2⟩
 · rw [q]; simp
 · rcases Nat.eq_zero_or_pos n with q0 | q0
   · rw [q0]; simp
   rw [List.getLast?_eq_getElem?, List.length_take]
   intro z
   have hlt := (List.getElem?_eq_some_iff.1 q1).1
   rw [show min n l.length - 1 = n - 1 by omega, List.getElem?_take_of_lt (by omega), q1] at z
   exact q2 (Option.some.inj z)
theorem lim_len_eq {n : Nat} : (lim n).length = 0 ↔ n = 0 := by
 by_cases h : n = 0
 · rw [h, lim_zero]; simp
 · rw [lim_pos h]; simp [h]
theorem limV_step {l : List Int} {i : Nat} {x : Int} (h : l[i]? = some x) : limV (l.take (i + 1)) = limV (l.take i) + 4294967296 ^ i * x.toNat := by
 have hl := (List.getElem?_eq_some_iff.1 h).1
 rw [List.take_add_one, h, limV_app, List.length_take, Nat.min_eq_left (by omega)]
 simp [limV]
theorem lim_len_lt {n k : Nat} (h : n < 4294967296 ^ k) : (lim n).length ≤ k := by
 induction k generalizing n with
 | zero => rw [show n = 0 by simpa using h, lim_zero]; simp
 | succ k ih =>
   by_cases hn : n = 0
   · rw [hn, lim_zero]; simp
   · rw [lim_pos hn]
     have := ih (n := n / 4294967296) (by rw [Nat.pow_succ] at h; exact Nat.div_lt_of_lt_mul (by rw [Nat.mul_comm]; exact h))
     simp only [List.length_cons]
     omega
theorem lim_len_mono {a b : Nat} (h : a ≤ b) : (lim a).length ≤ (lim b).length := by
 have h1 := limV_lt (lim_ok b)
 rw [lim_val] at h1
 exact lim_len_lt (Nat.lt_of_le_of_lt h h1)
end Go.Proofs.YtnhmmjogfkjceaaGreatDoor
namespace Go.Proofs.YtnhmmjogfkjceaaGreatDoor
open Go.Sl
theorem limV_snoc (ys : List Int) (z : Nat) : limV (ys ++ [(z : Int)]) = limV ys + 4294967296 ^ ys.length * z := by
 rw [limV_app]
 simp [limV]
theorem pow_split {B i c : Nat} (hB : 0 < B) : B ^ i * (c % B) + B ^ (i + 1) * (c / B) = B ^ i * c := by
 rw [Nat.pow_succ, Nat.mul_assoc, ← Nat.mul_add, Nat.mod_add_div]
theorem times_step {l ys : List Int} {i n more carry : Nat} {x : Int} (hl : ys.length = i) (hx : l[i]? = some x) (h : limV ys + 4294967296 ^ i * carry = limV (l.take i) * n + more) :
   limV (ys ++ [(((carry + x.toNat * n) % 4294967296 : Nat) : Int)]) + 4294967296 ^ (i + 1) * ((carry + x.toNat * n) / 4294967296) = limV (l.take (i + 1)) * n + more := by
 rw [limV_snoc, limV_step hx, hl]
 have e := pow_split (B := 4294967296) (i := i) (c := carry + x.toNat * n) (by decide)
 have e2 : 4294967296 ^ i * (carry + x.toNat * n) = 4294967296 ^ i * carry + 4294967296 ^ i * x.toNat * n := by rw [Nat.mul_add, Nat.mul_assoc]
 have e3 : (limV (l.take i) + 4294967296 ^ i * x.toNat) * n = limV (l.take i) * n + 4294967296 ^ i * x.toNat * n := Nat.add_mul _ _ _
 omega
theorem times_carry {x carry n : Nat} (hx : x < 4294967296) (hc : carry < 4294967296) (hn : n < 4294967296) : carry + x * n < 18446744073709551616 ∧ (carry + x * n) / 4294967296 < 4294967296 := by
 have h : x * n ≤ 4294967295 * 4294967295 := Nat.mul_le_mul (by omega) (by omega)
 omega
theorem LimOk.snoc {ys : List Int} {z : Nat} (h : LimOk ys) (hz : z < 4294967296) : LimOk (ys ++ [(z : Int)]) := h.app fun x hx => by rw [List.mem_singleton.1 hx]; omega
theorem wrap_u32 (z : Int) : IntKind.wrap .u32 z = z % 4294967296 := by simp [IntKind.wrap, IntKind.bits, IntKind.signed]
theorem times_body {l ys : List Int} {i n more : Nat} {c e : Int} (hyl : ys.length = i) (hyo : LimOk ys) (hx : l[i]? = some e) (he : 0 ≤ e ∧ e < 4294967296) (hc : 0 ≤ c ∧ c < 4294967296) (hn : n < 4294967296)
   (h : limV ys + 4294967296 ^ i * c.toNat = limV (l.take i) * n + more) :
   (ys ++ [IntKind.wrap .u32 (c + e * (n : Int))]).length = i + 1 ∧ LimOk (ys ++ [IntKind.wrap .u32 (c + e * (n : Int))]) ∧ (0 ≤ (c + e * (n : Int)) / 4294967296 ∧ (c + e * (n : Int)) / 4294967296 < 4294967296) ∧
   limV (ys ++ [IntKind.wrap .u32 (c + e * (n : Int))]) + 4294967296 ^ (i + 1) * ((c + e * (n : Int)) / 4294967296).toNat = limV (l.take (i + 1)) * n + more := by
 obtain ⟨cn, rfl⟩ := Int.eq_ofNat_of_zero_le hc.1
 obtain ⟨en, rfl⟩ := Int.eq_ofNat_of_zero_le he.1
 have e1 : (cn : Int) + (en : Int) * (n : Int) = ((cn + en * n : Nat) : Int) := by simp
 rw [e1, wrap_u32]
 have e2 : ((cn + en * n : Nat) : Int) % 4294967296 = (((cn + en * n) % 4294967296 : Nat) : Int) := by omega
 have e3 : (((cn + en * n : Nat) : Int) / 4294967296).toNat = (cn + en * n) / 4294967296 := by omega
 rw [e2, e3]
 obtain ⟨h1, h2⟩ := times_carry (x := en) (carry := cn) (n := n) (by omega) (by omega) hn
 refine ⟨by simp [hyl], LimOk.snoc hyo (by omega), by omega, ?_⟩
 have := times_step (l := l) (ys := ys) (i := i) (n := n) (more := more) (carry := cn) (x := (en : Int)) hyl hx (by simpa using h)
 simpa using this
theorem times_mul {e : Int} {n : Nat} (he : 0 ≤ e ∧ e < 4294967296) (hn : n < 4294967296) : 0 ≤ e * (n : Int) ∧ e * (n : Int) ≤ 18446744065119617025 := by
 obtain ⟨en, rfl⟩ := Int.eq_ofNat_of_zero_le he.1
 have h : en * n ≤ 4294967295 * 4294967295 := Nat.mul_le_mul (by omega) (by omega)
 have e1 : (en : Int) * (n : Int) = ((en * n : Nat) : Int) := by simp
 rw [e1]; omega
theorem times_end {l ys : List Int} {n more : Nat} {c : Int} (hyl : ys.length = l.length) (hyo : LimOk ys) (hc : 0 ≤ c ∧ c < 4294967296) (h : limV ys + 4294967296 ^ l.length * c.toNat = limV (l.take l.length) * n + more) :
   LimOk (ys ++ [c]) ∧ limV (ys ++ [c]) = limV l * n + more := by
 obtain ⟨cn, rfl⟩ := Int.eq_ofNat_of_zero_le hc.1
 refine ⟨hyo.snoc (by omega), ?_⟩
 rw [limV_snoc, hyl]
 rw [List.take_length] at h
 simpa using h
theorem limV_zeros (k : Nat) : limV (List.replicate k 0) = 0 := by
 induction k with
 | zero => rfl
 | succ k ih => rw [List.replicate_succ]; show (0 : Int).toNat + 4294967296 * limV (List.replicate k 0) = 0; rw [ih]; rfl
theorem limOk_zeros (k : Nat) : LimOk (List.replicate k 0) := fun x hx => by rw [List.eq_of_mem_replicate hx]; omega
theorem up_body {l ys : List Int} {i s : Nat} {c e : Int} (hyl : ys.length = i) (hyo : LimOk ys) (hx : l[i]? = some e) (he : 0 ≤ e ∧ e < 4294967296) (hs : s < 32) (hc : 0 ≤ c ∧ c < ((2 ^ s : Nat) : Int))
   (h : limV ys + 4294967296 ^ i * c.toNat = limV (l.take i) * 2 ^ s) :
   0 ≤ e * ((2 ^ s : Nat) : Int) + c ∧ e * ((2 ^ s : Nat) : Int) + c < 18446744073709551616 ∧ (ys ++ [IntKind.wrap .u32 (e * ((2 ^ s : Nat) : Int) + c)]).length = i + 1 ∧ LimOk (ys ++ [IntKind.wrap .u32 (e * ((2 ^ s : Nat) : Int) + c)]) ∧
   (0 ≤ (e * ((2 ^ s : Nat) : Int) + c) / 4294967296 ∧ (e * ((2 ^ s : Nat) : Int) + c) / 4294967296 < ((2 ^ s : Nat) : Int)) ∧
   limV (ys ++ [IntKind.wrap .u32 (e * ((2 ^ s : Nat) : Int) + c)]) + 4294967296 ^ (i + 1) * ((e * ((2 ^ s : Nat) : Int) + c) / 4294967296).toNat = limV (l.take (i + 1)) * 2 ^ s := by
 have hp : 2 ^ s ≤ 2 ^ 31 := Nat.pow_le_pow_right (by decide) (by omega)
 have hp1 : 0 < 2 ^ s := Nat.two_pow_pos s
 obtain ⟨cn, rfl⟩ := Int.eq_ofNat_of_zero_le hc.1
 obtain ⟨en, rfl⟩ := Int.eq_ofNat_of_zero_le he.1
 generalize hq : 2 ^ s = n at *
 have e1 : (en : Int) * (n : Int) + (cn : Int) = ((cn + en * n : Nat) : Int) := by simp [Int.add_comm]
 rw [e1, wrap_u32]
 have hen : en * n ≤ 4294967295 * n := Nat.mul_le_mul_right n (by omega)
 have hen2 : 4294967295 * n ≤ 4294967295 * 2147483648 := Nat.mul_le_mul_left _ hp
 have e2 : ((cn + en * n : Nat) : Int) % 4294967296 = (((cn + en * n) % 4294967296 : Nat) : Int) := by omega
 have e3 : (((cn + en * n : Nat) : Int) / 4294967296).toNat = (cn + en * n) / 4294967296 := by omega
 rw [e2, e3]
 refine ⟨by omega, by omega, by simp [hyl], LimOk.snoc hyo (by omega), ⟨by omega, ?_⟩, ?_⟩
 · have : (cn + en * n) / 4294967296 < n := by
     rw [Nat.div_lt_iff_lt_mul (by decide)]
     have : n * 4294967296 = 4294967295 * n + n := by omega
     omega
   omega
 · have := times_step (l := l) (ys := ys) (i := i) (n := n) (more := 0) (carry := cn) (x := (en : Int)) hyl hx (by simpa using h)
   simpa using this
theorem up_shl {e : Int} {k s : Nat} (hs : s < 32) (he : 0 ≤ e ∧ e < 4294967296) : IntKind.wrap .u64 (e * 2 ^ min (((32 * k + s : Nat) : Int) % 32).toNat (IntKind.bits .u64)) = e * ((2 ^ s : Nat) : Int) := by
 have h1 : min (((32 * k + s : Nat) : Int) % 32).toNat (IntKind.bits .u64) = s := by
   have : IntKind.bits .u64 = 64 := rfl
   rw [this]; omega
 rw [h1, wrap64]
 have hp : 2 ^ s ≤ 2 ^ 31 := Nat.pow_le_pow_right (by decide) (by omega)
 obtain ⟨en, rfl⟩ := Int.eq_ofNat_of_zero_le he.1
 have hen : en * 2 ^ s ≤ 4294967295 * 2147483648 := Nat.mul_le_mul (by omega) hp
 have e1 : (en : Int) * ((2 ^ s : Nat) : Int) = ((en * 2 ^ s : Nat) : Int) := by simp
 have e2 : (en : Int) * 2 ^ s = ((en * 2 ^ s : Nat) : Int) := by simp
 rw [e1, e2]
 generalize en * 2 ^ s = z at *
 omega
theorem up_or {e c : Int} {s : Nat} (he : 0 ≤ e ∧ e < 4294967296) (hc : 0 ≤ c ∧ c < ((2 ^ s : Nat) : Int)) (h : e * ((2 ^ s : Nat) : Int) + c < 18446744073709551616) :
   IntKind.wrap .u64 ((BitVec.ofInt 64 c ||| BitVec.ofInt 64 (e * ((2 ^ s : Nat) : Int))).toNat) = e * ((2 ^ s : Nat) : Int) + c := by
 obtain ⟨cn, rfl⟩ := Int.eq_ofNat_of_zero_le hc.1
 obtain ⟨en, rfl⟩ := Int.eq_ofNat_of_zero_le he.1
 have e1 : (en : Int) * ((2 ^ s : Nat) : Int) = ((en * 2 ^ s : Nat) : Int) := by simp
 rw [e1] at h ⊢
 rw [or_apart64 (s := s) (by omega) (by omega)]
 simp
theorem up_end {l ys : List Int} {s k : Nat} {c : Int} (hyl : ys.length = l.length) (hyo : LimOk ys) (hc : 0 ≤ c ∧ c < 4294967296) (h : limV ys + 4294967296 ^ l.length * c.toNat = limV (l.take l.length) * 2 ^ s) :
   LimOk (List.replicate k 0 ++ ys ++ [c]) ∧ limV (List.replicate k 0 ++ ys ++ [c]) = limV l * 2 ^ (32 * k + s) := by
 obtain ⟨cn, rfl⟩ := Int.eq_ofNat_of_zero_le hc.1
 refine ⟨(LimOk.app (limOk_zeros k) hyo).snoc (by omega), ?_⟩
 rw [List.append_assoc, limV_app, limV_zeros, limV_snoc, hyl, List.length_replicate, Nat.zero_add]
 rw [List.take_length] at h
 rw [show limV ys + 4294967296 ^ l.length * cn = limV l * 2 ^ s by simpa using h, Nat.pow_add, Nat.pow_mul]
 rw [show (2 : Nat) ^ 32 = 4294967296 by decide, ← Nat.mul_assoc, ← Nat.mul_assoc, Nat.mul_comm (4294967296 ^ k)]
def halfL : List Int → List Int
 | [] => []
 | [x] => [x / 2]
 | x :: y :: r => (x / 2 + y % 2 * 2147483648) :: halfL (y :: r)
theorem halfL_len : ∀ l : List Int, (halfL l).length = l.length
 | [] => rfl
 | [x] => rfl
 | x :: y :: r => by show (halfL (y :: r)).length + 1 = _; rw [halfL_len (y :: r)]; rfl
theorem halfL_ok : ∀ {l : List Int}, LimOk l → LimOk (halfL l)
 | [], _ => fun x hx => by cases hx
 | [x], h => fun y hy => by
   have := h x (List.mem_cons_self ..)
   rw [List.mem_singleton.1 hy]; omega
 | x :: y :: r, h => fun z hz => by
   have h1 := h x (List.mem_cons_self ..)
   rcases List.mem_cons.1 hz with q | q
   · rw [q]; omega
   · exact halfL_ok (l := y :: r) (fun w hw => h w (List.mem_cons_of_mem _ hw)) z q
theorem halfL_val : ∀ {l : List Int}, LimOk l → limV (halfL l) = limV l / 2
 | [], _ => rfl
 | [x], h => by
   have := h x (List.mem_cons_self ..)
   show (x / 2).toNat + 4294967296 * 0 = (x.toNat + 4294967296 * 0) / 2
   omega
 | x :: y :: r, h => by
   have h1 := h x (List.mem_cons_self ..)
   have h2 := h y (List.mem_cons_of_mem _ (List.mem_cons_self ..))
   have ih := halfL_val (l := y :: r) fun w hw => h w (List.mem_cons_of_mem _ hw)
   have e1 : limV (halfL (x :: y :: r)) = (x / 2 + y % 2 * 2147483648).toNat + 4294967296 * limV (halfL (y :: r)) := rfl
   have e2 : limV (x :: y :: r) = x.toNat + 4294967296 * limV (y :: r) := rfl
   have e3 : limV (y :: r) = y.toNat + 4294967296 * limV r := rfl
   rw [e1, e2, ih]
   omega
theorem halfL_at : ∀ {l : List Int} {i : Nat} {x : Int}, l[i]? = some x → (halfL l)[i]? = some (x / 2 + (match l[i + 1]? with | some y => y % 2 * 2147483648 | none => 0))
 | [x], 0, _, h => by simp at h; subst h; simp [halfL]
 | [_], i + 1, _, h => by simp at h
 | x :: y :: r, 0, _, h => by simp at h; subst h; simp [halfL]
 | x :: y :: r, i + 1, z, h => by
   show (halfL (y :: r))[i]? = _
   rw [halfL_at (l := y :: r) (i := i) (x := z) (by simpa using h)]
   simp
theorem half_shl (y : Int) : IntKind.wrap .u32 (y * 2147483648) = y % 2 * 2147483648 := by rw [wrap_u32]; omega
theorem or_apart32 {a b s : Nat} (hb : b < 2 ^ s) (h : a * 2 ^ s + b < 4294967296) : IntKind.wrap .u32 ((BitVec.ofInt 32 ((b : Nat) : Int) ||| BitVec.ofInt 32 ((a * 2 ^ s : Nat) : Int)).toNat) = ((a * 2 ^ s + b : Nat) : Int) := by
 rw [Nat.mul_comm a (2 ^ s)] at h ⊢
 have h1 : (BitVec.ofInt 32 ((2 ^ s * a : Nat) : Int)).toNat = 2 ^ s * a := by
   rw [BitVec.toNat_ofInt]; generalize 2 ^ s * a = z at *; omega
 have h2 : (BitVec.ofInt 32 ((b : Nat) : Int)).toNat = b := by rw [BitVec.toNat_ofInt]; omega
 rw [BitVec.toNat_or, h1, h2, Nat.or_comm, ← Nat.two_pow_add_eq_or_of_lt hb, wrap_u32]
 omega
theorem half_or {e y : Int} (he : 0 ≤ e ∧ e < 4294967296) : IntKind.wrap .u32 ((BitVec.ofInt 32 (e / 2) ||| BitVec.ofInt 32 (y % 2 * 2147483648)).toNat) = e / 2 + y % 2 * 2147483648 := by
 obtain ⟨en, rfl⟩ := Int.eq_ofNat_of_zero_le he.1
 obtain ⟨yn, hy⟩ := Int.eq_ofNat_of_zero_le (show 0 ≤ y % 2 by omega)
 rw [hy]
 have e1 : ((en : Int)) / 2 = ((en / 2 : Nat) : Int) := by omega
 have e2 : (yn : Int) * 2147483648 = ((yn * 2 ^ 31 : Nat) : Int) := by omega
 rw [e1, e2, or_apart32 (s := 31) (by omega) (by omega)]
 omega
def halfM (l : List Int) (i : Nat) : List Int := (halfL l).take i ++ l.drop i
theorem halfM_zero (l : List Int) : halfM l 0 = l := by simp [halfM]
theorem halfM_len {l : List Int} {i : Nat} (hi : i ≤ l.length) : (halfM l i).length = l.length := by
 unfold halfM; rw [List.length_append, List.length_take, List.length_drop, halfL_len]; omega
theorem halfM_at {l : List Int} {i : Nat} (hi : i < l.length) : (halfM l i)[i]? = l[i]? := by
 unfold halfM
 rw [List.getElem?_append_right (by rw [List.length_take]; omega), List.length_take, halfL_len, Nat.min_eq_left (by omega), List.getElem?_drop]
 simp
theorem halfM_end {l : List Int} : halfM l l.length = halfL l := by
 unfold halfM; rw [List.drop_length, List.append_nil, ← halfL_len l, List.take_length]
theorem halfM_step {l : List Int} {i : Nat} {v : Int} (hv : (halfL l)[i]? = some v) : (halfM l i).set i v = halfM l (i + 1) := by
 have hi := (List.getElem?_eq_some_iff.1 hv).1
 rw [halfL_len] at hi
 apply List.ext_getElem?
 intro j
 have h1 : ((halfL l).take i).length = i := by rw [List.length_take, halfL_len]; omega
 have h2 : ((halfL l).take (i + 1)).length = i + 1 := by rw [List.length_take, halfL_len]; omega
 by_cases hj : j = i
 · subst hj
   rw [List.getElem?_set_self (by rw [halfM_len (by omega)]; omega)]
   unfold halfM
   rw [List.getElem?_append_left (by omega), List.getElem?_take_of_lt (by omega), hv]
 · rw [List.getElem?_set_ne (fun z => hj z.symm)]
   unfold halfM
   by_cases hlt : j < i
   · rw [List.getElem?_append_left (by omega), List.getElem?_append_left (by omega), List.getElem?_take_of_lt hlt, List.getElem?_take_of_lt (by omega)]
   · rw [List.getElem?_append_right (by omega), List.getElem?_append_right (by omega), h1, h2, List.getElem?_drop, List.getElem?_drop]
     congr 1; omega
def lessL : List Int → List Int → Int → List Int
 | [], _, _ => []
 | x :: r, m, b => ((x - (b + m.headD 0)) % 4294967296) :: lessL r m.tail (if x < b + m.headD 0 then 1 else 0)
def lessB : List Int → List Int → Int → Int
 | [], _, b => b
 | x :: r, m, b => lessB r m.tail (if x < b + m.headD 0 then 1 else 0)
theorem lessL_len : ∀ (l m : List Int) (b : Int), (lessL l m b).length = l.length
 | [], _, _ => rfl
 | x :: r, m, b => by show (lessL r m.tail _).length + 1 = _; rw [lessL_len]; rfl
theorem lessL_ok : ∀ (l m : List Int) (b : Int), LimOk (lessL l m b)
 | [], _, _ => fun x hx => by cases hx
 | x :: r, m, b => fun y hy => by
   rcases List.mem_cons.1 hy with q | q
   · rw [q]; omega
   · exact lessL_ok r m.tail _ y q
theorem lessL_val : ∀ {l m : List Int} {b : Int}, LimOk l → LimOk m → m.length ≤ l.length → (b = 0 ∨ b = 1) →
   (limV (lessL l m b) : Int) + limV m + b = limV l + 4294967296 ^ l.length * lessB l m b ∧ (lessB l m b = 0 ∨ lessB l m b = 1)
 | [], m, b, _, _, hm, hb => by
   rw [List.eq_nil_of_length_eq_zero (show m.length = 0 by simpa using hm)]
   exact ⟨by simp [lessL, lessB, limV], hb⟩
 | x :: r, m, b, hl, hok, hm, hb => by
   have h1 := hl x (List.mem_cons_self ..)
   have hr : LimOk r := fun y hy => hl y (List.mem_cons_of_mem _ hy)
   have ht : LimOk m.tail := fun y hy => hok y (List.mem_of_mem_tail hy)
   have hh : 0 ≤ m.headD 0 ∧ m.headD 0 < 4294967296 := by
     cases m with
     | nil => simp
     | cons y s => exact hok y (List.mem_cons_self ..)
   have hmv : limV m = (m.headD 0).toNat + 4294967296 * limV m.tail := by
     cases m with
     | nil => rfl
     | cons y s => rfl
   have hmt : m.tail.length ≤ r.length := by simp at hm ⊢; omega
   obtain ⟨ih, ihb⟩ := lessL_val (l := r) (m := m.tail) (b := if x < b + m.headD 0 then 1 else 0) hr ht hmt (by split <;> simp)
   refine ⟨?_, ihb⟩
   have e1 : limV (lessL (x :: r) m b) = ((x - (b + m.headD 0)) % 4294967296).toNat + 4294967296 * limV (lessL r m.tail (if x < b + m.headD 0 then 1 else 0)) := rfl
   have e2 : limV (x :: r) = x.toNat + 4294967296 * limV r := rfl
   have e3 : lessB (x :: r) m b = lessB r m.tail (if x < b + m.headD 0 then 1 else 0) := rfl
   rw [e1, e2, e3, hmv, List.length_cons, Int.pow_succ]
   generalize lessB r m.tail (if x < b + m.headD 0 then 1 else 0) = B at *
   generalize limV (lessL r m.tail (if x < b + m.headD 0 then 1 else 0)) = V at *
   have e4 : (4294967296 : Int) ^ r.length * 4294967296 * B = 4294967296 * (4294967296 ^ r.length * B) := by rw [Int.mul_comm ((4294967296 : Int) ^ r.length) 4294967296, Int.mul_assoc]
   rw [e4]
   split at ih <;> omega
theorem lessL_sub {l m : List Int} (hl : LimOk l) (hm : LimOk m) (h : limV m ≤ limV l) (hlen : m.length ≤ l.length) : limV (lessL l m 0) = limV l - limV m := by
 obtain ⟨e, hb⟩ := lessL_val hl hm hlen (.inl rfl)
 have h1 := limV_lt (lessL_ok l m 0)
 rw [lessL_len] at h1
 rcases hb with q | q
 · rw [q] at e; simp at e; omega
 · rw [q] at e
   have h2 : ((4294967296 ^ l.length : Nat) : Int) = (4294967296 : Int) ^ l.length := by simp
   have h3 : (limV (lessL l m 0) : Int) < (4294967296 : Int) ^ l.length := by rw [← h2]; exact_mod_cast h1
   omega
theorem order_len {a b : Nat} (h : (lim a).length < (lim b).length) : a < b := by
 apply Classical.byContradiction
 intro hc
 have := lim_len_mono (show b ≤ a by omega)
 omega
theorem order_at {l m : List Int} {i : Nat} (hl : LimOk l) (hm : LimOk m) (hlen : l.length = m.length) (hi : i < l.length) (hs : l.drop (i + 1) = m.drop (i + 1)) {x y : Int} (hx : l[i]? = some x) (hy : m[i]? = some y) (h : x < y) : limV l < limV m := by
 have e1 := limV_app (l.take (i + 1)) (l.drop (i + 1))
 have e2 := limV_app (m.take (i + 1)) (m.drop (i + 1))
 rw [List.take_append_drop] at e1 e2
 rw [hs] at e1
 have h1 := limV_step hx
 have h2 := limV_step hy
 have h3 := limV_lt (hl.take i)
 have h4 := hl x (List.mem_of_getElem? hx)
 have h5 : 4294967296 ^ i * x.toNat + 4294967296 ^ i ≤ 4294967296 ^ i * y.toNat := by
   have := Nat.mul_le_mul_left (4294967296 ^ i) (show x.toNat + 1 ≤ y.toNat by omega)
   rw [Nat.mul_add, Nat.mul_one] at this
   exact this
 rw [List.length_take, Nat.min_eq_left (by omega)] at h3 e1 e2
 omega
end Go.Proofs.YtnhmmjogfkjceaaGreatDoor
namespace Go.Proofs.YtnhmmjogfkjceaaGreatDoor
open Go.Sl
abbrev Bytes := List UInt8
def isDig (c : UInt8) : Bool := decide (48 ≤ c.toNat ∧ c.toNat ≤ 57)
abbrev digs : Bytes := [48, 49, 50, 51, 52, 53, 54, 55, 56, 57]
structure DecP where
  ahead : Bytes
  behind : Bytes
  power : Int
def powN : Int → Bytes → Int
 | a, [] => a
 | a, c :: r => powN (min (a * 10 + ((c.toNat : Int) - 48)) 1099511627776) r
def fracP (s : Bytes) : Bytes × Bytes := match s with
 | 46 :: r => (r.takeWhile isDig, r.dropWhile isDig)
 | _ => ([], s)
def wayP (r : Bytes) : Int × Bytes := match r with
 | d :: t => if d = 43 ∨ d = 45 then (44 - (d.toNat : Int), t) else (1, r)
 | [] => (1, r)
def decP (s : Bytes) : DecP × Bool :=
 let a := s.takeWhile isDig
 let f := fracP (s.dropWhile isDig)
 if a = [] ∧ f.1 = [] then (⟨a, f.1, 0⟩, false)
 else match f.2 with
   | [] => (⟨a, f.1, 0⟩, true)
   | c :: r => if c ≠ 101 ∧ c ≠ 69 then (⟨a, f.1, 0⟩, false)
     else (⟨a, f.1, powN 0 ((wayP r).2.takeWhile isDig) * (wayP r).1⟩, decide ((wayP r).2.takeWhile isDig ≠ [] ∧ (wayP r).2.dropWhile isDig = []))
def ofD : Bytes → Nat := fun l => l.foldl (fun a c => a * 10 + (c.toNat - 48)) 0
def bitsN (n : Nat) : Nat := if h : n = 0 then 0 else bitsN (n / 2) + 1
decreasing_by omega
def formNear (m : Nat) (exp : Int) (half : Bool) : Nat :=
 if exp + 63 > 1023 then 9218868437227405312
 else
   let biased := exp + 63 + 1023
   let shift : Int := if biased < 1 then 12 - biased else 11
   let b : Int := if biased < 1 then 1 else biased
   if shift > 64 then 0
   else
     let man := m / 2 ^ shift.toNat
     let rest := m * 2 ^ (64 - shift.toNat) % 18446744073709551616
     (b - 1).toNat * 4503599627370496 + (if rest > 9223372036854775808 ∨ (rest = 9223372036854775808 ∧ (half = true ∨ man % 2 = 1)) then man + 1 else man)
def nearN (man : Nat) (exp : Int) (half : Bool) : Nat :=
 let e := min (max exp (-5000)) 5000
 if man = 0 ∧ half = true then formNear 9223372036854775808 (e - 1 - 63) false
 else if man = 0 then 0
 else
   let shift := 64 - bitsN man
   if half = true ∧ shift > 0 then formNear (man * 2 ^ shift + 2 ^ (shift - 1)) (e - shift) false else formNear (man * 2 ^ shift) (e - shift) half
def divN : Nat → Nat → Nat → Nat → Nat × Nat
 | 0, p, _, man => (p, man)
 | k + 1, p, t, man => if t ≤ p then divN k (p - t) (t / 2) (man * 2 % 18446744073709551616 + 1) else divN k p (t / 2) (man * 2 % 18446744073709551616)
def roundN (p q : Nat) : Nat :=
 let up : Int := 63 - bitsN p + bitsN q
 let r := divN 64 (p * 2 ^ up.toNat) (q * 2 ^ (-up).toNat * 2 ^ 63) 0
 nearN r.2 (-up) (decide (0 < (lim r.1).length))
def cutD (l : Bytes) (p : Int) : Bytes × Int :=
 if l.length > 800 then (if (l.drop 800).any (· != 48) = true then (l.take 800 ++ [49], p + (l.length - 800 : Nat) - 1) else (l.take 800, p + (l.length - 800 : Nat))) else (l, p)
def nearD (l : Bytes) (p : Int) : Nat :=
 if l = [] ∨ (l.length : Int) + p < -330 then 0
 else if (l.length : Int) + p > 310 then 9218868437227405312
 else roundN (ofD l * 10 ^ p.toNat) (10 ^ (-p).toNat)
def nearestP (n : DecP) : Nat :=
 let c := cutD ((n.ahead ++ n.behind).dropWhile (· == 48)) (n.power - n.behind.length)
 nearD c.1 c.2
abbrev nibs : Bytes := [48, 49, 50, 51, 52, 53, 54, 55, 56, 57, 97, 98, 99, 100, 101, 102]
def hexD (c : UInt8) : Option Nat :=
 let d := Lib.indexByte nibs (c ||| 32)
 if c.toNat < 48 ∨ d < 0 ∨ (d < 10 ∧ (c.toNat : Int) ≠ 48 + d) then none else some d.toNat
def hexGo : Nat → Int → Bool → Bytes → Option (Nat × Int × Bool)
 | man, exp, lost, [] => some (man, exp, lost)
 | man, exp, lost, c :: r => match hexD c with
   | none => none
   | some d => if man / 1152921504606846976 = 0 then hexGo (man * 16 + d) exp lost r else hexGo man (exp + 4) (lost || decide (0 < d)) r
def hexP (s : Bytes) : Nat × Bool := match hexGo 0 0 false s with
 | none => (0, false)
 | some (man, exp, lost) => (nearN man exp lost, decide (s ≠ []))
def litP (s : Bytes) : Nat × Bool :=
 if Lib.hasPrefix s [48, 120] = true then hexP (s.drop 2)
 else
   let n := decP s
   if n.2 = false ∨ n.1.ahead = [] ∨ (46 ∈ s ∧ n.1.behind = []) ∨ (n.1.ahead.length > 1 ∧ n.1.ahead.head? = some 48) then (0, false)
   else (nearestP n.1, true)
theorem small_ok {n : Nat} (h : n < 18446744073709551616) : LimOk [IntKind.wrap .u32 (n : Int), IntKind.wrap .u32 ((n : Int) / 4294967296)] := by
 intro x hx
 simp only [wrap_u32, List.mem_cons, List.not_mem_nil, or_false] at hx
 rcases hx with rfl | rfl <;> omega
theorem small_val {n : Nat} (h : n < 18446744073709551616) : limV [IntKind.wrap .u32 (n : Int), IntKind.wrap .u32 ((n : Int) / 4294967296)] = n := by
 simp only [wrap_u32, limV]
 omega
def cmpN (a b : Nat) : Int := if a < b then -1 else if b < a then 1 else 0
theorem cmp_lt {a b : Nat} (h : a < b) : cmpN a b = -1 := if_pos h
theorem cmp_gt {a b : Nat} (h : b < a) : cmpN a b = 1 := by unfold cmpN; rw [if_neg (by omega), if_pos h]
theorem cmp_eq {a b : Nat} (h : a = b) : cmpN a b = 0 := by unfold cmpN; rw [if_neg (by omega), if_neg (by omega)]
theorem order_same {a b : Nat} (h : (lim a).drop 0 = (lim b).drop 0) : a = b := by
 have := congrArg limV h
 rw [List.drop_zero, List.drop_zero, lim_val, lim_val] at this
 exact this
theorem order_next {l m : List Int} {j : Nat} {x y : Int} (hj : 0 < j) (hx : l[j - 1]? = some x) (hy : m[j - 1]? = some y) (h : x = y) (hd : l.drop j = m.drop j) : l.drop (j - 1) = m.drop (j - 1) := by
 have h1 := (List.getElem?_eq_some_iff.1 hx)
 have h2 := (List.getElem?_eq_some_iff.1 hy)
 rw [List.drop_eq_getElem_cons h1.1, List.drop_eq_getElem_cons h2.1, h1.2, h2.2, h, show j - 1 + 1 = j by omega, hd]
theorem order_top {a b : Nat} {j : Nat} {x y : Int} (hl : (lim a).length = (lim b).length) (hj : 0 < j) (hd : (lim a).drop j = (lim b).drop j) (hx : (lim a)[j - 1]? = some x) (hy : (lim b)[j - 1]? = some y) (h : x < y) : a < b := by
 have h1 := (List.getElem?_eq_some_iff.1 hx).1
 have := order_at (lim_ok a) (lim_ok b) hl (i := j - 1) h1 (by rw [show j - 1 + 1 = j by omega]; exact hd) hx hy h
 rw [lim_val, lim_val] at this
 exact this
theorem bitsN_zero : bitsN 0 = 0 := by rw [bitsN, dif_pos rfl]
theorem bitsN_pos {n : Nat} (h : n ≠ 0) : bitsN n = bitsN (n / 2) + 1 := by rw [bitsN, dif_neg h]
theorem bitsN_lt : ∀ n : Nat, n < 2 ^ bitsN n := by
 intro n
 induction n using Nat.strongRecOn with
 | _ n ih =>
   by_cases h : n = 0
   · rw [h, bitsN_zero]; decide
   · rw [bitsN_pos h, Nat.pow_succ]
     have := ih (n / 2) (by omega)
     omega
theorem bitsN_ge : ∀ n : Nat, n ≠ 0 → 2 ^ (bitsN n - 1) ≤ n := by
 intro n
 induction n using Nat.strongRecOn with
 | _ n ih =>
   intro h
   rw [bitsN_pos h]
   by_cases h2 : n / 2 = 0
   · rw [h2, bitsN_zero]; simp; omega
   · have h3 := ih (n / 2) (by omega) h2
     have h4 : bitsN (n / 2) ≠ 0 := by rw [bitsN_pos h2]; omega
     rw [show bitsN (n / 2) + 1 - 1 = (bitsN (n / 2) - 1) + 1 by omega, Nat.pow_succ]
     omega
theorem bitsN_iff {n k : Nat} (h1 : 2 ^ k ≤ n) (h2 : n < 2 ^ (k + 1)) : bitsN n = k + 1 := by
 have hn : n ≠ 0 := by have := Nat.two_pow_pos k; omega
 have a := bitsN_lt n
 have b := bitsN_ge n hn
 have hp : bitsN n ≠ 0 := by rw [bitsN_pos hn]; omega
 have c : k < bitsN n := (Nat.pow_lt_pow_iff_right (by decide : 1 < 2)).1 (Nat.lt_of_le_of_lt h1 a)
 have d : bitsN n - 1 < k + 1 := (Nat.pow_lt_pow_iff_right (by decide : 1 < 2)).1 (Nat.lt_of_le_of_lt b h2)
 omega
theorem bitLenAux_eq : ∀ (f x : Nat), x < 2 ^ f → Lib.bitLenAux f x = bitsN x
 | 0, x, h => by rw [show x = 0 by simpa using h, bitsN_zero]; rfl
 | f + 1, x, h => by
   unfold Lib.bitLenAux
   by_cases hx : x = 0
   · rw [if_pos hx, hx, bitsN_zero]
   · rw [if_neg hx, bitLenAux_eq f (x / 2) (by rw [Nat.pow_succ] at h; omega), bitsN_pos hx, Nat.add_comm]
theorem bitLen_eq {x : Nat} (h : x < 18446744073709551616) : Lib.bitLen x = bitsN x := bitLenAux_eq 64 x (by simpa using h)
theorem size_zero {n : Nat} (h : (lim n).length = 0) : (0 : Int) = (bitsN n : Int) := by rw [lim_len_eq.1 h, bitsN_zero]; rfl
theorem bitsN_shift {x k y : Nat} (hx : x ≠ 0) (hy : y < 2 ^ k) : bitsN (x * 2 ^ k + y) = bitsN x + k := by
 have a := bitsN_lt x
 have b := bitsN_ge x hx
 have hp : bitsN x ≠ 0 := by rw [bitsN_pos hx]; omega
 have e : bitsN x + k = (bitsN x - 1 + k) + 1 := by omega
 rw [e]
 apply bitsN_iff
 · rw [Nat.pow_add]
   have := Nat.mul_le_mul_right (2 ^ k) b
   omega
 · rw [show bitsN x - 1 + k + 1 = bitsN x + k by omega, Nat.pow_add]
   have := Nat.mul_le_mul_right (2 ^ k) (show x + 1 ≤ 2 ^ bitsN x from a)
   rw [Nat.add_mul, Nat.one_mul] at this
   omega
theorem size_top {n : Nat} {x : Int} (h : (lim n).length ≠ 0) (hx : (lim n)[(lim n).length - 1]? = some x) : 32 * ((lim n).length : Int) - (32 - (Lib.bitLen x.toNat : Int)) = (bitsN n : Int) := by
 have hl := (List.getElem?_eq_some_iff.1 hx).1
 have ho := lim_ok n x (List.mem_of_getElem? hx)
 have hv := limV_step hx
 rw [show (lim n).length - 1 + 1 = (lim n).length by omega, List.take_length, lim_val] at hv
 have hlt := limV_lt ((lim_ok n).take ((lim n).length - 1))
 rw [List.length_take, Nat.min_eq_left (by omega)] at hlt
 have hx0 : x.toNat ≠ 0 := by
   intro q
   rw [q, Nat.mul_zero, Nat.add_zero] at hv
   have := lim_len_lt (n := n) (k := (lim n).length - 1) (by omega)
   omega
 have e : (4294967296 : Nat) ^ ((lim n).length - 1) = 2 ^ (32 * ((lim n).length - 1)) := by rw [Nat.pow_mul]
 rw [e] at hv hlt
 have hb : bitsN n = bitsN x.toNat + 32 * ((lim n).length - 1) := by
   have := bitsN_shift (x := x.toNat) (k := 32 * ((lim n).length - 1)) (y := limV ((lim n).take ((lim n).length - 1))) hx0 hlt
   rw [← this]
   congr 1
   have hc := Nat.mul_comm (2 ^ (32 * ((lim n).length - 1))) x.toNat
   omega
 rw [bitLen_eq (by omega), hb]
 omega
end Go.Proofs.YtnhmmjogfkjceaaGreatDoor
namespace Go.Proofs
open Go.Shelf
def Tryz.lays133_ren : Go.Shelf.Ren := ⟨fun | 133 => 164 | 128 => 181 | n => n, fun | 51 => 87 | 3 => 3 | 4 => 4 | 46 => 67 | 5 => 5 | 9 => 9 | n => n, fun | n => n⟩
theorem Tryz.lays133 : Go.Proofs.Lays.n133 Tryz.prog Tryz.lays133_ren := {
 mixed := by kernel_rfl
 f128 := Tryz.func181.trans (congrArg some (by kernel_rfl))
 f133 := Tryz.func164.trans (congrArg some (by kernel_rfl))
 t3 := Tryz.underlying3
 a3 := Tryz.isAgg3
 z3 := Tryz.sizeOf3
 v3 := Tryz.zeroValue3
 t4 := Tryz.underlying4
 a4 := Tryz.isAgg4
 z4 := Tryz.sizeOf4
 v4 := Tryz.zeroValue4
 t5 := Tryz.underlying5
 a5 := Tryz.isAgg5
 z5 := Tryz.sizeOf5
 v5 := Tryz.zeroValue5
 t9 := Tryz.underlying9
 a9 := Tryz.isAgg9
 z9 := Tryz.sizeOf9
 v9 := Tryz.zeroValue9
 t46 := Tryz.underlying67
 a46 := Tryz.isAgg67
 z46 := Tryz.sizeOf67
 v46 := Tryz.zeroValue67
 t51 := Tryz.underlying87
 a51 := Tryz.isAgg87
 z51 := Tryz.sizeOf87
 v51 := Tryz.zeroValue87 }
def Tryz.lays134_ren : Go.Shelf.Ren := ⟨fun | 134 => 128 | 129 => 137 | n => n, fun | 53 => 29 | 3 => 3 | 4 => 4 | 46 => 67 | 5 => 5 | 9 => 9 | n => n, fun | n => n⟩
theorem Tryz.lays134 : Go.Proofs.Lays.n134 Tryz.prog Tryz.lays134_ren := {
 mixed := by kernel_rfl
 f129 := Tryz.func137.trans (congrArg some (by kernel_rfl))
 f134 := Tryz.func128.trans (congrArg some (by kernel_rfl))
 t3 := Tryz.underlying3
 a3 := Tryz.isAgg3
 z3 := Tryz.sizeOf3
 v3 := Tryz.zeroValue3
 t4 := Tryz.underlying4
 a4 := Tryz.isAgg4
 z4 := Tryz.sizeOf4
 v4 := Tryz.zeroValue4
 t5 := Tryz.underlying5
 a5 := Tryz.isAgg5
 z5 := Tryz.sizeOf5
 v5 := Tryz.zeroValue5
 t9 := Tryz.underlying9
 a9 := Tryz.isAgg9
 z9 := Tryz.sizeOf9
 v9 := Tryz.zeroValue9
 t46 := Tryz.underlying67
 a46 := Tryz.isAgg67
 z46 := Tryz.sizeOf67
 v46 := Tryz.zeroValue67
 t53 := Tryz.underlying29
 a53 := Tryz.isAgg29
 z53 := Tryz.sizeOf29
 v53 := Tryz.zeroValue29 }
def Tryz.lays99_ren : Go.Shelf.Ren := ⟨fun | 99 => 39 | 206 => 85 | n => n, fun | 9 => 9 | 4 => 4 | 3 => 3 | n => n, fun | n => n⟩
theorem Tryz.lays99 : Go.Proofs.Lays.n99 Tryz.prog Tryz.lays99_ren := {
 mixed := by kernel_rfl
 f99 := Tryz.func39.trans (congrArg some (by kernel_rfl))
 f206 := Tryz.func85.trans (congrArg some (by kernel_rfl))
 t3 := Tryz.underlying3
 a3 := Tryz.isAgg3
 z3 := Tryz.sizeOf3
 v3 := Tryz.zeroValue3
 t4 := Tryz.underlying4
 a4 := Tryz.isAgg4
 z4 := Tryz.sizeOf4
 v4 := Tryz.zeroValue4
 t9 := Tryz.underlying9
 a9 := Tryz.isAgg9
 z9 := Tryz.sizeOf9
 v9 := Tryz.zeroValue9 }
def Tryz.lays137_ren : Go.Shelf.Ren := ⟨fun | 137 => 86 | 217 => 127 | 266 => 161 | n => n, fun | 9 => 9 | 5 => 5 | 3 => 3 | n => n, fun | n => n⟩
theorem Tryz.lays137 : Go.Proofs.Lays.n137 Tryz.prog Tryz.lays137_ren := {
 mixed := by kernel_rfl
 f137 := Tryz.func86.trans (congrArg some (by kernel_rfl))
 f217 := Tryz.func127.trans (congrArg some (by kernel_rfl))
 f266 := Tryz.func161.trans (congrArg some (by kernel_rfl))
 t3 := Tryz.underlying3
 a3 := Tryz.isAgg3
 z3 := Tryz.sizeOf3
 v3 := Tryz.zeroValue3
 t5 := Tryz.underlying5
 a5 := Tryz.isAgg5
 z5 := Tryz.sizeOf5
 v5 := Tryz.zeroValue5
 t9 := Tryz.underlying9
 a9 := Tryz.isAgg9
 z9 := Tryz.sizeOf9
 v9 := Tryz.zeroValue9 }
def Tryz.lays160_ren : Go.Shelf.Ren := ⟨fun | 160 => 44 | 232 => 95 | 231 => 94 | 227 => 96 | 234 => 98 | 233 => 97 | 236 => 100 | 235 => 99 | 228 => 132 | 271 => 135 | 151 => 134 | 197 => 133 | 120 => 167 | 152 => 166 | 260 => 165 | 137 => 86 | 119 => 182 | 224 => 154 | 225 => 153 | 217 => 127 | 266 => 161 | n => n, fun | 9 => 9 | 4 => 4 | 3 => 3 | 5 => 5 | 117 => 111 | 116 => 110 | 0 => 0 | 124 => 114 | 21 => 21 | 105 => 139 | 46 => 67 | 119 => 164 | 139 => 188 | 138 => 187 | n => n, fun | 3 => 7 | 4 => 8 | n => n⟩
theorem Tryz.lays160 : Go.Proofs.Lays.n160 Tryz.prog Tryz.lays160_ren := {
 mixed := by kernel_rfl
 f119 := Tryz.func182.trans (congrArg some (by kernel_rfl))
 f120 := Tryz.func167.trans (congrArg some (by kernel_rfl))
 f137 := Tryz.func86.trans (congrArg some (by kernel_rfl))
 f151 := Tryz.func134.trans (congrArg some (by kernel_rfl))
 f152 := Tryz.func166.trans (congrArg some (by kernel_rfl))
 f160 := Tryz.func44.trans (congrArg some (by kernel_rfl))
 f197 := Tryz.func133.trans (congrArg some (by kernel_rfl))
 f217 := Tryz.func127.trans (congrArg some (by kernel_rfl))
 f224 := Tryz.func154.trans (congrArg some (by kernel_rfl))
 f225 := Tryz.func153.trans (congrArg some (by kernel_rfl))
 f227 := Tryz.func96.trans (congrArg some (by kernel_rfl))
 f228 := Tryz.func132.trans (congrArg some (by kernel_rfl))
 f231 := Tryz.func94.trans (congrArg some (by kernel_rfl))
 f232 := Tryz.func95.trans (congrArg some (by kernel_rfl))
 f233 := Tryz.func97.trans (congrArg some (by kernel_rfl))
 f234 := Tryz.func98.trans (congrArg some (by kernel_rfl))
 f235 := Tryz.func99.trans (congrArg some (by kernel_rfl))
 f236 := Tryz.func100.trans (congrArg some (by kernel_rfl))
 f260 := Tryz.func165.trans (congrArg some (by kernel_rfl))
 f266 := Tryz.func161.trans (congrArg some (by kernel_rfl))
 f271 := Tryz.func135.trans (congrArg some (by kernel_rfl))
 t0 := Tryz.underlying0
 a0 := Tryz.isAgg0
 z0 := Tryz.sizeOf0
 v0 := Tryz.zeroValue0
 t3 := Tryz.underlying3
 a3 := Tryz.isAgg3
 z3 := Tryz.sizeOf3
 v3 := Tryz.zeroValue3
 t4 := Tryz.underlying4
 a4 := Tryz.isAgg4
 z4 := Tryz.sizeOf4
 v4 := Tryz.zeroValue4
 t5 := Tryz.underlying5
 a5 := Tryz.isAgg5
 z5 := Tryz.sizeOf5
 v5 := Tryz.zeroValue5
 t9 := Tryz.underlying9
 a9 := Tryz.isAgg9
 z9 := Tryz.sizeOf9
 v9 := Tryz.zeroValue9
 t21 := Tryz.underlying21
 a21 := Tryz.isAgg21
 z21 := Tryz.sizeOf21
 v21 := Tryz.zeroValue21
 t46 := Tryz.underlying67
 a46 := Tryz.isAgg67
 z46 := Tryz.sizeOf67
 v46 := Tryz.zeroValue67
 t105 := Tryz.underlying139
 a105 := Tryz.isAgg139
 z105 := Tryz.sizeOf139
 v105 := Tryz.zeroValue139
 t116 := Tryz.underlying110
 a116 := Tryz.isAgg110
 z116 := Tryz.sizeOf110
 t117 := Tryz.underlying111
 a117 := Tryz.isAgg111
 z117 := Tryz.sizeOf111
 v117 := Tryz.zeroValue111
 t119 := Tryz.underlying164
 a119 := Tryz.isAgg164
 z119 := Tryz.sizeOf164
 t124 := Tryz.underlying114
 a124 := Tryz.isAgg114
 z124 := Tryz.sizeOf114
 v124 := Tryz.zeroValue114
 t138 := Tryz.underlying187
 a138 := Tryz.isAgg187
 z138 := Tryz.sizeOf187
 v138 := Tryz.zeroValue187
 t139 := Tryz.underlying188
 a139 := Tryz.isAgg188
 z139 := Tryz.sizeOf188
 v139 := Tryz.zeroValue188
 g3 := by kernel_rfl
 g4 := by kernel_rfl }
def Tryz.lays161_ren : Go.Shelf.Ren := ⟨fun | 161 => 89 | 231 => 94 | 227 => 96 | 233 => 97 | 235 => 99 | 228 => 132 | 197 => 133 | 151 => 134 | 260 => 165 | 152 => 166 | 137 => 86 | 119 => 182 | 224 => 154 | 225 => 153 | 217 => 127 | 266 => 161 | n => n, fun | 9 => 9 | 4 => 4 | 3 => 3 | 5 => 5 | 117 => 111 | 116 => 110 | 0 => 0 | 124 => 114 | 105 => 139 | 21 => 21 | 119 => 164 | 46 => 67 | 139 => 188 | 138 => 187 | n => n, fun | 3 => 7 | 4 => 8 | n => n⟩
theorem Tryz.lays161 : Go.Proofs.Lays.n161 Tryz.prog Tryz.lays161_ren := {
 mixed := by kernel_rfl
 f119 := Tryz.func182.trans (congrArg some (by kernel_rfl))
 f137 := Tryz.func86.trans (congrArg some (by kernel_rfl))
 f151 := Tryz.func134.trans (congrArg some (by kernel_rfl))
 f152 := Tryz.func166.trans (congrArg some (by kernel_rfl))
 f161 := Tryz.func89.trans (congrArg some (by kernel_rfl))
 f197 := Tryz.func133.trans (congrArg some (by kernel_rfl))
 f217 := Tryz.func127.trans (congrArg some (by kernel_rfl))
 f224 := Tryz.func154.trans (congrArg some (by kernel_rfl))
 f225 := Tryz.func153.trans (congrArg some (by kernel_rfl))
 f227 := Tryz.func96.trans (congrArg some (by kernel_rfl))
 f228 := Tryz.func132.trans (congrArg some (by kernel_rfl))
 f231 := Tryz.func94.trans (congrArg some (by kernel_rfl))
 f233 := Tryz.func97.trans (congrArg some (by kernel_rfl))
 f235 := Tryz.func99.trans (congrArg some (by kernel_rfl))
 f260 := Tryz.func165.trans (congrArg some (by kernel_rfl))
 f266 := Tryz.func161.trans (congrArg some (by kernel_rfl))
 t0 := Tryz.underlying0
 a0 := Tryz.isAgg0
 z0 := Tryz.sizeOf0
 v0 := Tryz.zeroValue0
 t3 := Tryz.underlying3
 a3 := Tryz.isAgg3
 z3 := Tryz.sizeOf3
 v3 := Tryz.zeroValue3
 t4 := Tryz.underlying4
 a4 := Tryz.isAgg4
 z4 := Tryz.sizeOf4
 v4 := Tryz.zeroValue4
 t5 := Tryz.underlying5
 a5 := Tryz.isAgg5
 z5 := Tryz.sizeOf5
 v5 := Tryz.zeroValue5
 t9 := Tryz.underlying9
 a9 := Tryz.isAgg9
 z9 := Tryz.sizeOf9
 v9 := Tryz.zeroValue9
 t21 := Tryz.underlying21
 a21 := Tryz.isAgg21
 z21 := Tryz.sizeOf21
 v21 := Tryz.zeroValue21
 t46 := Tryz.underlying67
 a46 := Tryz.isAgg67
 z46 := Tryz.sizeOf67
 v46 := Tryz.zeroValue67
 t105 := Tryz.underlying139
 a105 := Tryz.isAgg139
 z105 := Tryz.sizeOf139
 v105 := Tryz.zeroValue139
 t116 := Tryz.underlying110
 a116 := Tryz.isAgg110
 z116 := Tryz.sizeOf110
 t117 := Tryz.underlying111
 a117 := Tryz.isAgg111
 z117 := Tryz.sizeOf111
 v117 := Tryz.zeroValue111
 t119 := Tryz.underlying164
 a119 := Tryz.isAgg164
 z119 := Tryz.sizeOf164
 t124 := Tryz.underlying114
 a124 := Tryz.isAgg114
 z124 := Tryz.sizeOf114
 v124 := Tryz.zeroValue114
 t138 := Tryz.underlying187
 a138 := Tryz.isAgg187
 z138 := Tryz.sizeOf187
 v138 := Tryz.zeroValue187
 t139 := Tryz.underlying188
 a139 := Tryz.isAgg188
 z139 := Tryz.sizeOf188
 v139 := Tryz.zeroValue188
 g3 := by kernel_rfl
 g4 := by kernel_rfl }
def Tryz.lays144_ren : Go.Shelf.Ren := ⟨fun | 144 => 42 | 143 => 54 | 219 => 111 | 217 => 127 | 225 => 153 | 224 => 154 | 267 => 155 | 266 => 161 | 314 => 179 | n => n, fun | 9 => 9 | 4 => 4 | 3 => 3 | 5 => 5 | 46 => 67 | 146 => 131 | 51 => 87 | n => n, fun | 1 => 2 | n => n⟩
theorem Tryz.lays144 : Go.Proofs.Lays.n144 Tryz.prog Tryz.lays144_ren := {
 mixed := by kernel_rfl
 f143 := Tryz.func54.trans (congrArg some (by kernel_rfl))
 f144 := Tryz.func42.trans (congrArg some (by kernel_rfl))
 f217 := Tryz.func127.trans (congrArg some (by kernel_rfl))
 f219 := Tryz.func111.trans (congrArg some (by kernel_rfl))
 f224 := Tryz.func154.trans (congrArg some (by kernel_rfl))
 f225 := Tryz.func153.trans (congrArg some (by kernel_rfl))
 f266 := Tryz.func161.trans (congrArg some (by kernel_rfl))
 f267 := Tryz.func155.trans (congrArg some (by kernel_rfl))
 f314 := Tryz.func179.trans (congrArg some (by kernel_rfl))
 t3 := Tryz.underlying3
 a3 := Tryz.isAgg3
 z3 := Tryz.sizeOf3
 v3 := Tryz.zeroValue3
 t4 := Tryz.underlying4
 a4 := Tryz.isAgg4
 z4 := Tryz.sizeOf4
 v4 := Tryz.zeroValue4
 t5 := Tryz.underlying5
 a5 := Tryz.isAgg5
 z5 := Tryz.sizeOf5
 v5 := Tryz.zeroValue5
 t9 := Tryz.underlying9
 a9 := Tryz.isAgg9
 z9 := Tryz.sizeOf9
 v9 := Tryz.zeroValue9
 t46 := Tryz.underlying67
 a46 := Tryz.isAgg67
 z46 := Tryz.sizeOf67
 v46 := Tryz.zeroValue67
 t51 := Tryz.underlying87
 a51 := Tryz.isAgg87
 z51 := Tryz.sizeOf87
 v51 := Tryz.zeroValue87
 t146 := Tryz.underlying131
 a146 := Tryz.isAgg131
 z146 := Tryz.sizeOf131
 v146 := Tryz.zeroValue131
 g1 := by kernel_rfl }
end Go.Proofs
namespace Go.Proofs.YtnhmmjogfkjceaaGreatDoor
open Go.Sl Go.RowKit
variable {W0 : World} {σ : Heaplet}
theorem str_lz32 (x : Int) (h : 0 ≤ x ∧ x < 4294967296) : SC Tryz.prog W0 164 #[.int .u32 x] σ (Ret (fun _ : Unit => σ) (fun v _ => v = .int .i64 (32 - (Lib.bitLen x.toNat : Int)))) := by
 refine SC.of_below fun w hb => ?_
 refine (Any.bits_LeadingZeros32 Tryz.lays133 x w h.1 (by omega)).mono ?_
 rintro e w' ⟨rfl, rfl⟩
 exact ⟨_, rfl, Below.refl _ _, rfl⟩
theorem str_lz64 (x : Int) (h : 0 ≤ x ∧ x < 18446744073709551616) : SC Tryz.prog W0 128 #[.int .u64 x] σ (Ret (fun _ : Unit => σ) (fun v _ => v = .int .i64 (64 - (Lib.bitLen x.toNat : Int)))) := by
 refine SC.of_below fun w hb => ?_
 refine (Any.bits_LeadingZeros64 Tryz.lays134 x w h.1 (by omega)).mono ?_
 rintro e w' ⟨rfl, rfl⟩
 exact ⟨_, rfl, Below.refl _ _, rfl⟩
theorem str_HasPrefix (l p : List UInt8) : SC Tryz.prog W0 39 #[.string (bS l), .string (bS p)] σ (Ret (fun _ : Unit => σ) (fun v _ => v = .bool (Lib.hasPrefix l p))) := by
 refine SC.of_below fun w hb => ?_
 refine (Any.strings_HasPrefix Tryz.lays99 (bS l) (bS p) w).mono ?_
 rintro e w' ⟨rfl, rfl⟩
 exact ⟨_, rfl, Below.refl _ _, by rw [bS_list, bS_list]⟩
theorem str_IndexByte (l : List UInt8) (c : UInt8) : SC Tryz.prog W0 86 #[.string (bS l), .int .u8 (c.toNat : Int)] σ (Ret (fun _ : Unit => σ) (fun v _ => v = .int .i64 (Lib.indexByte l c))) := by
 refine SC.of_below fun w hb => ?_
 refine (Any.strings_IndexByte Tryz.lays137 (bS l) (c.toNat : Int) w).mono ?_
 rintro e w' ⟨rfl, rfl⟩
 exact ⟨_, rfl, Below.refl _ _, by rw [bS_list, Int.toNat_natCast]; simp⟩
theorem str_TrimLeft (l cs : List UInt8) (hc : cs.length < 4294967281) (ha : cs.all (fun b => decide (b.toNat < 128)) = true) : SC Tryz.prog W0 89 #[.string (bS l), .string (bS cs)] σ (Ret (fun _ : Unit => σ) (fun v _ => v = .string (bS (Lib.trimLeftS l cs)))) := by
 refine SC.of_below fun w hb => ?_
 refine (Any.strings_TrimLeft_laid Tryz.lays161 (by kernel_rfl) (bS l) (bS cs) w (by rw [bS_size]; exact hc) (by rw [bS_list]; exact ascii_of_all ha)).mono ?_
 rintro e w' ⟨rfl, hw⟩
 exact ⟨_, rfl, hw, by rw [bS_list, bS_list]⟩
theorem str_Trim (l cs : List UInt8) (hl : l.length ≤ 9223372036854775807) (hc : cs.length < 4294967281) (ha : cs.all (fun b => decide (b.toNat < 128)) = true) : SC Tryz.prog W0 44 #[.string (bS l), .string (bS cs)] σ (Ret (fun _ : Unit => σ) (fun v _ => v = .string (bS (Lib.trimS l cs)))) := by
 refine SC.of_below fun w hb => ?_
 refine (Any.strings_Trim_laid Tryz.lays160 (by kernel_rfl) (bS l) (bS cs) w (by rw [bS_size]; exact hl) (by rw [bS_size]; exact hc) (by rw [bS_list]; exact ascii_of_all ha)).mono ?_
 rintro e w' ⟨rfl, hw⟩
 exact ⟨_, rfl, hw, by rw [bS_list, bS_list]⟩
theorem str_Contains1 (l : List UInt8) (c : UInt8) : SC Tryz.prog W0 42 #[.string (bS l), .string (bS [c])] σ (Ret (fun _ : Unit => σ) (fun v _ => v = .bool (decide (0 ≤ Lib.indexByte l c)))) := by
 refine SC.of_below fun w hb => ?_
 refine (Any.strings_Contains_one Tryz.lays144 (bS l) c w).mono ?_
 rintro e w' ⟨rfl, rfl⟩
 exact ⟨_, rfl, Below.refl _ _, by rw [bS_list]⟩
end Go.Proofs.YtnhmmjogfkjceaaGreatDoor
namespace Go.Proofs
open Go.Shelf
def Tryz.laysM143_ren : Go.Shelf.Ren := ⟨fun | 143 => 54 | 219 => 111 | 217 => 127 | 225 => 153 | 224 => 154 | 267 => 155 | 266 => 161 | 314 => 179 | n => n, fun | 9 => 9 | 3 => 3 | 4 => 4 | 5 => 5 | 46 => 67 | 146 => 131 | 51 => 87 | n => n, fun | 1 => 2 | n => n⟩
theorem Tryz.laysM143 : Go.Proofs.LaysM.n143 Tryz.prog Tryz.laysM143_ren := {
 mixed := by kernel_rfl
 f143 := Tryz.func54.trans (congrArg some (by kernel_rfl))
 f217 := Tryz.func127.trans (congrArg some (by kernel_rfl))
 f219 := Tryz.func111.trans (congrArg some (by kernel_rfl))
 f224 := Tryz.func154.trans (congrArg some (by kernel_rfl))
 f225 := Tryz.func153.trans (congrArg some (by kernel_rfl))
 f266 := Tryz.func161.trans (congrArg some (by kernel_rfl))
 f267 := Tryz.func155.trans (congrArg some (by kernel_rfl))
 f314 := Tryz.func179.trans (congrArg some (by kernel_rfl))
 t3 := Tryz.underlying3
 a3 := Tryz.isAgg3
 z3 := Tryz.sizeOf3
 v3 := Tryz.zeroValue3
 t4 := Tryz.underlying4
 a4 := Tryz.isAgg4
 z4 := Tryz.sizeOf4
 v4 := Tryz.zeroValue4
 t5 := Tryz.underlying5
 a5 := Tryz.isAgg5
 z5 := Tryz.sizeOf5
 v5 := Tryz.zeroValue5
 t9 := Tryz.underlying9
 a9 := Tryz.isAgg9
 z9 := Tryz.sizeOf9
 v9 := Tryz.zeroValue9
 t46 := Tryz.underlying67
 a46 := Tryz.isAgg67
 z46 := Tryz.sizeOf67
 v46 := Tryz.zeroValue67
 t51 := Tryz.underlying87
 a51 := Tryz.isAgg87
 z51 := Tryz.sizeOf87
 v51 := Tryz.zeroValue87
 t146 := Tryz.underlying131
 a146 := Tryz.isAgg131
 z146 := Tryz.sizeOf131
 v146 := Tryz.zeroValue131
 g1 := by kernel_rfl
 i3 := by kernel_rfl
 i4 := by kernel_rfl
 i5 := by kernel_rfl
 i9 := by kernel_rfl
 i46 := by kernel_rfl
 i51 := by kernel_rfl
 i146 := by kernel_rfl
 m1 := by kernel_rfl
 s1_3 := fun w h => Go.Proofs.cell_of_shapedOpen_int (zero := #[.int .i64 0]) (t := 3) h (of_decide_eq_true (by kernel_rfl)) (by kernel_rfl) rfl (by kernel_rfl) (by kernel_rfl) Tryz.underlying3 }
def Tryz.laysM144_ren : Go.Shelf.Ren := ⟨fun | 144 => 42 | 143 => 54 | 219 => 111 | 217 => 127 | 225 => 153 | 224 => 154 | 267 => 155 | 266 => 161 | 314 => 179 | n => n, fun | 9 => 9 | 4 => 4 | 3 => 3 | 5 => 5 | 46 => 67 | 146 => 131 | 51 => 87 | n => n, fun | 1 => 2 | n => n⟩
theorem Tryz.laysM144 : Go.Proofs.LaysM.n144 Tryz.prog Tryz.laysM144_ren := {
 mixed := by kernel_rfl
 f143 := Tryz.func54.trans (congrArg some (by kernel_rfl))
 f144 := Tryz.func42.trans (congrArg some (by kernel_rfl))
 f217 := Tryz.func127.trans (congrArg some (by kernel_rfl))
 f219 := Tryz.func111.trans (congrArg some (by kernel_rfl))
 f224 := Tryz.func154.trans (congrArg some (by kernel_rfl))
 f225 := Tryz.func153.trans (congrArg some (by kernel_rfl))
 f266 := Tryz.func161.trans (congrArg some (by kernel_rfl))
 f267 := Tryz.func155.trans (congrArg some (by kernel_rfl))
 f314 := Tryz.func179.trans (congrArg some (by kernel_rfl))
 t3 := Tryz.underlying3
 a3 := Tryz.isAgg3
 z3 := Tryz.sizeOf3
 v3 := Tryz.zeroValue3
 t4 := Tryz.underlying4
 a4 := Tryz.isAgg4
 z4 := Tryz.sizeOf4
 v4 := Tryz.zeroValue4
 t5 := Tryz.underlying5
 a5 := Tryz.isAgg5
 z5 := Tryz.sizeOf5
 v5 := Tryz.zeroValue5
 t9 := Tryz.underlying9
 a9 := Tryz.isAgg9
 z9 := Tryz.sizeOf9
 v9 := Tryz.zeroValue9
 t46 := Tryz.underlying67
 a46 := Tryz.isAgg67
 z46 := Tryz.sizeOf67
 v46 := Tryz.zeroValue67
 t51 := Tryz.underlying87
 a51 := Tryz.isAgg87
 z51 := Tryz.sizeOf87
 v51 := Tryz.zeroValue87
 t146 := Tryz.underlying131
 a146 := Tryz.isAgg131
 z146 := Tryz.sizeOf131
 v146 := Tryz.zeroValue131
 g1 := by kernel_rfl
 i3 := by kernel_rfl
 i4 := by kernel_rfl
 i5 := by kernel_rfl
 i9 := by kernel_rfl
 i46 := by kernel_rfl
 i51 := by kernel_rfl
 i146 := by kernel_rfl
 m1 := by kernel_rfl
 s1_3 := fun w h => Go.Proofs.cell_of_shapedOpen_int (zero := #[.int .i64 0]) (t := 3) h (of_decide_eq_true (by kernel_rfl)) (by kernel_rfl) rfl (by kernel_rfl) (by kernel_rfl) Tryz.underlying3 }
def Tryz.laysM157_ren : Go.Shelf.Ren := ⟨fun | 157 => 115 | 229 => 157 | 199 => 158 | 261 => 180 | 311 => 190 | 312 => 191 | n => n, fun | 9 => 9 | 31 => 125 | 3 => 3 | 5 => 5 | 4 => 4 | 119 => 164 | 0 => 0 | 40 => 47 | 152 => 181 | 21 => 21 | 154 => 183 | 51 => 87 | 141 => 185 | 196 => 203 | 193 => 200 | 198 => 206 | 49 => 204 | 194 => 201 | 201 => 209 | 226 => 212 | 46 => 67 | 227 => 213 | n => n, fun | 0 => 3 | 6 => 6 | n => n⟩
theorem Tryz.laysM157 : Go.Proofs.LaysM.n157 Tryz.prog Tryz.laysM157_ren := {
 mixed := by kernel_rfl
 f157 := Tryz.func115.trans (congrArg some (by kernel_rfl))
 f199 := Tryz.func158.trans (congrArg some (by kernel_rfl))
 f229 := Tryz.func157.trans (congrArg some (by kernel_rfl))
 f261 := Tryz.func180.trans (congrArg some (by kernel_rfl))
 f311 := Tryz.func190.trans (congrArg some (by kernel_rfl))
 f312 := Tryz.func191.trans (congrArg some (by kernel_rfl))
 t0 := Tryz.underlying0
 a0 := Tryz.isAgg0
 z0 := Tryz.sizeOf0
 v0 := Tryz.zeroValue0
 t3 := Tryz.underlying3
 a3 := Tryz.isAgg3
 z3 := Tryz.sizeOf3
 v3 := Tryz.zeroValue3
 t4 := Tryz.underlying4
 a4 := Tryz.isAgg4
 z4 := Tryz.sizeOf4
 v4 := Tryz.zeroValue4
 t5 := Tryz.underlying5
 a5 := Tryz.isAgg5
 z5 := Tryz.sizeOf5
 v5 := Tryz.zeroValue5
 t9 := Tryz.underlying9
 a9 := Tryz.isAgg9
 z9 := Tryz.sizeOf9
 v9 := Tryz.zeroValue9
 t21 := Tryz.underlying21
 a21 := Tryz.isAgg21
 z21 := Tryz.sizeOf21
 v21 := Tryz.zeroValue21
 t31 := Tryz.underlying125
 a31 := Tryz.isAgg125
 z31 := Tryz.sizeOf125
 v31 := Tryz.zeroValue125
 t40 := Tryz.underlying47
 a40 := Tryz.isAgg47
 z40 := Tryz.sizeOf47
 v40 := Tryz.zeroValue47
 t46 := Tryz.underlying67
 a46 := Tryz.isAgg67
 z46 := Tryz.sizeOf67
 v46 := Tryz.zeroValue67
 t49 := Tryz.underlying204
 a49 := Tryz.isAgg204
 z49 := Tryz.sizeOf204
 v49 := Tryz.zeroValue204
 t51 := Tryz.underlying87
 a51 := Tryz.isAgg87
 z51 := Tryz.sizeOf87
 v51 := Tryz.zeroValue87
 t119 := Tryz.underlying164
 a119 := Tryz.isAgg164
 z119 := Tryz.sizeOf164
 t141 := Tryz.underlying185
 a141 := Tryz.isAgg185
 z141 := Tryz.sizeOf185
 v141 := Tryz.zeroValue185
 t152 := Tryz.underlying181
 a152 := Tryz.isAgg181
 z152 := Tryz.sizeOf181
 v152 := Tryz.zeroValue181
 t154 := Tryz.underlying183
 a154 := Tryz.isAgg183
 z154 := Tryz.sizeOf183
 v154 := Tryz.zeroValue183
 t193 := Tryz.underlying200
 a193 := Tryz.isAgg200
 z193 := Tryz.sizeOf200
 v193 := Tryz.zeroValue200
 t194 := Tryz.underlying201
 a194 := Tryz.isAgg201
 z194 := Tryz.sizeOf201
 v194 := Tryz.zeroValue201
 t196 := Tryz.underlying203
 a196 := Tryz.isAgg203
 z196 := Tryz.sizeOf203
 v196 := Tryz.zeroValue203
 t198 := Tryz.underlying206
 a198 := Tryz.isAgg206
 z198 := Tryz.sizeOf206
 v198 := Tryz.zeroValue206
 t201 := Tryz.underlying209
 a201 := Tryz.isAgg209
 z201 := Tryz.sizeOf209
 v201 := Tryz.zeroValue209
 t226 := Tryz.underlying212
 a226 := Tryz.isAgg212
 z226 := Tryz.sizeOf212
 v226 := Tryz.zeroValue212
 t227 := Tryz.underlying213
 a227 := Tryz.isAgg213
 z227 := Tryz.sizeOf213
 v227 := Tryz.zeroValue213
 g0 := by kernel_rfl
 g6 := by kernel_rfl
 i0 := by kernel_rfl
 i3 := by kernel_rfl
 i4 := by kernel_rfl
 i5 := by kernel_rfl
 i9 := by kernel_rfl
 i21 := by kernel_rfl
 i31 := by kernel_rfl
 i40 := by kernel_rfl
 i46 := by kernel_rfl
 i49 := by kernel_rfl
 i51 := by kernel_rfl
 i141 := by kernel_rfl
 i152 := by kernel_rfl
 i154 := by kernel_rfl
 i193 := by kernel_rfl
 i194 := by kernel_rfl
 i196 := by kernel_rfl
 i198 := by kernel_rfl
 i201 := by kernel_rfl
 i226 := by kernel_rfl
 i227 := by kernel_rfl
 m0 := by kernel_rfl
 m6 := by kernel_rfl }
end Go.Proofs
namespace Go.Proofs.YtnhmmjogfkjceaaGreatDoor
open Go.Sl Go.RowKit
structure LaidL (W0 : World) : Prop where
  max : ∃ m, ∀ w, Below W0.heap.size W0 w → w.cell? ⟨Tryz.laysM143_ren.g 1, 0, none⟩ = some (.int .i64 m)
  tab : ∀ w, Below W0.heap.size W0 w → Lib.TabIs Tryz.prog w "strings.asciiSpace" .u8 Lib.asciiSpaceTab
variable {W0 : World} {σ : Heaplet}
theorem str_Index (hL : LaidL W0) (l p : List UInt8) (hl : l.length < 4294967281) : SC Tryz.prog W0 54 #[.string (bS l), .string (bS p)] σ (Ret (fun _ : Unit => σ) (fun v _ => v = .int .i64 (Lib.index l p))) := by
 refine SC.of_below fun w hb => ?_
 obtain ⟨m, hm⟩ := hL.max
 refine (Any.strings_Index { Tryz.laysM143 with } (bS l) (bS p) m w (by rw [bS_size]; exact hl) (hm w hb)).mono ?_
 rintro e w' ⟨rfl, rfl⟩
 exact ⟨_, rfl, Below.refl _ _, by rw [bS_list, bS_list]⟩
theorem str_Contains (hL : LaidL W0) (l p : List UInt8) (hl : l.length < 4294967281) : SC Tryz.prog W0 42 #[.string (bS l), .string (bS p)] σ (Ret (fun _ : Unit => σ) (fun v _ => v = .bool (Lib.contains l p))) := by
 refine SC.of_below fun w hb => ?_
 obtain ⟨m, hm⟩ := hL.max
 refine (Any.strings_Contains { Tryz.laysM144 with } (bS l) (bS p) m w (by rw [bS_size]; exact hl) (hm w hb)).mono ?_
 rintro e w' ⟨rfl, rfl⟩
 exact ⟨_, rfl, Below.refl _ _, by rw [bS_list, bS_list]⟩
theorem str_Fields (hL : LaidL W0) (l : List UInt8) (hl : l.length < 4294967281) (ha : l.all (fun b => decide (b.toNat < 128)) = true) :
   SC Tryz.prog W0 115 #[.string (bS l)] [] (Ret (fun b : Nat => [(b, .txt ((Lib.fields l).map fun q => Value.string (bS q)))]) (fun v b => v = .slice (some ⟨b, 0, none⟩) (Lib.fields l).length (Lib.fields l).length)) := by
 intro w h2
 refine (Any.strings_Fields_laid Tryz.laysM157 (bS l) w (by rw [bS_size]; exact hl) (fun j b hj => by rw [bS_list] at hj; exact ascii_of_all ha j b hj) (hL.tab w h2.below)).mono ?_
 rintro e w' ⟨rfl, rfl⟩
 rw [bS_list]
 exact ⟨_, [(w.heap.size, .txt ((Lib.fields l).map fun q => Value.string (bS q)))], rfl, h2.alloc (by show Array.toList _ = _; simp), (Upd.refl w _).alloc _ _, w.heap.size, Own.refl _, rfl⟩
end Go.Proofs.YtnhmmjogfkjceaaGreatDoor
namespace Go.Proofs.YtnhmmjogfkjceaaGreatDoor
open Go.Sl
def mixM (n l : List Int) (i : Nat) : List Int := n.take i ++ l.drop i
theorem mixM_zero (n l : List Int) : mixM n l 0 = l := by simp [mixM]
theorem mixM_len {n l : List Int} {i : Nat} (hn : n.length = l.length) (hi : i ≤ l.length) : (mixM n l i).length = l.length := by
 unfold mixM; rw [List.length_append, List.length_take, List.length_drop]; omega
theorem mixM_at {n l : List Int} {i : Nat} (hn : n.length = l.length) (hi : i < l.length) : (mixM n l i)[i]? = l[i]? := by
 unfold mixM
 rw [List.getElem?_append_right (by rw [List.length_take]; omega), List.length_take, Nat.min_eq_left (by omega), List.getElem?_drop]
 simp
theorem mixM_end {n l : List Int} (hn : n.length = l.length) : mixM n l l.length = n := by
 unfold mixM; rw [List.drop_length, List.append_nil, ← hn, List.take_length]
theorem mixM_step {n l : List Int} {i : Nat} {v : Int} (hn : n.length = l.length) (hv : n[i]? = some v) : (mixM n l i).set i v = mixM n l (i + 1) := by
 have hi := (List.getElem?_eq_some_iff.1 hv).1
 apply List.ext_getElem?
 intro j
 have h1 : (n.take i).length = i := by rw [List.length_take]; omega
 have h2 : (n.take (i + 1)).length = i + 1 := by rw [List.length_take]; omega
 by_cases hj : j = i
 · subst hj
   rw [List.getElem?_set_self (by rw [mixM_len hn (by omega)]; omega)]
   unfold mixM
   rw [List.getElem?_append_left (by omega), List.getElem?_take_of_lt (by omega), hv]
 · rw [List.getElem?_set_ne (fun z => hj z.symm)]
   unfold mixM
   by_cases hlt : j < i
   · rw [List.getElem?_append_left (by omega), List.getElem?_append_left (by omega), List.getElem?_take_of_lt hlt, List.getElem?_take_of_lt (by omega)]
   · rw [List.getElem?_append_right (by omega), List.getElem?_append_right (by omega), h1, h2, List.getElem?_drop, List.getElem?_drop]
     congr 1; omega
theorem lessL_at : ∀ {l m : List Int} {i : Nat} {x b : Int}, l[i]? = some x → (lessL l m b)[i]? = some ((x - (lessB (l.take i) m b + m[i]?.getD 0)) % 4294967296)
 | [], m, i, x, b, h => by simp at h
 | z :: r, m, 0, x, b, h => by
   simp at h; subst h
   cases m <;> simp [lessL, lessB]
 | z :: r, m, i + 1, x, b, h => by
   show (lessL r m.tail (if z < b + m.headD 0 then 1 else 0))[i]? = _
   rw [lessL_at (l := r) (m := m.tail) (i := i) (x := x) (by simpa using h)]
   cases m <;> simp [lessB]
theorem lessB_step : ∀ {l m : List Int} {i : Nat} {x b : Int}, l[i]? = some x → lessB (l.take (i + 1)) m b = if x < lessB (l.take i) m b + m[i]?.getD 0 then 1 else 0
 | [], m, i, x, b, h => by simp at h
 | z :: r, m, 0, x, b, h => by
   simp at h; subst h
   cases m <;> simp [lessB]
 | z :: r, m, i + 1, x, b, h => by
   have := lessB_step (l := r) (m := m.tail) (i := i) (x := x) (b := if z < b + m.headD 0 then 1 else 0) (by simpa using h)
   cases m <;> simpa [lessB] using this
theorem less_wrap (x z : Int) : IntKind.wrap .u32 (x - IntKind.wrap .u32 z) = (x - z) % 4294967296 := by rw [wrap_u32, wrap_u32]; omega
theorem less_y {l m : List Int} {i : Nat} {x y c : Int} (hx : l[i]? = some x) (hy : m[i]? = some y) (hc : c = lessB (l.take i) m 0) :
   (mixM (lessL l m 0) l i).set i (IntKind.wrap .u32 (x - IntKind.wrap .u32 (c + y))) = mixM (lessL l m 0) l (i + 1) ∧ (x < c + y → 1 = lessB (l.take (i + 1)) m 0) ∧ (¬ x < c + y → 0 = lessB (l.take (i + 1)) m 0) := by
 refine ⟨mixM_step (lessL_len ..) ?_, fun h => ?_, fun h => ?_⟩
 · rw [lessL_at hx, hy, less_wrap, hc]; rfl
 · rw [lessB_step hx, hy, ← hc]; exact (if_pos h).symm
 · rw [lessB_step hx, hy, ← hc]; exact (if_neg h).symm
theorem less_n {l m : List Int} {i : Nat} {x c : Int} (hx : l[i]? = some x) (hy : m.length ≤ i) (hc : c = lessB (l.take i) m 0) :
   (mixM (lessL l m 0) l i).set i (IntKind.wrap .u32 (x - IntKind.wrap .u32 c)) = mixM (lessL l m 0) l (i + 1) ∧ (x < c → 1 = lessB (l.take (i + 1)) m 0) ∧ (¬ x < c → 0 = lessB (l.take (i + 1)) m 0) := by
 have e : m[i]? = none := List.getElem?_eq_none hy
 refine ⟨mixM_step (lessL_len ..) ?_, fun h => ?_, fun h => ?_⟩
 · rw [lessL_at hx, e, less_wrap, hc]; simp
 · rw [lessB_step hx, e, ← hc]; simp [h]
 · rw [lessB_step hx, e, ← hc]; simp [h]
theorem pow_mono10 {a i n : Nat} (h : i ≤ n) : a * 10 ^ i ≤ a * 10 ^ n := Nat.mul_le_mul_left _ (Nat.pow_le_pow_right (by decide) h)
theorem ofD_app (l : Bytes) (c : UInt8) : ofD (l ++ [c]) = ofD l * 10 + (c.toNat - 48) := by simp [ofD, List.foldl_append]
theorem ofD_step {X : Bytes} {i : Nat} {c : UInt8} (h : X[i]? = some c) : ofD (X.take (i + 1)) = ofD (X.take i) * 10 + (c.toNat - 48) := by
 rw [List.take_add_one, h]; exact ofD_app _ _
theorem ofD_ge : ∀ (l : Bytes) (a : Nat), a ≤ l.foldl (fun a c => a * 10 + (c.toNat - 48)) a
 | [], a => Nat.le_refl _
 | c :: r, a => Nat.le_trans (by omega) (ofD_ge r (a * 10 + (c.toNat - 48)))
theorem ofD_take_le (X : Bytes) (i : Nat) : ofD (X.take i) ≤ ofD X := by
 have h : ofD X = (X.drop i).foldl (fun a c => a * 10 + (c.toNat - 48)) (ofD (X.take i)) := by
   conv => lhs; rw [← List.take_append_drop i X]
   unfold ofD; rw [List.foldl_append]
 rw [h]; exact ofD_ge _ _
end Go.Proofs.YtnhmmjogfkjceaaGreatDoor
namespace Go.Proofs.YtnhmmjogfkjceaaGreatDoor
open Go.Sl
def clampE (e : Int) : Int := min (max e (-5000)) 5000
theorem clampE_in (e : Int) : -5000 ≤ clampE e ∧ clampE e ≤ 5000 := by unfold clampE; omega
theorem clampE_eq (e : Int) : (if 5000 < (if -5000 > e then -5000 else e) then 5000 else (if -5000 > e then -5000 else e)) = clampE e := by
 unfold clampE; split <;> split <;> omega
theorem and1_64 (m : Nat) (h : m < 18446744073709551616) : IntKind.wrap .u64 ((BitVec.ofInt 64 (m : Int) &&& BitVec.ofInt 64 1).toNat) = ((m % 2 : Nat) : Int) := by
 rw [BitVec.toNat_and, show (BitVec.ofInt 64 1).toNat = 2 ^ 1 - 1 by decide, Nat.and_two_pow_sub_one_eq_mod, BitVec.toNat_ofInt]
 have : (((m : Int) % ((2 ^ 64 : Nat) : Int)).toNat) = m := by omega
 rw [this]
 simp [IntKind.wrap, IntKind.bits, IntKind.signed]
 omega
theorem formNear_hi {m : Nat} {e : Int} {h : Bool} (h1 : e + 63 > 1023) : formNear m e h = 9218868437227405312 := by unfold formNear; rw [if_pos h1]
theorem formNear_lo {m : Nat} {e : Int} {h : Bool} (h2 : e + 63 + 1023 < 1) (h3 : 12 - (e + 63 + 1023) > 64) : formNear m e h = 0 := by
 unfold formNear; rw [if_neg (by omega)]; simp only [if_pos h2]; rw [if_pos h3]
abbrev upIf (R M : Nat) (h : Bool) : Prop := R > 9223372036854775808 ∨ (R = 9223372036854775808 ∧ (h = true ∨ M % 2 = 1))
theorem formNear_d {m M R : Nat} {e : Int} {h : Bool} (h2 : e + 63 + 1023 < 1) (h3 : ¬ 12 - (e + 63 + 1023) > 64) (hM : M = m / 2 ^ (12 - (e + 63 + 1023)).toNat) (hR : R = m * 2 ^ (64 - (12 - (e + 63 + 1023)).toNat) % 18446744073709551616) :
   (formNear m e h : Int) = ((if upIf R M h then M + 1 else M : Nat) : Int) := by
 unfold formNear; rw [if_neg (by omega)]; simp only [if_pos h2]; rw [if_neg h3, ← hM, ← hR]; simp
theorem formNear_n {m M R : Nat} {e : Int} {h : Bool} (h1 : ¬ e + 63 > 1023) (h2 : ¬ e + 63 + 1023 < 1) (hM : M = m / 2 ^ 11) (hR : R = m * 2 ^ 53 % 18446744073709551616) :
   (formNear m e h : Int) = (e + 63 + 1023 - 1) * 4503599627370496 + ((if upIf R M h then M + 1 else M : Nat) : Int) := by
 unfold formNear; rw [if_neg h1]; simp only [if_neg h2]; rw [if_neg (by decide)]
 rw [show (11 : Int).toNat = 11 from rfl, show 64 - 11 = 53 from rfl, ← hM, ← hR]
 generalize (if R > 9223372036854775808 ∨ (R = 9223372036854775808 ∧ (h = true ∨ M % 2 = 1)) then M + 1 else M : Nat) = r
 omega
theorem up_if {p : Prop} [Decidable p] {a : Nat} (h : p) : ((if p then a + 1 else a : Nat) : Int) = (a : Int) + 1 := by rw [if_pos h]; simp
theorem dn_if {p : Prop} [Decidable p] {a : Nat} (h : ¬ p) : ((if p then a + 1 else a : Nat) : Int) = (a : Int) := by rw [if_neg h]
theorem div_pow_lt {m s : Nat} (h : m < 18446744073709551616) (hs : 11 ≤ s) : m / 2 ^ s < 9007199254740992 := by
 rw [Nat.div_lt_iff_lt_mul (Nat.two_pow_pos s)]
 have : 2 ^ 11 ≤ 2 ^ s := Nat.pow_le_pow_right (by decide) hs
 omega
theorem one_shl {k : Nat} (h : k < 64) : IntKind.wrap .u64 ((1 : Int) * 2 ^ min (k : Int).toNat IntKind.u64.bits) = ((2 ^ k : Nat) : Int) := by
 rw [Int.toNat_natCast, show IntKind.u64.bits = 64 from rfl, Nat.min_eq_left (by omega), wrap64]
 have h1 : (1 : Int) * 2 ^ k = ((2 ^ k : Nat) : Int) := by simp
 have h2 : 2 ^ k ≤ 2 ^ 63 := Nat.pow_le_pow_right (by decide) (by omega)
 rw [h1]
 generalize 2 ^ k = z at *
 omega
theorem or_half {m k : Nat} (hk : 0 < k) (h : m * 2 ^ k + 2 ^ (k - 1) < 18446744073709551616) : IntKind.wrap .u64 ((BitVec.ofInt 64 ((m * 2 ^ k : Nat) : Int) ||| BitVec.ofInt 64 ((2 ^ (k - 1) : Nat) : Int)).toNat) = ((m * 2 ^ k + 2 ^ (k - 1) : Nat) : Int) := by
 rw [show (BitVec.ofInt 64 ((m * 2 ^ k : Nat) : Int) ||| BitVec.ofInt 64 ((2 ^ (k - 1) : Nat) : Int)) = (BitVec.ofInt 64 ((2 ^ (k - 1) : Nat) : Int) ||| BitVec.ofInt 64 ((m * 2 ^ k : Nat) : Int)) from BitVec.or_comm _ _]
 exact or_apart64 (Nat.pow_lt_pow_right (by decide) (by omega)) h
theorem lz_one : (64 - (Lib.bitLen (1 : Int).toNat : Int)) = 63 := by decide
theorem bitsN_le64 {m : Nat} (h : m < 18446744073709551616) : bitsN m ≤ 64 := by
 by_cases h0 : m = 0
 · rw [h0, bitsN_zero]; decide
 · have := bitsN_ge m h0
   apply Classical.byContradiction
   intro hc
   have : 2 ^ 64 ≤ 2 ^ (bitsN m - 1) := Nat.pow_le_pow_right (by decide) (by omega)
   omega
theorem lz_eq {m : Nat} (h : m < 18446744073709551616) : (64 - (Lib.bitLen (m : Int).toNat : Int)) = ((64 - bitsN m : Nat) : Int) := by
 rw [Int.toNat_natCast, bitLen_eq h]
 have := bitsN_le64 h
 omega
theorem shl_top {m : Nat} (h : m < 18446744073709551616) : m * 2 ^ (64 - bitsN m) < 18446744073709551616 := by
 have h1 := bitsN_lt m
 have h2 := bitsN_le64 h
 have : m * 2 ^ (64 - bitsN m) < 2 ^ bitsN m * 2 ^ (64 - bitsN m) := Nat.mul_lt_mul_of_pos_right h1 (Nat.two_pow_pos _)
 rw [← Nat.pow_add, show bitsN m + (64 - bitsN m) = 64 by omega] at this
 exact this
theorem shl_wrap {m k : Nat} (h : m * 2 ^ k < 18446744073709551616) (hk : k ≤ 64) : IntKind.wrap .u64 ((m : Int) * 2 ^ min (k : Int).toNat IntKind.u64.bits) = ((m * 2 ^ k : Nat) : Int) := by
 rw [Int.toNat_natCast, show IntKind.u64.bits = 64 from rfl, Nat.min_eq_left hk, wrap64]
 have : (m : Int) * 2 ^ k = ((m * 2 ^ k : Nat) : Int) := by simp
 rw [this]; omega
theorem shl_half {m k : Nat} (h : m * 2 ^ k < 18446744073709551616) (hk : 0 < k) (hk2 : k ≤ 64) : m * 2 ^ k + 2 ^ (k - 1) < 18446744073709551616 := by
 obtain ⟨j, rfl⟩ : ∃ j, k = j + 1 := ⟨k - 1, by omega⟩
 rw [Nat.add_sub_cancel]
 rw [Nat.pow_succ] at h ⊢
 by_cases hj : j = 63
 · subst hj; have : m = 0 := by omega
   subst this; decide
 · have : 2 ^ j ≤ 2 ^ 62 := Nat.pow_le_pow_right (by decide) (by omega)
   have e : m * (2 ^ j * 2) = 2 * (m * 2 ^ j) := by rw [← Nat.mul_assoc, Nat.mul_comm]
   rw [e] at h ⊢
   have h64 : (18446744073709551616 : Nat) = 2 ^ j * (2 * 2 ^ (63 - j)) := by rw [show (2 : Nat) * 2 ^ (63 - j) = 2 ^ (64 - j) by rw [show 64 - j = (63 - j) + 1 by omega, Nat.pow_succ, Nat.mul_comm], ← Nat.pow_add, show j + (64 - j) = 64 by omega]
   have h2 : 2 * (m * 2 ^ j) = 2 ^ j * (2 * m) := by rw [← Nat.mul_assoc, Nat.mul_comm]
   rw [h2, h64] at h ⊢
   have h3 : 2 * m < 2 * 2 ^ (63 - j) := Nat.lt_of_mul_lt_mul_left h
   have h4 := Nat.mul_le_mul_left (2 ^ j) (show 2 * m + 2 ≤ 2 * 2 ^ (63 - j) by omega)
   rw [Nat.mul_add] at h4
   have := Nat.two_pow_pos j
   omega
theorem near_z {e : Int} : nearN 0 e true = formNear 9223372036854775808 (clampE e - 1 - 63) false := by unfold nearN clampE; rw [if_pos ⟨rfl, rfl⟩]
theorem near_0 {e : Int} {h : Bool} (hh : h = false) : nearN 0 e h = 0 := by subst hh; unfold nearN; simp
theorem near_half {m : Nat} {e : Int} {h : Bool} (hm : m ≠ 0) (hh : h = true) (hs : 0 < 64 - bitsN m) : nearN m e h = formNear (m * 2 ^ (64 - bitsN m) + 2 ^ (64 - bitsN m - 1)) (clampE e - (64 - bitsN m : Nat)) false := by
 unfold nearN clampE; rw [if_neg (fun q => hm q.1), if_neg hm]; simp only []; rw [if_pos ⟨hh, hs⟩]
theorem near_up {m : Nat} {e : Int} {h : Bool} (hm : m ≠ 0) (hs : ¬ (h = true ∧ 0 < 64 - bitsN m)) : nearN m e h = formNear (m * 2 ^ (64 - bitsN m)) (clampE e - (64 - bitsN m : Nat)) h := by
 unfold nearN clampE; rw [if_neg (fun q => hm q.1), if_neg hm]; simp only []; rw [if_neg hs]
theorem max0_eq (z : Int) : (if 0 > z then 0 else z) = (z.toNat : Int) := by split <;> omega
theorem cmp_ge {a b : Nat} (h : cmpN a b ≥ 0) : b ≤ a := by unfold cmpN at h; split at h <;> omega
theorem cmp_nge {a b : Nat} (h : ¬ cmpN a b ≥ 0) : ¬ b ≤ a := by
 unfold cmpN at h
 split at h <;> first | omega | (split at h <;> omega)
theorem shl_one (m : Nat) : IntKind.wrap .u64 ((m : Int) * 2 ^ min (1 : Int).toNat IntKind.u64.bits) = ((m * 2 % 18446744073709551616 : Nat) : Int) := by
 rw [show min (1 : Int).toNat IntKind.u64.bits = 1 from rfl, wrap64]; omega
theorem or_one (m : Nat) : IntKind.wrap .u64 ((BitVec.ofInt 64 ((m * 2 % 18446744073709551616 : Nat) : Int) ||| BitVec.ofInt 64 1).toNat) = ((m * 2 % 18446744073709551616 + 1 : Nat) : Int) := by
 have e : m * 2 % 18446744073709551616 = (m % 9223372036854775808) * 2 ^ 1 := by omega
 rw [e, BitVec.or_comm]
 exact or_apart64 (a := m % 9223372036854775808) (b := 1) (s := 1) (by decide) (by omega)
theorem bitsN_mono {x y : Nat} (h : x ≤ y) : bitsN x ≤ bitsN y := by
 by_cases hx : x = 0
 · rw [hx, bitsN_zero]; omega
 · have h1 := bitsN_ge x hx
   have h2 := bitsN_lt y
   have h3 : bitsN x - 1 < bitsN y := (Nat.pow_lt_pow_iff_right (by decide : 1 < 2)).1 (Nat.lt_of_le_of_lt (Nat.le_trans h1 h) h2)
   omega
theorem bitsN_mul_pow (x n : Nat) : bitsN (x * 2 ^ n) ≤ bitsN x + n := by
 by_cases hx : x = 0
 · rw [hx, Nat.zero_mul, bitsN_zero]; omega
 · have := bitsN_shift (x := x) (k := n) (y := 0) hx (Nat.two_pow_pos n)
   rw [Nat.add_zero] at this; omega
theorem len_bits {x k : Nat} (h : bitsN x ≤ 32 * k) : (lim x).length ≤ k := by
 apply lim_len_lt
 rw [show (4294967296 : Nat) = 2 ^ 32 from rfl, ← Nat.pow_mul]
 exact Nat.lt_of_lt_of_le (bitsN_lt x) (Nat.pow_le_pow_right (by decide) h)
theorem len_mono {x y k : Nat} (h : x ≤ y) (hk : (lim y).length ≤ k) : (lim x).length ≤ k := Nat.le_trans (lim_len_mono h) hk
theorem divN_step1 {k p t man : Nat} (h : t ≤ p) : divN (k + 1) p t man = divN k (p - t) (t / 2) (man * 2 % 18446744073709551616 + 1) := by rw [divN, if_pos h]
theorem divN_step0 {k p t man : Nat} (h : ¬ t ≤ p) : divN (k + 1) p t man = divN k p (t / 2) (man * 2 % 18446744073709551616) := by rw [divN, if_neg h]
theorem roundN_eq {p q p' t' man : Nat} (h : divN 0 p' t' man = divN 64 (p * 2 ^ (63 - (bitsN p : Int) + (bitsN q : Int)).toNat) (q * 2 ^ (-(63 - (bitsN p : Int) + (bitsN q : Int))).toNat * 2 ^ 63) 0) :
   roundN p q = nearN man (-(63 - (bitsN p : Int) + (bitsN q : Int))) (decide (((lim p').length : Int) > 0)) := by
 unfold roundN
 simp only []
 rw [← h, divN]
 simp
end Go.Proofs.YtnhmmjogfkjceaaGreatDoor
namespace Go.Proofs.YtnhmmjogfkjceaaGreatDoor
open Go.Sl
theorem digs_contains (c : UInt8) : digs.contains c = isDig c := by
 have h : ∀ n : Fin 256, digs.contains (UInt8.ofNat n) = isDig (UInt8.ofNat n) := by decide
 have := h ⟨c.toNat, c.toNat_lt⟩
 simpa using this
theorem trimLeft_digs (X : Bytes) : Lib.trimLeftS X digs = X.dropWhile isDig := by
 unfold Lib.trimLeftS
 congr 1
 funext c
 exact digs_contains c
theorem take_drop_len (p : UInt8 → Bool) (X : Bytes) : X.take (X.length - (X.dropWhile p).length) = X.takeWhile p := by
 have h : X.takeWhile p ++ X.dropWhile p = X := List.takeWhile_append_dropWhile
 have hl : (X.takeWhile p).length + (X.dropWhile p).length = X.length := by rw [← List.length_append, h]
 conv => lhs; arg 2; rw [← h]
 rw [show X.length - (X.dropWhile p).length = (X.takeWhile p).length by omega, List.take_left']
 rfl
theorem dropWhile_len (p : UInt8 → Bool) (X : Bytes) : (X.dropWhile p).length ≤ X.length := (List.dropWhile_sublist p).length_le
theorem takeWhile_len (p : UInt8 → Bool) (X : Bytes) : (X.takeWhile p).length ≤ X.length := (List.takeWhile_sublist p).length_le
theorem takeWhile_all (p : UInt8 → Bool) : ∀ {X : Bytes} {c : UInt8}, c ∈ X.takeWhile p → p c = true
 | x :: r, c, h => by
   rw [List.takeWhile_cons] at h
   split at h
   · rcases List.mem_cons.1 h with q | q
     · rw [q]; assumption
     · exact takeWhile_all p q
   · cases h
theorem takeWhile_dig {X : Bytes} {c : UInt8} (h : c ∈ X.takeWhile isDig) : 48 ≤ c.toNat ∧ c.toNat ≤ 57 := by
 have := takeWhile_all isDig h
 simpa [isDig] using this
def numV (n : DecP × Bool) : Value := .tuple #[.agg #[.string (bS n.1.ahead), .string (bS n.1.behind), .int .i64 n.1.power], .bool n.2]
theorem pre_dot {D : Bytes} (h : Lib.hasPrefix D [46] = true) : ∃ r, D = 46 :: r := by
 cases D with
 | nil => simp [Lib.hasPrefix] at h
 | cons c r => simp [Lib.hasPrefix] at h; exact ⟨r, by rw [h]⟩
theorem fracP_no {D : Bytes} (h : Lib.hasPrefix D [46] = false) : fracP D = ([], D) := by
 cases D with
 | nil => rfl
 | cons c r =>
   unfold fracP
   split
   · rename_i heq; simp at heq; rw [heq.1] at h; simp [Lib.hasPrefix] at h
   · rfl
theorem fracP_len (D : Bytes) : (fracP D).1.length ≤ D.length ∧ (fracP D).2.length ≤ D.length := by
 unfold fracP
 split
 · rename_i r
   have := takeWhile_len isDig r
   have := dropWhile_len isDig r
   simp; omega
 · simp
theorem wayP_at {d : UInt8} {t : Bytes} (h : d = 43 ∨ d = 45) : wayP (d :: t) = (44 - (d.toNat : Int), t) := if_pos h
theorem wayP_no {d : UInt8} {t : Bytes} (h : ¬ (d = 43 ∨ d = 45)) : wayP (d :: t) = (1, d :: t) := if_neg h
theorem wayP_in (r : Bytes) : (wayP r).1 = 1 ∨ (wayP r).1 = -1 := by
 cases r with
 | nil => exact .inl rfl
 | cons d t =>
   by_cases h : d = 43 ∨ d = 45
   · rw [wayP_at h]; rcases h with rfl | rfl; exact .inl rfl; exact .inr rfl
   · rw [wayP_no h]; exact .inl rfl
theorem wayP_len (r : Bytes) : (wayP r).2.length ≤ r.length := by
 cases r with
 | nil => exact Nat.le_refl _
 | cons d t =>
   by_cases h : d = 43 ∨ d = 45
   · rw [wayP_at h]; simp
   · rw [wayP_no h]; exact Nat.le_refl _
theorem powN_in : ∀ (l : Bytes) (a : Int), 0 ≤ a ∧ a ≤ 1099511627776 → (∀ c ∈ l, 48 ≤ c.toNat ∧ c.toNat ≤ 57) → 0 ≤ powN a l ∧ powN a l ≤ 1099511627776
 | [], a, h, _ => h
 | c :: r, a, h, hd => powN_in r _ (by have := hd c (List.mem_cons_self ..); omega) fun x hx => hd x (List.mem_cons_of_mem _ hx)
theorem powN_app : ∀ (l m : Bytes) (a : Int), powN a (l ++ m) = powN (powN a l) m
 | [], _, _ => rfl
 | c :: r, m, a => powN_app r m _
theorem powN_step {l : Bytes} {i : Nat} {c : UInt8} (h : l[i]? = some c) : powN 0 (l.take (i + 1)) = min (powN 0 (l.take i) * 10 + ((c.toNat : Int) - 48)) 1099511627776 := by
 rw [List.take_add_one, h, powN_app]; rfl
theorem way_mul {p w : Int} (hp : 0 ≤ p ∧ p ≤ 1099511627776) (hw : w = 1 ∨ w = -1) : -1099511627776 ≤ p * w ∧ p * w ≤ 1099511627776 := by rcases hw with rfl | rfl <;> omega
section
variable {X A B R r : Bytes} {c : UInt8} (hA : X.takeWhile isDig = A) (hB : (fracP (X.dropWhile isDig)).1 = B) (hR : (fracP (X.dropWhile isDig)).2 = R)
include hA hB
theorem decP_none (h : A = [] ∧ B = []) : decP X = (⟨A, B, 0⟩, false) := by unfold decP; simp only [hA, hB, if_pos h]
include hR
theorem decP_end (h : ¬ (A = [] ∧ B = [])) (h1 : R = []) : decP X = (⟨A, B, 0⟩, true) := by unfold decP; simp only [hA, hB, hR, if_neg h, h1]
theorem decP_other (h : ¬ (A = [] ∧ B = [])) (h1 : R = c :: r) (h2 : c ≠ 101 ∧ c ≠ 69) : decP X = (⟨A, B, 0⟩, false) := by unfold decP; simp only [hA, hB, hR, if_neg h, h1, if_pos h2]
theorem decP_pow (h : ¬ (A = [] ∧ B = [])) (h1 : R = c :: r) (h2 : c = 101 ∨ c = 69) : decP X = (⟨A, B, powN 0 ((wayP r).2.takeWhile isDig) * (wayP r).1⟩, decide ((wayP r).2.takeWhile isDig ≠ [] ∧ (wayP r).2.dropWhile isDig = [])) := by
 unfold decP; simp only [hA, hB, hR, if_neg h, h1]; rw [if_neg (by rcases h2 with rfl | rfl <;> decide)]
end
theorem cons_of_at {R : Bytes} {c : UInt8} (h : R[0]? = some c) : R = c :: R.drop 1 := by
 cases R with
 | nil => simp at h
 | cons d t => simp at h; rw [h]; rfl
theorem wayP_hit {r : Bytes} {d : UInt8} (h : r[0]? = some d) (hd : d = 43 ∨ d = 45) : wayP r = (44 - (d.toNat : Int), r.drop 1) := by
 rw [cons_of_at h, wayP_at hd]; rfl
theorem wayP_miss {r : Bytes} {d : UInt8} (h : r[0]? = some d) (hd : ¬ (d = 43 ∨ d = 45)) : wayP r = (1, r) := by
 conv => lhs; rw [cons_of_at h]
 rw [wayP_no hd, ← cons_of_at h]
theorem min_if (a b : Int) : (if b < a then b else a) = min a b := by split <;> omega
theorem num_eq {A B : Bytes} {p p' : Int} {b b' : Bool} (hp : p = p') (hb : b = b') : Value.tuple #[.agg #[.string (bS A), .string (bS B), .int .i64 p], .bool b] = numV (⟨A, B, p'⟩, b') := by rw [hp, hb]; rfl
theorem u8_eq {c : UInt8} {n : Nat} (hn : n < 256) : ((c.toNat : Int) = (n : Int)) ↔ c = UInt8.ofNat n := by
 constructor
 · intro h
   apply UInt8.toNat_inj.1
   rw [UInt8.toNat_ofNat']
   omega
 · intro h; rw [h, UInt8.toNat_ofNat']; omega
end Go.Proofs.YtnhmmjogfkjceaaGreatDoor
namespace Go.Proofs.YtnhmmjogfkjceaaGreatDoor
open Go.Sl
theorem trimLeft_0 (X : Bytes) : Lib.trimLeftS X [48] = X.dropWhile (· == 48) := by
 unfold Lib.trimLeftS
 congr 1
 funext c
 exact Lib.contains_one 48 c
theorem dropWhile_nil_iff (p : UInt8 → Bool) : ∀ X : Bytes, X.dropWhile p = [] ↔ X.all p = true
 | [] => by simp
 | c :: r => by
   rw [List.dropWhile_cons, List.all_cons]
   by_cases h : p c = true
   · rw [if_pos h, dropWhile_nil_iff p r, h, Bool.true_and]
   · rw [if_neg h]; simp [h]
theorem trimS_nil (X : Bytes) : Lib.trimS X [48] = [] ↔ X.any (· != 48) = false := by
 have h1 : Lib.trimS X [48] = [] ↔ (Lib.trimRightS X [48]).all (· == 48) = true := by
   unfold Lib.trimS
   rw [trimLeft_0, dropWhile_nil_iff]
 rw [h1]
 unfold Lib.trimRightS
 have h2 : ([48].contains · : UInt8 → Bool) = (· == 48) := by funext c; exact Lib.contains_one 48 c
 rw [h2, List.all_reverse]
 constructor
 · intro h
   have h3 : (X.reverse.dropWhile (· == 48)) = [] := by
     cases hd : X.reverse.dropWhile (· == 48) with
     | nil => rfl
     | cons c r =>
       rw [hd, List.all_cons] at h
       have : (c == 48) = true := by simp at h; simp [h.1]
       have h4 := List.head?_dropWhile_not (· == 48) X.reverse
       rw [hd] at h4
       simp at h4 this
       exact absurd this h4
   rw [dropWhile_nil_iff, List.all_reverse] at h3
   rw [List.all_eq_true] at h3
   rw [List.any_eq_false]
   intro c hc
   have := h3 c hc
   simpa using this
 · intro h
   rw [List.any_eq_false] at h
   rw [List.all_eq_true]
   intro c hc
   have := h c (by have := (List.dropWhile_sublist _).subset hc; simpa using this)
   simpa using this
theorem cutD_more {L : Bytes} {P : Int} (h : L.length > 800) (ha : ¬ Lib.trimS (L.drop 800) [48] = []) : cutD L P = (L.take 800 ++ [49], P + ((L.length : Int) - 800) - 1) := by
 unfold cutD
 rw [if_pos h, if_pos (by rw [trimS_nil] at ha; simpa using ha), show ((L.length - 800 : Nat) : Int) = (L.length : Int) - 800 by omega]
theorem cutD_cut {L : Bytes} {P : Int} (h : L.length > 800) (ha : Lib.trimS (L.drop 800) [48] = []) : cutD L P = (L.take 800, P + ((L.length : Int) - 800)) := by
 unfold cutD
 rw [if_pos h, if_neg (by rw [trimS_nil] at ha; rw [ha]; decide), show ((L.length - 800 : Nat) : Int) = (L.length : Int) - 800 by omega]
theorem cutD_no {L : Bytes} {P : Int} (h : ¬ L.length > 800) : cutD L P = (L, P) := by unfold cutD; rw [if_neg h]
theorem cutD_facts {L : Bytes} {P : Int} (hd : ∀ c ∈ L, 48 ≤ c.toNat ∧ c.toNat ≤ 57) : (cutD L P).1.length ≤ 801 ∧ (∀ c ∈ (cutD L P).1, 48 ≤ c.toNat ∧ c.toNat ≤ 57) ∧ (P - 1 ≤ (cutD L P).2 ∧ (cutD L P).2 ≤ P + L.length) := by
 by_cases h : L.length > 800
 · by_cases ha : Lib.trimS (L.drop 800) [48] = []
   · rw [cutD_cut h ha]
     exact ⟨by simp; omega, fun c hc => hd c (List.mem_of_mem_take hc), by simp only []; omega⟩
   · rw [cutD_more h ha]
     refine ⟨by simp; omega, fun c hc => ?_, by simp only []; omega⟩
     rcases List.mem_append.1 hc with q | q
     · exact hd c (List.mem_of_mem_take q)
     · rw [List.mem_singleton.1 q]; decide
 · rw [cutD_no h]
   exact ⟨by simp only []; omega, hd, by simp only []; omega⟩
theorem ofD_lt : ∀ (n : Nat) (L : Bytes), L.length = n → (∀ c ∈ L, 48 ≤ c.toNat ∧ c.toNat ≤ 57) → ofD L < 10 ^ n := by
 intro n
 induction n with
 | zero => intro L h _; rw [List.eq_nil_of_length_eq_zero h]; decide
 | succ n ih =>
   intro L h hd
   have hl : L ≠ [] := by intro q; rw [q] at h; cases h
   have h1 := ih L.dropLast (by rw [List.length_dropLast]; omega) fun c hc => hd c (List.dropLast_subset _ hc)
   have h2 := hd _ (List.getLast_mem hl)
   rw [← List.dropLast_concat_getLast hl, ofD_app, Nat.pow_succ]
   omega
theorem bitsN_ten {x k : Nat} (h : x ≤ 10 ^ k) : bitsN x ≤ 4 * k + 1 := by
 have h1 : (10 : Nat) ^ k ≤ 2 ^ (4 * k) := by rw [Nat.pow_mul]; exact Nat.pow_le_pow_left (by decide) k
 have h2 : bitsN x ≤ bitsN (1 * 2 ^ (4 * k)) := bitsN_mono (by omega)
 have h3 := bitsN_mul_pow 1 (4 * k)
 have h4 : bitsN 1 = 1 := by rw [bitsN_pos (by decide), show 1 / 2 = 0 from rfl, bitsN_zero]
 omega
theorem ofD_tensK {K : Nat} {L : Bytes} {n : Nat} (hd : ∀ c ∈ L, 48 ≤ c.toNat ∧ c.toNat ≤ 57) (hl : L.length ≤ K) : ofD L * 10 ^ n ≤ 10 ^ (K + n) := by
 have h := ofD_lt _ L rfl hd
 rw [Nat.pow_add]
 exact Nat.mul_le_mul_right _ (Nat.le_trans (Nat.le_of_lt h) (Nat.pow_le_pow_right (by decide) hl))
theorem ofD_tens {L : Bytes} {n : Nat} (hd : ∀ c ∈ L, 48 ≤ c.toNat ∧ c.toNat ≤ 57) (hl : L.length ≤ 801) : ofD L * 10 ^ n ≤ 10 ^ (801 + n) := ofD_tensK hd hl
theorem one_tens (n : Nat) : 1 * 10 ^ n ≤ 10 ^ n := by omega
theorem nearD_none {L : Bytes} {p : Int} (h : L = [] ∨ (L.length : Int) + p < -330) : nearD L p = 0 := by unfold nearD; rw [if_pos h]
theorem nearD_inf {L : Bytes} {p : Int} (h : ¬ L = []) (h1 : ¬ (L.length : Int) + p < -330) (h2 : (L.length : Int) + p > 310) : nearD L p = 9218868437227405312 := by unfold nearD; rw [if_neg (by rintro (q | q) <;> contradiction), if_pos h2]
theorem nearD_some {L : Bytes} {p : Int} (h : ¬ L = []) (h1 : ¬ (L.length : Int) + p < -330) (h2 : ¬ (L.length : Int) + p > 310) : nearD L p = roundN (ofD L * 10 ^ p.toNat) (1 * 10 ^ (-p).toNat) := by
 unfold nearD; rw [if_neg (by rintro (q | q) <;> contradiction), if_neg h2, Nat.one_mul]
theorem nearestP_eq {A B L M : Bytes} {p P q : Int} (hL : (A ++ B).dropWhile (· == 48) = L) (hP : p - (B.length : Int) = P) (h1 : (cutD L P).1 = M) (h2 : (cutD L P).2 = q) : nearestP ⟨A, B, p⟩ = nearD M q := by
 unfold nearestP; simp only [hL, hP, h1, h2]
theorem or8 (c : UInt8) : IntKind.wrap .u8 ((BitVec.ofInt 8 (c.toNat : Int) ||| BitVec.ofInt 8 32).toNat) = ((c ||| 32).toNat : Int) := by
 have h : ∀ n : Fin 256, IntKind.wrap .u8 ((BitVec.ofInt 8 (((UInt8.ofNat n).toNat : Nat) : Int) ||| BitVec.ofInt 8 32).toNat) = (((UInt8.ofNat n) ||| 32).toNat : Int) := by decide
 have := h ⟨c.toNat, c.toNat_lt⟩
 simpa using this
theorem nib_lt (c : UInt8) : Lib.indexByte nibs c < 16 := by
 rcases Int.lt_or_le (Lib.indexByte nibs c) 0 with h | h
 · omega
 · obtain ⟨o, ho⟩ := Int.eq_ofNat_of_zero_le h
   have := (List.getElem?_eq_some_iff.1 (Lib.indexByte_some ho).1).1
   have h16 : nibs.length = 16 := rfl
   omega
theorem hexD_none {c : UInt8} (h : c.toNat < 48 ∨ Lib.indexByte nibs (c ||| 32) < 0 ∨ (Lib.indexByte nibs (c ||| 32) < 10 ∧ (c.toNat : Int) ≠ 48 + Lib.indexByte nibs (c ||| 32))) : hexD c = none := by unfold hexD; exact if_pos h
theorem hexD_some {c : UInt8} (h : ¬ (c.toNat < 48 ∨ Lib.indexByte nibs (c ||| 32) < 0 ∨ (Lib.indexByte nibs (c ||| 32) < 10 ∧ (c.toNat : Int) ≠ 48 + Lib.indexByte nibs (c ||| 32)))) : hexD c = some (Lib.indexByte nibs (c ||| 32)).toNat := by unfold hexD; exact if_neg h
theorem drop_at {X : Bytes} {i : Nat} {c : UInt8} (h : X[i]? = some c) : X.drop i = c :: X.drop (i + 1) := by
 obtain ⟨h1, h2⟩ := List.getElem?_eq_some_iff.1 h
 rw [List.drop_eq_getElem_cons h1, h2]
theorem hexGo_none {m : Nat} {x : Int} {b : Bool} {c : UInt8} {r : Bytes} (h : hexD c = none) : hexGo m x b (c :: r) = none := by unfold hexGo; rw [h]
theorem hexGo_in {m d : Nat} {x : Int} {b : Bool} {c : UInt8} {r : Bytes} (h : hexD c = some d) (h2 : m / 1152921504606846976 = 0) : hexGo m x b (c :: r) = hexGo (m * 16 + d) x b r := by
 conv => lhs; unfold hexGo
 rw [h]; exact if_pos h2
theorem hexGo_out {m d : Nat} {x : Int} {b : Bool} {c : UInt8} {r : Bytes} (h : hexD c = some d) (h2 : ¬ m / 1152921504606846976 = 0) : hexGo m x b (c :: r) = hexGo m (x + 4) (b || decide (0 < d)) r := by
 conv => lhs; unfold hexGo
 rw [h]; exact if_neg h2
theorem hexP_none {X : Bytes} (h : hexGo 0 0 false X = none) : hexP X = (0, false) := by unfold hexP; rw [h]
theorem hexP_some {X : Bytes} {m : Nat} {x : Int} {b : Bool} (h : hexGo 0 0 false X = some (m, x, b)) : hexP X = (nearN m x b, decide (X ≠ [])) := by unfold hexP; rw [h]
theorem or_nib {m d : Nat} (hm : m < 1152921504606846976) (hd : d < 16) : IntKind.wrap .u64 ((BitVec.ofInt 64 ((m * 16 : Nat) : Int) ||| BitVec.ofInt 64 (d : Int)).toNat) = ((m * 16 + d : Nat) : Int) := by
 rw [BitVec.or_comm]
 exact or_apart64 (a := m) (b := d) (s := 4) (by omega) (by omega)
theorem shl_nib (m : Nat) (h : m < 1152921504606846976) : IntKind.wrap .u64 ((m : Int) * 2 ^ min (4 : Int).toNat IntKind.u64.bits) = ((m * 16 : Nat) : Int) := by
 rw [show min (4 : Int).toNat IntKind.u64.bits = 4 from rfl, wrap64]; omega
theorem decP_facts (X : Bytes) : (∀ c ∈ (decP X).1.ahead ++ (decP X).1.behind, 48 ≤ c.toNat ∧ c.toNat ≤ 57) ∧ (decP X).1.ahead.length + (decP X).1.behind.length ≤ X.length ∧ (-1099511627776 ≤ (decP X).1.power ∧ (decP X).1.power ≤ 1099511627776) := by
 have e1 : (decP X).1.ahead = X.takeWhile isDig := by
   unfold decP
   simp only []
   repeat' split
   all_goals rfl
 have e2 : (decP X).1.behind = (fracP (X.dropWhile isDig)).1 := by
   unfold decP
   simp only []
   repeat' split
   all_goals rfl
 have e3 : (decP X).1.power = 0 ∨ ∃ r, (decP X).1.power = powN 0 ((wayP r).2.takeWhile isDig) * (wayP r).1 := by
   unfold decP
   simp only []
   repeat' split
   all_goals first | exact .inl rfl | exact .inr ⟨_, rfl⟩
 refine ⟨fun c hc => ?_, ?_, ?_⟩
 · rw [e1, e2] at hc
   rcases List.mem_append.1 hc with q | q
   · exact takeWhile_dig q
   · unfold fracP at q
     split at q
     · exact takeWhile_dig q
     · cases q
 · rw [e1, e2]
   have h : (X.takeWhile isDig).length + (X.dropWhile isDig).length = X.length := by rw [← List.length_append, List.takeWhile_append_dropWhile]
   have := (fracP_len (X.dropWhile isDig)).1
   omega
 · rcases e3 with q | ⟨r, q⟩
   · rw [q]; omega
   · rw [q]; exact way_mul (powN_in _ 0 (by omega) fun c hc => takeWhile_dig hc) (wayP_in r)
theorem has_dot (l : Bytes) (c : UInt8) : decide (0 ≤ Lib.indexByte l c) = decide (c ∈ l) := by
 rw [← Lib.contains_iff_indexByte]
 simp
def litBad (s : Bytes) : Prop := (decP s).2 = false ∨ (decP s).1.ahead = [] ∨ (46 ∈ s ∧ (decP s).1.behind = []) ∨ ((decP s).1.ahead.length > 1 ∧ (decP s).1.ahead.head? = some 48)
theorem litP_hex {s : Bytes} (h : Lib.hasPrefix s [48, 120] = true) : litP s = hexP (s.drop 2) := by unfold litP; exact if_pos h
theorem litP_bad {s : Bytes} (h : Lib.hasPrefix s [48, 120] = false) (hb : litBad s) : litP s = (0, false) := by
 unfold litP; rw [if_neg (by rw [h]; decide)]; exact if_pos hb
theorem litP_good {s : Bytes} (h : Lib.hasPrefix s [48, 120] = false) (hb : ¬ litBad s) : litP s = (nearestP (decP s).1, true) := by
 unfold litP; rw [if_neg (by rw [h]; decide)]; exact if_neg hb
theorem head_at {l : Bytes} {c : UInt8} (h : l[0]? = some c) : l.head? = some c := by cases l <;> simp at h ⊢; exact h
theorem head_c {l : Bytes} {c : UInt8} (h : l[0]? = some c) (hc : (c.toNat : Int) = 48) : l.head? = some 48 := by
 rw [head_at h, (u8_eq (n := 48) (by decide)).1 hc]; rfl
theorem head_n {l : Bytes} {c : UInt8} (h : l[0]? = some c) (hc : l.head? = some 48) : (c.toNat : Int) = 48 := by
 rw [head_at h] at hc
 rw [Option.some.inj hc]; rfl
theorem pre_len {s p : Bytes} (h : Lib.hasPrefix s p = true) : p.length ≤ s.length := (List.isPrefixOf_iff_prefix.1 h).length_le
section
variable {X T : Bytes} (hT : Lib.trimS X [9, 10, 32] = T)
include hT
end
end Go.Proofs.YtnhmmjogfkjceaaGreatDoor
namespace Go.Proofs.YtnhmmjogfkjceaaGreatDoor
open Go.Sl
def isSm (c : UInt8) : Bool := decide ((97 ≤ c.toNat ∧ c.toNat ≤ 122) ∨ (65 ≤ c.toNat ∧ c.toNat ≤ 90) ∨ c.toNat = 95 ∨ c.toNat = 36 ∨ (48 ≤ c.toNat ∧ c.toNat ≤ 57))
def isHx (c : UInt8) : Bool := decide ((48 ≤ c.toNat ∧ c.toNat ≤ 57) ∨ (97 ≤ c.toNat ∧ c.toNat ≤ 102) ∨ (65 ≤ c.toNat ∧ c.toNat ≤ 70))
def notNl (c : UInt8) : Bool := decide (c.toNat ≠ 10)
def okR (z : Int) : Bool := decide (z = 9 ∨ z = 10 ∨ (32 ≤ z ∧ z ≤ 126))
def nibV (c : UInt8) : Nat := if c.toNat ≤ 57 then c.toNat - 48 else (c ||| 32).toNat - 87
def atB (X : Bytes) (n : Nat) : UInt8 := X[n]?.getD 0
def runL (p : UInt8 → Bool) (X : Bytes) (n : Nat) : Nat := n + ((X.drop n).takeWhile p).length
structure Tok where
  kind : Int
  pos : Nat
  text : Bytes
  num : Nat
def Tok.cells (x : Tok) : List Value := [.int .i64 x.kind, .int .i64 (x.pos : Int), .string (bS x.text), .int .u64 (x.num : Int)]
theorem Tok.len (x : Tok) : x.cells.length = 4 := rfl
inductive TokR where
  | bad (e : Int)
  | tok (kind : Int) (text : Bytes) (num tz : Nat)
def TokR.err : TokR → Int
 | bad e => e
 | tok .. => 0
def TokR.past (a : Nat) : TokR → Nat
 | bad _ => a
 | tok _ _ _ t => t
def TokR.toks (a : Nat) (l : List Tok) : TokR → List Tok
 | bad _ => l
 | tok k t n _ => l ++ [⟨k, a, t, n⟩]
theorem dig_at {c : UInt8} : isDig c = decide (48 ≤ (c.toNat : Int) ∧ (c.toNat : Int) ≤ 57) := decide_eq_decide.2 (by omega)
theorem or32 (c : UInt8) : (c ||| 32).toNat = if c.toNat / 32 % 2 = 0 then c.toNat + 32 else c.toNat := by
 have h : ∀ n : Fin 256, ((UInt8.ofNat n) ||| 32).toNat = if (UInt8.ofNat n).toNat / 32 % 2 = 0 then (UInt8.ofNat n).toNat + 32 else (UInt8.ofNat n).toNat := by decide
 have := h ⟨c.toNat, c.toNat_lt⟩
 simpa using this
theorem runL_step {p : UInt8 → Bool} {X : Bytes} {n : Nat} {c : UInt8} (h : X[n]? = some c) (hp : p c = true) : runL p X n = runL p X (n + 1) := by
 unfold runL; rw [drop_at h, List.takeWhile_cons, if_pos hp]; simp; omega
theorem runL_stop {p : UInt8 → Bool} {X : Bytes} {n : Nat} {c : UInt8} (h : X[n]? = some c) (hp : p c = false) : runL p X n = n := by
 unfold runL; rw [drop_at h, List.takeWhile_cons, if_neg (by rw [hp]; decide)]; rfl
theorem runL_end {p : UInt8 → Bool} {X : Bytes} {n : Nat} (h : X.length ≤ n) : runL p X n = n := by
 unfold runL; rw [List.drop_eq_nil_of_le h]; rfl
theorem runL_ge (p : UInt8 → Bool) (X : Bytes) (n : Nat) : n ≤ runL p X n := by unfold runL; omega
theorem runL_le {p : UInt8 → Bool} {X : Bytes} {n : Nat} (h : n ≤ X.length) : runL p X n ≤ X.length := by
 unfold runL
 have := takeWhile_len p (X.drop n)
 rw [List.length_drop] at this
 omega
theorem atB_some {X : Bytes} {n : Nat} {c : UInt8} (h : X[n]? = some c) : atB X n = c := by unfold atB; rw [h]; rfl
theorem atB_none {X : Bytes} {n : Nat} (h : X.length ≤ n) : atB X n = 0 := by unfold atB; rw [List.getElem?_eq_none h]; rfl
theorem atB_lt {X : Bytes} {n : Nat} (h : (atB X n).toNat ≠ 0) : n < X.length := by
 apply Classical.byContradiction
 intro hc
 rw [atB_none (by omega)] at h
 exact h rfl
theorem index_room {s p : Bytes} {i : Nat} (h : Lib.index s p = (i : Int)) : i + p.length ≤ s.length := by
 induction s generalizing i with
 | nil =>
   unfold Lib.index at h
   split at h
   · rename_i hp; simp at hp; subst hp; simp at h ⊢; omega
   · omega
 | cons c r ih =>
   unfold Lib.index at h
   split at h
   · rename_i hp
     have := (List.isPrefixOf_iff_prefix.1 hp).length_le
     have h0 : i = 0 := by omega
     subst h0; omega
   · split at h
     · omega
     · obtain ⟨j, hj⟩ : ∃ j : Nat, Lib.index r p = (j : Int) := Int.eq_ofNat_of_zero_le (by have := Lib.index_ge r p; rename_i hne; simp at hne; omega)
       have := ih hj
       rw [List.length_cons]; omega
def blE : Nat → Bytes → Nat → Nat × Bool
 | 0, _, a => (a, true)
 | f + 1, X, a =>
   if X.length ≤ a then (a, true)
   else if (atB X a).toNat = 32 ∨ (atB X a).toNat = 10 ∨ (atB X a).toNat = 9 then blE f X (a + 1)
   else if (atB X a).toNat = 47 ∧ (atB X (a + 1)).toNat = 47 then blE f X (runL notNl X a)
   else if (atB X a).toNat = 47 ∧ (atB X (a + 1)).toNat = 42 then (if Lib.index (X.drop (a + 2)) [42, 47] < 0 then (a, false) else blE f X (a + ((Lib.index (X.drop (a + 2)) [42, 47]).toNat + 4)))
   else (a, true)
theorem blE_end {f : Nat} {X : Bytes} {a : Nat} (h : X.length ≤ a) : blE f X a = (a, true) := by
 cases f with
 | zero => rfl
 | succ f => unfold blE; rw [if_pos h]
theorem blE_sp {f : Nat} {X : Bytes} {a : Nat} (h : a < X.length) (h1 : (atB X a).toNat = 32 ∨ (atB X a).toNat = 10 ∨ (atB X a).toNat = 9) : blE (f + 1) X a = blE f X (a + 1) := by
 conv => lhs; unfold blE
 rw [if_neg (by omega), if_pos h1]
theorem blE_line {f : Nat} {X : Bytes} {a : Nat} (h : a < X.length) (h1 : (atB X a).toNat = 47) (h2 : (atB X (a + 1)).toNat = 47) : blE (f + 1) X a = blE f X (runL notNl X a) := by
 conv => lhs; unfold blE
 rw [if_neg (by omega), if_neg (by omega), if_pos ⟨h1, h2⟩]
theorem blE_bad {f : Nat} {X : Bytes} {a : Nat} (h : a < X.length) (h1 : (atB X a).toNat = 47) (h2 : (atB X (a + 1)).toNat = 42) (h3 : Lib.index (X.drop (a + 2)) [42, 47] < 0) : blE (f + 1) X a = (a, false) := by
 unfold blE
 rw [if_neg (by omega), if_neg (by omega), if_neg (by omega), if_pos ⟨h1, h2⟩, if_pos h3]
theorem blE_rem {f : Nat} {X : Bytes} {a : Nat} (h : a < X.length) (h1 : (atB X a).toNat = 47) (h2 : (atB X (a + 1)).toNat = 42) (h3 : ¬ Lib.index (X.drop (a + 2)) [42, 47] < 0) : blE (f + 1) X a = blE f X (a + ((Lib.index (X.drop (a + 2)) [42, 47]).toNat + 4)) := by
 conv => lhs; unfold blE
 rw [if_neg (by omega), if_neg (by omega), if_neg (by omega), if_pos ⟨h1, h2⟩, if_neg h3]
theorem blE_other {f : Nat} {X : Bytes} {a : Nat} (h : a < X.length) (h1 : ¬ ((atB X a).toNat = 32 ∨ (atB X a).toNat = 10 ∨ (atB X a).toNat = 9)) (h2 : ¬ ((atB X a).toNat = 47 ∧ (atB X (a + 1)).toNat = 47)) (h3 : ¬ ((atB X a).toNat = 47 ∧ (atB X (a + 1)).toNat = 42)) : blE (f + 1) X a = (a, true) := by
 unfold blE
 rw [if_neg (by omega), if_neg h1, if_neg h2, if_neg h3]
theorem line_gt {X : Bytes} {a : Nat} (h : a < X.length) (h1 : (atB X a).toNat = 47) : a + 1 ≤ runL notNl X a := by
 obtain ⟨c, hc⟩ : ∃ c, X[a]? = some c := ⟨_, List.getElem?_eq_getElem h⟩
 rw [atB_some hc] at h1
 rw [runL_step hc (by unfold notNl; exact decide_eq_true (by omega))]
 exact runL_ge ..
theorem blE_le {X : Bytes} : ∀ (f a : Nat), a ≤ X.length → (blE f X a).1 ≤ X.length
 | 0, a, h => h
 | f + 1, a, h => by
   by_cases h0 : X.length ≤ a
   · rw [blE_end h0]; exact h
   · have hl : a < X.length := by omega
     by_cases h1 : (atB X a).toNat = 32 ∨ (atB X a).toNat = 10 ∨ (atB X a).toNat = 9
     · rw [blE_sp hl h1]; exact blE_le f _ (by omega)
     · by_cases h2 : (atB X a).toNat = 47 ∧ (atB X (a + 1)).toNat = 47
       · rw [blE_line hl h2.1 h2.2]; exact blE_le f _ (runL_le h)
       · by_cases h3 : (atB X a).toNat = 47 ∧ (atB X (a + 1)).toNat = 42
         · by_cases h4 : Lib.index (X.drop (a + 2)) [42, 47] < 0
           · rw [blE_bad hl h3.1 h3.2 h4]; exact h
           · rw [blE_rem hl h3.1 h3.2 h4]
             obtain ⟨j, hj⟩ := Int.eq_ofNat_of_zero_le (show 0 ≤ Lib.index (X.drop (a + 2)) [42, 47] by omega)
             have := index_room hj
             have h5 := atB_lt (X := X) (n := a + 1) (by omega)
             rw [List.length_drop] at this
             rw [hj]
             exact blE_le f _ (by simp at this ⊢; omega)
         · rw [blE_other hl h1 h2 h3]; exact h
def blP (X : Bytes) (a : Nat) : Nat × Bool := blE (X.length + 1) X a
end Go.Proofs.YtnhmmjogfkjceaaGreatDoor
namespace Go.Proofs.YtnhmmjogfkjceaaGreatDoor
open Go.Sl
def wordsB : Bytes := [32, 98, 114, 101, 97, 107, 32, 99, 97, 116, 99, 104, 32, 99, 111, 110, 115, 116, 32, 99, 111, 110, 116, 105, 110, 117, 101, 32, 100, 101, 108, 101, 116, 101, 32, 101, 108, 115, 101, 32, 102, 97, 108, 115, 101, 32, 102, 105, 110, 97, 108, 108, 121, 32, 102, 111, 114, 32, 102, 117, 110, 99, 116, 105, 111, 110, 32, 105, 102, 32, 105, 110, 32, 105, 110, 115, 116, 97, 110, 99, 101, 111, 102, 32, 108, 101, 116, 32, 110, 101, 119, 32, 110, 117, 108, 108, 32, 114, 101, 116, 117, 114, 110, 32, 116, 104, 105, 115, 32, 116, 104, 114, 111, 119, 32, 116, 114, 117, 101, 32, 116, 114, 121, 32, 116, 121, 112, 101, 111, 102, 32, 117, 110, 100, 101, 102, 105, 110, 101, 100, 32, 118, 111, 105, 100, 32, 119, 104, 105, 108, 101, 32, 121, 105, 101, 108, 100, 32]
def signsB : Bytes := [62, 62, 62, 61, 32, 61, 61, 61, 32, 33, 61, 61, 32, 60, 60, 61, 32, 62, 62, 61, 32, 62, 62, 62, 32, 61, 61, 32, 33, 61, 32, 60, 61, 32, 62, 61, 32, 43, 43, 32, 45, 45, 32, 60, 60, 32, 62, 62, 32, 38, 38, 32, 124, 124, 32, 43, 61, 32, 45, 61, 32, 42, 61, 32, 47, 61, 32, 37, 61, 32, 38, 61, 32, 124, 61, 32, 94, 61, 32, 40, 32, 41, 32, 123, 32, 125, 32, 91, 32, 93, 32, 59, 32, 44, 32, 46, 32, 58, 32, 63, 32, 61, 32, 60, 32, 62, 32, 43, 32, 45, 32, 42, 32, 47, 32, 37, 32, 38, 32, 124, 32, 94, 32, 126, 32, 33]
def wordsL : List Bytes := [[98, 114, 101, 97, 107], [99, 97, 116, 99, 104], [99, 111, 110, 115, 116], [99, 111, 110, 116, 105, 110, 117, 101], [100, 101, 108, 101, 116, 101], [101, 108, 115, 101], [102, 97, 108, 115, 101], [102, 105, 110, 97, 108, 108, 121], [102, 111, 114], [102, 117, 110, 99, 116, 105, 111, 110], [105, 102], [105, 110], [105, 110, 115, 116, 97, 110, 99, 101, 111, 102], [108, 101, 116], [110, 101, 119], [110, 117, 108, 108], [114, 101, 116, 117, 114, 110], [116, 104, 105, 115], [116, 104, 114, 111, 119], [116, 114, 117, 101], [116, 114, 121], [116, 121, 112, 101, 111, 102], [117, 110, 100, 101, 102, 105, 110, 101, 100], [118, 111, 105, 100], [119, 104, 105, 108, 101], [121, 105, 101, 108, 100]]
def signsL : List Bytes := [[62, 62, 62, 61], [61, 61, 61], [33, 61, 61], [60, 60, 61], [62, 62, 61], [62, 62, 62], [61, 61], [33, 61], [60, 61], [62, 61], [43, 43], [45, 45], [60, 60], [62, 62], [38, 38], [124, 124], [43, 61], [45, 61], [42, 61], [47, 61], [37, 61], [38, 61], [124, 61], [94, 61], [40], [41], [123], [125], [91], [93], [59], [44], [46], [58], [63], [61], [60], [62], [43], [45], [42], [47], [37], [38], [124], [94], [126], [33]]
theorem signs_fields : Lib.fields signsB = signsL := by decide +kernel
theorem signs_ascii : signsB.all (fun b => decide (b.toNat < 128)) = true := by decide +kernel
end Go.Proofs.YtnhmmjogfkjceaaGreatDoor
