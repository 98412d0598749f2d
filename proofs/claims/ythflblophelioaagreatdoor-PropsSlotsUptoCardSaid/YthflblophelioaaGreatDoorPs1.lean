/-
  From a walk over owned memory to a row's promise: the law returned true, and nothing that was there has turned. No condition.
-/
import Derived.Test.YthflblophelioaaGreatDoorRows
import Derived.Test.YthflblophelioaaGreatDoorPs0
import Derived.ProofKit
import Derived.OpenShut
import Derived.JoinedCond
import Derived.ReadAgain
import Derived.Deep.Strs
import Derived.Shelf.LaysM
import Derived.Shelf.LaysC
import Derived.Shelf.Strconv.Itoa4
import Derived.Shelf.Strconv.AtoiAll
import Derived.Test.YthflblophelioaaGreatDoorProg
import Derived.Lib.AtoiAll
import Derived.Lib.ItoaNum
import Derived.Lib.AppendIntMem
import Derived.Lib.AtoiErrMem
import Derived.Test.YthflblophelioaaGreatDoorCards
import Derived.Test.YthflblophelioaaGreatDoorTie
import Derived.Deep.Slices
import Derived.Deep.DeepHandedRow
import Derived.Deep.DeepWitnessRowRef
import Derived.Lib.LaidTab
import Derived.Laws.Externs
set_option linter.unusedVariables false
set_option maxRecDepth 100000
set_option linter.unusedSimpArgs false
namespace Go.Proofs.YthflblophelioaaGreatDoor
open Go.Sl Go.ChangeShapes Go.WideShapes Go.ChangeAt Go.RowKit Go.Deep

theorem carryAll {H : Type} {enc : TypeId × Value → H} {P : Program} {w w' : World} {base : Nat} {spare : Nat → Bool} {held : Bool} : ∀ {ts : List TypeId} {vs : List Value} {ds : List (DataW H)} {ps : List MemPlace},
   DataW.TrodAll enc P w base spare held ts vs ds ps → (∀ p ∈ ps, w.sameAt w' p) → DataW.TrodAll enc P w' base spare held ts vs ds ps
 | [], [], [], _, h, _ => h
 | _ :: _, _ :: _, _ :: _, _, ⟨p, q, ⟨n, h1⟩, h2, e⟩, hs => ⟨p, q, ⟨n, DataW.trod_carry n _ _ _ h1 (fun x hx => hs x (by rw [e]; exact List.mem_append_left _ hx))⟩, carryAll h2 (fun x hx => hs x (by rw [e]; exact List.mem_append_right _ hx)), e⟩
theorem rkids : Kids Tryz.prog (· < Tryz.prog.types.size) := kids_rows (by kernel_rfl) (by kernel_rfl)
theorem rfull : ∀ t e, t < Tryz.prog.types.size → Tryz.prog.underlying t = some (.slice e) → 0 < Tryz.prog.cellsOf e := slices_full_of Tryz.prog (by kernel_rfl)
theorem rown : ownKnob Tryz.prog.godebug = none := by kernel_rfl
theorem post_law {H : Type} {enc : TypeId × Value → H} {f : Func} {s : ChangeSpec} {W W' : World} {args : Array Value} {ds gs : List (DataW H)} {before : List MemPlace} {tb : TypeId}
   (hW : DataW.Whole enc Tryz.prog f.params.toList s.vars false W args.toList ds gs before) (hts : ∀ t ∈ f.params.toList, t < Tryz.prog.types.size) (hvars : s.vars = [])
   (hres : (s.fn H (ds ++ gs)).results = [.lit (.bool true)]) (hargs : (s.fn H (ds ++ gs)).args = ds) (hv : (s.fn H (ds ++ gs)).vars = []) (hrt : f.resultTypes = #[tb]) (htb : Tryz.prog.underlying tb = some .bool) (hb : Below W.heap.size W W') :
   s.post enc Tryz.prog f false true false false W args (.bool true) W' := by
 have hlt := fun p hp => hW.lt p hp
 have hW' := hW
 obtain ⟨p, q, hA, hV, rfl, hfz, hnd⟩ := hW
 rw [hvars] at hV
 obtain ⟨rfl, rfl⟩ := trodVars_none hV
 refine ⟨ds, [], p ++ [], [], p, [], hW', ?_, ?_, ?_, hb.frame _, fun h => absurd h (by decide)⟩
 · rw [hres, hrt]
   exact trodAll_cons_mk (shut_bool htb _) trodAll_mk0
 · rw [hargs]
   refine DataW.TrodAll.respare rkids rfull hts (carryAll hA fun x hx => hb.same (hlt x (by simpa using hx))) fun x hx => ?_
   simpa using hlt x (by simpa using hx)
 · rw [hv, hvars]; exact rfl
theorem sat_start (W : World) : Sat W W [] := ⟨Below.refl _ _, by simp [keys], fun e he => by cases he⟩
theorem calls_law {f : FuncId} {args : Array Value} {W : World} (h : SC Tryz.prog W f args [] (Ret (fun _ : Unit => []) (fun v _ => v = .bool true))) :
   Calls Tryz.prog f args W fun e W' => e = .returned (.bool true) ∧ Below W.heap.size W W' := by
 refine (h W (sat_start W)).mono ?_
 rintro e W' ⟨v, σ', rfl, hs, hu, x, ho, rfl⟩
 exact ⟨rfl, hs.below⟩
theorem cells_old {W : World} {σ : Qp} {b off : Nat} {vs : List Value} (h : ∀ (i : Nat) v, vs[i]? = some v → W.cell? ⟨b, off + i, none⟩ = some v) : Cells W σ b off vs := fun i v hi => by
 refine .inr ⟨?_, h i v hi⟩
 have := h i v hi
 rcases Nat.lt_or_ge b W.heap.size with q | q
 · exact q
 · simp [World.cell?, Array.getElem?_eq_none q] at this
theorem one_leB {H : Type} (d : DataW H) : 1 ≤ Rows.uptoBulk d := by
 cases d with
 | lit l => cases l <;> simp [Rows.uptoBulk]
 | nil => simp [Rows.uptoBulk]
 | ptr d => simp [Rows.uptoBulk]
 | slice elems spare => simp [Rows.uptoBulk]
 | agg parts => simp [Rows.uptoBulk]
 | iface t d => simp [Rows.uptoBulk]
 | map entries => simp [Rows.uptoBulk]
 | held h => simp [Rows.uptoBulk]
theorem part_leB {H : Type} {d : DataW H} {l : List (DataW H)} (h : d ∈ l) : Rows.uptoBulk d ≤ Rows.uptoBulkAll l := by
 induction l with
 | nil => cases h
 | cons x r ih =>
   simp only [Rows.uptoBulkAll]
   cases List.mem_cons.1 h with
   | inl e => subst e; omega
   | inr e => have := ih e; omega
theorem length_leB {H : Type} (l : List (DataW H)) : l.length ≤ Rows.uptoBulkAll l := by
 induction l with
 | nil => simp [Rows.uptoBulkAll]
 | cons x r ih => have := one_leB x; simp only [Rows.uptoBulkAll, List.length_cons]; omega
theorem boundB {H : Type} {l : List (DataW H)} (hk : Rows.uptoSmall H l = true) : Rows.uptoBulkAll l ≤ 1048576 := of_decide_eq_true hk
theorem slice_leB {H : Type} {l : List (DataW H)} {elems spare : List (DataW H)} (hk : Rows.uptoSmall H l = true) (h : DataW.slice elems spare ∈ l) : Rows.uptoBulkAll elems ≤ 1048576 := by
 have h1 := part_leB h
 have h2 := boundB hk
 simp only [Rows.uptoBulk] at h1
 omega
end Go.Proofs.YthflblophelioaaGreatDoor
namespace Go.Proofs
open Go.Shelf
def Tryz.laysM171_ren : Go.Shelf.Ren := ⟨fun | 171 => 56 | 243 => 89 | 246 => 114 | 283 => 130 | 284 => 131 | 285 => 132 | 286 => 133 | 129 => 142 | 317 => 141 | 318 => 143 | 319 => 144 | 320 => 145 | 337 => 151 | 338 => 152 | n => n, fun | 3 => 3 | 9 => 9 | 2 => 2 | 4 => 4 | 171 => 195 | 0 => 0 | 53 => 32 | 37 => 185 | 5 => 5 | 173 => 198 | 212 => 213 | 51 => 94 | 20 => 20 | 213 => 214 | 46 => 156 | 232 => 226 | 233 => 227 | n => n, fun | 17 => 3 | 18 => 4 | 19 => 5 | n => n⟩
theorem Tryz.laysM171 : Go.Proofs.LaysM.n171 Tryz.prog Tryz.laysM171_ren := {
 mixed := by kernel_rfl
 f129 := Tryz.func142.trans (congrArg some (by kernel_rfl))
 f171 := Tryz.func56.trans (congrArg some (by kernel_rfl))
 f243 := Tryz.func89.trans (congrArg some (by kernel_rfl))
 f246 := Tryz.func114.trans (congrArg some (by kernel_rfl))
 f283 := Tryz.func130.trans (congrArg some (by kernel_rfl))
 f284 := Tryz.func131.trans (congrArg some (by kernel_rfl))
 f285 := Tryz.func132.trans (congrArg some (by kernel_rfl))
 f286 := Tryz.func133.trans (congrArg some (by kernel_rfl))
 f317 := Tryz.func141.trans (congrArg some (by kernel_rfl))
 f318 := Tryz.func143.trans (congrArg some (by kernel_rfl))
 f319 := Tryz.func144.trans (congrArg some (by kernel_rfl))
 f320 := Tryz.func145.trans (congrArg some (by kernel_rfl))
 f337 := Tryz.func151.trans (congrArg some (by kernel_rfl))
 f338 := Tryz.func152.trans (congrArg some (by kernel_rfl))
 t0 := Tryz.underlying0
 a0 := Tryz.isAgg0
 z0 := Tryz.sizeOf0
 v0 := Tryz.zeroValue0
 t2 := Tryz.underlying2
 a2 := Tryz.isAgg2
 z2 := Tryz.sizeOf2
 v2 := Tryz.zeroValue2
 t3 := Tryz.underlying3
 a3 := Tryz.isAgg3
 z3 := Tryz.sizeOf3
 v3 := Tryz.zeroValue3
 t4 := Tryz.underlying4
 a4 := Tryz.isAgg4
 z4 := Tryz.sizeOf4
 v4 := Tryz.zeroValue4
 t5 := Tryz.underlying5
 a5 := Tryz.isAgg5
 z5 := Tryz.sizeOf5
 v5 := Tryz.zeroValue5
 t9 := Tryz.underlying9
 a9 := Tryz.isAgg9
 z9 := Tryz.sizeOf9
 v9 := Tryz.zeroValue9
 t20 := Tryz.underlying20
 a20 := Tryz.isAgg20
 z20 := Tryz.sizeOf20
 v20 := Tryz.zeroValue20
 t37 := Tryz.underlying185
 a37 := Tryz.isAgg185
 z37 := Tryz.sizeOf185
 v37 := Tryz.zeroValue185
 t46 := Tryz.underlying156
 a46 := Tryz.isAgg156
 z46 := Tryz.sizeOf156
 v46 := Tryz.zeroValue156
 t51 := Tryz.underlying94
 a51 := Tryz.isAgg94
 z51 := Tryz.sizeOf94
 v51 := Tryz.zeroValue94
 t53 := Tryz.underlying32
 a53 := Tryz.isAgg32
 z53 := Tryz.sizeOf32
 v53 := Tryz.zeroValue32
 t171 := Tryz.underlying195
 a171 := Tryz.isAgg195
 z171 := Tryz.sizeOf195
 v171 := Tryz.zeroValue195
 t173 := Tryz.underlying198
 a173 := Tryz.isAgg198
 z173 := Tryz.sizeOf198
 v173 := Tryz.zeroValue198
 t212 := Tryz.underlying213
 a212 := Tryz.isAgg213
 z212 := Tryz.sizeOf213
 v212 := Tryz.zeroValue213
 t213 := Tryz.underlying214
 a213 := Tryz.isAgg214
 z213 := Tryz.sizeOf214
 t232 := Tryz.underlying226
 a232 := Tryz.isAgg226
 z232 := Tryz.sizeOf226
 v232 := Tryz.zeroValue226
 t233 := Tryz.underlying227
 a233 := Tryz.isAgg227
 z233 := Tryz.sizeOf227
 v233 := Tryz.zeroValue227
 g17 := by kernel_rfl
 g18 := by kernel_rfl
 g19 := by kernel_rfl
 i0 := by kernel_rfl
 i2 := by kernel_rfl
 i3 := by kernel_rfl
 i4 := by kernel_rfl
 i5 := by kernel_rfl
 i9 := by kernel_rfl
 i20 := by kernel_rfl
 i37 := by kernel_rfl
 i46 := by kernel_rfl
 i51 := by kernel_rfl
 i53 := by kernel_rfl
 i171 := by kernel_rfl
 i173 := by kernel_rfl
 i212 := by kernel_rfl
 i232 := by kernel_rfl
 i233 := by kernel_rfl
 m17 := by kernel_rfl
 m18 := by kernel_rfl
 m19 := by kernel_rfl }
open Go.RowKit Go.Sort Go.Lib in
theorem Tryz.strconv_Itoa (n : Int) (h0 : -9223372036854775808 ≤ n) (h1 : n ≤ 9223372036854775807) (w : World) (htab : Lib.TabIs Tryz.prog w "internal/strconv.uint64pow10" .u64 Lib.pow10Tab) :
 Calls Tryz.prog 56 #[.int .i64 n] w fun e w' => e = .returned (.string ⟨(Lib.itoa n).toArray⟩) ∧ ∃ k os, w' = grow (w.drewN k) os := Any.strconv_Itoa Tryz.laysM171 n h0 h1 w htab
def Tryz.laysC172_ren : Go.Shelf.Ren := ⟨fun | 172 => 87 | 244 => 111 | 245 => 112 | 247 => 125 | 279 => 126 | 280 => 127 | 281 => 128 | 282 => 129 | 287 => 138 | 316 => 139 | 171 => 56 | 205 => 140 | 321 => 149 | 322 => 150 | 243 => 89 | 246 => 114 | 283 => 130 | 284 => 131 | 285 => 132 | 286 => 133 | 129 => 142 | 317 => 141 | 318 => 143 | 319 => 144 | 320 => 145 | 337 => 151 | 338 => 152 | n => n, fun | 9 => 9 | 3 => 3 | 75 => 141 | 76 => 142 | 4 => 4 | 5 => 5 | 167 => 189 | 37 => 185 | 0 => 0 | 85 => 190 | 2 => 2 | 168 => 192 | 53 => 32 | 175 => 206 | 46 => 156 | 210 => 210 | 127 => 218 | 145 => 221 | 143 => 219 | 21 => 21 | 171 => 195 | 173 => 198 | 212 => 213 | 51 => 94 | 20 => 20 | 213 => 214 | 232 => 226 | 233 => 227 | 80 => 229 | n => n, fun | 15 => 1 | 16 => 2 | 17 => 3 | 18 => 4 | 19 => 5 | n => n⟩
theorem Tryz.laysC172 : Go.Proofs.LaysC.n172 Tryz.prog Tryz.laysC172_ren := {
 mixed := by kernel_rfl
 f129 := Tryz.func142.trans (congrArg some (by kernel_rfl))
 f171 := Tryz.func56.trans (congrArg some (by kernel_rfl))
 f172 := Tryz.func87.trans (congrArg some (by kernel_rfl))
 f205 := Tryz.func140.trans (congrArg some (by kernel_rfl))
 f243 := Tryz.func89.trans (congrArg some (by kernel_rfl))
 f244 := Tryz.func111.trans (congrArg some (by kernel_rfl))
 f245 := Tryz.func112.trans (congrArg some (by kernel_rfl))
 f246 := Tryz.func114.trans (congrArg some (by kernel_rfl))
 f247 := Tryz.func125.trans (congrArg some (by kernel_rfl))
 f279 := Tryz.func126.trans (congrArg some (by kernel_rfl))
 f280 := Tryz.func127.trans (congrArg some (by kernel_rfl))
 f281 := Tryz.func128.trans (congrArg some (by kernel_rfl))
 f282 := Tryz.func129.trans (congrArg some (by kernel_rfl))
 f283 := Tryz.func130.trans (congrArg some (by kernel_rfl))
 f284 := Tryz.func131.trans (congrArg some (by kernel_rfl))
 f285 := Tryz.func132.trans (congrArg some (by kernel_rfl))
 f286 := Tryz.func133.trans (congrArg some (by kernel_rfl))
 f287 := Tryz.func138.trans (congrArg some (by kernel_rfl))
 f316 := Tryz.func139.trans (congrArg some (by kernel_rfl))
 f317 := Tryz.func141.trans (congrArg some (by kernel_rfl))
 f318 := Tryz.func143.trans (congrArg some (by kernel_rfl))
 f319 := Tryz.func144.trans (congrArg some (by kernel_rfl))
 f320 := Tryz.func145.trans (congrArg some (by kernel_rfl))
 f321 := Tryz.func149.trans (congrArg some (by kernel_rfl))
 f322 := Tryz.func150.trans (congrArg some (by kernel_rfl))
 f337 := Tryz.func151.trans (congrArg some (by kernel_rfl))
 f338 := Tryz.func152.trans (congrArg some (by kernel_rfl))
 t0 := Tryz.underlying0
 a0 := Tryz.isAgg0
 z0 := Tryz.sizeOf0
 v0 := Tryz.zeroValue0
 t2 := Tryz.underlying2
 a2 := Tryz.isAgg2
 z2 := Tryz.sizeOf2
 v2 := Tryz.zeroValue2
 t3 := Tryz.underlying3
 a3 := Tryz.isAgg3
 z3 := Tryz.sizeOf3
 v3 := Tryz.zeroValue3
 t4 := Tryz.underlying4
 a4 := Tryz.isAgg4
 z4 := Tryz.sizeOf4
 v4 := Tryz.zeroValue4
 t5 := Tryz.underlying5
 a5 := Tryz.isAgg5
 z5 := Tryz.sizeOf5
 v5 := Tryz.zeroValue5
 t9 := Tryz.underlying9
 a9 := Tryz.isAgg9
 z9 := Tryz.sizeOf9
 v9 := Tryz.zeroValue9
 t20 := Tryz.underlying20
 a20 := Tryz.isAgg20
 z20 := Tryz.sizeOf20
 v20 := Tryz.zeroValue20
 t21 := Tryz.underlying21
 a21 := Tryz.isAgg21
 z21 := Tryz.sizeOf21
 v21 := Tryz.zeroValue21
 t37 := Tryz.underlying185
 a37 := Tryz.isAgg185
 z37 := Tryz.sizeOf185
 v37 := Tryz.zeroValue185
 t46 := Tryz.underlying156
 a46 := Tryz.isAgg156
 z46 := Tryz.sizeOf156
 v46 := Tryz.zeroValue156
 t51 := Tryz.underlying94
 a51 := Tryz.isAgg94
 z51 := Tryz.sizeOf94
 v51 := Tryz.zeroValue94
 t53 := Tryz.underlying32
 a53 := Tryz.isAgg32
 z53 := Tryz.sizeOf32
 v53 := Tryz.zeroValue32
 t75 := Tryz.underlying141
 a75 := Tryz.isAgg141
 z75 := Tryz.sizeOf141
 v75 := Tryz.zeroValue141
 t76 := Tryz.underlying142
 a76 := Tryz.isAgg142
 z76 := Tryz.sizeOf142
 v76 := Tryz.zeroValue142
 t85 := Tryz.underlying190
 a85 := Tryz.isAgg190
 z85 := Tryz.sizeOf190
 v85 := Tryz.zeroValue190
 t127 := Tryz.underlying218
 a127 := Tryz.isAgg218
 z127 := Tryz.sizeOf218
 v127 := Tryz.zeroValue218
 t143 := Tryz.underlying219
 a143 := Tryz.isAgg219
 z143 := Tryz.sizeOf219
 v143 := Tryz.zeroValue219
 t145 := Tryz.underlying221
 a145 := Tryz.isAgg221
 z145 := Tryz.sizeOf221
 v145 := Tryz.zeroValue221
 t167 := Tryz.underlying189
 a167 := Tryz.isAgg189
 z167 := Tryz.sizeOf189
 v167 := Tryz.zeroValue189
 t168 := Tryz.underlying192
 a168 := Tryz.isAgg192
 z168 := Tryz.sizeOf192
 v168 := Tryz.zeroValue192
 t171 := Tryz.underlying195
 a171 := Tryz.isAgg195
 z171 := Tryz.sizeOf195
 v171 := Tryz.zeroValue195
 t173 := Tryz.underlying198
 a173 := Tryz.isAgg198
 z173 := Tryz.sizeOf198
 v173 := Tryz.zeroValue198
 t175 := Tryz.underlying206
 a175 := Tryz.isAgg206
 z175 := Tryz.sizeOf206
 v175 := Tryz.zeroValue206
 t210 := Tryz.underlying210
 a210 := Tryz.isAgg210
 z210 := Tryz.sizeOf210
 v210 := Tryz.zeroValue210
 t212 := Tryz.underlying213
 a212 := Tryz.isAgg213
 z212 := Tryz.sizeOf213
 v212 := Tryz.zeroValue213
 t213 := Tryz.underlying214
 a213 := Tryz.isAgg214
 z213 := Tryz.sizeOf214
 t232 := Tryz.underlying226
 a232 := Tryz.isAgg226
 z232 := Tryz.sizeOf226
 v232 := Tryz.zeroValue226
 t233 := Tryz.underlying227
 a233 := Tryz.isAgg227
 z233 := Tryz.sizeOf227
 v233 := Tryz.zeroValue227
 g15 := by kernel_rfl
 g16 := by kernel_rfl
 g17 := by kernel_rfl
 g18 := by kernel_rfl
 g19 := by kernel_rfl
 t80 := Tryz.underlying229
 a80 := Tryz.isAgg229
 z80 := Tryz.sizeOf229
 v80 := Tryz.zeroValue229
 i0 := by kernel_rfl
 i2 := by kernel_rfl
 i3 := by kernel_rfl
 i4 := by kernel_rfl
 i5 := by kernel_rfl
 i9 := by kernel_rfl
 i20 := by kernel_rfl
 i21 := by kernel_rfl
 i37 := by kernel_rfl
 i46 := by kernel_rfl
 i51 := by kernel_rfl
 i53 := by kernel_rfl
 i75 := by kernel_rfl
 i76 := by kernel_rfl
 i80 := by kernel_rfl
 i85 := by kernel_rfl
 i127 := by kernel_rfl
 i143 := by kernel_rfl
 i145 := by kernel_rfl
 i167 := by kernel_rfl
 i168 := by kernel_rfl
 i171 := by kernel_rfl
 i173 := by kernel_rfl
 i175 := by kernel_rfl
 i210 := by kernel_rfl
 i212 := by kernel_rfl
 i232 := by kernel_rfl
 i233 := by kernel_rfl
 m15 := by kernel_rfl
 m16 := by kernel_rfl
 m17 := by kernel_rfl
 m18 := by kernel_rfl
 m19 := by kernel_rfl
 c0 := by kernel_rfl
 c2 := by kernel_rfl
 c3 := by kernel_rfl
 c4 := by kernel_rfl
 c5 := by kernel_rfl
 c9 := by kernel_rfl
 c20 := by kernel_rfl
 c21 := by kernel_rfl
 c37 := by kernel_rfl
 c46 := by kernel_rfl
 c51 := by kernel_rfl
 c53 := by kernel_rfl
 c75 := by kernel_rfl
 c76 := by kernel_rfl
 c80 := by kernel_rfl
 c85 := by kernel_rfl
 c127 := by kernel_rfl
 c143 := by kernel_rfl
 c145 := by kernel_rfl
 c167 := by kernel_rfl
 c168 := by kernel_rfl
 c171 := by kernel_rfl
 c173 := by kernel_rfl
 c175 := by kernel_rfl
 c210 := by kernel_rfl
 c212 := by kernel_rfl
 c213 := by kernel_rfl
 c232 := by kernel_rfl
 c233 := by kernel_rfl }
end Go.Proofs
namespace Go.Proofs.YthflblophelioaaGreatDoor
open Go.Lib
def digL (acc : Nat) : List UInt8 → Option Nat
 | [] => some acc
 | c :: r => if 48 ≤ c.toNat ∧ c.toNat ≤ 57 then digL (acc * 10 + (c.toNat - 48)) r else none
def idxL (l : List UInt8) : Option Nat :=
 if l = [] ∨ 4 < l.length ∨ (l.head?.map (·.toNat) = some 48 ∧ 1 < l.length) then none
 else match digL 0 l with
   | some n => if n < 4096 then some n else none
   | none => none
theorem digL_parse : ∀ (l : List UInt8) (acc n k : Nat), acc < 10 ^ k → k + l.length ≤ 16 → digL acc l = some n → parseUint10 acc l = .ok n
 | [], acc, n, k, _, _, h => by simp only [digL, Option.some.injEq] at h; subst h; rfl
 | c :: r, acc, n, k, ha, hl, h => by
   simp only [List.length_cons] at hl
   have hp : 10 ^ k ≤ 10 ^ 15 := Nat.pow_le_pow_right (by decide) (by omega)
   have hs : 10 ^ (k + 1) = 10 ^ k * 10 := Nat.pow_succ ..
   simp only [digL] at h
   split at h
   · rename_i hc
     simp only [parseUint10]
     rw [if_pos hc, if_neg (by omega), if_neg (by omega)]
     exact digL_parse r _ n (k + 1) (by omega) (by omega) h
   · cases h
theorem digL_snoc : ∀ (l : List UInt8) (acc : Nat) (c : UInt8), digL acc (l ++ [c]) = (digL acc l).bind fun m => if 48 ≤ c.toNat ∧ c.toNat ≤ 57 then some (m * 10 + (c.toNat - 48)) else none
 | [], acc, c => by simp [digL]
 | b :: r, acc, c => by
   simp only [List.cons_append, digL]
   split
   · exact digL_snoc r _ c
   · rfl
theorem ofNat_toNat {d : Nat} (h : d < 10) : (UInt8.ofNat (48 + d)).toNat = 48 + d := by
 rw [UInt8.toNat_ofNat']; omega
theorem dec_small {m : Nat} (h : m < 10) : decDigits m = [UInt8.ofNat (48 + m)] := by rw [decDigits, dif_pos h]
theorem dec_big {m : Nat} (h : ¬ m < 10) : decDigits m = decDigits (m / 10) ++ [UInt8.ofNat (48 + m % 10)] := by rw [decDigits, dif_neg h]
theorem digL_dec : ∀ m : Nat, digL 0 (decDigits m) = some m := by
 intro m
 induction m using Nat.strongRecOn with
 | ind m ih =>
   by_cases h : m < 10
   · rw [dec_small h]
     simp only [digL, ofNat_toNat h]
     rw [if_pos (by omega)]
     congr 1; omega
   · rw [dec_big h, digL_snoc, ih (m / 10) (by omega)]
     simp only [Option.bind_some, ofNat_toNat (show m % 10 < 10 by omega)]
     rw [if_pos (by omega)]
     congr 1; omega
theorem dec_len : ∀ (k m : Nat), m < 10 ^ (k + 1) → (decDigits m).length ≤ k + 1
 | 0, m, h => by rw [dec_small (by omega)]; simp
 | k + 1, m, h => by
   by_cases hm : m < 10
   · rw [dec_small hm]; simp
   · rw [dec_big hm]
     have hs : 10 ^ (k + 1 + 1) = 10 ^ (k + 1) * 10 := Nat.pow_succ ..
     have := dec_len k (m / 10) (by omega)
     simp; omega
theorem dec_ne (m : Nat) : decDigits m ≠ [] := by
 by_cases h : m < 10
 · rw [dec_small h]; simp
 · rw [dec_big h]; simp
theorem dec_head : ∀ m : Nat, 0 < m → ((decDigits m).head?.map (·.toNat)) ≠ some 48 := by
 intro m
 induction m using Nat.strongRecOn with
 | ind m ih =>
   intro h0
   by_cases h : m < 10
   · rw [dec_small h]
     simp only [List.head?_cons, Option.map_some, ofNat_toNat h, ne_eq, Option.some.injEq]
     omega
   · rw [dec_big h]
     have := ih (m / 10) (by omega) (by omega)
     cases hd : decDigits (m / 10) with
     | nil => exact absurd hd (dec_ne _)
     | cons a r => rw [hd] at this; simpa using this
theorem idx_dec {m : Nat} (h : m < 4096) : idxL (decDigits m) = some m := by
 unfold idxL
 rw [if_neg, digL_dec]
 · simp only []; rw [if_pos h]
 · rintro (q | q | ⟨q, r⟩)
   · exact dec_ne m q
   · have := dec_len 3 m (by omega); omega
   · by_cases h0 : 0 < m
     · exact dec_head m h0 q
     · obtain rfl : m = 0 := by omega
       rw [dec_small (by decide)] at r; simp at r
theorem byte_of {c : UInt8} {d : Nat} (h : c.toNat = 48 + d) : c = UInt8.ofNat (48 + d) := by
 rw [← h]; exact (UInt8.ofNat_toNat).symm
theorem digL_canon : ∀ (k : Nat) (l : List UInt8) (n : Nat), l.length = k → l ≠ [] → (l.head?.map (·.toNat) = some 48 → l.length = 1) → digL 0 l = some n → decDigits n = l := by
 intro k
 induction k with
 | zero => intro l n hl hne _ _; exact absurd (List.eq_nil_of_length_eq_zero hl) hne
 | succ k ih =>
   intro l n hl hne hh h
   obtain ⟨r, c, rfl⟩ : ∃ r c, l = r ++ [c] := ⟨l.dropLast, l.getLast hne, (List.dropLast_concat_getLast hne).symm⟩
   rw [digL_snoc] at h
   obtain ⟨m, hm, h⟩ := Option.bind_eq_some_iff.1 h
   split at h
   · rename_i hc
     simp only [Option.some.injEq] at h
     simp only [List.length_append, List.length_singleton] at hl hh
     by_cases hr : r = []
     · subst hr
       simp only [digL, Option.some.injEq] at hm
       subst hm
       rw [dec_small (by omega)]
       simp only [List.nil_append, List.cons.injEq, and_true]
       refine (byte_of ?_).symm
       omega
     · have hr0 : 0 < r.length := List.length_pos_iff.2 hr
       have hh2 : r.head?.map (·.toNat) ≠ some 48 := by
         intro q
         have : (r ++ [c]).head?.map (·.toNat) = some 48 := by
           cases r with
           | nil => exact absurd rfl hr
           | cons a s => simpa using q
         have := hh this
         omega
       have e := ih r m (by omega) hr (fun q => absurd q hh2) hm
       have hm0 : 0 < m := by
         rcases Nat.eq_zero_or_pos m with q | q
         · subst q
           rw [← e, dec_small (by decide)] at hh2
           exact absurd rfl hh2
         · exact q
       subst h
       rw [dec_big (by omega), show (m * 10 + (c.toNat - 48)) / 10 = m by omega, e]
       congr 1
       simp only [List.cons.injEq, and_true]
       refine (byte_of ?_).symm
       omega
   · cases h
theorem atoi_dec {m : Nat} (h : m < 4096) : atoiAll (decDigits m) = .ok (m : Int) := by
 have hd := digL_dec m
 have hl := dec_len 3 m (by omega)
 cases hq : decDigits m with
 | nil => exact absurd hq (dec_ne m)
 | cons c r =>
   rw [hq] at hd hl
   have hp := digL_parse (c :: r) 0 m 0 (by decide) (by omega) hd
   have hc : 48 ≤ c.toNat ∧ c.toNat ≤ 57 := by
     simp only [digL] at hd
     split at hd
     · assumption
     · cases hd
   unfold atoiAll
   simp only []
   rw [if_neg (by omega)]
   unfold parseMag
   rw [if_neg (by simp), hp]
   simp only []
   rw [if_neg (by omega), if_neg (by omega), if_neg (by omega)]
theorem idx_iff {l : List UInt8} {n : Nat} : idxL l = some n ↔ n < 4096 ∧ atoiAll l = .ok (n : Int) ∧ itoa (n : Int) = l := by
 constructor
 · intro h
   unfold idxL at h
   split at h
   · cases h
   · rename_i hq
     cases hd : digL 0 l with
     | none => rw [hd] at h; cases h
     | some m =>
       rw [hd] at h
       simp only [] at h
       split at h
       · rename_i hm
         simp only [Option.some.injEq] at h
         subst h
         have e := digL_canon l.length l m rfl (fun q => hq (.inl q)) (fun q => by
           by_cases h1 : 1 < l.length
           · exact absurd (.inr (.inr ⟨q, h1⟩)) hq
           · have : l ≠ [] := fun z => hq (.inl z)
             have := List.length_pos_iff.2 this
             omega) hd
         refine ⟨hm, ?_, ?_⟩
         · rw [← e]; exact atoi_dec hm
         · unfold itoa; rw [if_neg (by omega)]; exact e
       · cases h
 · rintro ⟨h, _, h2⟩
   rw [← h2]
   unfold itoa
   rw [if_neg (by omega)]
   exact idx_dec h
theorem idx_prog {l : List UInt8} {v : Int} (h : atoiAll l = .ok v) : idxL l = if 0 ≤ v ∧ v < 4096 ∧ itoa v = l then some v.toNat else none := by
 split
 · rename_i q
   refine idx_iff.2 ⟨by omega, ?_, ?_⟩
   · rw [h]; congr 1; omega
   · rw [show (v.toNat : Int) = v by omega]; exact q.2.2
 · rename_i q
   cases hi : idxL l with
   | none => rfl
   | some n =>
     obtain ⟨h1, h2, h3⟩ := idx_iff.1 hi
     rw [h] at h2
     injection h2 with h2
     exact absurd ⟨by omega, by omega, by rw [h2]; exact h3⟩ q
theorem idx_bad {l : List UInt8} (h : ∀ v, atoiAll l ≠ .ok v) : idxL l = none := by
 cases hi : idxL l with
 | none => rfl
 | some n => exact absurd (idx_iff.1 hi).2.1 (h _)
end Go.Proofs.YthflblophelioaaGreatDoor
namespace Go.Proofs.YthflblophelioaaGreatDoor
open Go.Sl Go.RowKit
structure Laid (W0 : World) : Prop where
  tab : ∀ w, Below W0.heap.size W0 w → Lib.TabIs Tryz.prog w "internal/strconv.uint64pow10" .u64 Lib.pow10Tab
  syn : ∃ t p, ∀ w, Below W0.heap.size W0 w → w.cell? ⟨1, 0, none⟩ = some (.iface t p)
  rng : ∃ t p, ∀ w, Below W0.heap.size W0 w → w.cell? ⟨2, 0, none⟩ = some (.iface t p)
variable {W0 : World} {σ : Qp}
theorem str_Itoa (hL : Laid W0) (n : Int) (h : -9223372036854775808 ≤ n ∧ n ≤ 9223372036854775807) : SC Tryz.prog W0 56 #[.int .i64 n] σ (Ret (fun _ : Unit => σ) (fun v _ => v = .string ⟨(Lib.itoa n).toArray⟩)) := by
 refine SC.of_below fun w hb => ?_
 refine (Tryz.strconv_Itoa n h.1 h.2 w (hL.tab w hb)).mono ?_
 rintro e w' ⟨rfl, k, os, rfl⟩
 exact ⟨_, rfl, Lib.below_grow _ w (Nat.le_refl _) k os, rfl⟩
theorem str_Atoi (hL : Laid W0) (s : ByteArray) (hs : s.size ≤ 281474976710656) : SC Tryz.prog W0 87 #[.string s] σ (Ret (fun _ : Unit => σ) (fun v _ =>
   (∃ n, Lib.atoiAll s.data.toList = .ok n ∧ v = .tuple #[.int .i64 n, .nilIface]) ∨ ((∀ n, Lib.atoiAll s.data.toList ≠ .ok n) ∧ ∃ z t p, v = .tuple #[.int .i64 z, .iface t p]))) := by
 refine SC.of_below fun w hb => ?_
 cases h : Lib.atoiAll s.data.toList
 · next n =>
   refine (Any.strconv_Atoi_ok Tryz.laysC172 s (by omega) n h w).mono ?_
   rintro e w' ⟨rfl, hw⟩
   refine ⟨_, rfl, ?_, .inl ⟨n, rfl, rfl⟩⟩
   rcases hw with rfl | ⟨t, rfl⟩
   · exact Below.refl _ _
   · exact Lib.bytesWorld_below ..
 · obtain ⟨t, p, hv⟩ := hL.syn
   refine (Any.strconv_Atoi_syntax Tryz.laysC172 s hs h _ w (hv w hb) (.inr ⟨t, p, rfl⟩)).mono ?_
   rintro e w' ⟨N, rfl, _, _, h4⟩
   exact ⟨_, rfl, h4, .inr ⟨fun n q => (by cases q), _, _, _, rfl⟩⟩
 · obtain ⟨t, p, hv⟩ := hL.rng
   refine (Any.strconv_Atoi_range Tryz.laysC172 s hs h _ w (hv w hb) (.inr ⟨t, p, rfl⟩)).mono ?_
   rintro e w' ⟨N, rfl, _, _, h4⟩
   exact ⟨_, rfl, h4, .inr ⟨fun n q => (by cases q), _, _, _, rfl⟩⟩
end Go.Proofs.YthflblophelioaaGreatDoor
namespace Go.Proofs.YthflblophelioaaGreatDoor
open Go.Sl Go.ChangeShapes Go.WideShapes Go.ChangeAt Go.RowKit Go.Deep
theorem laidVars_drop {P : Program} {w : World} : ∀ {l1 l2 : List (String × DataW Unit)} {ps : List MemPlace}, DataW.LaidVars P w (l1 ++ l2) ps → ∃ qs, DataW.LaidVars P w l2 qs
 | [], _, ps, h => ⟨ps, h⟩
 | _ :: _, _, _, h => by
   obtain ⟨g, t, cs, fuel, p, q, _, _, _, _, h, _⟩ := h
   exact laidVars_drop h
theorem var_below {P : Program} {W w : World} {name : String} {cs : Array Value} (hb : Below W.heap.size W w) (h : W.var? P name = some cs) : w.var? P name = some cs := by
 unfold World.var? at h ⊢
 cases hg : P.globalNamed name with
 | none => rw [hg] at h; cases h
 | some g =>
   rw [hg] at h
   simp only [Option.bind_some] at h ⊢
   have hlt : g < W.heap.size := by
     rcases Nat.lt_or_ge g W.heap.size with q | q
     · exact q
     · rw [Array.getElem?_eq_none q] at h; cases h
   rw [hb.block g hlt]
   exact h
theorem laid_tab {W : World} {name : String} {k : IntKind} {zs : List Int} {rest : List (String × DataW Unit)} {ps : List MemPlace} {g : Nat} {t e : TypeId} {n : Nat} {P : Program}
   (hg : P.globalNamed name = some g) (hty : (P.globals[g]?).map (·.type) = some t) (ht : P.underlying t = some (.array n e)) (he : P.underlying e = some (.int k)) (hce : P.cellsOf e = 1) (hct : P.cellsOf t = n)
   (h : DataW.LaidVars P W ((name, Lib.tabData k zs) :: rest) ps) : Lib.TabIs P W name k zs := by
 obtain ⟨g', t', cs, fuel, p, q, hg', ht', hvar, hd, _, _⟩ := h
 obtain rfl := Option.some.inj (hg.symm.trans hg')
 obtain rfl := Option.some.inj (hty.symm.trans ht')
 unfold Lib.TabIs
 rw [hvar, ← Lib.cells_of_tab ht he hce hct hd]
theorem laid_err {W : World} {name nm : String} {D : DataW Unit} {rest : List (String × DataW Unit)} {ps : List MemPlace} {g : Nat} {t : TypeId} {ms : Array (String × TypeId)} {P : Program}
   (hg : P.globalNamed name = some g) (hty : (P.globals[g]?).map (·.type) = some t) (ht : P.underlying t = some (.interface ms))
   (h : DataW.LaidVars P W ((name, .iface nm D) :: rest) ps) : ∃ u v, ∀ w, Below W.heap.size W w → w.cell? ⟨g, 0, none⟩ = some (.iface u v) := by
 obtain ⟨g', t', cs, fuel, p, q, hg', ht', hvar, hd, _, _⟩ := h
 obtain rfl := Option.some.inj (hg.symm.trans hg')
 obtain rfl := Option.some.inj (hty.symm.trans ht')
 have hcs : ∃ u v, cs.toList = [.iface u v] := by
   cases fuel with
   | zero => simp [DataW.trod] at hd
   | succ n =>
     unfold DataW.trod at hd
     rw [ht] at hd
     split at hd <;> first | (cases hd; done) | skip
     all_goals first | (next u v _ _ => exact ⟨_, _, by assumption⟩) | simp_all
 obtain ⟨u, v, hcs⟩ := hcs
 refine ⟨u, v, fun w hb => ?_⟩
 have hv := var_below hb hvar
 unfold World.var? at hv
 rw [hg] at hv
 simp only [Option.bind_some] at hv
 split at hv
 · next cs' _ _ hh =>
   have e : cs' = cs := Option.some.inj hv
   subst e
   have hc : cs'[0]? = some (.iface u v) := by
     have := congrArg (fun l => l[0]?) hcs
     simpa using this
   simp [World.cell?, hh, hc]
 · cases hv
abbrev laidL : List (String × DataW Unit) := [("math/bits.deBruijn32tab", Rows.laid_math_bits_deBruijn32tab), ("math/bits.deBruijn64tab", Rows.laid_math_bits_deBruijn64tab), ("internal/strconv.uint64pow10", Rows.laid_internal_strconv_uint64pow10), ("strconv.ErrRange", Rows.laid_strconv_ErrRange), ("strconv.ErrSyntax", Rows.laid_strconv_ErrSyntax)]
theorem laid_here {W : World} (h : laidMet Tryz.prog laidL W) : Laid W := by
 obtain ⟨ps, h, _⟩ := h
 obtain ⟨q1, h1⟩ := laidVars_drop (l1 := [("math/bits.deBruijn32tab", Rows.laid_math_bits_deBruijn32tab), ("math/bits.deBruijn64tab", Rows.laid_math_bits_deBruijn64tab)]) (l2 := [("internal/strconv.uint64pow10", Rows.laid_internal_strconv_uint64pow10), ("strconv.ErrRange", Rows.laid_strconv_ErrRange), ("strconv.ErrSyntax", Rows.laid_strconv_ErrSyntax)]) h
 obtain ⟨q2, h2⟩ := laidVars_drop (l1 := [("internal/strconv.uint64pow10", Rows.laid_internal_strconv_uint64pow10)]) (l2 := [("strconv.ErrRange", Rows.laid_strconv_ErrRange), ("strconv.ErrSyntax", Rows.laid_strconv_ErrSyntax)]) h1
 obtain ⟨q3, h3⟩ := laidVars_drop (l1 := [("strconv.ErrRange", Rows.laid_strconv_ErrRange)]) (l2 := [("strconv.ErrSyntax", Rows.laid_strconv_ErrSyntax)]) h2
 have ht : Lib.TabIs Tryz.prog W "internal/strconv.uint64pow10" .u64 Lib.pow10Tab := laid_tab (g := 3) (t := 213) (by kernel_rfl) (by kernel_rfl) Tryz.underlying213 Tryz.underlying32 (by kernel_rfl) (by kernel_rfl) h1
 exact ⟨fun w hb => var_below hb ht, laid_err (g := 1) (t := 141) (by kernel_rfl) (by kernel_rfl) Tryz.underlying141 h3, laid_err (g := 2) (t := 141) (by kernel_rfl) (by kernel_rfl) Tryz.underlying141 h2⟩
def tabCells : DataW Unit → Array Value
 | .agg l => (l.map fun | .lit (.int k n) => Value.int k n | _ => Value.nilIface).toArray
 | _ => #[]
def errText : DataW Unit → ByteArray
 | .iface _ (.ptr (.agg [.lit (.string s)])) => ⟨s.toArray⟩
 | _ => ⟨#[]⟩
noncomputable def lowB : Nat := (World.holding Tryz.prog default ⟨#[], #[], []⟩).heap.size
noncomputable def putG (h : Array Obj) (g : Nat) (cs : Array Value) : Array Obj := h.modify g fun
  | .cells _ t frozen => .cells cs t frozen
  | o => o
noncomputable def laidWorld (os : Os) : World :=
  let w0 := World.holding Tryz.prog os ⟨#[.cells #[.string (errText Rows.laid_strconv_ErrRange)] 221, .cells #[.string (errText Rows.laid_strconv_ErrSyntax)] 221], #[], []⟩
  { w0 with heap := putG (putG (putG (putG (putG w0.heap 4 (tabCells Rows.laid_math_bits_deBruijn32tab)) 5 (tabCells Rows.laid_math_bits_deBruijn64tab)) 3 (tabCells Rows.laid_internal_strconv_uint64pow10))
      2 #[.iface 219 (.pointer (some ⟨lowB, 0, none⟩))]) 1 #[.iface 219 (.pointer (some ⟨lowB + 1, 0, none⟩))] }
theorem laid_met (os : Os) (args : Array Value) : laidMet Tryz.prog laidL ((laidWorld os).forCall (fun _ _ => 0) ⟨#[], args, []⟩).memory :=
 laidMet_of_run' 8 (by kernel_rfl) (by kernel_rfl)
theorem arg_str {H : Type} {enc : TypeId × Value → H} {W : World} {b0 : Nat} {v : Value} {d : DataW H} {ps : List MemPlace} {l : List (DataW H)} (hk : Rows.uptoSmall H l = true) (hm : d ∈ l) (hv : Value.okWide Tryz.prog W .any b0 9 v) (hd : DataW.Trod enc Tryz.prog W 0 (fun _ => true) true 9 v d ps) : ∃ s : ByteArray, v = .string s ∧ s.size ≤ 281474976710656 := by
 obtain ⟨s, rfl⟩ := okWide_string Tryz.underlying9 hv
 obtain ⟨fuel, hf⟩ := hd
 obtain ⟨s', hs, hz, -⟩ := DataW.trod_string Tryz.underlying9 hf
 have e : s = s' := by simpa [Value.cells] using hs
 subst e
 have h1 := Nat.le_trans (part_leB hm) (boundB hk)
 rw [show d = .lit (.string s.data.toList) from congrArg Prod.fst hz] at h1
 simp only [Rows.uptoBulk] at h1
 have h2 : s.data.toList.length = s.size := by simp
 exact ⟨s, rfl, by omega⟩
end Go.Proofs.YthflblophelioaaGreatDoor
namespace Go.Proofs.YthflblophelioaaGreatDoor
open Go.Sl
variable {P : Program} {W0 : World} {n : Nat} {Q : SQ} {ρ : Fr} {σ : Qp} {K : Fr → Qp → Prop} {o : Oper}
structure SameW (w w' : World) : Prop where
  heap : w'.heap = w.heap
  os : w'.os = w.os
  tape : w'.tape = w.tape
  output : w'.output = w.output
theorem SameW.refl (w : World) : SameW w w := ⟨rfl, rfl, rfl, rfl⟩
theorem SameW.drew (w : World) : SameW w { w with drawn := w.drawn + 1 } := ⟨rfl, rfl, rfl, rfl⟩
theorem O_some (G : Value → Prop) (hd : dstOk n o.dst = true) (hr : ∀ δ w, ∃ v w', (execOp (ev δ ρ) o).run P w = .ok (.value v) w' ∧ SameW w w' ∧ G v) (h : ∀ v, G v → K (putF ρ o.dst v) σ) : SO P W0 n Q o ρ σ K := by
 intro w0 K0 a w g1 g2 g3
 obtain ⟨v, w', hrun, hs, hg⟩ := hr (slot a) w
 unfold Oper.wp
 rw [FSd.eval g1, hrun]
 refine ⟨_, _, (FSd.put g1 hd _).fs, ⟨g2.below.trans ⟨hs.os, hs.tape, hs.output, by rw [hs.heap]; exact Nat.le_refl _, fun k _ => by rw [hs.heap]⟩, g2.nodup, fun e he => ⟨(g2.has e he).1, (g2.has e he).2.of_block (by rw [hs.heap])⟩⟩,
   ⟨by rw [hs.heap]; exact g3.size, fun b hb hn => by rw [hs.heap]; exact g3.frame b hb hn, fun b hb => g3.kin b hb⟩, h v hg⟩
theorem run_some_nat (q : Question) (w : World) : ∃ m w', (choose q).run P w = .ok m w' ∧ SameW w w' := by
 rw [run_choose]
 split
 · exact ⟨_, _, rfl, SameW.refl w⟩
 · exact ⟨_, _, rfl, SameW.drew w⟩
theorem run_f2i (b : Nat) (w : World) : ∃ m w', (Conv.floatToInt .f64 b .i32).run P w = .ok (.int .i32 m) w' ∧ SameW w w' := by
 have hany : ∃ m w', (do let x ← choose (.floatToInt .f64 b .i32); pure (Value.int .i32 (IntKind.i32.wrap x)) : Sem Value).run P w = .ok (.int .i32 m) w' ∧ SameW w w' := by
   obtain ⟨m, w', h1, h2⟩ := run_some_nat (P := P) (.floatToInt .f64 b .i32) w
   exact ⟨IntKind.i32.wrap m, w', by simp only [Sem.run_bind, h1, Result.andThen_ok, Sem.run_pure], h2⟩
 unfold Conv.floatToInt
 simp only []
 split
 · split
   · exact ⟨_, w, rfl, SameW.refl w⟩
   · exact hany
 · exact hany
theorem run_floor (nm : String) (way : Ieee.Toward) (b : Nat) (w : World) : ∃ m w', (Extern.MathFloor.toIntegral nm way #[.float .f64 b]).run P w = .ok (.float .f64 m) w' ∧ SameW w w' := by
 have e : Extern.MathFloor.toIntegral nm way #[.float .f64 b] = (match FloatKind.f64.decode b with
   | .nan s t =>
     if FloatKind.f64.format.quiet t = t then pure (.float .f64 b) else do
     let kept ← choose (.extern "math.Floor,Ceil,Trunc,RoundToEven.signallingNaN kept" 2)
     pure (.float .f64 (if kept == 1 then b else FloatKind.f64.encode (.nan s (FloatKind.f64.format.quiet t))))
   | d => pure (.float .f64 (FloatKind.f64.encode (d.integral way)))) := rfl
 rw [e]
 cases FloatKind.f64.decode b with
 | nan s t =>
   simp only []
   split
   · exact ⟨_, w, rfl, SameW.refl w⟩
   · obtain ⟨m, w', h1, h2⟩ := run_some_nat (P := P) (.extern "math.Floor,Ceil,Trunc,RoundToEven.signallingNaN kept" 2) w
     exact ⟨_, w', by simp only [Sem.run_bind, h1, Result.andThen_ok, Sem.run_pure]; rfl, h2⟩
 | infinity s => exact ⟨_, w, rfl, SameW.refl w⟩
 | number s m e => exact ⟨_, w, rfl, SameW.refl w⟩
theorem O_floor (b : Nat) (f : FuncId) {fn : Func} {nm : String} {way : Ieee.Toward} (hd : dstOk n o.dst = true) (hf : P.funcs[f]? = some fn) (hname : (fn.name == "runtime.NumGoroutine") = false) (hb : fn.body.isNone = true) (hn : Extern.findNext fn = none)
   (he : Extern.find fn = some (Extern.MathFloor.toIntegral nm way)) (hr : ∀ δ w, (execOp (ev δ ρ) o).run P w = (callFunc f #[.float .f64 b]).run P w)
   (h : ∀ m : Nat, K (putF ρ o.dst (.float .f64 m)) σ) : SO P W0 n Q o ρ σ K := by
 refine O_some (fun v => ∃ m, v = .float .f64 m) hd (fun δ w => ?_) fun v ⟨m, e⟩ => e ▸ h m
 obtain ⟨m, w', h1, h2⟩ := run_floor (P := P) nm way b w
 exact ⟨_, w', by rw [hr, run_callFunc_extern hf hname hb hn he, h1]; rfl, h2, m, rfl⟩
theorem O_f2i (b : Nat) {dst : Option Tmp} {s d ty : TypeId} {x : Operand} {pos : String} {after : Array Edge} {gd : Option (Nat × Bool)} (hx : ∀ δ, ev δ ρ x = .float .f64 b) (hs : (P.underlying s).isSome = true) (ht : P.underlying d = some (.int .i32)) (hd : dstOk n dst = true)
   (h : ∀ m : Int, K (putF ρ dst (.int .i32 m)) σ) : SO P W0 n Q ⟨dst, .convert s d x, ty, pos, after, gd⟩ ρ σ K := by
 refine O_some (fun v => ∃ m, v = .int .i32 m) hd (fun δ w => ?_) fun v ⟨m, e⟩ => e ▸ h m
 obtain ⟨m, w', h1, h2⟩ := run_f2i (P := P) b w
 obtain ⟨u, hs'⟩ := Option.isSome_iff_exists.1 hs
 have hc : (convert s d (.float .f64 b)).run P w = (Conv.floatToInt .f64 b .i32).run P w := by
   cases u <;> simp [convert, run_underlying hs', run_underlying ht]
 exact ⟨_, w', by simp only [execOp, hx, Sem.run_bind, hc, h1, Result.andThen_ok, Sem.run_pure], h2, m, rfl⟩
theorem quo_u64 {m n : Int} (h0 : 0 ≤ m) (h1 : m < 18446744073709551616) (hn : 0 < n) : IntKind.wrap .u64 (Int.tdiv m n) = m / n := by
 rw [Int.tdiv_eq_ediv_of_nonneg h0]
 have a := Int.ediv_nonneg h0 (Int.le_of_lt hn)
 have b := Int.ediv_le_self n h0
 exact IntWalk.u64_in _ (by omega)
theorem rem_nn {m n : Int} (h0 : 0 ≤ m) : Int.tmod m n = m % n := Int.tmod_eq_emod_of_nonneg h0
end Go.Proofs.YthflblophelioaaGreatDoor
namespace Go.Proofs.YthflblophelioaaGreatDoor
open Go.Sl

abbrev PropP := ByteArray × Int
def propCells (p : PropP) : List Value := [.string p.1, .int .i64 p.2]
theorem propCells_len (p : PropP) : (propCells p).length = 2 := rfl
abbrev StepP := Bool × ByteArray × Int
def stepV (x : StepP) : Value := .agg #[.bool x.1, .string x.2.1, .int .i64 x.2.2]
abbrev encI (a : Int) : Value := .int .i64 a
abbrev encU (a : Int) : Value := .int .u64 a
abbrev encS (a : ByteArray) : Value := .string a

theorem lawU : KeyLaw Tryz.prog 32 encU := keyLaw_int (k := .u64) (by kernel_rfl)
theorem eqProp (d : Nat) (a b : ByteArray) (i j : Int) (w : World) : (Op.equalIn (d + 2) 154 (.agg #[.string a, .int .i64 i]) (.agg #[.string b, .int .i64 j])).run Tryz.prog w = .ok (decide (a = b) && (decide (i = j) && true)) w := by
 rw [run_equalIn_struct w (d + 1) _ _ _ (by kernel_rfl) (by kernel_rfl)]
 rw [show (Tryz.prog.fieldsOf 154).toList = [fldAt Tryz.prog 154 0, fldAt Tryz.prog 154 1] from by kernel_rfl]
 exact eqFields_cons (a := .string a) (b := .string b) (by decide) (by kernel_rfl) (by kernel_rfl) (equalIn_string (by kernel_rfl))
   (eqFields_cons (a := .int .i64 i) (b := .int .i64 j) (by decide) (by kernel_rfl) (by kernel_rfl) (equalIn_int (k' := .i64) (by kernel_rfl)) eqFields_nil)
theorem eqStep (d : Nat) (a b : StepP) (w : World) : (Op.equalIn (d + 3) 184 (stepV a) (stepV b)).run Tryz.prog w = .ok (decide (a.1 = b.1) && ((decide (a.2.1 = b.2.1) && (decide (a.2.2 = b.2.2) && true)) && true)) w := by
 unfold stepV
 rw [run_equalIn_struct w (d + 2) _ _ _ (by kernel_rfl) (by kernel_rfl)]
 rw [show (Tryz.prog.fieldsOf 184).toList = [fldAt Tryz.prog 184 0, fldAt Tryz.prog 184 1] from by kernel_rfl]
 exact eqFields_cons (a := .bool a.1) (b := .bool b.1) (by decide) (by kernel_rfl) (by kernel_rfl) (equalIn_bool (by kernel_rfl))
   (eqFields_cons (a := .agg #[.string a.2.1, .int .i64 a.2.2]) (b := .agg #[.string b.2.1, .int .i64 b.2.2]) (by decide) (by kernel_rfl) (by kernel_rfl) (eqProp d _ _ _ _ w) eqFields_nil)
theorem lawStep : KeyLaw Tryz.prog 184 stepV := by
 refine keyLaw_asking (d := .struct (Tryz.prog.fieldsOf 184)) (by kernel_rfl) (fun a b => rfl) (fun a b w => ?_) (fun b k w => by unfold stepV; kernel_rfl) (fun k => ?_)
 · refine (eqStep 9997 a b w).trans ?_
   congr 1
   obtain ⟨a1, a2, a3⟩ := a
   obtain ⟨b1, b2, b3⟩ := b
   rw [Bool.eq_iff_iff]
   simp
 · simp [stepV, Instr.sameBits, beq_ba]

structure ShapeL where
  proto : Int
  ls : Gs
  l : List PropP
  nb : Nat
  next : List (StepP × Int)
def ShapeL.cells (s : ShapeL) : List Value := [.int .u64 s.proto, s.ls.val s.l.length, .map (some s.nb)]
def ShapeL.ent (s : ShapeL) : Qp := s.ls.ent 154 2 (s.l.flatMap propCells) ++ ((s.nb, .map (kvs stepV encI s.next)) :: [])
def ShapeL.ok (s : ShapeL) : Prop := s.ls.ok 2 s.l.length (s.l.flatMap propCells)
theorem ShapeL.len (s : ShapeL) : s.cells.length = 3 := rfl
structure TreeF where
  p : Nat
  most : Int
  rb : Nat
structure TreeV where
  s : Gs
  l : List ShapeL
  roots : List (Int × Int)
abbrev TreeV.head (V : TreeV) (F : TreeF) : List Value := [.int .i64 F.most, V.s.val V.l.length, .map (some F.rb)]
abbrev TreeV.row (V : TreeV) : Qp := V.s.ent 151 3 (V.l.flatMap ShapeL.cells)
def TreeV.ent (V : TreeV) (F : TreeF) : Qp := (F.p, .cells 116 3 (V.head F)) :: (V.row ++ (V.l.flatMap ShapeL.ent ++ ((F.rb, .map (kvs encU encI V.roots)) :: [])))
structure TreeV.ok (V : TreeV) (F : TreeF) : Prop where
  row : V.s.ok 3 V.l.length (V.l.flatMap ShapeL.cells)
  each : ∀ s ∈ V.l, s.ok
  room : ∀ (i : Nat) s, V.l[i]? = some s → s.l.length ≤ i
  most : F.most ≤ 1048576
  cap : (V.l.length : Int) ≤ F.most
variable {V V' : TreeV} {F : TreeF} {i : Nat} {s : ShapeL}
theorem TreeV.ok.many (h : V.ok F) : V.l.length ≤ 1048576 := by have := h.cap; have := h.most; omega
theorem TreeV.m0 (V : TreeV) (F : TreeF) : (F.p, Blk.cells 116 3 (V.head F)) ∈ V.ent F := List.mem_cons_self
theorem TreeV.m1 (V : TreeV) (F : TreeF) : ∀ e ∈ V.row, e ∈ V.ent F := fun e he => Qc (mem_h he)
theorem TreeV.m2 (F : TreeF) (hs : V.l[i]? = some s) : ∀ e ∈ s.ls.ent 154 2 (s.l.flatMap propCells), e ∈ V.ent F :=
 fun e he => Qc (Qa (mem_h (List.mem_flatMap.2 ⟨s, List.mem_of_getElem? hs, mem_h he⟩)))
theorem TreeV.m3 (F : TreeF) (hs : V.l[i]? = some s) : (s.nb, Blk.map (kvs stepV encI s.next)) ∈ V.ent F :=
 Qc (Qa (mem_h (List.mem_flatMap.2 ⟨s, List.mem_of_getElem? hs, Qa Qe⟩)))
theorem TreeV.m4 (V : TreeV) (F : TreeF) : (F.rb, Blk.map (kvs encU encI V.roots)) ∈ V.ent F := Qc (Qa (Qa Qe))
theorem TreeV.ok.at (h : V.ok F) (hs : V.l[i]? = some s) : s.ls.ok 2 s.l.length (s.l.flatMap propCells) := h.each s (List.mem_of_getElem? hs)
theorem TreeV.focus (F : TreeF) (hs : V.l[i]? = some s) (τ : Qp) : (V.ent F ++ τ).Perm ((F.p, .cells 116 3 (V.head F)) :: (V.row ++
   (s.ls.ent 154 2 (s.l.flatMap propCells) ++ ((s.nb, .map (kvs stepV encI s.next)) :: ((V.l.eraseIdx i).flatMap ShapeL.ent ++ ((F.rb, .map (kvs encU encI V.roots)) :: τ)))))) := by
 have h := (flat_focus (f := ShapeL.ent) hs)
 simp only [TreeV.ent, List.cons_append, List.append_assoc, List.nil_append]
 refine ((List.Perm.append_left _ ?_).cons _)
 refine (h.append_right _).trans ?_
 simp only [ShapeL.ent, List.cons_append, List.append_assoc, List.nil_append]
 exact List.Perm.refl _
abbrev TreeV.next (V : TreeV) (i : Nat) (s : ShapeL) (m : List (StepP × Int)) : TreeV := ⟨V.s, V.l.set i ⟨s.proto, s.ls, s.l, s.nb, m⟩, V.roots⟩
theorem TreeV.unfocus (F : TreeF) (hs : V.l[i]? = some s) (m : List (StepP × Int)) (τ : Qp) : ((F.p, .cells 116 3 (V.head F)) :: (V.row ++
   (s.ls.ent 154 2 (s.l.flatMap propCells) ++ ((s.nb, .map (kvs stepV encI m)) :: ((V.l.eraseIdx i).flatMap ShapeL.ent ++ ((F.rb, .map (kvs encU encI V.roots)) :: τ)))))).Perm
   ((V.next i s m).ent F ++ τ) := by
 have h := (flat_unfocus (f := ShapeL.ent) ⟨s.proto, s.ls, s.l, s.nb, m⟩ hs)
 simp only [TreeV.ent, TreeV.head, TreeV.row, List.cons_append, List.append_assoc, List.nil_append, List.length_set]
 rw [show (V.l.set i ⟨s.proto, s.ls, s.l, s.nb, m⟩).flatMap ShapeL.cells = V.l.flatMap ShapeL.cells from flat_same hs rfl]
 refine ((List.Perm.append_left _ ?_).cons _)
 refine List.Perm.trans ?_ (h.append_right _)
 simp only [ShapeL.ent, List.cons_append, List.append_assoc, List.nil_append]
 exact List.Perm.refl _
theorem TreeV.ok.next (h : V.ok F) (hs : V.l[i]? = some s) (m : List (StepP × Int)) : (V.next i s m).ok F := by
 refine ⟨?_, fun x hx => ?_, fun j x hx => ?_, h.most, by simpa using h.cap⟩
 · simp only [List.length_set]
   rw [show (V.l.set i ⟨s.proto, s.ls, s.l, s.nb, m⟩).flatMap ShapeL.cells = V.l.flatMap ShapeL.cells from flat_same hs rfl]; exact h.row
 · rcases List.mem_or_eq_of_mem_set hx with h1 | rfl
   · exact h.each x h1
   · exact h.each s (List.mem_of_getElem? hs)
 · by_cases e : i = j
   · subst e
     rw [Qd hs] at hx; cases hx
     exact h.room i s hs
   · exact h.room j x (by rwa [List.getElem?_set_ne e] at hx)

theorem TreeV.ok.withRoots (h : V.ok F) (r : List (Int × Int)) : TreeV.ok ⟨V.s, V.l, r⟩ F := ⟨h.row, h.each, h.room, h.most, h.cap⟩
abbrev TreeV.more (V : TreeV) (g : Gs) (x : ShapeL) : TreeV := ⟨g, V.l ++ [x], V.roots⟩
theorem TreeV.ok.more (h : V.ok F) {g : Gs} {x : ShapeL} (hs : g.ok 3 (V.l ++ [x]).length ((V.l ++ [x]).flatMap ShapeL.cells)) (hx : x.ok) (hr : x.l.length ≤ V.l.length) (hm : (V.l.length : Int) < F.most) : (V.more g x).ok F := by
 have := h.most
 refine ⟨hs, fun s hsm => ?_, fun i s hi => ?_, h.most, by simp only [List.length_append, List.length_singleton]; omega⟩
 · rcases List.mem_append.1 hsm with h1 | h1
   · exact h.each s h1
   · rw [List.mem_singleton.1 h1]; exact hx
 · by_cases hlt : i < V.l.length
   · rw [List.getElem?_append_left hlt] at hi; exact h.room i s hi
   · rw [List.getElem?_append_right (by omega)] at hi
     have h0 : i - V.l.length = 0 := by
       have := (List.getElem?_eq_some_iff.1 hi).1; simp at this; omega
     rw [h0] at hi
     simp only [List.getElem?_cons_zero, Option.some.injEq] at hi
     subst hi; omega

structure ShapeP where
  proto : Int
  l : List PropP
  next : List (StepP × Int)
structure TreeP where
  most : Int
  l : List ShapeP
  roots : List (Int × Int)
def ShapeL.abs (s : ShapeL) : ShapeP := ⟨s.proto, s.l, s.next⟩
def TreeV.abs (V : TreeV) (F : TreeF) : TreeP := ⟨F.most, V.l.map ShapeL.abs, V.roots⟩
theorem TreeV.abs_at (F : TreeF) (hs : V.l[i]? = some s) : (V.abs F).l[i]? = some s.abs := by simp [TreeV.abs, hs]
theorem TreeV.abs_len (V : TreeV) (F : TreeF) : (V.abs F).l.length = V.l.length := by simp [TreeV.abs]
def layP (t : TreeP) (proto : Int) (l : List PropP) : TreeP × Int × Bool :=
 if t.most ≤ t.l.length then (t, 0, false) else (⟨t.most, t.l ++ [⟨proto, l, []⟩], t.roots⟩, t.l.length, true)
def rootP (t : TreeP) (proto : Int) : TreeP × Int × Bool :=
 match mget t.roots proto with
 | some n => (t, n, true)
 | none => match layP t proto [] with
   | (t', n, true) => (⟨t'.most, t'.l, mset t'.roots proto n⟩, n, true)
   | (t', n, false) => (t', n, false)
def keyIx (l : List PropP) (key : ByteArray) : Int := ixFrom (fun p => decide (p.1 = key)) l 0
def wayP (t : TreeP) (n : Nat) (x : StepP) (l : List PropP) : TreeP × Int × Bool :=
 match t.l[n]? with
 | none => (t, 0, false)
 | some s => match mget s.next x with
   | some m => (t, m, true)
   | none => match layP t s.proto l with
     | (t', m, true) => (⟨t'.most, t'.l.set n ⟨s.proto, s.l, mset s.next x m⟩, t'.roots⟩, m, true)
     | (t', m, false) => (t', m, false)
def shapeAt (t : TreeP) (n : Int) : Option ShapeP := if 0 ≤ n ∧ n < t.l.length then t.l[n.toNat]? else none
def addP (t : TreeP) (n : Int) (key : ByteArray) (flags : Int) : TreeP × Int × Bool :=
 match shapeAt t n with
 | none => (t, 0, false)
 | some s => if keyIx s.l key ≥ 0 then (t, 0, false) else wayP t n.toNat (false, key, flags) (s.l ++ [(key, flags)])
def changeP (t : TreeP) (n : Int) (key : ByteArray) (flags : Int) : TreeP × Int × Bool :=
 match shapeAt t n with
 | none => (t, 0, false)
 | some s => if keyIx s.l key < 0 then (t, 0, false) else match s.l[(keyIx s.l key).toNat]? with
   | none => (t, 0, false)
   | some p => if p.2 == flags then (t, n, true) else wayP t n.toNat (true, p.1, flags) (s.l.set (keyIx s.l key).toNat (p.1, flags))
def moveGo (t : TreeP) (m : Int) (ok : Bool) : List PropP → TreeP × Int × Bool
 | [] => (t, m, ok)
 | p :: r => if ok = false then (t, 0, false) else moveGo (addP t m p.1 p.2).1 (addP t m p.1 p.2).2.1 (addP t m p.1 p.2).2.2 r
theorem moveGo_stop {t : TreeP} {m : Int} {ok : Bool} {l : List PropP} {i : Nat} {x : PropP} (h : l[i]? = some x) (hok : ok = false) : moveGo t m ok (l.drop i) = (t, 0, false) := by
 obtain ⟨hlt, rfl⟩ := List.getElem?_eq_some_iff.1 h
 rw [List.drop_eq_getElem_cons hlt, moveGo, if_pos hok]
theorem moveGo_step {t t' : TreeP} {m m' : Int} {ok ok' : Bool} {l : List PropP} {i : Nat} {x : PropP} (h : l[i]? = some x) (hok : ok = true) (ha : addP t m x.1 x.2 = (t', m', ok')) : moveGo t m ok (l.drop i) = moveGo t' m' ok' (l.drop (i + 1)) := by
 obtain ⟨hlt, rfl⟩ := List.getElem?_eq_some_iff.1 h
 rw [List.drop_eq_getElem_cons hlt, moveGo, if_neg (by simp [hok]), ha]
theorem moveGo_end {t : TreeP} {m : Int} {ok : Bool} {l : List PropP} {i : Nat} (h : l.length ≤ i) : moveGo t m ok (l.drop i) = (t, m, ok) := by
 rw [List.drop_eq_nil_of_le h]; rfl
def moveP (t : TreeP) (n : Int) (proto : Int) : TreeP × Int × Bool :=
 match shapeAt t n with
 | none => (t, 0, false)
 | some s => moveGo (rootP t proto).1 (rootP t proto).2.1 (rootP t proto).2.2 s.l
def findP (t : TreeP) (n : Int) (key : ByteArray) : Int × Int × Bool :=
 match shapeAt t n with
 | none => (0, 0, false)
 | some s => if keyIx s.l key < 0 then (0, 0, false) else match s.l[(keyIx s.l key).toNat]? with
   | none => (0, 0, false)
   | some p => (keyIx s.l key, p.2, true)
def keysP (t : TreeP) (n : Int) : List ByteArray :=
 match shapeAt t n with
 | none => []
 | some s => s.l.map (·.1)
theorem shapeAt_in (F : TreeF) {n : Int} (h : 0 ≤ n ∧ n < V.l.length) (hs : V.l[n.toNat]? = some s) : shapeAt (V.abs F) n = some s.abs := by
 unfold shapeAt
 rw [if_pos (by rw [V.abs_len]; exact h), TreeV.abs_at F hs]
theorem shapeAt_out (F : TreeF) {n : Int} (h : ¬ (0 ≤ n ∧ n < V.l.length)) : shapeAt (V.abs F) n = none := by
 unfold shapeAt
 rw [if_neg (by rw [V.abs_len]; exact h)]
theorem keyIx_lt {l : List PropP} {key : ByteArray} (h : 0 ≤ keyIx l key) : keyIx l key < l.length := ixFrom_lt h
abbrev two (r : Int × Bool) : Value := .tuple #[.int .i64 r.1, .bool r.2]
abbrev tw (a : Int) (b : Bool) : Value := .tuple #[.int .i64 a, .bool b]
abbrev three (r : Int × Int × Bool) : Value := .tuple #[.int .i64 r.1, .int .i64 r.2.1, .bool r.2.2]
def Keep (V V' : TreeV) : Prop := ∀ (i : Nat) (s : ShapeL), V.l[i]? = some s → ∃ s', V'.l[i]? = some s' ∧ s'.ls = s.ls ∧ s'.l = s.l
theorem Keep.refl (V : TreeV) : Keep V V := fun i s h => ⟨s, h, rfl, rfl⟩
theorem Keep.trans {V V' V2 : TreeV} (h : Keep V V') (k : Keep V' V2) : Keep V V2 := fun i s hs => by
 obtain ⟨s', h1, h2, h3⟩ := h i s hs
 obtain ⟨s2, k1, k2, k3⟩ := k i s' h1
 exact ⟨s2, k1, k2.trans h2, k3.trans h3⟩
theorem Keep.snoc {x : ShapeL} (h : V'.l = V.l ++ [x]) : Keep V V' := fun i s hs => ⟨s, by rw [h, List.getElem?_append_left (List.getElem?_eq_some_iff.1 hs).1]; exact hs, rfl, rfl⟩
theorem Keep.set {n : Nat} {x : ShapeL} {m : List (StepP × Int)} (hx : V.l[n]? = some x) (h : V'.l = V.l.set n ⟨x.proto, x.ls, x.l, x.nb, m⟩) : Keep V V' := fun i s hs => by
 by_cases e : n = i
 · subst e; rw [hx] at hs; cases hs; exact ⟨⟨x.proto, x.ls, x.l, x.nb, m⟩, by rw [h]; exact Qd hx, rfl, rfl⟩
 · exact ⟨s, by rw [h]; exact get_ne hs e, rfl, rfl⟩
end Go.Proofs.YthflblophelioaaGreatDoor
namespace Go.Proofs.YthflblophelioaaGreatDoor
open Go.Sl

theorem shapes_there {W0 : World} {F : TreeF} {V : TreeV} (hV : V.ok F) (n : Int) : SC Tryz.prog W0 92 #[.pointer (some ⟨F.p, 0, none⟩), .int .i64 n] (TreeV.ent V F) (Ret (fun _ : Unit => V.ent F) (fun v _ => v = .bool (decide (0 ≤ n ∧ n < V.l.length)))) := by
 refine SC_body (fn := Tryz.f92) (n := 16) Tryz.func92 rfl (by kernel_rfl) (ρ := [(0, pt F.p 0), (1, .int .i64 n)]) rfl ?_
 refine SW_sig ((TreeV.ent V F) ++ ([])) (by simp only [List.append_nil, List.append_assoc]) ?_
 refine sr ?_
 refine os 1 ?_
 refine nsr ?_
 refine os 3 ?_
 refine tbp 7 (fun hg1 => ?_) (fun hg1 => ?_)
 ·replace hg1 : n ≥ 0 := hg1
  refine os 4 ?_
  refine L (ld ?_ (hc := Cell.own (mem_h (TreeV.m0 V F)) rfl))
  refine os 4 ?_
  refine kp [4, 0, 1] ?_
  refine nt ?_
  refine Qi ?_
  refine Qg (.bool (decide (n < (V.l.length : Int)))) (fun _ => rfl) ?_
  exact ⟨(), ow, congrArg Value.bool (by simp; omega)⟩
 replace hg1 : ¬ (n ≥ 0) := hg1
 refine os 9 ?_
 refine kp [4, 0, 1] ?_
 refine nt ?_
 refine Qi ?_
 refine Qg (.bool false) (fun _ => rfl) ?_
 exact ⟨(), ow, congrArg Value.bool (by simp; omega)⟩

theorem shapes_key {W0 : World} {σ : Qp} {kb : Nat} {key : ByteArray} (hk : (kb, Blk.cells 9 1 [.string key]) ∈ σ) (a : ByteArray) (f : Int) : SC Tryz.prog W0 116 #[.agg #[.string a, .int .i64 f], .pointer (some ⟨kb, 0, none⟩)] σ (Ret (fun _ : Unit => σ) (fun v _ => v = .bool (decide (a = key)))) := by
 refine SC_body (fn := Tryz.f116) (n := 8) Tryz.func116 rfl (by kernel_rfl) (ρ := [(0, .agg #[.string a, .int .i64 f]), (1, pt kb 0)]) rfl ?_
 refine SW_sig (σ ++ ([])) (by simp only [List.append_nil, List.append_assoc]) ?_
 refine sr ?_
 refine L (nw 154 2 [.string a, .int .i64 f] ?_)
 intro b1
 refine os 1 ?_
 refine nsr ?_
 refine os 1 ?_
 refine L (ld ?_)
 refine L (ld ?_ (hc := Cell.own (Qc (mem_h hk)) rfl))
 refine oX (.bool (a.toList == key.toList)) (.bool (decide (a = key))) (congrArg Value.bool (by rw [str_eq])) ?_
 refine os 1 ?_
 refine kp [3, 2, 0, 1] ?_
 refine nt ?_
 refine Qi ?_
 refine Qg (.bool (decide (a = key))) (fun _ => rfl) ?_
 exact ⟨(), ow, rfl⟩

theorem shapes_ixfunc {W0 : World} {σ : Qp} {kb : Nat} {key : ByteArray} (hk : (kb, Blk.cells 9 1 [.string key]) ∈ σ) {ls : Gs} {l : List PropP} (hl : ls.ok 2 l.length (l.flatMap propCells)) (hm : ∀ e ∈ ls.ent 154 2 (l.flatMap propCells), e ∈ σ) : SC Tryz.prog W0 115 #[ls.val l.length, .func (.func 116) #[] #[.pointer (some ⟨kb, 0, none⟩)]] σ (Ret (fun _ : Unit => σ) (fun v _ => v = .int .i64 (keyIx l key))) := by
 refine SC_body (fn := Tryz.f115) (n := 19) Tryz.func115 rfl (by kernel_rfl) (ρ := [(0, Gs.val ls l.length), (1, .func (.func 116) #[] #[pt kb 0])]) rfl ?_
 refine SW_sig (σ ++ ([])) (by simp only [List.append_nil, List.append_assoc]) ?_
 have hcap : l.length ≤ maxLen := Nat.le_trans (Gs.ok.cap_le hl) (Gs.ok.cap_max hl)
 unfold maxLen at hcap
 refine sr ?_
 refine os 1 ?_
 refine nq ?_
 refine sr ?_
 refine os 3 ?_
 refine nt ?_
 refine SW_block ?_
 refine SW_loop (α := Nat) (fun z_ ρ_ σ_ => Fits ρ_ σ_ [(8, .int .i64 (z_ : Int)), (7, .int .i64 (l.length : Int)), (1, .func (.func 116) #[] #[pt kb 0]), (0, Gs.val ls l.length)] (σ ++ ([])) ∧ z_ ≤ l.length ∧ keyIx l key = ixFrom (fun p : PropP => decide (p.1 = key)) (l.drop z_) z_) (fun z_ => l.length - z_) 0 ⟨⟨fun _ => rfl, ow⟩, Nat.zero_le _, rfl⟩ ?_
 rintro i ρ_ σ_ ⟨hfit, hi0, hi1⟩
 refine SW_fits hfit ?_
 clear hfit
 refine sr ?_
 refine os 1 ?_
 refine nq ?_
 refine cdp (fun hc1 : (i : Int) < (l.length : Int) => ?_) (fun hc1 => ?_)
 ·refine Ql (Qj ?_)
  refine SW_seq ?_
  refine SW_block ?_
  refine sr ?_
  refine os 2 ?_
  refine nsr ?_
  refine os 3 ?_
  refine L (ixg (i : Int) (i * 2) hl Tryz.underlying148 ?_)
  obtain ⟨e1, he1⟩ : ∃ y_, l[i]? = some y_ := ⟨_, List.getElem?_eq_getElem (by omega)⟩
  refine L (ldr [.string e1.1, .int .i64 e1.2] (Qb (Gs.cell hl (fun e he => (mem_h (hm _ he))) (Qh propCells_len he1 (j := 0) (by decide) rfl)) (Qb (Gs.cell hl (fun e he => (mem_h (hm _ he))) (Qh propCells_len he1 (j := 1) (by decide) rfl)) Qo)) ?_)
  refine L (cl (shapes_key hk e1.1 e1.2) ?_)
  rintro _ _ rfl
  refine nt ?_
  refine cdp (fun hc2 : e1.1 = key => ?_) (fun hc2 => ?_)
  ·refine sr ?_
   refine os 2 ?_
   refine kp [4, 16, 5, 9, 8, 7, 1, 0] ?_
   refine nt ?_
   refine Qi (r_in (Qm (Qm (r_in (Qm ?_)))))
   refine Qg (.int .i64 (i : Int)) (fun _ => rfl) ?_
   exact ⟨(), ow, congrArg (Value.int .i64) (by rw [hi1, ixFrom_at he1, if_pos (by simpa using hc2)])⟩
  refine Ql (n_in (Qj ?_))
  refine Qn ?_
  refine os 2 ?_
  refine kp [8, 16, 5, 9, 7, 1, 0] ?_
  refine nt ?_
  exact ⟨i + 1, by omega, ⟨fun _ => rfl, ow⟩, by omega, by rw [hi1, ixFrom_at he1, if_neg (by simpa using hc2)]⟩
 refine SW_exit (x_then (x_then (x_in (Qj ?_))))
 refine sr ?_
 refine os 1 ?_
 refine nt ?_
 refine Qi ?_
 refine Qg (.int .i64 (-1)) (fun _ => rfl) ?_
 exact ⟨(), ow, congrArg (Value.int .i64) (by rw [hi1, ixFrom_end (by omega)])⟩

theorem shapes_place {W0 : World} {σ : Qp} {ls : Gs} {l : List PropP} (hl : ls.ok 2 l.length (l.flatMap propCells)) (hm : ∀ e ∈ ls.ent 154 2 (l.flatMap propCells), e ∈ σ) (pr : Int) (nb : Nat) (key : ByteArray) : SC Tryz.prog W0 93 #[.agg #[.int .u64 pr, ls.val l.length, .map (some nb)], .string key] σ (Ret (fun _ : Unit => σ) (fun v _ => v = .int .i64 (keyIx l key))) := by
 refine SC_body (fn := Tryz.f93) (n := 9) Tryz.func93 rfl (by kernel_rfl) (ρ := [(0, .agg #[.int .u64 pr, Gs.val ls l.length, .map (some nb)]), (1, .string key)]) rfl ?_
 refine SW_sig (σ ++ ([])) (by simp only [List.append_nil, List.append_assoc]) ?_
 refine sr ?_
 refine L (nw 151 3 [.int .u64 pr, Gs.val ls l.length, .map (some nb)] ?_)
 intro b1
 refine L (nw 9 1 [.string key] ?_)
 intro b2
 refine os 1 ?_
 refine nsr ?_
 refine os 1 ?_
 refine L (ld ?_)
 refine oV (.func (.func 116) #[] #[pt b2 0]) ?_
 refine SL_sig (((b2, .cells 9 1 [.string key]) :: ((b1, .cells 151 3 [.int .u64 pr, Gs.val ls l.length, .map (some nb)]) :: (σ ++ ([])))) ++ []) (by simp only [List.append_nil]) ?_
 refine L (O_call 115 #[Gs.val ls l.length, .func (.func 116) #[] #[pt b2 0]] rfl (by intro δ w; kernel_rfl) ((shapes_ixfunc (σ := ((b2, .cells 9 1 [.string key]) :: ((b1, .cells 151 3 [.int .u64 pr, Gs.val ls l.length, .map (some nb)]) :: (σ ++ ([]))))) (kb := b2) (key := key) Qe hl (fun e he => (Qc (Qc (mem_h (hm e he)))))).use _) ?_)
 rintro _ _ ⟨_, rfl, rfl⟩
 refine SL_sig ((b2, .cells 9 1 [.string key]) :: ((b1, .cells 151 3 [.int .u64 pr, Gs.val ls l.length, .map (some nb)]) :: (σ ++ ([])))) (by simp only [List.append_nil]) ?_
 refine os 1 ?_
 refine kp [4, 3, 2, 0, 1] ?_
 refine nt ?_
 refine Qi ?_
 refine Qg (.int .i64 (keyIx l key)) (fun _ => rfl) ?_
 exact ⟨(), ow, rfl⟩

theorem shapes_Find {W0 : World} {F : TreeF} {V : TreeV} (hV : V.ok F) (n : Int) (key : ByteArray) : SC Tryz.prog W0 59 #[.pointer (some ⟨F.p, 0, none⟩), .int .i64 n, .string key] (TreeV.ent V F) (Ret (fun _ : Unit => V.ent F) (fun v _ => v = three (findP (V.abs F) n key))) := by
 refine SC_body (fn := Tryz.f59) (n := 38) Tryz.func59 rfl (by kernel_rfl) (ρ := [(0, pt F.p 0), (1, .int .i64 n), (2, .string key)]) rfl ?_
 refine SW_sig ((TreeV.ent V F) ++ ([])) (by simp only [List.append_nil, List.append_assoc]) ?_
 refine sr ?_
 refine os 3 ?_
 refine nq ?_
 refine sr ?_
 refine os 2 ?_
 refine L (cl (shapes_there hV n) ?_)
 rintro _ _ rfl
 refine os 1 ?_
 refine kp [13, 8, 7, 6, 0, 1, 2] ?_
 refine nt ?_
 refine cd (fun hc1 : (!(decide (0 ≤ n ∧ n < V.l.length))) = true => ?_) (fun hc1 => ?_)
 ·replace hc1 := bnot_t hc1
  replace hc1 := of_decide_eq_false hc1
  refine sr ?_
  refine os 3 ?_
  refine nt ?_
  refine Qi (Qm ?_)
  refine Qg (.tuple #[.int .i64 0, .int .i64 0, .bool false]) (fun _ => rfl) ?_
  exact ⟨(), ow, congrArg three (show (0, 0, false) = findP (V.abs F) n key from by simp only [findP, shapeAt_out F hc1])⟩
 replace hc1 := bnot_f hc1
 replace hc1 := of_decide_eq_true hc1
 refine Ql (Qj ?_)
 refine sr ?_
 refine os 3 ?_
 refine L (ld ?_ (hc := Cell.own (mem_h (TreeV.m0 V F)) rfl))
 refine os 1 ?_
 refine L (ixg n (n.toNat * 3) (TreeV.ok.row hV) Tryz.underlying114 ?_)
 obtain ⟨e1, he1⟩ : ∃ y_, V.l[n.toNat]? = some y_ := ⟨_, List.getElem?_eq_getElem (by omega)⟩
 refine L (ldr [.int .u64 e1.proto, Gs.val e1.ls e1.l.length, .map (some e1.nb)] (Qb (Gs.cell (TreeV.ok.row hV) (fun e he => (mem_h ((TreeV.m1 V F) _ he))) (Qh ShapeL.len he1 (j := 0) (by decide) rfl)) (Qb (Gs.cell (TreeV.ok.row hV) (fun e he => (mem_h ((TreeV.m1 V F) _ he))) (Qh ShapeL.len he1 (j := 1) (by decide) rfl)) (Qb (Gs.cell (TreeV.ok.row hV) (fun e he => (mem_h ((TreeV.m1 V F) _ he))) (Qh ShapeL.len he1 (j := 2) (by decide) rfl)) Qo))) ?_)
 refine os 1 ?_
 refine kp [21, 20, 13, 8, 7, 6, 0, 1, 2] ?_
 refine L (cl (shapes_place (σ := (TreeV.ent V F)) (TreeV.ok.at hV he1) (TreeV.m2 F he1) e1.proto e1.nb key) ?_)
 rintro _ _ rfl
 refine os 1 ?_
 refine kp [9, 13, 8, 7, 6, 0, 1, 2] ?_
 refine nq ?_
 refine sr ?_
 refine os 2 ?_
 refine nt ?_
 refine cdp (fun hc2 : (keyIx e1.l key) < 0 => ?_) (fun hc2 => ?_)
 ·refine sr ?_
  refine os 3 ?_
  refine nt ?_
  refine Qi (Qm ?_)
  refine Qg (.tuple #[.int .i64 0, .int .i64 0, .bool false]) (fun _ => rfl) ?_
  exact ⟨(), ow, congrArg three (show (0, 0, false) = findP (V.abs F) n key from by simp only [findP, shapeAt_in F hc1 he1, ShapeL.abs, if_pos hc2])⟩
 have hix : keyIx e1.l key < e1.l.length := keyIx_lt (by omega)
 refine Ql (Qj ?_)
 refine SW_seq ?_
 obtain ⟨e2, he2⟩ : ∃ y_, e1.l[((keyIx e1.l key).toNat)]? = some y_ := ⟨_, List.getElem?_eq_getElem (by omega)⟩
 refine SW_draw [(F.p, 1, Gs.val V.s V.l.length), ((Gs.blk V.s), n.toNat * 3 + 1, Gs.val e1.ls e1.l.length), ((Gs.blk e1.ls), ((keyIx e1.l key).toNat) * 2 + 1, .int .i64 e2.2)] [0, 1, 2, 3, 4, 5, 6, 7, 8, 9, 10, 11, 13] (by kernel_rfl) (Qf (Cell.own (mem_h (TreeV.m0 V F)) rfl) (Qf (Gs.cell (TreeV.ok.row hV) (fun e he => (mem_h ((TreeV.m1 V F) _ he))) (Qh ShapeL.len he1 (j := 1) (by decide) rfl)) (Qf (Gs.cell (TreeV.ok.at hV he1) (fun e he => (mem_h ((TreeV.m2 F he1) _ he))) (Qh propCells_len he2 (j := 1) (by decide) rfl)) rd_nil))) ?_
 refine aS 0 ?_
 refine aS 1 ?_
 refine aS 2 ?_
 refine aF 3 ?_
 refine aL 4 ?_
 refine aS 5 ?_
 refine aI 6 n (n.toNat * 3) (TreeV.ok.row hV) Tryz.underlying114 ?_
 refine aF 7 ?_
 refine aL 8 ?_
 refine kpA [33, 25, 24, 9, 13, 8, 7, 6, 0, 1, 2] ?_
 refine aS 9 ?_
 refine aI 10 (keyIx e1.l key) (((keyIx e1.l key).toNat) * 2) (TreeV.ok.at hV he1) Tryz.underlying148 ?_
 refine aF 11 ?_
 refine aL 12 ?_
 refine aS 13 ?_
 refine aS 14 ?_
 refine aS 15 ?_
 refine SA_done (by kernel_rfl) (Qj ?_)
 refine Qi ?_
 refine Qg (.tuple #[.int .i64 (keyIx e1.l key), .int .i64 e2.2, .bool true]) (fun _ => rfl) ?_
 exact ⟨(), ow, congrArg three (show (keyIx e1.l key, e2.2, true) = findP (V.abs F) n key from by simp only [findP, shapeAt_in F hc1 he1, ShapeL.abs, if_neg hc2, he2])⟩

theorem shapes_Keys {W0 : World} {F : TreeF} {V : TreeV} (hV : V.ok F) (n : Int) : SC Tryz.prog W0 91 #[.pointer (some ⟨F.p, 0, none⟩), .int .i64 n] (TreeV.ent V F) (Ret (fun s : Gs => s.ent 9 1 ((keysP (V.abs F) n).map encS) ++ (V.ent F ++ [])) (fun v s => v = s.val (keysP (V.abs F) n).length ∧ s.ok 1 (keysP (V.abs F) n).length ((keysP (V.abs F) n).map encS))) := by
 refine SC_body (fn := Tryz.f91) (n := 32) Tryz.func91 rfl (by kernel_rfl) (ρ := [(0, pt F.p 0), (1, .int .i64 n)]) rfl ?_
 refine SW_sig ((TreeV.ent V F) ++ ([])) (by simp only [List.append_nil, List.append_assoc]) ?_
 refine sr ?_
 refine os 1 ?_
 refine nq ?_
 refine sr ?_
 refine os 2 ?_
 refine L (cl (shapes_there hV n) ?_)
 rintro _ _ rfl
 refine os 1 ?_
 refine kp [11, 4, 0, 1] ?_
 refine nt ?_
 refine cd (fun hc1 : (!(decide (0 ≤ n ∧ n < V.l.length))) = true => ?_) (fun hc1 => ?_)
 ·replace hc1 := bnot_t hc1
  replace hc1 := of_decide_eq_false hc1
  refine sr ?_
  refine os 1 ?_
  refine nt ?_
  refine Qi (Qm ?_)
  refine Qg (.slice none 0 0) (fun _ => rfl) ?_
  exact ⟨.nil, Own.of_perm (List.Perm.of_eq (by simp [Gs.ent])), by rw [show keysP (V.abs F) n = [] from by simp only [keysP, shapeAt_out F hc1]]; exact ⟨rfl, rfl, rfl⟩⟩
 replace hc1 := bnot_f hc1
 replace hc1 := of_decide_eq_true hc1
 refine Ql (Qj ?_)
 refine sr ?_
 refine os 1 ?_
 refine nq ?_
 refine sr ?_
 refine os 3 ?_
 refine L (ld ?_ (hc := Cell.own (mem_h (TreeV.m0 V F)) rfl))
 refine os 1 ?_
 refine L (ixg n (n.toNat * 3) (TreeV.ok.row hV) Tryz.underlying114 ?_)
 refine os 1 ?_
 refine kp [18, 5, 11, 4, 0, 1] ?_
 obtain ⟨e1, he1⟩ : ∃ y_, V.l[n.toNat]? = some y_ := ⟨_, List.getElem?_eq_getElem (by omega)⟩
 refine L (ld ?_ (hc := Gs.cell (TreeV.ok.row hV) (fun e he => (mem_h ((TreeV.m1 V F) _ he))) (Qh ShapeL.len he1 (j := 1) (by decide) rfl)))
 refine os 2 ?_
 refine nt ?_
 refine SW_block ?_
 have hroom := hV.room _ _ he1
 have hmany := hV.many
 refine SW_loop (α := Nat × Gs × List ByteArray) (fun z_ ρ_ σ_ => Fits ρ_ σ_ [(21, .int .i64 (z_.1 : Int)), (20, .int .i64 (e1.l.length : Int)), (19, Gs.val e1.ls e1.l.length), (5, Gs.val z_.2.1 ((z_.2.2).length))] ((Gs.ent 9 1 z_.2.1 (z_.2.2.map encS)) ++ ((TreeV.ent V F) ++ ([]))) ∧ z_.1 ≤ e1.l.length ∧ Gs.ok 1 (z_.2.2).length z_.2.1 ((z_.2.2).map encS) ∧ z_.2.2 = (e1.l.take z_.1).map (·.1) ∧ (z_.2.2).length = z_.1) (fun z_ => e1.l.length - z_.1) (0, Gs.nil, []) ⟨⟨fun _ => rfl, (Own.of_perm (List.Perm.of_eq (by simp [Gs.ent])))⟩, Nat.zero_le _, ⟨rfl, rfl⟩, rfl, rfl⟩ ?_
 rintro ⟨i, s, ks⟩ ρ_ σ_ ⟨hfit, hi0, hi1, hi2, hi3⟩
 refine SW_fits hfit ?_
 clear hfit
 simp only [] at hi0 hi1 hi2 hi3 ⊢
 refine sr ?_
 refine os 1 ?_
 refine nq ?_
 refine cdp (fun hc2 : (i : Int) < (e1.l.length : Int) => ?_) (fun hc2 => ?_)
 ·refine Ql (Qj ?_)
  refine SW_seq ?_
  refine SW_block ?_
  refine sr ?_
  refine L (ixg (i : Int) (i * 2) (TreeV.ok.at hV he1) Tryz.underlying148 ?_)
  obtain ⟨e2, he2⟩ : ∃ y_, e1.l[i]? = some y_ := ⟨_, List.getElem?_eq_getElem (by omega)⟩
  refine L (ldr [.string e2.1, .int .i64 e2.2] (Qb (Gs.cell (TreeV.ok.at hV he1) (fun e he => (Qa (mem_h ((TreeV.m2 F he1) _ he)))) (Qh propCells_len he2 (j := 0) (by decide) rfl)) (Qb (Gs.cell (TreeV.ok.at hV he1) (fun e he => (Qa (mem_h ((TreeV.m2 F he1) _ he)))) (Qh propCells_len he2 (j := 1) (by decide) rfl)) Qo)) ?_)
  refine L (nw 154 2 [.string ByteArray.empty, .int .i64 0] ?_)
  intro b3
  refine L (st [.string e2.1, .int .i64 e2.2] ?_)
  refine nr ?_
  refine os 2 ?_
  refine L (ld ?_)
  refine L (nws 9 1 1 [.string e2.1] ?_)
  intro b4
  refine SL_perm _ (perm_cc (perm_cc perm_cz)) ?_
  refine L (O_append (size := 1) (bytes := 16) (z := .string ByteArray.empty) s ((ks).length) 1 (some ⟨b4, 0, none⟩) 1 (ks.map encS) ([.string e2.1]) ((ks ++ [e2.1]).map encS) (map_snoc _ e2.1 rfl) (fun _ => rfl) (fun _ => rfl) Tryz.underlying26 (by kernel_rfl) rfl (by decide) hi1 rfl (.inr ⟨b4, 0, rfl, Cells.own (Qa Qe) rfl⟩) rfl (by omega) (by decide) rfl ?_)
  intro s5 hks5 hfs5
  rw [show (ks).length + 1 = (ks ++ [e2.1]).length from by simp]
  rw [show (ks).length + 1 = (ks ++ [e2.1]).length from by simp] at hks5
  have hls5 : (ks ++ [e2.1]).length = ks.length + 1 := by simp
  refine os 1 ?_
  refine kp [5, 7, 22, 21, 20, 19] ?_
  refine SL_nil (n_in (Qj ?_))
  refine Qn ?_
  refine os 2 ?_
  refine nt ?_
  exact ⟨(i + 1, s5, (ks ++ [e2.1])), by simp only []; omega, ⟨fun _ => rfl, ow⟩, by simp only []; omega, hks5, by simp only []; rw [hi2, List.take_add_one, he2]; simp, by simp only [List.length_append, List.length_singleton]; omega⟩
 refine SW_exit (x_then (x_then (x_in (Qj ?_))))
 refine sr ?_
 refine os 2 ?_
 refine nt ?_
 refine Qi ?_
 refine Qg (Gs.val s ((ks).length)) (fun _ => rfl) ?_
 have hks : keysP (V.abs F) n = ks := by simp only [keysP, shapeAt_in F hc1 he1, ShapeL.abs]; rw [hi2, List.take_of_length_le (by omega)]
 exact ⟨s, by rw [hks]; exact ow, by rw [hks]; exact ⟨rfl, hi1⟩⟩

theorem shapes_Clone {W0 : World} {σ : Qp} {ls : Gs} {l : List PropP} (hl : ls.ok 2 l.length (l.flatMap propCells)) (hm : ∀ e ∈ ls.ent 154 2 (l.flatMap propCells), e ∈ σ) (hr : l.length ≤ 1099511627776) : SC Tryz.prog W0 121 #[ls.val l.length] σ (Ret (fun s : Gs => s.ent 154 2 (l.flatMap propCells) ++ (σ ++ [])) (fun v s => v = s.val l.length ∧ s.ok 2 l.length (l.flatMap propCells))) := by
 cases ls with
 | nil =>
   obtain rfl : l = [] := List.eq_nil_of_length_eq_zero hl.1
   refine SC_body (fn := Tryz.f121) (n := 8) Tryz.func121 rfl (by kernel_rfl) (ρ := [(0, .slice none 0 0)]) rfl ?_
   refine SW_sig (σ ++ ([])) (by simp only [List.append_nil, List.append_assoc]) ?_
   refine sr ?_
   refine os 1 ?_
   refine nq ?_
   refine sr ?_
   refine os 1 ?_
   refine oV (.bool true) ?_
   refine nt ?_
   refine ct ?_
   refine sr ?_
   refine os 1 ?_
   refine nt ?_
   refine Qi (Qm ?_)
   refine Qg (.slice none 0 0) (fun _ => rfl) ?_
   exact ⟨.nil, Own.of_perm (by simp [Gs.ent]), rfl, ⟨rfl, rfl⟩⟩
 | «at» g c =>
   refine SC_body (fn := Tryz.f121) (n := 8) Tryz.func121 rfl (by kernel_rfl) (ρ := [(0, Gs.val (Gs.at g c) l.length)]) rfl ?_
   refine SW_sig (σ ++ ([])) (by simp only [List.append_nil, List.append_assoc]) ?_
   refine sr ?_
   refine os 1 ?_
   refine nq ?_
   refine sr ?_
   refine os 1 ?_
   refine oV (.bool false) ?_
   refine nt ?_
   refine cf ?_
   refine Ql (Qj ?_)
   refine sr ?_
   refine L (nws 154 0 0 [] ?_)
   intro b1
   refine os 1 ?_
   refine SL_sig ((Gs.ent 154 2 (Gs.at b1 0) (([] : List PropP).flatMap propCells)) ++ (σ ++ ([]))) rfl ?_
   refine L (O_append (size := 2) (bytes := 24) (z := .agg #[.string ByteArray.empty, .int .i64 0]) (Gs.at b1 0) 0 l.length (Gs.addr (Gs.at g c)) (Gs.cap (Gs.at g c)) (([] : List PropP).flatMap propCells) (l.flatMap propCells) ((([] : List PropP) ++ l).flatMap propCells) (flat_app _ _) (fun _ => rfl) (fun _ => rfl) Tryz.underlying148 (by kernel_rfl) rfl (by decide) ⟨Nat.le_refl _, by unfold maxLen; omega, rfl⟩ (Gs.ok.len hl) (Gs.src hl (fun e he => (Qa (mem_h (hm _ he))))) (flat_one (fun _ => rfl) _) (by omega) (by decide) rfl ?_)
   intro s2 hks2 hfs2
   rw [show 0 + l.length = (([] : List PropP) ++ l).length from by simp]
   rw [show 0 + l.length = (([] : List PropP) ++ l).length from by simp] at hks2
   have hls2 : (([] : List PropP) ++ l).length = ([] : List PropP).length + l.length := by simp
   refine os 1 ?_
   refine kp [2, 4, 0] ?_
   refine nt ?_
   refine Qi ?_
   refine Qg (Gs.val s2 ((([] : List PropP) ++ l).length)) (fun _ => rfl) ?_
   exact ⟨s2, (ow (S := ((Gs.ent 154 2 s2 ((([] : List PropP) ++ l).flatMap propCells)) ++ (σ ++ ([]))))), rfl, hks2⟩

theorem shapes_New {W0 : World} (n : Int) : SC Tryz.prog W0 29 #[.int .i64 n] [] (Ret (fun F : TreeF => TreeV.ent ⟨.nil, [], []⟩ F) (fun v F => v = .pointer (some ⟨F.p, 0, none⟩) ∧ F.most = if 0 > n then 0 else n)) := by
 refine SC_body (fn := Tryz.f29) (n := 8) Tryz.func29 rfl (by kernel_rfl) (ρ := [(0, .int .i64 n)]) rfl ?_
 refine sr ?_
 refine os 1 ?_
 refine nsr ?_
 refine os 1 ?_
 refine oV (.int .i64 (if 0 > n then 0 else n)) ?_
 refine L (O_new (fun b => .map (some b)) (.map #[] 0) (.map (kvs encU encI ([]))) rfl (by intro δ w; kernel_rfl) rfl ?_)
 intro b1 hlb1 hnb1
 refine oV (.agg #[.int .i64 (if 0 > n then 0 else n), .slice none 0 0, .map (some b1)]) ?_
 refine L (nw 116 3 [.int .i64 (if 0 > n then 0 else n), .slice none 0 0, .map (some b1)] ?_)
 intro b2
 refine os 1 ?_
 refine kp [2, 0] ?_
 refine nt ?_
 refine Qi ?_
 refine Qg (pt b2 0) (fun _ => rfl) ?_
 exact ⟨⟨b2, if 0 > n then 0 else n, b1⟩, (ow (S := ((b2, .cells 116 3 [.int .i64 (if 0 > n then 0 else n), .slice none 0 0, .map (some b1)]) :: ((b1, .map (kvs encU encI ([]))) :: ([]))))), rfl, rfl⟩

theorem shapes_lay_no {W0 : World} {F : TreeF} {V : TreeV} (hV : V.ok F) {ls : Gs} {l : List PropP} (hl : ls.ok 2 l.length (l.flatMap propCells)) (pr : Int) (hfull : F.most ≤ V.l.length) : SC Tryz.prog W0 117 #[.pointer (some ⟨F.p, 0, none⟩), .agg #[.int .u64 pr, ls.val l.length, .map none]] (TreeV.ent V F ++ (Gs.ent 154 2 ls (l.flatMap propCells) ++ [])) (Ret (fun _ : Unit => V.ent F) (fun v _ => v = tw 0 false)) := by
 refine SC_body (fn := Tryz.f117) (n := 34) Tryz.func117 rfl (by kernel_rfl) (ρ := [(0, pt F.p 0), (1, .agg #[.int .u64 pr, Gs.val ls l.length, .map none])]) rfl ?_
 have hmany := hV.many
 refine SW_sig ((F.p, .cells 116 3 [.int .i64 F.most, Gs.val V.s V.l.length, .map (some F.rb)]) :: ((Gs.ent 151 3 V.s (V.l.flatMap ShapeL.cells)) ++ ((V.l.flatMap ShapeL.ent) ++ ((F.rb, .map (kvs encU encI V.roots)) :: ((Gs.ent 154 2 ls (l.flatMap propCells)) ++ ([])))))) (by simp [TreeV.ent]) ?_
 refine sr ?_
 refine L (nw 151 3 [.int .u64 pr, Gs.val ls l.length, .map none] ?_)
 intro b1
 refine os 2 ?_
 refine nq ?_
 refine SW_seq ?_
 refine SW_draw [(F.p, 1, Gs.val V.s V.l.length), (F.p, 0, .int .i64 F.most)] [0, 1, 2, 3, 4, 5, 6, 7, 8] (by kernel_rfl) (Qf (Cell.own (Qc Qe) rfl) (Qf (Cell.own (Qc Qe) rfl) rd_nil)) ?_
 refine aS 0 ?_
 refine aS 1 ?_
 refine aF 2 ?_
 refine aL 3 ?_
 refine aS 4 ?_
 refine aS 5 ?_
 refine aS 6 ?_
 refine aF 7 ?_
 refine aL 8 ?_
 refine aS 9 ?_
 refine kpA [15, 5, 4, 3, 0, 1] ?_
 refine SA_done (by kernel_rfl) (Qj ?_)
 refine SW_true (fun _ => (congrArg Value.bool (show (decide ((V.l.length : Int) ≥ F.most)) = true from by simp; omega))) ?_
 refine sr ?_
 refine os 2 ?_
 refine nt ?_
 refine Qi (Qm ?_)
 refine Qg (.tuple #[.int .i64 0, .bool false]) (fun _ => rfl) ?_
 exact ⟨(), (ow (S := ((F.p, .cells 116 3 [.int .i64 F.most, Gs.val V.s V.l.length, .map (some F.rb)]) :: ((Gs.ent 151 3 V.s (V.l.flatMap ShapeL.cells)) ++ ((V.l.flatMap ShapeL.ent) ++ ((F.rb, .map (kvs encU encI V.roots)) :: ([]))))))), rfl⟩

theorem shapes_lay_yes {W0 : World} {F : TreeF} {V : TreeV} (hV : V.ok F) {ls : Gs} {l : List PropP} (hl : ls.ok 2 l.length (l.flatMap propCells)) (pr : Int) (hfull : ¬ F.most ≤ V.l.length) (hlr : l.length ≤ V.l.length) : SC Tryz.prog W0 117 #[.pointer (some ⟨F.p, 0, none⟩), .agg #[.int .u64 pr, ls.val l.length, .map none]] (TreeV.ent V F ++ (Gs.ent 154 2 ls (l.flatMap propCells) ++ [])) (Ret (fun V' : TreeV => V'.ent F) (fun v V' => v = tw V.l.length true ∧ V'.ok F ∧ ∃ g nb, V' = V.more g ⟨pr, ls, l, nb, []⟩)) := by
 refine SC_body (fn := Tryz.f117) (n := 34) Tryz.func117 rfl (by kernel_rfl) (ρ := [(0, pt F.p 0), (1, .agg #[.int .u64 pr, Gs.val ls l.length, .map none])]) rfl ?_
 have hmany := hV.many
 refine SW_sig ((F.p, .cells 116 3 [.int .i64 F.most, Gs.val V.s V.l.length, .map (some F.rb)]) :: ((Gs.ent 151 3 V.s (V.l.flatMap ShapeL.cells)) ++ ((V.l.flatMap ShapeL.ent) ++ ((F.rb, .map (kvs encU encI V.roots)) :: ((Gs.ent 154 2 ls (l.flatMap propCells)) ++ ([])))))) (by simp [TreeV.ent]) ?_
 refine sr ?_
 refine L (nw 151 3 [.int .u64 pr, Gs.val ls l.length, .map none] ?_)
 intro b1
 refine os 2 ?_
 refine nq ?_
 refine SW_seq ?_
 refine SW_draw [(F.p, 1, Gs.val V.s V.l.length), (F.p, 0, .int .i64 F.most)] [0, 1, 2, 3, 4, 5, 6, 7, 8] (by kernel_rfl) (Qf (Cell.own (Qc Qe) rfl) (Qf (Cell.own (Qc Qe) rfl) rd_nil)) ?_
 refine aS 0 ?_
 refine aS 1 ?_
 refine aF 2 ?_
 refine aL 3 ?_
 refine aS 4 ?_
 refine aS 5 ?_
 refine aS 6 ?_
 refine aF 7 ?_
 refine aL 8 ?_
 refine aS 9 ?_
 refine kpA [15, 5, 4, 3, 0, 1] ?_
 refine SA_done (by kernel_rfl) (Qj ?_)
 refine SW_false (fun _ => (congrArg Value.bool (show (decide ((V.l.length : Int) ≥ F.most)) = false from by simp; omega))) ?_
 refine Ql (Qj ?_)
 refine sr ?_
 refine L (O_new (fun b => .map (some b)) (.map #[] 0) (.map (kvs stepV encI ([]))) rfl (by intro δ w; kernel_rfl) rfl ?_)
 intro b2 hlb2 hnb2
 refine os 1 ?_
 refine L (st [.int .u64 pr, Gs.val ls l.length, .map (some b2)] ?_)
 refine nq ?_
 refine SW_draw [(F.p, 1, Gs.val V.s V.l.length), (b1, 0, .int .u64 pr), (b1, 1, Gs.val ls l.length), (b1, 2, .map (some b2))] [0, 1, 2, 3, 4, 5, 6] (by kernel_rfl) (Qf (Cell.own (Qc (Qc Qe)) rfl) (Qf (Cell.own Qe rfl) (Qf (Cell.own Qe rfl) (Qf (Cell.own Qe rfl) rd_nil)))) ?_
 refine aS 0 ?_
 refine aS 1 ?_
 refine aS 2 ?_
 refine aF 3 ?_
 refine aL 4 ?_
 refine tr 5 (.agg #[.int .u64 pr, Gs.val ls l.length, .map (some b2)]) ?_ (hy := fun δ w_ hr => Rd_loads b1 0 [.int .u64 pr, Gs.val ls l.length, .map (some b2)] rfl (by kernel_rfl) (rdm_cons (List.mem_cons_of_mem _ List.mem_cons_self) (rdm_cons (List.mem_cons_of_mem _ (List.mem_cons_of_mem _ List.mem_cons_self)) (rdm_cons (List.mem_cons_of_mem _ (List.mem_cons_of_mem _ (List.mem_cons_of_mem _ List.mem_cons_self))) rdm_nil))) hr)
 refine sa1 true 6 (h := nws 151 3 1 [.int .u64 pr, Gs.val ls l.length, .map (some b2)] ?_)
 intro b3
 refine ⟨fun hnd => (Qf (Cell.own (Qc (Qc (Qc Qe))) rfl) (Qf (Cell.own (Qc Qe) rfl) (Qf (Cell.own (Qc Qe) rfl) (Qf (Cell.own (Qc Qe) rfl) rd_nil)))), ?_⟩
 refine SA_perm _ (perm_cc (perm_cc (perm_cc (perm_cc perm_cz)))) ?_
 refine sa1 false 7 (h := O_append (size := 3) (bytes := 40) (z := .agg #[.int .u64 0, .slice none 0 0, .map none]) V.s V.l.length 1 (some ⟨b3, 0, none⟩) 1 (V.l.flatMap ShapeL.cells) ([.int .u64 pr, Gs.val ls l.length, .map (some b2)]) ((V.l ++ [(ShapeL.mk pr ls l b2 ([]))]).flatMap ShapeL.cells) (flat_snoc _ (ShapeL.mk pr ls l b2 ([])) rfl) (fun _ => rfl) (fun _ => rfl) Tryz.underlying114 (by kernel_rfl) rfl (by decide) (TreeV.ok.row hV) rfl (.inr ⟨b3, 0, rfl, Cells.own (Qa Qe) rfl⟩) rfl (by omega) (by decide) rfl ?_)
 intro s4 hks4 hfs4
 rw [show V.l.length + 1 = (V.l ++ [(ShapeL.mk pr ls l b2 ([]))]).length from by simp]
 rw [show V.l.length + 1 = (V.l ++ [(ShapeL.mk pr ls l b2 ([]))]).length from by simp] at hks4
 have hls4 : (V.l ++ [(ShapeL.mk pr ls l b2 ([]))]).length = V.l.length + 1 := by simp
 refine ⟨fun hnd => (by cases hnd), ?_⟩
 refine kpA [25, 18, 15, 5, 4, 3, 0, 1] ?_
 refine aS 8 ?_
 refine aF 9 ?_
 refine sa1 false 10 (h := st [.int .i64 F.most, Gs.val s4 ((V.l ++ [(ShapeL.mk pr ls l b2 ([]))]).length), .map (some F.rb)] ?_)
 refine ⟨fun hnd => (by cases hnd), ?_⟩
 refine SA_done (by kernel_rfl) (Qj ?_)
 refine sr ?_
 refine os 3 ?_
 refine kp [30, 15, 5, 4, 3, 0, 1] ?_
 refine L (ld ?_)
 refine os 4 ?_
 refine kp [5, 4, 15, 3, 0, 1] ?_
 refine nt ?_
 refine Qi ?_
 refine Qg (.tuple #[.int .i64 (((((V.l ++ [(ShapeL.mk pr ls l b2 ([]))]).length : Nat)) : Int) - 1), .bool true]) (fun _ => rfl) ?_
 refine ⟨V.more s4 ⟨pr, ls, l, b2, []⟩, ?_, congrArg (fun i => Value.tuple #[.int .i64 i, .bool true]) (by simp), hV.more hks4 hl hlr (by omega), s4, b2, rfl⟩
 · refine Own.trans (ow (S := ((F.p, .cells 116 3 [.int .i64 F.most, Gs.val s4 ((V.l ++ [(ShapeL.mk pr ls l b2 ([]))]).length), .map (some F.rb)]) :: ((Gs.ent 151 3 s4 ((V.l ++ [(ShapeL.mk pr ls l b2 ([]))]).flatMap ShapeL.cells)) ++ ((V.l.flatMap ShapeL.ent) ++ ((Gs.ent 154 2 ls (l.flatMap propCells)) ++ ((b2, .map (kvs stepV encI ([]))) :: ((F.rb, .map (kvs encU encI V.roots)) :: ([]))))))))) ?_
   exact Own.of_perm (List.Perm.of_eq (by simp [TreeV.ent, TreeV.row, ShapeL.ent]))

theorem shapes_Root {W0 : World} {F : TreeF} {V : TreeV} (hV : V.ok F) (pr : Int) : SC Tryz.prog W0 94 #[.pointer (some ⟨F.p, 0, none⟩), .int .u64 pr] (TreeV.ent V F) (Ret (fun V' : TreeV => V'.ent F) (fun v V' => V'.ok F ∧ Keep V V' ∧ ∃ m' ok', v = tw m' ok' ∧ rootP (V.abs F) pr = (V'.abs F, m', ok'))) := by
 refine SC_body (fn := Tryz.f94) (n := 36) Tryz.func94 rfl (by kernel_rfl) (ρ := [(0, pt F.p 0), (1, .int .u64 pr)]) rfl ?_
 refine SW_sig ((TreeV.ent V F) ++ ([])) (by simp only [List.append_nil, List.append_assoc]) ?_
 refine sr ?_
 refine os 2 ?_
 refine nsr ?_
 refine os 3 ?_
 refine L (ld ?_ (hc := Cell.own (mem_h (TreeV.m0 V F)) rfl))
 refine os 1 ?_
 rcases hm1 : mget V.roots pr with _ | m1
 ·refine L (O_lookup2 lawU (e := 3) (m := V.roots) pr (z := .int .i64 0) (by kernel_rfl) (by kernel_rfl) (mem_h (TreeV.m4 V F)) (fun _ => rfl) (fun _ => rfl) (.int .i64 0) false (by rw [hm1]) (by rw [hm1]; rfl) rfl ?_)
  refine os 5 ?_
  refine kp [7, 6, 5, 4, 0, 1] ?_
  refine nq ?_
  refine sr ?_
  refine os 1 ?_
  refine nt ?_
  refine cf ?_
  refine Ql (Qj ?_)
  refine sr ?_
  refine os 2 ?_
  refine oV (.agg #[.int .u64 pr, .slice none 0 0, .map none]) ?_
  by_cases hp2 : F.most ≤ V.l.length
  ·refine SL_sig ((Gs.ent 154 2 Gs.nil (([] : List PropP).flatMap propCells)) ++ ((TreeV.ent V F) ++ ([]))) rfl ?_
   refine L (cl (shapes_lay_no (ls := Gs.nil) (l := ([] : List PropP)) hV ⟨rfl, rfl⟩ pr hp2) ?_)
   rintro _ _ rfl
   refine os 5 ?_
   refine kp [8, 6, 18, 7, 5, 4, 0, 1] ?_
   refine nq ?_
   refine sr ?_
   refine os 1 ?_
   refine nt ?_
   refine cf ?_
   refine Ql (Qj ?_)
   refine sr ?_
   refine os 4 ?_
   refine nt ?_
   refine Qi ?_
   refine Qg (.tuple #[.int .i64 0, .bool false]) (fun _ => rfl) ?_
   exact ⟨V, ow, hV, Keep.refl V, 0, false, rfl, by simp only [rootP, layP, TreeV.abs, hm1, List.length_map, if_pos hp2]⟩
  refine SL_sig ((Gs.ent 154 2 Gs.nil (([] : List PropP).flatMap propCells)) ++ ((TreeV.ent V F) ++ ([]))) rfl ?_
  refine L (cl (shapes_lay_yes (ls := Gs.nil) (l := ([] : List PropP)) hV ⟨rfl, rfl⟩ pr hp2 (Nat.zero_le _)) ?_)
  rintro _ V1 ⟨rfl, hV1, g1, nb1, heV1⟩
  refine os 5 ?_
  refine kp [8, 6, 18, 7, 5, 4, 0, 1] ?_
  refine nq ?_
  refine sr ?_
  refine os 1 ?_
  refine nt ?_
  refine ct ?_
  refine SW_sig ((F.p, .cells 116 3 [.int .i64 F.most, Gs.val V1.s V1.l.length, .map (some F.rb)]) :: ((Gs.ent 151 3 V1.s (V1.l.flatMap ShapeL.cells)) ++ ((V1.l.flatMap ShapeL.ent) ++ ((F.rb, .map (kvs encU encI V1.roots)) :: ([]))))) (by simp only [TreeV.ent, TreeV.row, TreeV.head, List.cons_append, List.append_assoc, List.nil_append]) ?_
  refine Qn ?_
  refine os 3 ?_
  refine L (ld ?_)
  refine os 2 ?_
  refine SL_perm _ (perm_c (perm_a (perm_a perm_z))) ?_
  refine L (O_mapUpdate lawU (e := 3) (m := V1.roots) pr (V.l.length : Int) (by kernel_rfl) (fun _ => rfl) (fun _ => rfl) (fun _ => rfl) rfl ?_)
  refine nsr ?_
  refine os 4 ?_
  refine kp [5, 4, 27, 8, 6, 18, 7, 0, 1] ?_
  refine nt ?_
  refine Qi ?_
  refine Qg (.tuple #[.int .i64 (V.l.length : Int), .bool true]) (fun _ => rfl) ?_
  exact ⟨⟨V1.s, V1.l, mset V1.roots pr V.l.length⟩, (ow (S := ((F.p, .cells 116 3 [.int .i64 F.most, Gs.val V1.s V1.l.length, .map (some F.rb)]) :: ((Gs.ent 151 3 V1.s (V1.l.flatMap ShapeL.cells)) ++ ((V1.l.flatMap ShapeL.ent) ++ ((F.rb, .map (kvs encU encI (mset V1.roots pr (V.l.length : Int)))) :: ([]))))))), hV1.withRoots _, by subst heV1; exact Keep.snoc rfl, V.l.length, true, rfl, by subst heV1; simp only [rootP, layP, TreeV.abs, hm1, List.length_map, if_neg hp2, List.map_append, List.map_cons, List.map_nil, ShapeL.abs]⟩
 refine L (O_lookup2 lawU (e := 3) (m := V.roots) pr (z := .int .i64 0) (by kernel_rfl) (by kernel_rfl) (mem_h (TreeV.m4 V F)) (fun _ => rfl) (fun _ => rfl) (.int .i64 m1) true (by rw [hm1]) (by rw [hm1]; rfl) rfl ?_)
 refine os 5 ?_
 refine kp [7, 6, 5, 4, 0, 1] ?_
 refine nq ?_
 refine sr ?_
 refine os 1 ?_
 refine nt ?_
 refine ct ?_
 refine sr ?_
 refine os 3 ?_
 refine nt ?_
 refine Qi (Qm ?_)
 refine Qg (.tuple #[.int .i64 m1, .bool true]) (fun _ => rfl) ?_
 exact ⟨V, ow, hV, Keep.refl V, m1, true, rfl, by simp only [rootP, TreeV.abs, hm1]⟩

end Go.Proofs.YthflblophelioaaGreatDoor
namespace Go.Proofs.YthflblophelioaaGreatDoor
open Go.Sl

theorem shapes_way {W0 : World} {F : TreeF} {V : TreeV} (hV : V.ok F) (n : Int) (hn : 0 ≤ n ∧ n < V.l.length) (c : Bool) (k : ByteArray) (f : Int) {ls : Gs} {l : List PropP} (hl : ls.ok 2 l.length (l.flatMap propCells)) (hlr : l.length ≤ V.l.length) {m : Nat} (hm : m = l.length) : SC Tryz.prog W0 122 #[.pointer (some ⟨F.p, 0, none⟩), .int .i64 n, .agg #[.bool c, .string k, .int .i64 f], ls.val m] (TreeV.ent V F ++ (Gs.ent 154 2 ls (l.flatMap propCells) ++ [])) (Ret (fun V' : TreeV => V'.ent F) (fun v V' => V'.ok F ∧ Keep V V' ∧ ∃ m' ok', v = tw m' ok' ∧ wayP (V.abs F) n.toNat (c, k, f) l = (V'.abs F, m', ok'))) := by
 subst hm
 refine SC_body (fn := Tryz.f122) (n := 56) Tryz.func122 rfl (by kernel_rfl) (ρ := [(0, pt F.p 0), (1, .int .i64 n), (2, .agg #[.bool c, .string k, .int .i64 f]), (3, Gs.val ls l.length)]) rfl ?_
 refine SW_sig ((TreeV.ent V F) ++ ((Gs.ent 154 2 ls (l.flatMap propCells)) ++ ([]))) (by simp only [List.append_nil, List.append_assoc]) ?_
 obtain ⟨e0, he0⟩ : ∃ x, V.l[n.toNat]? = some x := ⟨_, List.getElem?_eq_getElem (by omega)⟩
 refine sr ?_
 refine L (nw 184 3 [.bool c, .string k, .int .i64 f] ?_)
 intro b1
 refine os 2 ?_
 refine nq ?_
 refine SW_draw [(F.p, 1, Gs.val V.s V.l.length), ((Gs.blk V.s), n.toNat * 3 + 2, .map (some e0.nb)), (b1, 0, .bool c), (b1, 1, .string k), (b1, 2, .int .i64 f)] [0, 1, 2, 3, 4, 5, 6, 7, 8] (by kernel_rfl) (Qf (Cell.own (Qc (mem_h (TreeV.m0 V F))) rfl) (Qf (Gs.cell (TreeV.ok.row hV) (fun e he => (Qc (mem_h ((TreeV.m1 V F) _ he)))) (Qh ShapeL.len he0 (j := 2) (by decide) rfl)) (Qf (Cell.own Qe rfl) (Qf (Cell.own Qe rfl) (Qf (Cell.own Qe rfl) rd_nil))))) ?_
 refine aS 0 ?_
 refine aS 1 ?_
 refine aF 2 ?_
 refine aL 3 ?_
 refine aS 4 ?_
 refine aI 5 n (n.toNat * 3) (TreeV.ok.row hV) Tryz.underlying114 ?_
 refine aF 6 ?_
 refine aL 7 ?_
 refine tr 8 (.agg #[.bool c, .string k, .int .i64 f]) ?_ (hy := fun δ w_ hr => Rd_loads b1 0 [.bool c, .string k, .int .i64 f] rfl (by kernel_rfl) (rdm_cons (List.mem_cons_of_mem _ (List.mem_cons_of_mem _ List.mem_cons_self)) (rdm_cons (List.mem_cons_of_mem _ (List.mem_cons_of_mem _ (List.mem_cons_of_mem _ List.mem_cons_self))) (rdm_cons (List.mem_cons_of_mem _ (List.mem_cons_of_mem _ (List.mem_cons_of_mem _ (List.mem_cons_of_mem _ List.mem_cons_self)))) rdm_nil))) hr)
 rcases hm2 : mget e0.next (c, k, f) with _ | m2
 ·refine sa1 false 9 (h := O_lookup2 lawStep (e := 3) (m := e0.next) (c, k, f) (z := .int .i64 0) (by kernel_rfl) (by kernel_rfl) (Qc (mem_h (TreeV.m3 F he0))) (fun _ => rfl) (fun _ => rfl) (.int .i64 0) false (by rw [hm2]) (by rw [hm2]; rfl) rfl ?_)
  refine ⟨fun hnd => (by cases hnd), ?_⟩
  refine kpA [23, 9, 8, 6, 0, 1, 2, 3] ?_
  refine aS 10 ?_
  refine aS 11 ?_
  refine aS 12 ?_
  refine aS 13 ?_
  refine aS 14 ?_
  refine SA_done (by kernel_rfl) (Qj ?_)
  refine SW_seq ?_
  refine sr ?_
  refine os 1 ?_
  refine kp [26, 11, 10, 9, 8, 6, 0, 1, 2, 3] ?_
  refine nt ?_
  refine cf ?_
  refine Ql (Qj ?_)
  refine sr ?_
  refine os 4 ?_
  refine L (ld ?_ (hc := Cell.own (Qc (mem_h (TreeV.m0 V F))) rfl))
  refine os 1 ?_
  refine L (ixg n (n.toNat * 3) (TreeV.ok.row hV) Tryz.underlying114 ?_)
  refine os 1 ?_
  refine kp [36, 29, 26, 11, 10, 9, 8, 6, 0, 1, 2, 3] ?_
  refine L (ld ?_ (hc := Gs.cell (TreeV.ok.row hV) (fun e he => (Qc (mem_h ((TreeV.m1 V F) _ he)))) (Qh ShapeL.len he0 (j := 0) (by decide) rfl)))
  refine os 1 ?_
  refine oV (.agg #[.int .u64 e0.proto, Gs.val ls l.length, .map none]) ?_
  by_cases hp3 : F.most ≤ V.l.length
  ·refine L (cl (shapes_lay_no (ls := ls) (l := l) hV hl e0.proto hp3) ?_)
   rintro _ _ rfl
   refine os 5 ?_
   refine kp [12, 10, 26, 11, 9, 8, 6, 0, 1, 2, 3] ?_
   refine nq ?_
   refine sr ?_
   refine os 1 ?_
   refine nt ?_
   refine cf ?_
   refine Ql (Qj ?_)
   refine sr ?_
   refine os 4 ?_
   refine nt ?_
   refine Qi ?_
   refine Qg (.tuple #[.int .i64 0, .bool false]) (fun _ => rfl) ?_
   exact ⟨V, ow, hV, Keep.refl V, 0, false, rfl, by simp only [wayP, TreeV.abs_at F he0, ShapeL.abs, hm2, layP, TreeV.abs_len, if_pos (show (V.abs F).most ≤ V.l.length from hp3)]⟩
  refine L (cl (shapes_lay_yes (ls := ls) (l := l) hV hl e0.proto hp3 hlr) ?_)
  rintro _ V1 ⟨rfl, hV1, g1, nb1, heV1⟩
  have he1 : V1.l[n.toNat]? = some e0 := by rw [heV1]; exact (List.getElem?_append_left (List.getElem?_eq_some_iff.1 he0).1).trans he0
  have hlV1 : V1.l.length = V.l.length + 1 := by rw [heV1]; simp
  refine os 5 ?_
  refine kp [12, 10, 26, 11, 9, 8, 6, 0, 1, 2, 3] ?_
  refine nq ?_
  refine sr ?_
  refine os 1 ?_
  refine nt ?_
  refine ct ?_
  refine SW_perm ((F.p, .cells 116 3 [.int .i64 F.most, Gs.val V1.s V1.l.length, .map (some F.rb)]) :: ((Gs.ent 151 3 V1.s (V1.l.flatMap ShapeL.cells)) ++ ((Gs.ent 154 2 e0.ls (e0.l.flatMap propCells)) ++ ((e0.nb, .map (kvs stepV encI e0.next)) :: (((V1.l.eraseIdx n.toNat).flatMap ShapeL.ent) ++ ((F.rb, .map (kvs encU encI V1.roots)) :: ((b1, .cells 184 3 [.bool c, .string k, .int .i64 f]) :: ([])))))))) (TreeV.focus F he1 _) ?_
  refine SW_draw [(F.p, 1, Gs.val V1.s V1.l.length), ((Gs.blk V1.s), n.toNat * 3 + 2, .map (some e0.nb)), (b1, 0, .bool c), (b1, 1, .string k), (b1, 2, .int .i64 f)] [0, 1, 2, 3, 4, 5, 6, 7, 8, 9] (by kernel_rfl) (Qf (Cell.own Qe rfl) (Qf (Gs.cell (TreeV.ok.row hV1) (fun e he => (Qc (mem_h he))) (Qh ShapeL.len he1 (j := 2) (by decide) rfl)) (Qf (Cell.own (Qc (Qa (Qa (Qc (Qa (Qc Qe)))))) rfl) (Qf (Cell.own (Qc (Qa (Qa (Qc (Qa (Qc Qe)))))) rfl) (Qf (Cell.own (Qc (Qa (Qa (Qc (Qa (Qc Qe)))))) rfl) rd_nil))))) ?_
  refine aS 0 ?_
  refine aS 1 ?_
  refine aF 2 ?_
  refine aL 3 ?_
  refine aS 4 ?_
  refine aI 5 n (n.toNat * 3) (TreeV.ok.row hV1) Tryz.underlying114 ?_
  refine aF 6 ?_
  refine aL 7 ?_
  refine tr 8 (.agg #[.bool c, .string k, .int .i64 f]) ?_ (hy := fun δ w_ hr => Rd_loads b1 0 [.bool c, .string k, .int .i64 f] rfl (by kernel_rfl) (rdm_cons (List.mem_cons_of_mem _ (List.mem_cons_of_mem _ List.mem_cons_self)) (rdm_cons (List.mem_cons_of_mem _ (List.mem_cons_of_mem _ (List.mem_cons_of_mem _ List.mem_cons_self))) (rdm_cons (List.mem_cons_of_mem _ (List.mem_cons_of_mem _ (List.mem_cons_of_mem _ (List.mem_cons_of_mem _ List.mem_cons_self)))) rdm_nil))) hr)
  refine aS 9 ?_
  refine SA_perm _ (perm_c (perm_a (perm_a perm_z))) ?_
  refine sa1 false 10 (h := O_mapUpdate lawStep (e := 3) (m := e0.next) (c, k, f) (V.l.length : Int) (by kernel_rfl) (fun _ => rfl) (fun _ => rfl) (fun _ => rfl) rfl ?_)
  refine ⟨fun hnd => (by cases hnd), ?_⟩
  refine kpA [43, 12, 10, 26, 11, 9, 8, 6, 0, 1, 2, 3] ?_
  refine SA_done (by kernel_rfl) (Qj ?_)
  refine sr ?_
  refine os 4 ?_
  refine nt ?_
  refine Qi ?_
  refine Qg (.tuple #[.int .i64 (V.l.length : Int), .bool true]) (fun _ => rfl) ?_
  refine ⟨V1.next n.toNat e0 (mset e0.next (c, k, f) V.l.length), ?_, hV1.next he1 _, ?_, V.l.length, true, rfl, ?_⟩
  · refine Own.trans (ow (S := ((F.p, .cells 116 3 [.int .i64 F.most, Gs.val V1.s V1.l.length, .map (some F.rb)]) :: ((Gs.ent 151 3 V1.s (V1.l.flatMap ShapeL.cells)) ++ ((Gs.ent 154 2 e0.ls (e0.l.flatMap propCells)) ++ ((e0.nb, .map (kvs stepV encI (mset e0.next (c, k, f) (V.l.length : Int)))) :: (((V1.l.eraseIdx n.toNat).flatMap ShapeL.ent) ++ ((F.rb, .map (kvs encU encI V1.roots)) :: ([]))))))))) ?_
    exact Own.of_perm (by simpa using TreeV.unfocus F he1 (mset e0.next (c, k, f) V.l.length) [])
  · exact Keep.trans (by subst heV1; exact Keep.snoc rfl) (Keep.set he1 rfl)
  · subst heV1
    simp only [wayP, TreeV.abs_at F he0, ShapeL.abs, hm2, layP, TreeV.abs_len, if_neg (show ¬ (V.abs F).most ≤ V.l.length from hp3)]
    simp [TreeV.abs, List.map_set, ShapeL.abs]
 refine sa1 false 9 (h := O_lookup2 lawStep (e := 3) (m := e0.next) (c, k, f) (z := .int .i64 0) (by kernel_rfl) (by kernel_rfl) (Qc (mem_h (TreeV.m3 F he0))) (fun _ => rfl) (fun _ => rfl) (.int .i64 m2) true (by rw [hm2]) (by rw [hm2]; rfl) rfl ?_)
 refine ⟨fun hnd => (by cases hnd), ?_⟩
 refine kpA [23, 9, 8, 6, 0, 1, 2, 3] ?_
 refine aS 10 ?_
 refine aS 11 ?_
 refine aS 12 ?_
 refine aS 13 ?_
 refine aS 14 ?_
 refine SA_done (by kernel_rfl) (Qj ?_)
 refine SW_seq ?_
 refine sr ?_
 refine os 1 ?_
 refine kp [26, 11, 10, 9, 8, 6, 0, 1, 2, 3] ?_
 refine nt ?_
 refine ct ?_
 refine sr ?_
 refine os 3 ?_
 refine nt ?_
 refine Qi (Qm ?_)
 refine Qg (.tuple #[.int .i64 m2, .bool true]) (fun _ => rfl) ?_
 exact ⟨V, ow, hV, Keep.refl V, m2, true, rfl, by simp only [wayP, TreeV.abs_at F he0, ShapeL.abs, hm2]⟩

theorem shapes_Add {W0 : World} {F : TreeF} {V : TreeV} (hV : V.ok F) (n : Int) (key : ByteArray) (flags : Int) : SC Tryz.prog W0 101 #[.pointer (some ⟨F.p, 0, none⟩), .int .i64 n, .string key, .int .i64 flags] (TreeV.ent V F) (Ret (fun V' : TreeV => V'.ent F) (fun v V' => V'.ok F ∧ Keep V V' ∧ ∃ m' ok', v = tw m' ok' ∧ addP (V.abs F) n key flags = (V'.abs F, m', ok'))) := by
 refine SC_body (fn := Tryz.f101) (n := 49) Tryz.func101 rfl (by kernel_rfl) (ρ := [(0, pt F.p 0), (1, .int .i64 n), (2, .string key), (3, .int .i64 flags)]) rfl ?_
 refine SW_sig ((TreeV.ent V F) ++ ([])) (by simp only [List.append_nil, List.append_assoc]) ?_
 refine sr ?_
 refine os 2 ?_
 refine nq ?_
 refine sr ?_
 refine os 2 ?_
 refine L (cl (shapes_there hV n) ?_)
 rintro _ _ rfl
 refine os 2 ?_
 refine tb 15 (fun hg1 => ?_) (fun hg1 => ?_)
 ·replace hg1 : (!(decide (0 ≤ n ∧ n < V.l.length))) = true := hg1
  replace hg1 := bnot_t hg1
  replace hg1 := of_decide_eq_false hg1
  refine os 11 ?_
  refine kp [26, 9, 8, 0, 1, 2, 3] ?_
  refine nt ?_
  refine ct ?_
  refine sr ?_
  refine os 2 ?_
  refine nt ?_
  refine Qi (Qm ?_)
  refine Qg (.tuple #[.int .i64 0, .bool false]) (fun _ => rfl) ?_
  exact ⟨V, ow, hV, Keep.refl V, 0, false, rfl, by simp only [addP, shapeAt_out F hg1]⟩
 replace hg1 : (!(decide (0 ≤ n ∧ n < V.l.length))) = false := hg1
 replace hg1 := bnot_f hg1
 replace hg1 := of_decide_eq_true hg1
 refine os 3 ?_
 refine kp [18, 15, 9, 8, 0, 1, 2, 3] ?_
 refine L (ld ?_ (hc := Cell.own (mem_h (TreeV.m0 V F)) rfl))
 refine os 1 ?_
 refine L (ixg n (n.toNat * 3) (TreeV.ok.row hV) Tryz.underlying114 ?_)
 obtain ⟨e1, he1⟩ : ∃ y_, V.l[n.toNat]? = some y_ := ⟨_, List.getElem?_eq_getElem (by omega)⟩
 refine L (ldr [.int .u64 e1.proto, Gs.val e1.ls e1.l.length, .map (some e1.nb)] (Qb (Gs.cell (TreeV.ok.row hV) (fun e he => (mem_h ((TreeV.m1 V F) _ he))) (Qh ShapeL.len he1 (j := 0) (by decide) rfl)) (Qb (Gs.cell (TreeV.ok.row hV) (fun e he => (mem_h ((TreeV.m1 V F) _ he))) (Qh ShapeL.len he1 (j := 1) (by decide) rfl)) (Qb (Gs.cell (TreeV.ok.row hV) (fun e he => (mem_h ((TreeV.m1 V F) _ he))) (Qh ShapeL.len he1 (j := 2) (by decide) rfl)) Qo))) ?_)
 refine os 1 ?_
 refine L (cl (shapes_place (σ := (TreeV.ent V F)) (TreeV.ok.at hV he1) (TreeV.m2 F he1) e1.proto e1.nb key) ?_)
 rintro _ _ rfl
 refine os 2 ?_
 refine kp [26, 9, 8, 0, 1, 2, 3] ?_
 refine nt ?_
 refine cdp (fun hc2 : (keyIx e1.l key) ≥ 0 => ?_) (fun hc2 => ?_)
 ·refine sr ?_
  refine os 2 ?_
  refine nt ?_
  refine Qi (Qm ?_)
  refine Qg (.tuple #[.int .i64 0, .bool false]) (fun _ => rfl) ?_
  exact ⟨V, ow, hV, Keep.refl V, 0, false, rfl, by simp only [addP, shapeAt_in F hg1 he1, ShapeL.abs, if_pos hc2]⟩
 refine Ql (Qj ?_)
 refine SW_seq ?_
 have hrm0 := hV.room _ _ he1
 have hmany := hV.many
 have hrm : e1.l.length ≤ 1099511627776 := by omega
 refine Qn ?_
 refine os 2 ?_
 refine oV (.agg #[.string key, .int .i64 flags]) ?_
 refine L (nw 154 2 [.string ByteArray.empty, .int .i64 0] ?_)
 intro b3
 refine L (st [.string key, .int .i64 flags] ?_)
 refine nq ?_
 refine SW_draw [(b3, 0, .string key), (b3, 1, .int .i64 flags), (F.p, 1, Gs.val V.s V.l.length), ((Gs.blk V.s), n.toNat * 3 + 1, Gs.val e1.ls e1.l.length), (b3, 0, .string key), (b3, 1, .int .i64 flags)] [0, 1, 2, 3, 4, 5, 6, 7, 8, 9, 10, 11, 12, 13, 14, 15] (by kernel_rfl) (Qf (Cell.own Qe rfl) (Qf (Cell.own Qe rfl) (Qf (Cell.own (Qc (mem_h (TreeV.m0 V F))) rfl) (Qf (Gs.cell (TreeV.ok.row hV) (fun e he => (Qc (mem_h ((TreeV.m1 V F) _ he)))) (Qh ShapeL.len he1 (j := 1) (by decide) rfl)) (Qf (Cell.own Qe rfl) (Qf (Cell.own Qe rfl) rd_nil)))))) ?_
 refine aS 0 ?_
 refine aS 1 ?_
 refine tr 2 (.agg #[.string key, .int .i64 flags]) ?_ (hy := fun δ w_ hr => Rd_loads b3 0 [.string key, .int .i64 flags] rfl (by kernel_rfl) (rdm_cons List.mem_cons_self (rdm_cons (List.mem_cons_of_mem _ List.mem_cons_self) rdm_nil)) hr)
 refine tk 3 (.agg #[.bool false, .string key, .int .i64 flags]) ?_
 refine aS 4 ?_
 refine aS 5 ?_
 refine aF 6 ?_
 refine aL 7 ?_
 refine aS 8 ?_
 refine aI 9 n (n.toNat * 3) (TreeV.ok.row hV) Tryz.underlying114 ?_
 refine kpA [39, 33, 31, 30, 10, 26, 9, 8, 0, 1, 2, 3] ?_
 refine aF 10 ?_
 refine aL 11 ?_
 refine tr 13 (.agg #[.string key, .int .i64 flags]) ?_ (hy := fun δ w_ hr => Rd_loads b3 0 [.string key, .int .i64 flags] rfl (by kernel_rfl) (rdm_cons List.mem_cons_self (rdm_cons (List.mem_cons_of_mem _ List.mem_cons_self) rdm_nil)) hr)
 refine SA_two true true (li1 := #[true, true, true, true, true, true, true, true, true, true, true, true, true, true, false, false, false, false, false, false, false]) (li2 := #[true, true, true, true, true, true, true, true, true, true, true, true, false, true, true, false, false, false, false, false, false]) 12 14 _ _ rfl rfl rfl (by kernel_rfl) ⟨rfl, fun _ => rfl⟩ ⟨rfl, fun _ => rfl⟩ rfl rfl ?_ ?_
 ·refine cl (shapes_Clone (σ := (TreeV.ent V F)) (TreeV.ok.at hV he1) (TreeV.m2 F he1) hrm) ?_
  rintro _ cs3 ⟨rfl, hcs3⟩
  try simp only [List.cons_append, List.append_assoc, List.nil_append]
  refine ⟨fun hnd => (Qf (Cell.own (Qa (Qa Qe)) rfl) (Qf (Cell.own (Qa (Qa Qe)) rfl) (Qf (Cell.own (Qa (mem_h (TreeV.m0 V F))) rfl) (Qf (Gs.cell (TreeV.ok.row hV) (fun e he => (Qa (mem_h ((TreeV.m1 V F) _ he)))) (Qh ShapeL.len he1 (j := 1) (by decide) rfl)) (Qf (Cell.own (Qa (Qa Qe)) rfl) (Qf (Cell.own (Qa (Qa Qe)) rfl) rd_nil)))))), ?_⟩
  refine sa1 true 14 (h := nws 154 2 1 [.string key, .int .i64 flags] ?_)
  intro b4
  refine ⟨fun hnd => (Qf (Cell.own (Qc (Qa (Qa Qe))) rfl) (Qf (Cell.own (Qc (Qa (Qa Qe))) rfl) (Qf (Cell.own (Qc (Qa (mem_h (TreeV.m0 V F)))) rfl) (Qf (Gs.cell (TreeV.ok.row hV) (fun e he => (Qc (Qa (mem_h ((TreeV.m1 V F) _ he))))) (Qh ShapeL.len he1 (j := 1) (by decide) rfl)) (Qf (Cell.own (Qc (Qa (Qa Qe))) rfl) (Qf (Cell.own (Qc (Qa (Qa Qe))) rfl) rd_nil)))))), ?_⟩
  refine SA_perm _ (perm_cc perm_cz) ?_
  refine sa1 true 15 (h := O_append (size := 2) (bytes := 24) (z := .agg #[.string ByteArray.empty, .int .i64 0]) cs3 e1.l.length 1 (some ⟨b4, 0, none⟩) 1 (e1.l.flatMap propCells) ([.string key, .int .i64 flags]) ((e1.l ++ [(key, flags)]).flatMap propCells) (flat_snoc _ (key, flags) rfl) (fun _ => rfl) (fun _ => rfl) Tryz.underlying148 (by kernel_rfl) rfl (by decide) hcs3 rfl (.inr ⟨b4, 0, rfl, Cells.own (Qa Qe) rfl⟩) rfl (by omega) (by decide) rfl ?_)
  intro s5 hks5 hfs5
  rw [show e1.l.length + 1 = (e1.l ++ [(key, flags)]).length from by simp]
  rw [show e1.l.length + 1 = (e1.l ++ [(key, flags)]).length from by simp] at hks5
  have hls5 : (e1.l ++ [(key, flags)]).length = e1.l.length + 1 := by simp
  refine ⟨fun hnd => (Qf (Cell.own (Qa (Qc (Qa Qe))) rfl) (Qf (Cell.own (Qa (Qc (Qa Qe))) rfl) (Qf (Cell.own (Qa (Qc (mem_h (TreeV.m0 V F)))) rfl) (Qf (Gs.cell (TreeV.ok.row hV) (fun e he => (Qa (Qc (mem_h ((TreeV.m1 V F) _ he))))) (Qh ShapeL.len he1 (j := 1) (by decide) rfl)) (Qf (Cell.own (Qa (Qc (Qa Qe))) rfl) (Qf (Cell.own (Qa (Qc (Qa Qe))) rfl) rd_nil)))))), ?_⟩
  refine sa1 false 16 (h := cl (shapes_way (ls := s5) (l := (e1.l ++ [(key, flags)])) (m := (e1.l ++ [(key, flags)]).length) hV n hg1 false key flags hks5 (by simp only [List.length_append, List.length_singleton]; omega) (by simp)) ?_)
  rintro _ V3 ⟨hV3, hkV3, rV3, okV3, rfl, hrV3⟩
  refine ⟨fun hnd => (by cases hnd), ?_⟩
  refine kpA [46, 10, 26, 9, 8, 0, 1, 2, 3] ?_
  refine aS 17 ?_
  refine aS 18 ?_
  refine aS 19 ?_
  refine aS 20 ?_
  refine SA_done (by kernel_rfl) (Qj ?_)
  refine Qi ?_
  refine Qg (.tuple #[.int .i64 rV3, .bool okV3]) (fun _ => rfl) ?_
  exact ⟨V3, ow, hV3, hkV3, rV3, okV3, rfl, by simp only [addP, shapeAt_in F hg1 he1, ShapeL.abs, if_neg hc2]; exact hrV3⟩
 refine nws 154 2 1 [.string key, .int .i64 flags] ?_
 intro b6
 refine ⟨fun hnd => (Qf (Cell.own (Qc Qe) rfl) (Qf (Cell.own (Qc Qe) rfl) (Qf (Cell.own (Qc (Qc (mem_h (TreeV.m0 V F)))) rfl) (Qf (Gs.cell (TreeV.ok.row hV) (fun e he => (Qc (Qc (mem_h ((TreeV.m1 V F) _ he))))) (Qh ShapeL.len he1 (j := 1) (by decide) rfl)) (Qf (Cell.own (Qc Qe) rfl) (Qf (Cell.own (Qc Qe) rfl) rd_nil)))))), ?_⟩
 refine sa1 true 12 (h := cl (shapes_Clone (σ := (TreeV.ent V F)) (TreeV.ok.at hV he1) (TreeV.m2 F he1) hrm) ?_)
 rintro _ cs4 ⟨rfl, hcs4⟩
 try simp only [List.cons_append, List.append_assoc, List.nil_append]
 refine ⟨fun hnd => (Qf (Cell.own (Qa (Qa (Qc Qe))) rfl) (Qf (Cell.own (Qa (Qa (Qc Qe))) rfl) (Qf (Cell.own (Qa (mem_h (TreeV.m0 V F))) rfl) (Qf (Gs.cell (TreeV.ok.row hV) (fun e he => (Qa (mem_h ((TreeV.m1 V F) _ he)))) (Qh ShapeL.len he1 (j := 1) (by decide) rfl)) (Qf (Cell.own (Qa (Qa (Qc Qe))) rfl) (Qf (Cell.own (Qa (Qa (Qc Qe))) rfl) rd_nil)))))), ?_⟩
 refine sa1 true 15 (h := O_append (size := 2) (bytes := 24) (z := .agg #[.string ByteArray.empty, .int .i64 0]) cs4 e1.l.length 1 (some ⟨b6, 0, none⟩) 1 (e1.l.flatMap propCells) ([.string key, .int .i64 flags]) ((e1.l ++ [(key, flags)]).flatMap propCells) (flat_snoc _ (key, flags) rfl) (fun _ => rfl) (fun _ => rfl) Tryz.underlying148 (by kernel_rfl) rfl (by decide) hcs4 rfl (.inr ⟨b6, 0, rfl, Cells.own (Qa (Qa Qe)) rfl⟩) rfl (by omega) (by decide) rfl ?_)
 intro s7 hks7 hfs7
 rw [show e1.l.length + 1 = (e1.l ++ [(key, flags)]).length from by simp]
 rw [show e1.l.length + 1 = (e1.l ++ [(key, flags)]).length from by simp] at hks7
 have hls7 : (e1.l ++ [(key, flags)]).length = e1.l.length + 1 := by simp
 refine ⟨fun hnd => (Qf (Cell.own (Qa (Qa (Qc Qe))) rfl) (Qf (Cell.own (Qa (Qa (Qc Qe))) rfl) (Qf (Cell.own (Qa (mem_h (TreeV.m0 V F))) rfl) (Qf (Gs.cell (TreeV.ok.row hV) (fun e he => (Qa (mem_h ((TreeV.m1 V F) _ he)))) (Qh ShapeL.len he1 (j := 1) (by decide) rfl)) (Qf (Cell.own (Qa (Qa (Qc Qe))) rfl) (Qf (Cell.own (Qa (Qa (Qc Qe))) rfl) rd_nil)))))), ?_⟩
 refine sa1 false 16 (h := cl (shapes_way (ls := s7) (l := (e1.l ++ [(key, flags)])) (m := (e1.l ++ [(key, flags)]).length) hV n hg1 false key flags hks7 (by simp only [List.length_append, List.length_singleton]; omega) (by simp)) ?_)
 rintro _ V4 ⟨hV4, hkV4, rV4, okV4, rfl, hrV4⟩
 refine ⟨fun hnd => (by cases hnd), ?_⟩
 refine kpA [46, 10, 26, 9, 8, 0, 1, 2, 3] ?_
 refine aS 17 ?_
 refine aS 18 ?_
 refine aS 19 ?_
 refine aS 20 ?_
 refine SA_done (by kernel_rfl) (Qj ?_)
 refine Qi ?_
 refine Qg (.tuple #[.int .i64 rV4, .bool okV4]) (fun _ => rfl) ?_
 exact ⟨V4, ow, hV4, hkV4, rV4, okV4, rfl, by simp only [addP, shapeAt_in F hg1 he1, ShapeL.abs, if_neg hc2]; exact hrV4⟩

theorem shapes_Change {W0 : World} {F : TreeF} {V : TreeV} (hV : V.ok F) (n : Int) (key : ByteArray) (flags : Int) : SC Tryz.prog W0 98 #[.pointer (some ⟨F.p, 0, none⟩), .int .i64 n, .string key, .int .i64 flags] (TreeV.ent V F) (Ret (fun V' : TreeV => V'.ent F) (fun v V' => V'.ok F ∧ Keep V V' ∧ ∃ m' ok', v = tw m' ok' ∧ changeP (V.abs F) n key flags = (V'.abs F, m', ok'))) := by
 refine SC_body (fn := Tryz.f98) (n := 67) Tryz.func98 rfl (by kernel_rfl) (ρ := [(0, pt F.p 0), (1, .int .i64 n), (2, .string key), (3, .int .i64 flags)]) rfl ?_
 refine SW_sig ((TreeV.ent V F) ++ ([])) (by simp only [List.append_nil, List.append_assoc]) ?_
 refine sr ?_
 refine os 2 ?_
 refine nq ?_
 refine sr ?_
 refine os 2 ?_
 refine L (cl (shapes_there hV n) ?_)
 rintro _ _ rfl
 refine os 1 ?_
 refine kp [15, 9, 8, 0, 1, 2, 3] ?_
 refine nt ?_
 refine cd (fun hc1 : (!(decide (0 ≤ n ∧ n < V.l.length))) = true => ?_) (fun hc1 => ?_)
 ·replace hc1 := bnot_t hc1
  replace hc1 := of_decide_eq_false hc1
  refine sr ?_
  refine os 2 ?_
  refine nt ?_
  refine Qi (Qm ?_)
  refine Qg (.tuple #[.int .i64 0, .bool false]) (fun _ => rfl) ?_
  exact ⟨V, ow, hV, Keep.refl V, 0, false, rfl, by simp only [changeP, shapeAt_out F hc1]⟩
 replace hc1 := bnot_f hc1
 replace hc1 := of_decide_eq_true hc1
 refine Ql (Qj ?_)
 refine sr ?_
 refine os 3 ?_
 refine L (ld ?_ (hc := Cell.own (mem_h (TreeV.m0 V F)) rfl))
 refine os 1 ?_
 refine L (ixg n (n.toNat * 3) (TreeV.ok.row hV) Tryz.underlying114 ?_)
 obtain ⟨e1, he1⟩ : ∃ y_, V.l[n.toNat]? = some y_ := ⟨_, List.getElem?_eq_getElem (by omega)⟩
 refine L (ldr [.int .u64 e1.proto, Gs.val e1.ls e1.l.length, .map (some e1.nb)] (Qb (Gs.cell (TreeV.ok.row hV) (fun e he => (mem_h ((TreeV.m1 V F) _ he))) (Qh ShapeL.len he1 (j := 0) (by decide) rfl)) (Qb (Gs.cell (TreeV.ok.row hV) (fun e he => (mem_h ((TreeV.m1 V F) _ he))) (Qh ShapeL.len he1 (j := 1) (by decide) rfl)) (Qb (Gs.cell (TreeV.ok.row hV) (fun e he => (mem_h ((TreeV.m1 V F) _ he))) (Qh ShapeL.len he1 (j := 2) (by decide) rfl)) Qo))) ?_)
 refine os 1 ?_
 refine kp [23, 22, 15, 9, 8, 0, 1, 2, 3] ?_
 refine L (cl (shapes_place (σ := (TreeV.ent V F)) (TreeV.ok.at hV he1) (TreeV.m2 F he1) e1.proto e1.nb key) ?_)
 rintro _ _ rfl
 refine os 1 ?_
 refine kp [10, 15, 9, 8, 0, 1, 2, 3] ?_
 refine nq ?_
 refine sr ?_
 refine os 2 ?_
 refine nt ?_
 refine cdp (fun hc2 : (keyIx e1.l key) < 0 => ?_) (fun hc2 => ?_)
 ·refine sr ?_
  refine os 2 ?_
  refine nt ?_
  refine Qi (Qm ?_)
  refine Qg (.tuple #[.int .i64 0, .bool false]) (fun _ => rfl) ?_
  exact ⟨V, ow, hV, Keep.refl V, 0, false, rfl, by simp only [changeP, shapeAt_in F hc1 he1, ShapeL.abs, if_pos hc2]⟩
 have hix : keyIx e1.l key < e1.l.length := keyIx_lt (by omega)
 refine Ql (Qj ?_)
 refine SW_seq ?_
 refine sr ?_
 refine os 3 ?_
 refine L (ld ?_ (hc := Cell.own (mem_h (TreeV.m0 V F)) rfl))
 refine os 1 ?_
 refine L (ixg n (n.toNat * 3) (TreeV.ok.row hV) Tryz.underlying114 ?_)
 refine os 1 ?_
 refine kp [33, 26, 10, 15, 9, 8, 0, 1, 2, 3] ?_
 refine L (ld ?_ (hc := Gs.cell (TreeV.ok.row hV) (fun e he => (mem_h ((TreeV.m1 V F) _ he))) (Qh ShapeL.len he1 (j := 1) (by decide) rfl)))
 refine os 1 ?_
 refine L (ixg (keyIx e1.l key) (((keyIx e1.l key).toNat) * 2) (TreeV.ok.at hV he1) Tryz.underlying148 ?_)
 refine os 1 ?_
 obtain ⟨e2, he2⟩ : ∃ y_, e1.l[((keyIx e1.l key).toNat)]? = some y_ := ⟨_, List.getElem?_eq_getElem (by omega)⟩
 refine L (ld ?_ (hc := Gs.cell (TreeV.ok.at hV he1) (fun e he => (mem_h ((TreeV.m2 F he1) _ he))) (Qh propCells_len he2 (j := 1) (by decide) rfl)))
 refine os 2 ?_
 refine kp [40, 26, 10, 15, 9, 8, 0, 1, 2, 3] ?_
 refine nt ?_
 refine cd (fun hc3 : (e2.2 == flags) = true => ?_) (fun hc3 => ?_)
 ·refine sr ?_
  refine os 3 ?_
  refine nt ?_
  refine Qi (Qm ?_)
  refine Qg (.tuple #[.int .i64 n, .bool true]) (fun _ => rfl) ?_
  exact ⟨V, ow, hV, Keep.refl V, n, true, rfl, by simp only [changeP, shapeAt_in F hc1 he1, ShapeL.abs, if_neg hc2, he2, if_pos hc3]⟩
 refine Ql (Qj ?_)
 refine SW_seq ?_
 have hrm0 := hV.room _ _ he1
 have hmany := hV.many
 have hrm : e1.l.length ≤ 1099511627776 := by omega
 refine Qn ?_
 refine os 3 ?_
 refine L (ld ?_ (hc := Cell.own (mem_h (TreeV.m0 V F)) rfl))
 refine os 1 ?_
 refine L (ixg n (n.toNat * 3) (TreeV.ok.row hV) Tryz.underlying114 ?_)
 refine os 1 ?_
 refine kp [48, 40, 26, 10, 15, 9, 8, 0, 1, 2, 3] ?_
 refine L (ld ?_ (hc := Gs.cell (TreeV.ok.row hV) (fun e he => (mem_h ((TreeV.m1 V F) _ he))) (Qh ShapeL.len he1 (j := 1) (by decide) rfl)))
 refine L (cl (shapes_Clone (σ := (TreeV.ent V F)) (TreeV.ok.at hV he1) (TreeV.m2 F he1) hrm) ?_)
 rintro _ cs1 ⟨rfl, hcs1⟩
 refine un ?_
 refine os 1 ?_
 refine kp [11, 40, 26, 10, 15, 9, 8, 0, 1, 2, 3] ?_
 refine nsr ?_
 refine os 3 ?_
 refine L (ixg (keyIx e1.l key) (((keyIx e1.l key).toNat) * 2) hcs1 Tryz.underlying148 ?_)
 refine os 1 ?_
 have hok1 := Gs.ok.relen (ys := ((e1.l.set ((keyIx e1.l key).toNat) (e2.1, flags)).flatMap propCells)) hcs1 (by simp [flat_len propCells_len])
 refine L (O_storeG (ys := ((e1.l.set ((keyIx e1.l key).toNat) (e2.1, flags)).flatMap propCells)) cs1 (((keyIx e1.l key).toNat) * 2 + 1) (.int .i64 flags) [.int .i64 flags] (Gs.ok.ne hcs1 (by first | omega | (simp; omega))) (fun _ => rfl) (fun _ => rfl) rfl (by kernel_rfl) rfl (by rw [flat_len propCells_len]; simp; omega) (row_lay (j := 1) propCells_len (e2.1, flags) he2 (Nat.le_of_ble_eq_true rfl) rfl) rfl ?_)
 refine nsr ?_
 refine os 4 ?_
 refine L (ixg (keyIx e1.l key) (((keyIx e1.l key).toNat) * 2) hok1 Tryz.underlying148 ?_)
 refine L (ldr [.string e2.1, .int .i64 flags] (Qb (Gs.cell hok1 (fun e he => (mem_h he)) (Qh propCells_len (Qd he2) (j := 0) (by decide) rfl)) (Qb (Gs.cell hok1 (fun e he => (mem_h he)) (Qh propCells_len (Qd he2) (j := 1) (by decide) rfl)) Qo)) ?_)
 refine oV (.agg #[.bool true, .string e2.1, .int .i64 flags]) ?_
 refine os 1 ?_
 refine kp [63, 62, 57, 56, 11, 40, 26, 10, 15, 9, 8, 0, 1, 2, 3] ?_
 refine L (cl (shapes_way (ls := cs1) (l := (e1.l.set ((keyIx e1.l key).toNat) (e2.1, flags))) (m := e1.l.length) hV n hc1 true e2.1 flags (by simpa using hok1) (by simp; omega) (by simp)) ?_)
 rintro _ V1 ⟨hV1, hkV1, rV1, okV1, rfl, hrV1⟩
 refine os 4 ?_
 refine kp [9, 8, 11, 40, 26, 10, 15, 0, 1, 2, 3] ?_
 refine nt ?_
 refine Qi ?_
 refine Qg (.tuple #[.int .i64 rV1, .bool okV1]) (fun _ => rfl) ?_
 exact ⟨V1, ow, hV1, hkV1, rV1, okV1, rfl, by simp only [changeP, shapeAt_in F hc1 he1, ShapeL.abs, if_neg hc2, he2, hc3, Bool.false_eq_true, if_false]; exact hrV1⟩

theorem shapes_Move {W0 : World} {F : TreeF} {V : TreeV} (hV : V.ok F) (n : Int) (pr : Int) : SC Tryz.prog W0 107 #[.pointer (some ⟨F.p, 0, none⟩), .int .i64 n, .int .u64 pr] (TreeV.ent V F) (Ret (fun V' : TreeV => V'.ent F) (fun v V' => V'.ok F ∧ Keep V V' ∧ ∃ m' ok', v = tw m' ok' ∧ moveP (V.abs F) n pr = (V'.abs F, m', ok'))) := by
 refine SC_body (fn := Tryz.f107) (n := 52) Tryz.func107 rfl (by kernel_rfl) (ρ := [(0, pt F.p 0), (1, .int .i64 n), (2, .int .u64 pr)]) rfl ?_
 refine SW_sig ((TreeV.ent V F) ++ ([])) (by simp only [List.append_nil, List.append_assoc]) ?_
 refine sr ?_
 refine os 2 ?_
 refine nq ?_
 refine sr ?_
 refine os 2 ?_
 refine L (cl (shapes_there hV n) ?_)
 rintro _ _ rfl
 refine os 1 ?_
 refine kp [16, 7, 6, 0, 1, 2] ?_
 refine nt ?_
 refine cd (fun hc1 : (!(decide (0 ≤ n ∧ n < V.l.length))) = true => ?_) (fun hc1 => ?_)
 ·replace hc1 := bnot_t hc1
  replace hc1 := of_decide_eq_false hc1
  refine sr ?_
  refine os 2 ?_
  refine nt ?_
  refine Qi (Qm ?_)
  refine Qg (.tuple #[.int .i64 0, .bool false]) (fun _ => rfl) ?_
  exact ⟨V, ow, hV, Keep.refl V, 0, false, rfl, by simp only [moveP, shapeAt_out F hc1]⟩
 replace hc1 := bnot_f hc1
 replace hc1 := of_decide_eq_true hc1
 refine Ql (Qj ?_)
 refine sr ?_
 refine os 3 ?_
 refine L (ld ?_ (hc := Cell.own (mem_h (TreeV.m0 V F)) rfl))
 refine os 1 ?_
 refine L (ixg n (n.toNat * 3) (TreeV.ok.row hV) Tryz.underlying114 ?_)
 refine os 1 ?_
 refine kp [23, 16, 7, 6, 0, 1, 2] ?_
 obtain ⟨e1, he1⟩ : ∃ y_, V.l[n.toNat]? = some y_ := ⟨_, List.getElem?_eq_getElem (by omega)⟩
 refine L (ld ?_ (hc := Gs.cell (TreeV.ok.row hV) (fun e he => (mem_h ((TreeV.m1 V F) _ he))) (Qh ShapeL.len he1 (j := 1) (by decide) rfl)))
 refine os 1 ?_
 refine nsr ?_
 refine os 2 ?_
 refine L (cl (shapes_Root hV pr) ?_)
 rintro _ V1 ⟨hV1, hkV1, rV1, okV1, rfl, hrV1⟩
 refine os 5 ?_
 refine kp [10, 9, 8, 16, 7, 6, 0, 1, 2] ?_
 refine nq ?_
 refine sr ?_
 refine os 3 ?_
 refine nt ?_
 refine SW_block ?_
 have hroom := hV.room _ _ he1
 have hmany := hV.many
 refine SW_loop (α := Nat × TreeV × Int × Bool) (fun z_ ρ_ σ_ => Fits ρ_ σ_ [(33, .int .i64 (z_.1 : Int)), (32, .int .i64 (e1.l.length : Int)), (31, Gs.val e1.ls e1.l.length), (0, pt F.p 0), (9, .int .i64 z_.2.2.1), (10, .bool z_.2.2.2)] ((TreeV.ent z_.2.1 F) ++ ([])) ∧ z_.1 ≤ e1.l.length ∧ TreeV.ok z_.2.1 F ∧ Keep V z_.2.1 ∧ moveGo (TreeV.abs z_.2.1 F) z_.2.2.1 z_.2.2.2 (e1.l.drop z_.1) = moveP (V.abs F) n pr) (fun z_ => e1.l.length - z_.1) (0, V1, rV1, okV1) ⟨⟨fun _ => rfl, ow⟩, Nat.zero_le _, hV1, hkV1, by simp only [moveP, shapeAt_in F hc1 he1, ShapeL.abs, hrV1, List.drop_zero]⟩ ?_
 rintro ⟨i, X, m, ok⟩ ρ_ σ_ ⟨hfit, hi0, hi1, hi2, hi3⟩
 refine SW_fits hfit ?_
 clear hfit
 simp only [] at hi0 hi1 hi2 hi3 ⊢
 have hX := hi1
 obtain ⟨s9, hs9, hls9, hl9⟩ := hi2 n.toNat e1 he1
 have hm9 : ∀ e ∈ e1.ls.ent 154 2 (e1.l.flatMap propCells), e ∈ X.ent F := by rw [← hls9, ← hl9]; exact TreeV.m2 F hs9
 refine sr ?_
 refine os 1 ?_
 refine nq ?_
 refine cdp (fun hc2 : (i : Int) < (e1.l.length : Int) => ?_) (fun hc2 => ?_)
 ·refine Ql (Qj ?_)
  refine SW_seq ?_
  refine SW_block ?_
  refine sr ?_
  refine L (ixg (i : Int) (i * 2) (TreeV.ok.at hV he1) Tryz.underlying148 ?_)
  obtain ⟨e2, he2⟩ : ∃ y_, e1.l[i]? = some y_ := ⟨_, List.getElem?_eq_getElem (by omega)⟩
  refine L (ldr [.string e2.1, .int .i64 e2.2] (Qb (Gs.cell (TreeV.ok.at hV he1) (fun e he => (mem_h (hm9 _ he))) (Qh propCells_len he2 (j := 0) (by decide) rfl)) (Qb (Gs.cell (TreeV.ok.at hV he1) (fun e he => (mem_h (hm9 _ he))) (Qh propCells_len he2 (j := 1) (by decide) rfl)) Qo)) ?_)
  refine L (nw 154 2 [.string ByteArray.empty, .int .i64 0] ?_)
  intro b3
  refine L (st [.string e2.1, .int .i64 e2.2] ?_)
  refine nq ?_
  refine sr ?_
  refine os 2 ?_
  refine kp [38, 12, 34, 33, 32, 31, 0, 9, 10] ?_
  refine nt ?_
  refine cd (fun hc4 : (!ok) = true => ?_) (fun hc4 => ?_)
  ·replace hc4 := bnot_t hc4
   refine sr ?_
   refine os 2 ?_
   refine nt ?_
   refine Qi (Qm (r_in (Qm (Qm (r_in (Qm ?_))))))
   refine Qg (.tuple #[.int .i64 0, .bool false]) (fun _ => rfl) ?_
   exact ⟨X, ow, hi1, hi2, 0, false, rfl, by rw [← hi3]; exact moveGo_stop he2 hc4⟩
  replace hc4 := bnot_f hc4
  refine Ql (Qj ?_)
  refine Qn ?_
  refine os 3 ?_
  refine L (ld ?_)
  refine os 1 ?_
  refine L (ld ?_)
  refine L (cl (shapes_Add hX m e2.1 e2.2) ?_)
  rintro _ V2 ⟨hV2, hkV2, rV2, okV2, rfl, hrV2⟩
  refine os 5 ?_
  refine kp [10, 9, 38, 12, 34, 33, 32, 31, 0] ?_
  refine SL_nil (n_in (Qj ?_))
  refine Qn ?_
  refine os 2 ?_
  refine nt ?_
  exact ⟨(i + 1, V2, rV2, okV2), by simp only []; omega, ⟨fun _ => rfl, ow⟩, by simp only []; omega, hV2, hi2.trans hkV2, by simp only []; rw [← hi3]; exact (moveGo_step he2 hc4 hrV2).symm⟩
 refine SW_exit (x_then (x_then (x_in (Qj ?_))))
 refine sr ?_
 refine os 4 ?_
 refine nt ?_
 refine Qi ?_
 refine Qg (.tuple #[.int .i64 m, .bool ok]) (fun _ => rfl) ?_
 exact ⟨X, ow, hi1, hi2, m, ok, rfl, by rw [← hi3]; exact moveGo_end (by omega)⟩

end Go.Proofs.YthflblophelioaaGreatDoor
namespace Go.Proofs.YthflblophelioaaGreatDoor
open Go.Sl

structure CellL where
  valid : Bool
  ab : Gs
  above : List Int
def CellL.cells (c : CellL) : List Value := [.bool c.valid, c.ab.val c.above.length]
def CellL.ent (c : CellL) : Qp := c.ab.ent 3 1 (c.above.map (Value.int .i64))
def CellL.ok (c : CellL) : Prop := c.ab.ok 1 c.above.length (c.above.map (Value.int .i64))
structure CellsL where
  p : Nat
  s : Gs
  l : List CellL
def CellsL.row (C : CellsL) : List Value := C.l.flatMap CellL.cells
def CellsL.ent (C : CellsL) : Qp := (C.p, .cells 119 1 [C.s.val C.l.length]) :: (C.s.ent 202 2 C.row ++ C.l.flatMap CellL.ent)
structure CellsL.ok (C : CellsL) : Prop where
  row : C.s.ok 2 C.l.length C.row
  each : ∀ c ∈ C.l, c.ok

theorem CellL.len (c : CellL) : c.cells.length = 2 := rfl
theorem CellsL.head (C : CellsL) : (C.p, Blk.cells 119 1 [C.s.val C.l.length]) ∈ C.ent := List.mem_cons_self
theorem CellsL.mem_row (C : CellsL) : ∀ e ∈ C.s.ent 202 2 C.row, e ∈ C.ent := fun e he => List.mem_cons_of_mem _ (List.mem_append_left _ he)
theorem CellsL.ok.ne {C : CellsL} (h : C.ok) {i : Int} (h0 : 0 ≤ i) (h1 : i < C.l.length) : C.s ≠ .nil := Gs.ok.ne h.row (by omega)
theorem CellsL.at {C : CellsL} (h : C.ok) {W0 : World} {σ : Qp} (hm : ∀ e ∈ C.ent, e ∈ σ) {i j : Nat} {c : CellL} {v : Value} (hi : C.l[i]? = some c) (hj : j < 2) (hv : c.cells[j]? = some v) : Cell W0 σ C.s.blk (i * 2 + j) v :=
 Gs.cell h.row (fun e he => hm e (C.mem_row e he)) (by rw [CellsL.row, flat_get CellL.len C.l i j c hi hj]; exact hv)
def CellsL.isV (C : CellsL) (n : Int) : Bool := if 0 ≤ n ∧ n < C.l.length then (match C.l[n.toNat]? with | some c => c.valid | none => false) else false
theorem CellsL.get {C : CellsL} {n : Int} (h : 0 ≤ n ∧ n < C.l.length) : ∃ c, C.l[n.toNat]? = some c := ⟨_, List.getElem?_eq_getElem (by omega)⟩
theorem CellsL.isV_of {C : CellsL} {n : Int} {c : CellL} (h : 0 ≤ n ∧ n < C.l.length) (hc : C.l[n.toNat]? = some c) : C.isV n = c.valid := by
 unfold CellsL.isV; rw [if_pos h, hc]
theorem CellsL.isV_out {C : CellsL} {n : Int} (h : ¬ (0 ≤ n ∧ n < C.l.length)) : C.isV n = false := by
 unfold CellsL.isV; rw [if_neg h]
abbrev PCell := Bool × List Int
def CellL.abs (c : CellL) : PCell := (c.valid, c.above)
def CellsL.abs (C : CellsL) : List PCell := C.l.map CellL.abs
theorem CellsL.abs_len (C : CellsL) : C.abs.length = C.l.length := by simp [CellsL.abs]
def mkP (l : List PCell) (n : Int) : List PCell :=
 if 0 ≤ n ∧ n < l.length then (match l[n.toNat]? with | some c => (l.set n.toNat (c.1, c.2 ++ [(l.length : Int)])) ++ [(c.1, [])] | none => l) else l ++ [(n == -1, [])]
def abv (l : List PCell) : Nat := (l.map (·.2.length)).sum
inductive Reach (l : List PCell) (n : Int) : Int → Prop where
  | refl : Reach l n n
  | step {i j : Int} {c : PCell} : Reach l n i → 0 ≤ i → l[i.toNat]? = some c → j ∈ c.2 → Reach l n j
structure Broke (l l' : List PCell) (n : Int) : Prop where
  shape : l'.map (·.2) = l.map (·.2)
  less : ∀ (i : Nat) (c c' : PCell), l[i]? = some c → l'[i]? = some c' → c'.1 = true → c.1 = true
  reach : ∀ (i : Nat) (c c' : PCell), l[i]? = some c → l'[i]? = some c' → c.1 = true → c'.1 = false → Reach l n i
  all : ∀ (i : Nat) (c c' : PCell), l[i]? = some c → l'[i]? = some c' → c.1 = true → c'.1 = false → ∀ j ∈ c.2, 0 ≤ j → ∀ d : PCell, l'[j.toNat]? = some d → d.1 = false
  it : 0 ≤ n → ∀ d : PCell, l'[n.toNat]? = some d → d.1 = false
def vsum (l : List PCell) : Nat := (l.map fun c => if c.1 then c.2.length else 0).sum
def vcount (l : List PCell) : Nat := l.countP (·.1)
theorem vsum_le (l : List PCell) : vsum l ≤ abv l := by
 induction l with
 | nil => simp [vsum, abv]
 | cons c l ih => simp only [vsum, abv, List.map_cons, List.sum_cons] at *; split <;> omega
theorem vsum_set {l : List PCell} {i : Nat} {c : PCell} (h : l[i]? = some c) (hc : c.1 = true) : vsum (l.set i (false, c.2)) + c.2.length = vsum l := by
 obtain ⟨l1, l2, rfl, rfl⟩ := split_at h
 rw [split_set rfl]
 simp [vsum, hc]; omega
theorem vcount_set {l : List PCell} {i : Nat} {c : PCell} (h : l[i]? = some c) (hc : c.1 = true) : vcount (l.set i (false, c.2)) + 1 = vcount l := by
 obtain ⟨l1, l2, rfl, rfl⟩ := split_at h
 rw [split_set rfl]
 simp [vcount, hc]; omega
structure BInv (L0 : List PCell) (n : Int) (L : List PCell) (todo : List Int) : Prop where
  shape : L.map (·.2) = L0.map (·.2)
  less : ∀ (i : Nat) (c c' : PCell), L0[i]? = some c → L[i]? = some c' → c'.1 = true → c.1 = true
  reach : ∀ (i : Nat) (c c' : PCell), L0[i]? = some c → L[i]? = some c' → c.1 = true → c'.1 = false → Reach L0 n i
  tdr : ∀ j ∈ todo, Reach L0 n j
  all : ∀ (i : Nat) (c c' : PCell), L0[i]? = some c → L[i]? = some c' → c.1 = true → c'.1 = false → ∀ j ∈ c.2, 0 ≤ j → j ∈ todo ∨ ∀ d : PCell, L[j.toNat]? = some d → d.1 = false
  it : 0 ≤ n → n ∈ todo ∨ ∀ d : PCell, L[n.toNat]? = some d → d.1 = false
  room : todo.length + vsum L ≤ 1 + abv L0
theorem BInv.start (L0 : List PCell) (n : Int) : BInv L0 n L0 [n] := by
 refine ⟨rfl, fun i c c' h h' hc => ?_, fun i c c' h h' h1 h2 => ?_, fun j hj => ?_, fun i c c' h h' h1 h2 => ?_, fun _ => .inl (by simp), ?_⟩
 · rw [h] at h'; cases h'; exact hc
 · rw [h] at h'; cases h'; rw [h1] at h2; cases h2
 · simp only [List.mem_singleton] at hj; subst hj; exact .refl
 · rw [h] at h'; cases h'; rw [h1] at h2; cases h2
 · have := vsum_le L0; simp; omega
theorem BInv.skip {L0 L : List PCell} {n j : Int} {t : List Int} (h : BInv L0 n L (t ++ [j])) (hj : 0 ≤ j → ∀ d : PCell, L[j.toNat]? = some d → d.1 = false) : BInv L0 n L t := by
 refine ⟨h.shape, h.less, h.reach, fun k hk => h.tdr k (by simp [hk]), fun i c c' a b d e k hk h0 => ?_, fun h0 => ?_, ?_⟩
 · rcases h.all i c c' a b d e k hk h0 with h1 | h1
   · simp only [List.mem_append, List.mem_singleton] at h1
     rcases h1 with h1 | rfl
     · exact .inl h1
     · exact .inr (hj h0)
   · exact .inr h1
 · rcases h.it h0 with h1 | h1
   · simp only [List.mem_append, List.mem_singleton] at h1
     rcases h1 with h1 | rfl
     · exact .inl h1
     · exact .inr (hj h0)
   · exact .inr h1
 · have := h.room; simp at this; omega
theorem BInv.step {L0 L : List PCell} {n j : Int} {t : List Int} {c : PCell} (h : BInv L0 n L (t ++ [j])) (h0 : 0 ≤ j) (hc : L[j.toNat]? = some c) (hv : c.1 = true) : BInv L0 n (L.set j.toNat (false, c.2)) (t ++ c.2) := by
 have hlen : L.length = L0.length := by have := congrArg List.length h.shape; simpa using this
 have hlt : j.toNat < L.length := (List.getElem?_eq_some_iff.1 hc).1
 obtain ⟨c0, hc0⟩ : ∃ c0, L0[j.toNat]? = some c0 := ⟨_, List.getElem?_eq_getElem (by omega)⟩
 have hsh : ∀ (i : Nat) (a b : PCell), L0[i]? = some a → L[i]? = some b → b.2 = a.2 := fun i a b ha hb => by
   have := congrArg (fun l : List (List Int) => l[i]?) h.shape
   simp only [List.getElem?_map, ha, hb, Option.map_some, Option.some.injEq] at this
   exact this
 have hget : ∀ (i : Nat) (d : PCell), (L.set j.toNat (false, c.2))[i]? = some d → (i = j.toNat ∧ d = (false, c.2)) ∨ (i ≠ j.toNat ∧ L[i]? = some d) := fun i d hd => by
   by_cases e : j.toNat = i
   · subst e; rw [List.getElem?_set_self hlt] at hd; exact .inl ⟨rfl, by simpa using hd.symm⟩
   · rw [List.getElem?_set_ne e] at hd; exact .inr ⟨fun h => e h.symm, hd⟩
 have hinv : ∀ (i : Nat), (∀ d : PCell, L[i]? = some d → d.1 = false) → ∀ d : PCell, (L.set j.toNat (false, c.2))[i]? = some d → d.1 = false := fun i hi d hd => by
   rcases hget i d hd with ⟨_, rfl⟩ | ⟨_, h1⟩
   · rfl
   · exact hi d h1
 refine ⟨?_, fun i a b ha hb hb1 => ?_, fun i a b ha hb h1 h2 => ?_, fun k hk => ?_, fun i a b ha hb h1 h2 k hk hk0 => ?_, fun hn => ?_, ?_⟩
 · rw [← h.shape, List.map_set]
   refine List.ext_getElem? fun i => ?_
   by_cases e : j.toNat = i
   · subst e; rw [List.getElem?_set_self (by simpa using hlt), List.getElem?_map, hc]; rfl
   · rw [List.getElem?_set_ne e]
 · rcases hget i b hb with ⟨_, rfl⟩ | ⟨_, hb'⟩
   · cases hb1
   · exact h.less i a b ha hb' hb1
 · rcases hget i b hb with ⟨rfl, rfl⟩ | ⟨_, hb'⟩
   · have := h.tdr j (by simp); rwa [Int.toNat_of_nonneg h0]
   · exact h.reach i a b ha hb' h1 h2
 · rcases List.mem_append.1 hk with hk | hk
   · exact h.tdr k (by simp [hk])
   · exact .step (h.tdr j (by simp)) h0 hc0 (by rw [← hsh _ _ _ hc0 hc]; exact hk)
 · rcases hget i b hb with ⟨rfl, rfl⟩ | ⟨_, hb'⟩
   · exact .inl (List.mem_append_right _ (by rw [hsh _ _ _ ha hc]; exact hk))
   · rcases h.all i a b ha hb' h1 h2 k hk hk0 with h3 | h3
     · simp only [List.mem_append, List.mem_singleton] at h3
       rcases h3 with h3 | rfl
       · exact .inl (List.mem_append_left _ h3)
       · refine .inr fun d hd => ?_
         rcases hget _ d hd with ⟨_, rfl⟩ | ⟨e, _⟩
         · rfl
         · exact absurd rfl e
     · exact .inr (hinv _ h3)
 · rcases h.it hn with h3 | h3
   · simp only [List.mem_append, List.mem_singleton] at h3
     rcases h3 with h3 | rfl
     · exact .inl (List.mem_append_left _ h3)
     · refine .inr fun d hd => ?_
       rcases hget _ d hd with ⟨_, rfl⟩ | ⟨e, _⟩
       · rfl
       · exact absurd rfl e
   · exact .inr (hinv _ h3)
 · have h1 := h.room
   have h2 := vsum_set hc hv
   simp at h1 ⊢; omega
theorem BInv.broke {L0 L : List PCell} {n : Int} (h : BInv L0 n L []) : Broke L0 L n :=
 ⟨h.shape, h.less, h.reach, fun i c c' a b d e j hj h0 => (h.all i c c' a b d e j hj h0).resolve_left (by simp), fun h0 => (h.it h0).resolve_left (by simp)⟩
structure BrkS where
  l : List CellL
  s : Gs
  todo : List Int
  m : Int
  j : Int
def BrkS.at (x : BrkS) (C : CellsL) : CellsL := ⟨C.p, C.s, x.l⟩
structure BrkI (C : CellsL) (n : Int) (x : BrkS) : Prop where
  inv : BInv C.abs n (x.l.map CellL.abs) x.todo
  ok : (x.at C).ok
  len : x.l.length = C.l.length
  sok : x.s.ok 1 x.todo.length (x.todo.map (Value.int .i64))
theorem BrkI.cap {C : CellsL} {n : Int} {x : BrkS} (h : BrkI C n x) : x.todo.length ≤ x.s.cap := by
 have := h.sok
 cases hs : x.s with
 | nil => rw [hs] at this; exact Nat.le_of_eq this.1
 | «at» g c => rw [hs] at this; exact this.1
def BrkS.μ (C : CellsL) (x : BrkS) : Nat := vcount (x.l.map CellL.abs) * (abv C.abs + 2) + x.todo.length
theorem Gs.ok_pop {s : Gs} {size n : Nat} {xs ys : List Value} (h : s.ok size (n + 1) (xs ++ ys)) (hl : xs.length = n * size) : s.ok size n xs := by
 cases s with
 | nil => have := h.1; omega
 | «at» g c => exact ⟨by have := h.1; omega, h.2.1, hl⟩
theorem CellsL.isV_false {C : CellsL} {j : Int} (h : C.isV j = false) (h0 : 0 ≤ j) : ∀ d : PCell, C.abs[j.toNat]? = some d → d.1 = false := by
 intro d hd
 simp only [CellsL.abs, List.getElem?_map, Option.map_eq_some_iff] at hd
 obtain ⟨c, hc, rfl⟩ := hd
 have hlt := (List.getElem?_eq_some_iff.1 hc).1
 rw [CellsL.isV_of ⟨h0, by omega⟩ hc] at h
 exact h
theorem CellsL.isV_true {C : CellsL} {j : Int} (h : C.isV j = true) : ∃ c, (0 ≤ j ∧ j < C.l.length) ∧ C.l[j.toNat]? = some c ∧ c.valid = true := by
 by_cases hj : 0 ≤ j ∧ j < C.l.length
 · obtain ⟨c, hc⟩ := CellsL.get hj
   exact ⟨c, hj, hc, by rw [← CellsL.isV_of hj hc]; exact h⟩
 · rw [CellsL.isV_out hj] at h; cases h
theorem brk_skip {C : CellsL} {n : Int} {l : List CellL} {s : Gs} {t : List Int} {j m j0 j1 : Int} (h : BrkI C n ⟨l, s, t ++ [j], m, j0⟩) (hv : CellsL.isV ⟨C.p, C.s, l⟩ j = false) :
   BrkS.μ C ⟨l, s, t, m, j1⟩ < BrkS.μ C ⟨l, s, t ++ [j], m, j0⟩ ∧ BrkI C n ⟨l, s, t, m, j1⟩ := by
 refine ⟨by simp [BrkS.μ], h.inv.skip (fun h0 => CellsL.isV_false hv h0), h.ok, h.len, ?_⟩
 have := h.sok
 simp only [List.length_append, List.length_singleton, List.map_append] at this
 exact Gs.ok_pop this (by simp)
theorem brk_room {C : CellsL} {n : Int} {l1 l2 : List CellL} {c : CellL} {s : Gs} {t : List Int} {j m j0 : Int} (h : BrkI C n ⟨l1 ++ c :: l2, s, t ++ [j], m, j0⟩) (hlen : l1.length = j.toNat) (h0 : 0 ≤ j) (hv : c.valid = true) :
   t.length + c.above.length ≤ abv C.abs ∧ t.length + 1 ≤ 1 + abv C.abs := by
 have h1 : ((l1 ++ c :: l2).map CellL.abs)[j.toNat]? = some c.abs := by rw [List.map_append, List.map_cons]; exact split_get (by simpa using hlen)
 have h2 := vsum_set h1 hv
 have h3 := h.inv.room
 simp only [List.length_append, List.length_singleton] at h3
 have : c.abs.2.length = c.above.length := rfl
 omega
theorem brk_step {C : CellsL} {n : Int} {l1 l2 : List CellL} {c : CellL} {s : Gs} {t : List Int} {j m j0 : Int} (h : BrkI C n ⟨l1 ++ c :: l2, s, t ++ [j], m, j0⟩) (hlen : l1.length = j.toNat) (h0 : 0 ≤ j) (hv : c.valid = true)
   (s' : Gs) (m' j1 : Int) (hs : s'.ok 1 (t ++ c.above).length ((t ++ c.above).map (Value.int .i64))) :
   BrkS.μ C ⟨l1 ++ ⟨false, c.ab, c.above⟩ :: l2, s', t ++ c.above, m', j1⟩ < BrkS.μ C ⟨l1 ++ c :: l2, s, t ++ [j], m, j0⟩ ∧ BrkI C n ⟨l1 ++ ⟨false, c.ab, c.above⟩ :: l2, s', t ++ c.above, m', j1⟩ := by
 have h1 : ((l1 ++ c :: l2).map CellL.abs)[j.toNat]? = some c.abs := by rw [List.map_append, List.map_cons]; exact split_get (by simpa using hlen)
 have h2 : ((l1 ++ ⟨false, c.ab, c.above⟩ :: l2).map CellL.abs) = ((l1 ++ c :: l2).map CellL.abs).set j.toNat (false, c.abs.2) := by
   rw [List.map_append, List.map_cons, List.map_append, List.map_cons, split_set (by simpa using hlen)]; rfl
 have hr := (brk_room h hlen h0 hv).1
 refine ⟨?_, by rw [h2]; exact h.inv.step h0 h1 hv, ⟨?_, ?_⟩, by have := h.len; simpa using this, hs⟩
 · have h3 := vcount_set h1 hv
   simp only [BrkS.μ, h2]
   rw [← h3, Nat.add_mul]
   simp; omega
 · refine Gs.ok.relen (xs := (BrkS.at ⟨l1 ++ c :: l2, s, t ++ [j], m, j0⟩ C).row) ?_ ?_
   · have := h.ok.row; simpa [BrkS.at] using this
   · simp [BrkS.at, CellsL.row, flat_len CellL.len, CellL.cells]
 · intro d hd
   simp only [BrkS.at, List.mem_append, List.mem_cons] at hd
   rcases hd with hd | rfl | hd
   · exact h.ok.each d (by simp [BrkS.at, hd])
   · exact h.ok.each c (by simp [BrkS.at])
   · exact h.ok.each d (by simp [BrkS.at, hd])
end Go.Proofs.YthflblophelioaaGreatDoor
