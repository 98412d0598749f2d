/-
  What the document's own functions do to the memory they own, step by step: each theorem is one function's contract. Conditions: those that each theorem names.
-/
import Derived.Test.YthflblophelioaaGreatDoorPs9
import Derived.Test.YthflblophelioaaGreatDoorPs8
set_option linter.unusedVariables false
set_option linter.unusedSimpArgs false
set_option maxRecDepth 100000
set_option maxHeartbeats 4000000
namespace Go.Proofs.YthflblophelioaaGreatDoor
open Go.Sl

theorem rz_SetProto {W0 : World} {k : Nat} {R : RSt} (hR : R.ok) (hL : LOk k R.pub) {w p : Int} (hw : wordOk w) (hp : wordOk p) (hE : Ends R.pub p) (hP : protosOk R.pub) : SC Tryz.prog W0 40 #[R.val, .int .u64 w, .int .u64 p] (RSt.ent R) (Ret (fun R2 : RSt => RSt.ent R2) (fun v R2 => v = .tuple #[R2.val, .bool (spP R.pub w p).2] ∧ R2.ok ∧ R2.pub = (spP R.pub w p).1 ∧ R2.texts = R.texts)) := by
 have hlp : R.pub.length = R.objs.length := RSt.pub_len R
 have hln := hL.len
 refine SC_body (fn := Tryz.f40) (n := 61) Tryz.func40 rfl (by kernel_rfl) (ρ := [(0, .agg #[Gs.val R.s R.objs.length, Gs.val R.ts R.texts.length]), (1, .int .u64 w), (2, .int .u64 p)]) rfl ?_
 refine SW_sig ((RSt.ent R) ++ ([])) (by simp only [List.append_nil, List.append_assoc]) ?_
 refine sr ?_
 refine L (nw 28 2 [Gs.val R.s R.objs.length, Gs.val R.ts R.texts.length] ?_)
 intro b1
 refine L (nw 28 2 [.slice none 0 0, .slice none 0 0] ?_)
 intro b2
 refine os 1 ?_
 refine nq ?_
 refine SW_seq ?_
 refine SW_cut3 (fun ρ_ σ_ => Fits ρ_ σ_ [(7, .bool false), (6, pt b2 0), (3, pt b1 0), (1, .int .u64 w), (2, .int .u64 p)] ((b2, .cells 28 2 [.slice none 0 0, .slice none 0 0]) :: ((b1, .cells 28 2 [Gs.val R.s R.objs.length, Gs.val R.ts R.texts.length]) :: ((RSt.ent R) ++ ([])))) ∧ (¬ atW R.pub w < 0) ∧ ((p != nullW) = false ∨ ¬ atW R.pub p < 0)) ?_ ?_
 ·refine Qn ?_
  refine L (lds 2 ?_)
  refine os 1 ?_
  refine L (cl (rq_At (R := R) (w := w) hw) ?_)
  rintro _ _ rfl
  refine un ?_
  refine os 2 ?_
  refine tbp 15 (fun hg3 => ?_) (fun hg3 => ?_)
  ·replace hg3 : (atW R.pub w) < 0 := hg3
   refine os 9 ?_
   refine kp [24, 7, 6, 3, 0, 1, 2] ?_
   refine nt ?_
   refine ct ?_
   refine sr ?_
   refine L (lds 2 ?_)
   refine L (st [Gs.val R.s R.objs.length, Gs.val R.ts R.texts.length] ?_)
   refine os 1 ?_
   refine nt ?_
   refine Qi (Qm ?_)
   refine body_endC [.agg #[Gs.val R.s R.objs.length, Gs.val R.ts R.texts.length], .bool false] (fun _ => (.cons ⟨b2, 0, rfl, .inl ⟨[Gs.val R.s R.objs.length, Gs.val R.ts R.texts.length], by kernel_rfl, (Qb (Cell.own Qe rfl) (Qb (Cell.own Qe rfl) Qo)), rfl⟩⟩ (.cons rfl .nil))) ?_
   first
   | (exact ⟨R, ow, by rw [spP_kind (kind_at.2 (by assumption))]; exact ⟨rfl, hR, rfl, rfl⟩⟩)
   | (exact ⟨R, ow, by rw [spP_up (kind_at.2 (by assumption)) (by assumption)]; exact ⟨rfl, hR, rfl, rfl⟩⟩)
  replace hg3 : ¬ ((atW R.pub w) < 0) := hg3
  refine os 3 ?_
  refine kp [18, 15, 7, 6, 3, 0, 1, 2] ?_
  refine tb 18 (fun hg4 => ?_) (fun hg4 => ?_)
  ·replace hg4 : (p != 18445336698825998337) = true := hg4
   refine L (lds 2 ?_)
   refine os 1 ?_
   refine L (cl (rq_At (R := R) (w := p) hp) ?_)
   rintro _ _ rfl
   refine un ?_
   refine os 3 ?_
   refine kp [24, 7, 6, 3, 0, 1, 2] ?_
   refine nt ?_
   refine cdp (fun hc5 : (atW R.pub p) < 0 => ?_) (fun hc5 => ?_)
   ·refine sr ?_
    refine L (lds 2 ?_)
    refine L (st [Gs.val R.s R.objs.length, Gs.val R.ts R.texts.length] ?_)
    refine os 1 ?_
    refine nt ?_
    refine Qi (Qm ?_)
    refine body_endC [.agg #[Gs.val R.s R.objs.length, Gs.val R.ts R.texts.length], .bool false] (fun _ => (.cons ⟨b2, 0, rfl, .inl ⟨[Gs.val R.s R.objs.length, Gs.val R.ts R.texts.length], by kernel_rfl, (Qb (Cell.own Qe rfl) (Qb (Cell.own Qe rfl) Qo)), rfl⟩⟩ (.cons rfl .nil))) ?_
    first
    | (exact ⟨R, ow, by rw [spP_kind (kind_at.2 (by assumption))]; exact ⟨rfl, hR, rfl, rfl⟩⟩)
    | (exact ⟨R, ow, by rw [spP_up (kind_at.2 (by assumption)) (by assumption)]; exact ⟨rfl, hR, rfl, rfl⟩⟩)
   refine Ql (Qj ?_)
   exact ⟨⟨fun _ => rfl, ow⟩, by assumption, by first | exact .inl (by assumption) | exact .inr (by assumption)⟩
  replace hg4 : (p != 18445336698825998337) = false := hg4
  refine os 6 ?_
  refine kp [24, 7, 6, 3, 0, 1, 2] ?_
  refine nt ?_
  refine cf ?_
  refine Ql (Qj ?_)
  exact ⟨⟨fun _ => rfl, ow⟩, by assumption, by first | exact .inl (by assumption) | exact .inr (by assumption)⟩
 ·rintro ρ_ σ_ ⟨hfit, hat, hin⟩
  refine SW_fits hfit ?_
  clear hfit
  refine SW_seq ?_
  refine SW_seq ?_
  have hob : objAt w R.pub.length ≠ none := fun z_ => hat (atW_neg.2 z_)
  have hkw : (kindQ R.pub w).2 = true := kindQ_some.2 hob
  have hkp : (kindQ R.pub p).2 = true ∨ (p != nullW) = false := hin.elim (fun z_ => .inr z_) (fun z_ => .inl (kindQ_some.2 fun y_ => z_ (atW_neg.2 y_)))
  refine Qn ?_
  refine L (lds 2 ?_)
  refine os 1 ?_
  refine L (cl (rf_ProtoW hR (w := w) hw) ?_)
  rintro _ _ rfl
  refine os 2 ?_
  refine kp [30, 7, 6, 3, 1, 2] ?_
  refine nt ?_
  refine cd (fun hc6 : ((protoW R.pub w) == p) = true => ?_) (fun hc6 => ?_)
  ·simp only [beq_iff_eq, beq_eq_false_iff_ne, ne_eq, bne_iff_ne, bne_eq_false_iff_eq] at hc6
   refine sr ?_
   refine L (lds 2 ?_)
   refine L (st [Gs.val R.s R.objs.length, Gs.val R.ts R.texts.length] ?_)
   refine os 1 ?_
   refine nt ?_
   refine Qi (Qm ?_)
   refine body_endC [.agg #[Gs.val R.s R.objs.length, Gs.val R.ts R.texts.length], .bool true] (fun _ => (.cons ⟨b2, 0, rfl, .inl ⟨[Gs.val R.s R.objs.length, Gs.val R.ts R.texts.length], by kernel_rfl, (Qb (Cell.own Qe rfl) (Qb (Cell.own Qe rfl) Qo)), rfl⟩⟩ (.cons rfl .nil))) ?_
   exact ⟨R, ow, by rw [spP_ok hkw hkp, if_pos (by assumption)]; exact ⟨rfl, hR, rfl, rfl⟩⟩
  simp only [beq_iff_eq, beq_eq_false_iff_ne, ne_eq, bne_iff_ne, bne_eq_false_iff_eq] at hc6
  refine Ql (Qj ?_)
  refine sr ?_
  refine L (lds 2 ?_)
  refine os 1 ?_
  refine L (cl (rz_Open hR (w := w) hw) ?_)
  rintro _ _ rfl
  refine os 1 ?_
  refine kp [8, 30, 7, 6, 3, 1, 2] ?_
  refine nq ?_
  refine sr ?_
  refine os 2 ?_
  refine nt ?_
  refine cd (fun hc7 : (!(openQ R.pub w)) = true => ?_) (fun hc7 => ?_)
  ·replace hc7 := bnot_t hc7
   refine sr ?_
   refine L (lds 2 ?_)
   refine L (st [Gs.val R.s R.objs.length, Gs.val R.ts R.texts.length] ?_)
   refine os 1 ?_
   refine nt ?_
   refine Qi (Qm ?_)
   refine body_endC [.agg #[Gs.val R.s R.objs.length, Gs.val R.ts R.texts.length], .bool false] (fun _ => (.cons ⟨b2, 0, rfl, .inl ⟨[Gs.val R.s R.objs.length, Gs.val R.ts R.texts.length], by kernel_rfl, (Qb (Cell.own Qe rfl) (Qb (Cell.own Qe rfl) Qo)), rfl⟩⟩ (.cons rfl .nil))) ?_
   exact ⟨R, ow, by rw [spP_ok hkw hkp, if_neg (by assumption), if_pos (by assumption)]; exact ⟨rfl, hR, rfl, rfl⟩⟩
  replace hc7 := bnot_f hc7
  refine Ql (Qj ?_)
  refine sr ?_
  refine os 2 ?_
  refine nq ?_
  refine sr ?_
  refine os 1 ?_
  refine nt ?_
  refine SW_block ?_
  refine SW_loop (α := Nat) (fun z_ ρ_ σ_ => Fits ρ_ σ_ [(1, .int .u64 w), (2, .int .u64 p), (3, pt b1 0), (6, pt b2 0), (9, .int .u64 (upN R.pub p z_)), (10, .int .i64 (z_ : Int))] ((RSt.ent R) ++ ((b2, .cells 28 2 [.slice none 0 0, .slice none 0 0]) :: ((b1, .cells 28 2 [Gs.val R.s R.objs.length, Gs.val R.ts R.texts.length]) :: ([])))) ∧ z_ ≤ R.pub.length + 1 ∧ (∀ j, j < z_ → upN R.pub p j ≠ w)) (fun z_ => R.pub.length + 1 - z_) 0 ⟨⟨fun _ => rfl, ow⟩, Nat.zero_le _, fun j hj => absurd hj (Nat.not_lt_zero j)⟩ ?_
  rintro i ρ_ σ_ ⟨hfit, hi0, hi1⟩
  refine SW_fits hfit ?_
  clear hfit
  refine SW_seq ?_
  refine sr ?_
  refine os 2 ?_
  refine L (ld ?_)
  refine os 3 ?_
  refine tbp 44 (fun hg8 => ?_) (fun hg8 => ?_)
  ·replace hg8 : (i : Int) ≤ (R.objs.length : Int) := hg8
   refine os 3 ?_
   refine kp [47, 1, 2, 3, 6, 9, 10] ?_
   refine nt ?_
   refine cd (fun hc9 : ((upN R.pub p i) != 18445336698825998337) = true => ?_) (fun hc9 => ?_)
   ·simp only [beq_iff_eq, beq_eq_false_iff_ne, ne_eq, bne_iff_ne, bne_eq_false_iff_eq] at hc9
    refine Ql (Qj ?_)
    refine SW_seq ?_
    refine SW_block ?_
    refine SW_seq ?_
    refine sr ?_
    refine os 3 ?_
    refine nt ?_
    refine cd (fun hc10 : ((upN R.pub p i) == w) = true => ?_) (fun hc10 => ?_)
    ·simp only [beq_iff_eq, beq_eq_false_iff_ne, ne_eq, bne_iff_ne, bne_eq_false_iff_eq] at hc10
     refine sr ?_
     refine L (lds 2 ?_)
     refine L (st [Gs.val R.s R.objs.length, Gs.val R.ts R.texts.length] ?_)
     refine os 1 ?_
     refine kp [7, 52, 47, 1, 2, 3, 6, 9, 10] ?_
     refine nt ?_
     refine Qi (Qm (r_in (Qm (Qm (r_in (Qm ?_))))))
     refine body_endC [.agg #[Gs.val R.s R.objs.length, Gs.val R.ts R.texts.length], .bool false] (fun _ => (.cons ⟨b2, 0, rfl, .inl ⟨[Gs.val R.s R.objs.length, Gs.val R.ts R.texts.length], by kernel_rfl, (Qb (Cell.own Qe rfl) (Qb (Cell.own Qe rfl) Qo)), rfl⟩⟩ (.cons rfl .nil))) ?_
     exact ⟨R, ow, by rw [spP_ok hkw hkp, if_neg (show ¬ protoW R.pub w = p from by assumption), if_neg (show ¬ openQ R.pub w = false from by intro z_; have y_ : openQ R.pub w = true := (by assumption); rw [z_] at y_; cases y_), if_pos (hit_yes (i := i) (by omega) (by assumption))]; exact ⟨rfl, hR, rfl, rfl⟩⟩
    simp only [beq_iff_eq, beq_eq_false_iff_ne, ne_eq, bne_iff_ne, bne_eq_false_iff_eq] at hc10
    refine Ql (Qj ?_)
    refine Qn ?_
    refine L (lds 2 ?_)
    refine os 1 ?_
    refine L (cl (rf_ProtoW hR (w := (upN R.pub p i)) (upN_ok hP hp _)) ?_)
    rintro _ _ rfl
    refine os 1 ?_
    refine kp [9, 52, 47, 1, 2, 3, 6, 10] ?_
    refine SL_nil (n_in (Qj ?_))
    refine Qn ?_
    refine os 3 ?_
    refine nt ?_
    exact ⟨i + 1, by omega, ⟨fun _ => rfl, ow⟩, by omega, fun j hj => by by_cases q_ : j = i; (subst q_; assumption); exact hi1 j (by omega)⟩
   simp only [beq_iff_eq, beq_eq_false_iff_ne, ne_eq, bne_iff_ne, bne_eq_false_iff_eq] at hc9
   refine SW_exit (x_then (x_then (x_in (Qj ?_))))
   refine sr ?_
   refine L (lds 2 ?_)
   refine os 2 ?_
   refine L (cl (rq_Reproto (k := k) hR hL hw hp hP) ?_)
   rintro _ R2 ⟨rfl, hR2, hp2, ht2⟩
   refine L (st [Gs.val R2.s R2.objs.length, Gs.val R2.ts R2.texts.length] ?_)
   refine os 1 ?_
   refine kp [7, 47, 1, 2, 3, 6, 9, 10] ?_
   refine nt ?_
   refine Qi ?_
   refine body_endC [.agg #[Gs.val R2.s R2.objs.length, Gs.val R2.ts R2.texts.length], .bool true] (fun _ => (.cons ⟨b2, 0, rfl, .inl ⟨[Gs.val R2.s R2.objs.length, Gs.val R2.ts R2.texts.length], by kernel_rfl, (Qb (Cell.own Qe rfl) (Qb (Cell.own Qe rfl) Qo)), rfl⟩⟩ (.cons rfl .nil))) ?_
   obtain ⟨n0_, h0_⟩ := Option.ne_none_iff_exists'.1 hob
   have hno_ : hitP R.pub p w = false := by
     by_cases q_ : i ≤ R.pub.length
     · first | exact hit_no (i := i) hob hi1 (by assumption) | omega
     · exact hitP_no h0_ (i := R.pub.length) hE.bound (fun j hj => hi1 j (by omega))
   exact ⟨R2, ow, by rw [spP_ok hkw hkp, if_neg (show ¬ protoW R.pub w = p from by assumption), if_neg (show ¬ openQ R.pub w = false from by intro z_; have y_ : openQ R.pub w = true := (by assumption); rw [z_] at y_; cases y_), if_neg (by rw [hno_]; simp)]; exact ⟨rfl, hR2, hp2, ht2⟩⟩
  replace hg8 : ¬ ((i : Int) ≤ (R.objs.length : Int)) := hg8
  refine os 3 ?_
  refine kp [47, 1, 2, 3, 6, 9, 10] ?_
  refine nt ?_
  refine cf ?_
  refine SW_exit (x_then (x_then (x_in (Qj ?_))))
  refine sr ?_
  refine L (lds 2 ?_)
  refine os 2 ?_
  refine L (cl (rq_Reproto (k := k) hR hL hw hp hP) ?_)
  rintro _ R2 ⟨rfl, hR2, hp2, ht2⟩
  refine L (st [Gs.val R2.s R2.objs.length, Gs.val R2.ts R2.texts.length] ?_)
  refine os 1 ?_
  refine kp [7, 47, 1, 2, 3, 6, 9, 10] ?_
  refine nt ?_
  refine Qi ?_
  refine body_endC [.agg #[Gs.val R2.s R2.objs.length, Gs.val R2.ts R2.texts.length], .bool true] (fun _ => (.cons ⟨b2, 0, rfl, .inl ⟨[Gs.val R2.s R2.objs.length, Gs.val R2.ts R2.texts.length], by kernel_rfl, (Qb (Cell.own Qe rfl) (Qb (Cell.own Qe rfl) Qo)), rfl⟩⟩ (.cons rfl .nil))) ?_
  obtain ⟨n0_, h0_⟩ := Option.ne_none_iff_exists'.1 hob
  have hno_ : hitP R.pub p w = false := by
    by_cases q_ : i ≤ R.pub.length
    · first | exact hit_no (i := i) hob hi1 (by assumption) | omega
    · exact hitP_no h0_ (i := R.pub.length) hE.bound (fun j hj => hi1 j (by omega))
  exact ⟨R2, ow, by rw [spP_ok hkw hkp, if_neg (show ¬ protoW R.pub w = p from by assumption), if_neg (show ¬ openQ R.pub w = false from by intro z_; have y_ : openQ R.pub w = true := (by assumption); rw [z_] at y_; cases y_), if_neg (by rw [hno_]; simp)]; exact ⟨rfl, hR2, hp2, ht2⟩⟩

end Go.Proofs.YthflblophelioaaGreatDoor
namespace Go.Proofs.YthflblophelioaaGreatDoor
open Go.Sl

theorem rz_Keys_none {W0 : World} {k : Nat} {R : RSt} (hR : R.ok) (hL : LOk k R.pub) (hk : k ≤ 8000000) {w : Int} (hw : wordOk w) (hnd : ∀ o ∈ R.pub, o.names.Nodup) (h0 : objAt w R.objs.length = none) : SC Tryz.prog W0 82 #[R.val, .int .u64 w] (RSt.ent R) (Ret (fun g : Gs => g.ent 9 1 ((keysP' R.pub w).map encS) ++ RSt.ent R) (fun v g => v = g.val (keysP' R.pub w).length ∧ g.ok 1 (keysP' R.pub w).length ((keysP' R.pub w).map encS))) := by
 have hln := hL.lenN w
 refine SC_body (fn := Tryz.f82) (n := 73) Tryz.func82 rfl (by kernel_rfl) (ρ := [(0, .agg #[Gs.val R.s R.objs.length, Gs.val R.ts R.texts.length]), (1, .int .u64 w)]) rfl ?_
 refine SW_sig _ RSt.eq0 ?_
 refine sr ?_
 refine L (nw 28 2 [Gs.val R.s R.objs.length, Gs.val R.ts R.texts.length] ?_)
 intro b1
 refine os 1 ?_
 refine nsr ?_
 refine os 1 ?_
 refine nq ?_
 refine sr ?_
 refine os 1 ?_
 refine nt ?_
 refine SW_block ?_
 refine SW_loop (α := Nat × Gs × List ByteArray) (fun z_ ρ_ σ_ => Fits ρ_ σ_ [(1, .int .u64 w), (2, pt b1 0), (5, Gs.val z_.2.1 z_.2.2.length), (6, .int .i64 (z_.1 : Int))] ((Gs.ent 9 1 z_.2.1 (z_.2.2.map encS)) ++ ((b1, .cells 28 2 [Gs.val R.s R.objs.length, Gs.val R.ts R.texts.length]) :: ((Gs.ent 104 7 R.s (R.objs.flatMap RObj.cells)) ++ ((R.objs.flatMap RObj.ent) ++ ((Gs.ent 9 1 R.ts (R.texts.map encS)) ++ ([])))))) ∧ z_.1 ≤ lenN R.pub w ∧ Gs.ok 1 z_.2.2.length z_.2.1 (z_.2.2.map encS) ∧ z_.2.2 = keysE R.pub w z_.1) (fun z_ => lenN R.pub w - z_.1) (0, Gs.nil, ([] : List ByteArray)) ⟨⟨fun _ => rfl, (Own.of_perm (List.Perm.of_eq (by simp [Gs.ent])))⟩, Nat.zero_le _, ⟨rfl, rfl⟩, rfl⟩ ?_
 rintro ⟨i, a, ys⟩ ρ_ σ_ ⟨hfit, hi0, hi1, hi2⟩
 refine SW_fits hfit ?_
 clear hfit
 simp only [] at hi0 hi1 hi2 ⊢
 have hle : ys.length ≤ 4096 := by rw [hi2]; exact Nat.le_trans (keysE_len _ _ _) (by omega)
 refine SW_seq ?_
 refine sr ?_
 refine os 1 ?_
 refine L (lds 2 ?_)
 refine os 1 ?_
 refine L (cl (rz_Len hR hL (w := w) hw) ?_ (hp := RSt.pm))
 rintro _ _ rfl
 refine SL_sig _ RSt.eq ?_
 refine os 1 ?_
 refine kp [15, 1, 2, 5, 6] ?_
 refine nt ?_
 refine cdp (fun hc2 : (i : Int) < (lenN R.pub w : Int) => ?_) (fun hc2 => ?_)
 ·refine Ql (Qj ?_)
  refine SW_seq ?_
  refine SW_block ?_
  refine sr ?_
  refine L (lds 2 ?_)
  refine os 2 ?_
  refine L (cl (rz_Elem hR (w := w) hw (i : Int)) ?_ (hp := RSt.pm))
  rintro _ _ rfl
  refine SL_sig _ RSt.eq ?_
  refine os 5 ?_
  refine kp [8, 15, 1, 2, 5, 6] ?_
  refine nsr ?_
  refine os 1 ?_
  refine nt ?_
  refine cd (fun hc3 : ((elemQ R.pub w (i : Int)).2) = true => ?_) (fun hc3 => ?_)
  ·refine Qn ?_
   refine os 2 ?_
   refine L (cl (rf_Digits i (by omega)) ?_)
   rintro v3 _ hv3
   obtain rfl : v3 = .string (byteS (Lib.itoa (i : Int))) := hv3.trans (congrArg Value.string (by rw [itoa_nat]))
   refine un ?_
   refine L (nws 9 1 1 [.string (byteS (Lib.itoa (i : Int)))] ?_)
   intro b4
   refine SL_perm _ (perm_cc (perm_ca (perm_ca (perm_ca perm_cz)))) ?_
   refine L (O_append (size := 1) (bytes := 16) (z := .string ByteArray.empty) a ys.length 1 (some ⟨b4, 0, none⟩) 1 (ys.map encS) ([.string (byteS (Lib.itoa (i : Int)))]) ((ys ++ [(byteS (Lib.itoa (i : Int)))]).map encS) (map_snoc _ (byteS (Lib.itoa (i : Int))) rfl) (fun _ => rfl) (fun _ => rfl) Tryz.underlying26 (by kernel_rfl) rfl (by decide) hi1 rfl (.inr ⟨b4, 0, rfl, Cells.own (Qa Qe) rfl⟩) rfl (by omega) (by decide) rfl ?_)
   intro s5 hks5 hfs5
   rw [show ys.length + 1 = (ys ++ [(byteS (Lib.itoa (i : Int)))]).length from by simp]
   rw [show ys.length + 1 = (ys ++ [(byteS (Lib.itoa (i : Int)))]).length from by simp] at hks5
   have hls5 : (ys ++ [(byteS (Lib.itoa (i : Int)))]).length = ys.length + 1 := by simp
   refine os 1 ?_
   refine kp [5, 25, 8, 15, 1, 2, 6] ?_
   refine SL_nil (n_in (Qj ?_))
   refine Qn ?_
   refine os 3 ?_
   refine nt ?_
   refine ⟨(i + 1, s5, (ys ++ [(byteS (Lib.itoa (i : Int)))])), by simp only []; omega, ?_⟩
   simp only []
   exact ⟨⟨fun _ => rfl, ow⟩, by omega, hks5, by rw [keysE_succ, if_pos (by assumption), hi2]⟩
  refine Ql (n_in (Qj ?_))
  refine Qn ?_
  refine os 3 ?_
  refine nt ?_
  refine ⟨(i + 1, a, ys), by simp only []; omega, ?_⟩
  simp only []
  exact ⟨⟨fun _ => rfl, ow⟩, by omega, hi1, by rw [keysE_succ, ite_ff (by assumption), hi2]; exact (List.append_nil _).symm⟩
 refine SW_exit (x_then (x_then (x_in (Qj ?_))))
 refine sr ?_
 refine L (lds 2 ?_)
 refine os 1 ?_
 refine L (cl (rf_At (R := RSt.mk R.s R.objs R.ts R.texts) hw (w := w)) ?_)
 rintro v4 _ hv4
 obtain rfl : v4 = .int .i64 (-1) := hv4.trans (by simp only []; unfold atI; rw [h0])
 refine un ?_
 refine os 1 ?_
 refine kp [9, 15, 1, 2, 5, 6] ?_
 refine nq ?_
 refine sr ?_
 refine os 1 ?_
 refine oV (.bool true) ?_
 refine nt ?_
 refine ct ?_
 refine sr ?_
 refine os 2 ?_
 refine nt ?_
 refine Qi (Qm ?_)
 refine Qg (Gs.val a ys.length) (fun _ => rfl) ?_
 have e : keysP' R.pub w = ys := by unfold keysP' namesQ; rw [objOf_none (by rw [RSt.pub_len]; exact h0), hi2, show i = lenN R.pub w from by omega]; exact List.append_nil _
 rw [e]
 exact ⟨a, Own.trans (ow (S := ((Gs.ent 9 1 a (ys.map encS)) ++ ((Gs.ent 104 7 R.s (R.objs.flatMap RObj.cells)) ++ ((R.objs.flatMap RObj.ent) ++ ((Gs.ent 9 1 R.ts (R.texts.map encS)) ++ ([]))))))) (Own.of_perm (List.Perm.of_eq (by simp only [RSt.ent, List.cons_append, List.append_assoc, List.nil_append, List.append_nil]))), rfl, hi1⟩

theorem rz_Keys_some {W0 : World} {k : Nat} {R : RSt} (hR : R.ok) (hL : LOk k R.pub) (hk : k ≤ 8000000) {w : Int} (hw : wordOk w) (hnd : ∀ o ∈ R.pub, o.names.Nodup) {n : Nat} {x : RObj} (h0 : objAt w R.objs.length = some n) (hx : R.objs[n]? = some x) : SC Tryz.prog W0 82 #[R.val, .int .u64 w] (RSt.ent R) (Ret (fun g : Gs => g.ent 9 1 ((keysP' R.pub w).map encS) ++ RSt.ent R) (fun v g => v = g.val (keysP' R.pub w).length ∧ g.ok 1 (keysP' R.pub w).length ((keysP' R.pub w).map encS))) := by
 have hnl := (List.getElem?_eq_some_iff.1 hx).1
 have hln := hL.lenN w
 have hyp : R.pub[n]? = some x.pub := RSt.pub_at hx
 have hpn : objAt w R.pub.length = some n := by rw [RSt.pub_len]; exact h0
 have hsm : x.names.length = x.descs.length := hL.same _ (List.mem_of_getElem? hyp)
 have hsd : x.descs.length ≤ k := hL.descs _ (List.mem_of_getElem? hyp)
 refine SC_body (fn := Tryz.f82) (n := 73) Tryz.func82 rfl (by kernel_rfl) (ρ := [(0, .agg #[Gs.val R.s R.objs.length, Gs.val R.ts R.texts.length]), (1, .int .u64 w)]) rfl ?_
 refine SW_sig _ RSt.eq0 ?_
 refine sr ?_
 refine L (nw 28 2 [Gs.val R.s R.objs.length, Gs.val R.ts R.texts.length] ?_)
 intro b1
 refine os 1 ?_
 refine nsr ?_
 refine os 1 ?_
 refine nq ?_
 refine sr ?_
 refine os 1 ?_
 refine nt ?_
 refine SW_block ?_
 refine SW_loop (α := Nat × Gs × List ByteArray) (fun z_ ρ_ σ_ => Fits ρ_ σ_ [(1, .int .u64 w), (2, pt b1 0), (5, Gs.val z_.2.1 z_.2.2.length), (6, .int .i64 (z_.1 : Int))] ((Gs.ent 9 1 z_.2.1 (z_.2.2.map encS)) ++ ((b1, .cells 28 2 [Gs.val R.s R.objs.length, Gs.val R.ts R.texts.length]) :: ((Gs.ent 104 7 R.s (R.objs.flatMap RObj.cells)) ++ ((R.objs.flatMap RObj.ent) ++ ((Gs.ent 9 1 R.ts (R.texts.map encS)) ++ ([])))))) ∧ z_.1 ≤ lenN R.pub w ∧ Gs.ok 1 z_.2.2.length z_.2.1 (z_.2.2.map encS) ∧ z_.2.2 = keysE R.pub w z_.1) (fun z_ => lenN R.pub w - z_.1) (0, Gs.nil, ([] : List ByteArray)) ⟨⟨fun _ => rfl, (Own.of_perm (List.Perm.of_eq (by simp [Gs.ent])))⟩, Nat.zero_le _, ⟨rfl, rfl⟩, rfl⟩ ?_
 rintro ⟨i, a, ys⟩ ρ_ σ_ ⟨hfit, hi0, hi1, hi2⟩
 refine SW_fits hfit ?_
 clear hfit
 simp only [] at hi0 hi1 hi2 ⊢
 have hle : ys.length ≤ 4096 := by rw [hi2]; exact Nat.le_trans (keysE_len _ _ _) (by omega)
 refine SW_seq ?_
 refine sr ?_
 refine os 1 ?_
 refine L (lds 2 ?_)
 refine os 1 ?_
 refine L (cl (rz_Len hR hL (w := w) hw) ?_ (hp := RSt.pm))
 rintro _ _ rfl
 refine SL_sig _ RSt.eq ?_
 refine os 1 ?_
 refine kp [15, 1, 2, 5, 6] ?_
 refine nt ?_
 refine cdp (fun hc2 : (i : Int) < (lenN R.pub w : Int) => ?_) (fun hc2 => ?_)
 ·refine Ql (Qj ?_)
  refine SW_seq ?_
  refine SW_block ?_
  refine sr ?_
  refine L (lds 2 ?_)
  refine os 2 ?_
  refine L (cl (rz_Elem hR (w := w) hw (i : Int)) ?_ (hp := RSt.pm))
  rintro _ _ rfl
  refine SL_sig _ RSt.eq ?_
  refine os 5 ?_
  refine kp [8, 15, 1, 2, 5, 6] ?_
  refine nsr ?_
  refine os 1 ?_
  refine nt ?_
  refine cd (fun hc3 : ((elemQ R.pub w (i : Int)).2) = true => ?_) (fun hc3 => ?_)
  ·refine Qn ?_
   refine os 2 ?_
   refine L (cl (rf_Digits i (by omega)) ?_)
   rintro v3 _ hv3
   obtain rfl : v3 = .string (byteS (Lib.itoa (i : Int))) := hv3.trans (congrArg Value.string (by rw [itoa_nat]))
   refine un ?_
   refine L (nws 9 1 1 [.string (byteS (Lib.itoa (i : Int)))] ?_)
   intro b4
   refine SL_perm _ (perm_cc (perm_ca (perm_ca (perm_ca perm_cz)))) ?_
   refine L (O_append (size := 1) (bytes := 16) (z := .string ByteArray.empty) a ys.length 1 (some ⟨b4, 0, none⟩) 1 (ys.map encS) ([.string (byteS (Lib.itoa (i : Int)))]) ((ys ++ [(byteS (Lib.itoa (i : Int)))]).map encS) (map_snoc _ (byteS (Lib.itoa (i : Int))) rfl) (fun _ => rfl) (fun _ => rfl) Tryz.underlying26 (by kernel_rfl) rfl (by decide) hi1 rfl (.inr ⟨b4, 0, rfl, Cells.own (Qa Qe) rfl⟩) rfl (by omega) (by decide) rfl ?_)
   intro s5 hks5 hfs5
   rw [show ys.length + 1 = (ys ++ [(byteS (Lib.itoa (i : Int)))]).length from by simp]
   rw [show ys.length + 1 = (ys ++ [(byteS (Lib.itoa (i : Int)))]).length from by simp] at hks5
   have hls5 : (ys ++ [(byteS (Lib.itoa (i : Int)))]).length = ys.length + 1 := by simp
   refine os 1 ?_
   refine kp [5, 25, 8, 15, 1, 2, 6] ?_
   refine SL_nil (n_in (Qj ?_))
   refine Qn ?_
   refine os 3 ?_
   refine nt ?_
   refine ⟨(i + 1, s5, (ys ++ [(byteS (Lib.itoa (i : Int)))])), by simp only []; omega, ?_⟩
   simp only []
   exact ⟨⟨fun _ => rfl, ow⟩, by omega, hks5, by rw [keysE_succ, if_pos (by assumption), hi2]⟩
  refine Ql (n_in (Qj ?_))
  refine Qn ?_
  refine os 3 ?_
  refine nt ?_
  refine ⟨(i + 1, a, ys), by simp only []; omega, ?_⟩
  simp only []
  exact ⟨⟨fun _ => rfl, ow⟩, by omega, hi1, by rw [keysE_succ, ite_ff (by assumption), hi2]; exact (List.append_nil _).symm⟩
 refine SW_exit (x_then (x_then (x_in (Qj ?_))))
 refine sr ?_
 refine L (lds 2 ?_)
 refine os 1 ?_
 refine L (cl (rf_At (R := RSt.mk R.s R.objs R.ts R.texts) hw (w := w)) ?_)
 rintro v4 _ hv4
 obtain rfl : v4 = .int .i64 (n : Int) := hv4.trans (by simp only []; unfold atI; rw [h0])
 refine un ?_
 refine os 1 ?_
 refine kp [9, 15, 1, 2, 5, 6] ?_
 refine nq ?_
 refine sr ?_
 refine os 2 ?_
 refine nt ?_
 refine SW_false (fun _ => (congrArg Value.bool (show (decide ((n : Int) < 0)) = false from (by simp)))) ?_
 refine Ql (Qj ?_)
 refine SW_seq ?_
 refine sr ?_
 refine os 1 ?_
 refine nt ?_
 refine SW_block ?_
 have hie : i = lenN R.pub w := by omega
 refine SW_loop (α := Nat × Gs × List ByteArray) (fun z_ ρ_ σ_ => Fits ρ_ σ_ [(2, pt b1 0), (9, .int .i64 (n : Int)), (5, Gs.val z_.2.1 z_.2.2.length), (10, .int .i64 (z_.1 : Int))] ((Gs.ent 9 1 z_.2.1 (z_.2.2.map encS)) ++ ((Gs.ent 104 7 R.s (R.objs.flatMap RObj.cells)) ++ ((R.objs.flatMap RObj.ent) ++ ((Gs.ent 9 1 R.ts (R.texts.map encS)) ++ ((b1, .cells 28 2 [Gs.val R.s R.objs.length, Gs.val R.ts R.texts.length]) :: ([])))))) ∧ z_.1 ≤ x.names.length ∧ Gs.ok 1 z_.2.2.length z_.2.1 (z_.2.2.map encS) ∧ z_.2.2 = keysE R.pub w (lenN R.pub w) ++ keysN R.pub w (x.names.take z_.1)) (fun z_ => x.names.length - z_.1) (0, a, ys) ⟨⟨fun _ => rfl, ow⟩, Nat.zero_le _, hi1, (by rw [hi2, hie]; exact (List.append_nil _).symm)⟩ ?_
 rintro ⟨j, b, zs⟩ ρ_ σ_ ⟨hfit, hi0, hi1, hi2⟩
 refine SW_fits hfit ?_
 clear hfit
 simp only [] at hi0 hi1 hi2 ⊢
 have hle2 : zs.length ≤ 4096 + x.names.length := by rw [hi2, List.length_append]; exact Nat.add_le_add (Nat.le_trans (keysE_len _ _ _) (by omega)) (Nat.le_trans (keysN_len _ _ _) (List.length_take_le' _ _))
 refine SW_seq ?_
 refine sr ?_
 refine os 2 ?_
 refine L (ld ?_)
 refine os 1 ?_
 refine L (ixg (n : Int) (n * 7) hR.row Tryz.underlying25 ?_)
 refine os 1 ?_
 refine L (ld ?_ (hc := Gs.cell hR.row (fun e he => (Qa (mem_h he))) (Qh RObj.len hx (j := 3) (by decide) rfl)))
 refine os 2 ?_
 refine kp [45, 2, 9, 5, 10] ?_
 refine nt ?_
 refine cdp (fun hc6 : (j : Int) < (x.names.length : Int) => ?_) (fun hc6 => ?_)
 ·refine Ql (Qj ?_)
  refine SW_seq ?_
  refine SW_block ?_
  refine SW_seq ?_
  obtain ⟨e1, he1⟩ : ∃ y_, x.names[j]? = some y_ := ⟨_, List.getElem?_eq_getElem (by omega)⟩
  obtain ⟨e2, he2⟩ : ∃ y_, x.descs[j]? = some y_ := ⟨_, List.getElem?_eq_getElem (by omega)⟩
  refine Qn ?_
  refine os 1 ?_
  refine L (ld ?_)
  refine os 1 ?_
  refine L (ixg (n : Int) (n * 7) hR.row Tryz.underlying25 ?_)
  refine os 1 ?_
  refine L (ld ?_ (hc := Gs.cell hR.row (fun e he => (Qa (mem_h he))) (Qh RObj.len hx (j := 4) (by decide) rfl)))
  refine os 1 ?_
  refine L (ixg (j : Int) (j * 3) ((RSt.ok.at hR hx).ds) Tryz.underlying99 ?_)
  refine os 1 ?_
  refine kp [56, 45, 2, 9, 5, 10] ?_
  refine L (ld ?_ (hc := Gs.cell (RSt.ok.at hR hx).ds (fun e he => (Qa (Qa (mem_h ((RObj.mds hx) _ he))))) (Qh descCells_len he2 (j := 2) (by decide) rfl)))
  refine oV (.int .i64 (band e2.2.2 2)) ?_
  refine os 1 ?_
  refine kp [59, 45, 2, 9, 5, 10] ?_
  refine nt ?_
  refine cd (fun hc7 : ((band e2.2.2 2) != 0) = true => ?_) (fun hc7 => ?_)
  ·refine Qn ?_
   refine os 2 ?_
   refine L (ld ?_)
   refine os 1 ?_
   refine L (ixg (n : Int) (n * 7) hR.row Tryz.underlying25 ?_)
   refine os 1 ?_
   refine L (ld ?_ (hc := Gs.cell hR.row (fun e he => (Qa (mem_h he))) (Qh RObj.len hx (j := 3) (by decide) rfl)))
   refine os 1 ?_
   refine L (ixg (j : Int) (j) ((RSt.ok.at hR hx).ns) Tryz.underlying26 ?_)
   refine L (ld ?_ (hc := Gs.cell (RSt.ok.at hR hx).ns (fun e he => (Qa (Qa (mem_h ((RObj.mns hx) _ he))))) (map_cell he1 rfl)))
   refine L (nws 9 1 1 [.string e1] ?_)
   intro b8
   refine SL_perm _ (perm_cc perm_cz) ?_
   refine L (O_append (size := 1) (bytes := 16) (z := .string ByteArray.empty) b zs.length 1 (some ⟨b8, 0, none⟩) 1 (zs.map encS) ([.string e1]) ((zs ++ [e1]).map encS) (map_snoc _ e1 rfl) (fun _ => rfl) (fun _ => rfl) Tryz.underlying26 (by kernel_rfl) rfl (by decide) hi1 rfl (.inr ⟨b8, 0, rfl, Cells.own (Qa Qe) rfl⟩) rfl (by omega) (by decide) rfl ?_)
   intro s9 hks9 hfs9
   rw [show zs.length + 1 = (zs ++ [e1]).length from by simp]
   rw [show zs.length + 1 = (zs ++ [e1]).length from by simp] at hks9
   have hls9 : (zs ++ [e1]).length = zs.length + 1 := by simp
   refine os 1 ?_
   refine kp [5, 59, 45, 2, 9, 10] ?_
   refine SL_nil (n_in (Qj ?_))
   refine Qn ?_
   refine os 3 ?_
   refine nt ?_
   have eg_ : getQ R.pub w e1 = some e2 := by unfold getQ; rw [objOf_some hpn hyp]; exact (getP_at (hnd _ (List.mem_of_getElem? hyp)) he1).trans he2
   have hb_ : (band (descG (getQ R.pub w e1)).2.2 2 != 0) = true := by rw [eg_]; assumption
   refine ⟨(j + 1, s9, (zs ++ [e1])), by simp only []; omega, ?_⟩
   simp only []
   exact ⟨⟨fun _ => rfl, ow⟩, by omega, hks9, by rw [keysN_succ _ _ _ he1, if_pos hb_, hi2]; exact List.append_assoc _ _ _⟩
  refine Ql (n_in (Qj ?_))
  refine Qn ?_
  refine os 3 ?_
  refine nt ?_
  have eg_ : getQ R.pub w e1 = some e2 := by unfold getQ; rw [objOf_some hpn hyp]; exact (getP_at (hnd _ (List.mem_of_getElem? hyp)) he1).trans he2
  have hb_ : (band (descG (getQ R.pub w e1)).2.2 2 != 0) = false := by rw [eg_]; assumption
  refine ⟨(j + 1, b, zs), by simp only []; omega, ?_⟩
  simp only []
  exact ⟨⟨fun _ => rfl, ow⟩, by omega, hi1, by rw [keysN_succ _ _ _ he1, ite_ff hb_, hi2]; rw [List.append_nil]⟩
 refine SW_exit (x_then (x_then (x_in (Qj ?_))))
 refine sr ?_
 refine os 2 ?_
 refine nt ?_
 refine Qi ?_
 refine Qg (Gs.val b zs.length) (fun _ => rfl) ?_
 have e : keysP' R.pub w = zs := by unfold keysP' namesQ; rw [objOf_some hpn hyp, hi2, show j = x.names.length from by omega, List.take_length]; rfl
 rw [e]
 exact ⟨b, Own.trans (ow (S := ((Gs.ent 9 1 b (zs.map encS)) ++ ((Gs.ent 104 7 R.s (R.objs.flatMap RObj.cells)) ++ ((R.objs.flatMap RObj.ent) ++ ((Gs.ent 9 1 R.ts (R.texts.map encS)) ++ ([]))))))) (Own.of_perm (List.Perm.of_eq (by simp only [RSt.ent, List.cons_append, List.append_assoc, List.nil_append, List.append_nil]))), rfl, hi1⟩

theorem rz_Keys {W0 : World} {k : Nat} {R : RSt} (hR : R.ok) (hL : LOk k R.pub) (hk : k ≤ 8000000) {w : Int} (hw : wordOk w) (hnd : ∀ o ∈ R.pub, o.names.Nodup) : SC Tryz.prog W0 82 #[R.val, .int .u64 w] (RSt.ent R) (Ret (fun g : Gs => g.ent 9 1 ((keysP' R.pub w).map encS) ++ RSt.ent R) (fun v g => v = g.val (keysP' R.pub w).length ∧ g.ok 1 (keysP' R.pub w).length ((keysP' R.pub w).map encS))) := by
 cases h0 : objAt w R.objs.length with
 | none => exact rz_Keys_none hR hL hk hw hnd h0
 | some n => exact rz_Keys_some hR hL hk hw hnd h0 (List.getElem?_eq_getElem (objAt_tag h0).2)

end Go.Proofs.YthflblophelioaaGreatDoor
namespace Go.Proofs.YthflblophelioaaGreatDoor
open Go.Sl

theorem word_payload32 {W0 : World} {w tag : Int} (ht : 0 ≤ tag ∧ tag < 65536) : SC Tryz.prog W0 118 #[.int .u64 w, .int .u64 tag] [] (Ret (fun _ : Unit => []) (fun v _ => v = (match tagOf w tag with | some n => .tuple #[.int .i32 (IntKind.wrap .i32 (n : Int)), .bool true] | none => .tuple #[.int .i32 0, .bool false]))) := by
 refine SC_body (fn := Tryz.f118) (n := 14) Tryz.func118 rfl (by kernel_rfl) (ρ := [(0, .int .u64 w), (1, .int .u64 tag)]) rfl ?_
 refine sr ?_
 refine os 2 ?_
 refine nq ?_
 refine sr ?_
 refine os 1 ?_
 refine oX (.int .u64 (Int.fdiv w 4294967296)) (.int .u64 (w / 4294967296)) (congrArg (Value.int .u64) (Int.fdiv_eq_ediv_of_nonneg _ (by omega))) ?_
 refine os 1 ?_
 refine oX (.int .u64 (IntKind.wrap .u64 (tag * 65536))) (.int .u64 (tag * 65536)) (congrArg (Value.int .u64) (IntWalk.u64_in _ (by omega))) ?_
 refine os 1 ?_
 refine kp [10, 5, 4, 0, 1] ?_
 refine nt ?_
 refine cd (fun hc1 : ((w / 4294967296) != (tag * 65536)) = true => ?_) (fun hc1 => ?_)
 ·refine sr ?_
  refine os 2 ?_
  refine nt ?_
  refine Qi (Qm ?_)
  refine Qg (.tuple #[.int .i32 0, .bool false]) (fun _ => rfl) ?_
  exact ⟨(), ⟨_, List.Perm.refl _⟩, by simp only [tagOf, if_neg (show ¬ (w / 4294967296 = tag * 65536) from by simp at hc1; omega)]⟩
 refine Ql (Qj ?_)
 refine sr ?_
 refine os 1 ?_
 refine oV (.int .u32 (IntKind.wrap .u32 (w))) ?_
 refine oV (.int .i32 (IntKind.wrap .i32 (IntKind.wrap .u32 (w)))) ?_
 refine os 2 ?_
 refine kp [5, 4, 10, 0, 1] ?_
 refine nt ?_
 refine Qi ?_
 refine Qg (.tuple #[.int .i32 (IntKind.wrap .i32 (IntKind.wrap .u32 (w))), .bool true]) (fun _ => rfl) ?_
 exact ⟨(), ⟨_, List.Perm.refl _⟩, by simp only [tagOf, if_pos (show w / 4294967296 = tag * 65536 from by simp at hc1; omega)]; rw [payload_i32]⟩

theorem word_IsInt {W0 : World} {w : Int} : SC Tryz.prog W0 95 #[.int .u64 w] [] (Ret (fun _ : Unit => []) (fun v _ => v = (match isI w with | some n => .tuple #[.int .i32 n, .bool true] | none => .tuple #[.int .i32 0, .bool false]))) := by
 refine SC_body (fn := Tryz.f95) (n := 8) Tryz.func95 rfl (by kernel_rfl) (ρ := [(0, .int .u64 w)]) rfl ?_
 refine sr ?_
 refine os 2 ?_
 refine nsr ?_
 refine os 1 ?_
 rcases hm1 : isI w with _ | m1
 ·refine L (cl (word_payload32 (w := w) (tag := 65529) (by omega)) ?_)
  rintro v1 _ hv1
  obtain rfl : v1 = .tuple #[.int .i32 0, .bool false] := hv1.trans (by unfold isI at hm1; cases q_ : tagOf w 65529 <;> rw [q_] at hm1 <;> cases hm1 <;> rfl)
  refine un ?_
  refine os 4 ?_
  refine kp [3, 2, 0] ?_
  refine nt ?_
  refine Qi ?_
  refine Qg (.tuple #[.int .i32 0, .bool false]) (fun _ => rfl) ?_
  exact ⟨(), ⟨_, List.Perm.refl _⟩, rfl⟩
 refine L (cl (word_payload32 (w := w) (tag := 65529) (by omega)) ?_)
 rintro v2 _ hv2
 obtain rfl : v2 = .tuple #[.int .i32 m1, .bool true] := hv2.trans (by unfold isI at hm1; cases q_ : tagOf w 65529 <;> rw [q_] at hm1 <;> cases hm1 <;> rfl)
 refine un ?_
 refine os 4 ?_
 refine kp [3, 2, 0] ?_
 refine nt ?_
 refine Qi ?_
 refine Qg (.tuple #[.int .i32 m1, .bool true]) (fun _ => rfl) ?_
 exact ⟨(), ⟨_, List.Perm.refl _⟩, rfl⟩

theorem word_Int {W0 : World} {n : Int} (hn : 0 ≤ n ∧ n < 2147483648) : SC Tryz.prog W0 51 #[.int .i32 n] [] (Ret (fun _ : Unit => []) (fun v _ => v = .int .u64 (intW n))) := by
 refine SC_body (fn := Tryz.f51) (n := 6) Tryz.func51 rfl (by kernel_rfl) (ρ := [(0, .int .i32 n)]) rfl ?_
 refine sr ?_
 refine os 1 ?_
 refine nsr ?_
 refine os 2 ?_
 refine L (cl (word_tagged (tag := 65529) (n := n) (by omega) (by omega)) ?_)
 rintro _ _ rfl
 refine un ?_
 refine os 1 ?_
 refine kp [2, 0] ?_
 refine nt ?_
 refine Qi ?_
 refine Qg (.int .u64 (65529 * 281474976710656 + n)) (fun _ => rfl) ?_
 exact ⟨(), ⟨_, List.Perm.refl _⟩, rfl⟩

theorem prop_array {W0 : World} {k : Nat} {H : HeapV} {F : HeapF} (h : HInv k H F) (w : Int) : SC Tryz.prog W0 50 #[.pointer (some ⟨F.p, 0, none⟩), .int .u64 w] (HeapV.ent H F) (Ret (fun _ : Unit => HeapV.ent H F) (fun v _ => v = .bool (arrP (H.pub F) w))) := by
 refine SC_body (fn := Tryz.f50) (n := 18) Tryz.func50 rfl (by kernel_rfl) (ρ := [(0, pt F.p 0), (1, .int .u64 w)]) rfl ?_
 refine SW_sig ((HeapV.ent H F) ++ ([])) (by simp only [List.append_nil, List.append_assoc]) ?_
 refine sr ?_
 refine os 1 ?_
 refine nsr ?_
 refine os 2 ?_
 refine L (cl (hz_Kind h w) ?_)
 rintro _ _ rfl
 refine os 5 ?_
 refine kp [6, 5, 4, 0, 1] ?_
 refine nsr ?_
 refine os 2 ?_
 refine tb 14 (fun hg1 => ?_) (fun hg1 => ?_)
 ·replace hg1 : ((kindQ (HeapV.pub H F) w).2) = true := hg1
  refine os 4 ?_
  refine kp [4, 6, 5, 0, 1] ?_
  refine nt ?_
  refine Qi ?_
  refine Qg (.bool (((kindQ (HeapV.pub H F) w).1) == 1)) (fun _ => rfl) ?_
  exact ⟨(), ow, congrArg Value.bool (by rw [arrP_eq]; simp [*])⟩
 replace hg1 : ((kindQ (HeapV.pub H F) w).2) = false := hg1
 refine os 4 ?_
 refine kp [4, 6, 5, 0, 1] ?_
 refine nt ?_
 refine Qi ?_
 refine Qg (.bool false) (fun _ => rfl) ?_
 exact ⟨(), ow, congrArg Value.bool (by rw [arrP_eq]; simp [*])⟩

theorem prop_Index {W0 : World} (hL : Laid W0) {key : ByteArray} (hks : key.size ≤ 281474976710656) : SC Tryz.prog W0 53 #[.string key] [] (Ret (fun _ : Unit => []) (fun v _ => v = two (idxV key))) := by
 refine SC_body (fn := Tryz.f53) (n := 28) Tryz.func53 rfl (by kernel_rfl) (ρ := [(0, .string key)]) rfl ?_
 refine sr ?_
 refine os 2 ?_
 refine nsr ?_
 refine os 1 ?_
 rcases hm1 : atoQ key with _ | m1
 ·refine L (cl (str_Atoi_none hL hks hm1) ?_)
  rintro _ ⟨z, it, ip⟩ rfl
  refine un ?_
  refine os 5 ?_
  refine kp [5, 4, 3, 2, 0] ?_
  refine nq ?_
  refine sr ?_
  refine os 1 ?_
  refine oV (.bool true) ?_
  refine os 14 ?_
  refine kp [26, 5, 4, 3, 2, 0] ?_
  refine nt ?_
  refine ct ?_
  refine sr ?_
  refine os 2 ?_
  refine nt ?_
  refine Qi (Qm ?_)
  refine Qg (.tuple #[.int .i64 0, .bool false]) (fun _ => rfl) ?_
  exact ⟨(), ⟨_, List.Perm.refl _⟩, by rw [idxV_bad hm1]⟩
 refine L (cl (str_Atoi_some hL hks hm1) ?_)
 rintro _ _ rfl
 refine un ?_
 refine os 5 ?_
 refine kp [5, 4, 3, 2, 0] ?_
 refine nq ?_
 refine sr ?_
 refine os 1 ?_
 refine oV (.bool false) ?_
 refine os 5 ?_
 refine kp [17, 5, 4, 3, 2, 0] ?_
 refine tbp 17 (fun hg1 => ?_) (fun hg1 => ?_)
 ·replace hg1 : m1 < 0 := hg1
  refine os 9 ?_
  refine kp [26, 5, 4, 3, 2, 0] ?_
  refine nt ?_
  refine ct ?_
  refine sr ?_
  refine os 2 ?_
  refine nt ?_
  refine Qi (Qm ?_)
  refine Qg (.tuple #[.int .i64 0, .bool false]) (fun _ => rfl) ?_
  exact ⟨(), ⟨_, List.Perm.refl _⟩, by rw [atoQ_out hm1 (by rintro ⟨a_, b_, c_⟩; first | omega | contradiction)]⟩
 replace hg1 : ¬ (m1 < 0) := hg1
 refine os 4 ?_
 refine tbp 21 (fun hg2 => ?_) (fun hg2 => ?_)
 ·replace hg2 : m1 ≥ 4096 := hg2
  refine os 5 ?_
  refine kp [26, 5, 4, 3, 2, 0] ?_
  refine nt ?_
  refine ct ?_
  refine sr ?_
  refine os 2 ?_
  refine nt ?_
  refine Qi (Qm ?_)
  refine Qg (.tuple #[.int .i64 0, .bool false]) (fun _ => rfl) ?_
  exact ⟨(), ⟨_, List.Perm.refl _⟩, by rw [atoQ_out hm1 (by rintro ⟨a_, b_, c_⟩; first | omega | contradiction)]⟩
 replace hg2 : ¬ (m1 ≥ 4096) := hg2
 refine os 1 ?_
 refine L (cl (str_Itoa hL m1 (by first | omega | (simp at *; omega))) ?_)
 rintro _ _ rfl
 refine un ?_
 refine os 1 ?_
 refine oX (.bool (!((⟨(Lib.itoa m1).toArray⟩ : ByteArray).toList == key.toList))) (.bool (!(decide ((⟨(Lib.itoa m1).toArray⟩ : ByteArray) = key)))) (congrArg Value.bool (by rw [str_eq])) ?_
 refine os 1 ?_
 refine kp [26, 5, 4, 3, 2, 0] ?_
 refine nt ?_
 refine cd (fun hc3 : (!(decide ((⟨(Lib.itoa m1).toArray⟩ : ByteArray) = key))) = true => ?_) (fun hc3 => ?_)
 ·replace hc3 := bnot_t hc3
  replace hc3 := of_decide_eq_false hc3
  refine sr ?_
  refine os 2 ?_
  refine nt ?_
  refine Qi (Qm ?_)
  refine Qg (.tuple #[.int .i64 0, .bool false]) (fun _ => rfl) ?_
  exact ⟨(), ⟨_, List.Perm.refl _⟩, by rw [atoQ_out hm1 (by rintro ⟨a_, b_, c_⟩; first | omega | contradiction)]⟩
 replace hc3 := bnot_f hc3
 replace hc3 := of_decide_eq_true hc3
 refine Ql (Qj ?_)
 refine sr ?_
 refine os 3 ?_
 refine nt ?_
 refine Qi ?_
 refine Qg (.tuple #[.int .i64 m1, .bool true]) (fun _ => rfl) ?_
 exact ⟨(), ⟨_, List.Perm.refl _⟩, by rw [atoQ_range hm1 (by simp at *; omega) (by simp at *; assumption)]⟩

end Go.Proofs.YthflblophelioaaGreatDoor
namespace Go.Proofs.YthflblophelioaaGreatDoor
open Go.Sl

theorem prop_Own {W0 : World} (hL : Laid W0) {k : Nat} {H : HeapV} {F : HeapF} (h : HInv k H F) (w : Int) {key : ByteArray} (hks : key.size ≤ 281474976710656) : SC Tryz.prog W0 19 #[.pointer (some ⟨F.p, 0, none⟩), .int .u64 w, .string key] (HeapV.ent H F) (Ret (fun _ : Unit => HeapV.ent H F) (fun v _ => v = descR (ownQ (H.pub F) w key))) := by
 have hln := h.lok.lenN w
 refine SC_body (fn := Tryz.f19) (n := 47) Tryz.func19 rfl (by kernel_rfl) (ρ := [(0, pt F.p 0), (1, .int .u64 w), (2, .string key)]) rfl ?_
 refine SW_sig ((HeapV.ent H F) ++ ([])) (by simp only [List.append_nil, List.append_assoc]) ?_
 refine sr ?_
 refine L (nw 45 3 [.int .u64 0, .int .u64 0, .int .i64 0] ?_)
 intro b1
 refine os 1 ?_
 refine nq ?_
 refine sr ?_
 refine os 2 ?_
 refine L (cl (prop_array h w) ?_)
 rintro _ _ rfl
 refine nt ?_
 refine cd (fun hc2 : ((arrP (HeapV.pub H F) w)) = true => ?_) (fun hc2 => ?_)
 ·refine SW_seq ?_
  refine sr ?_
  refine os 1 ?_
  refine oX (.bool (key.toList == (ByteArray.mk (List.toArray (List.cons 108 (List.cons 101 (List.cons 110 (List.cons 103 (List.cons 116 (List.cons 104 List.nil)))))))).toList)) (.bool (decide (key = (ByteArray.mk (List.toArray (List.cons 108 (List.cons 101 (List.cons 110 (List.cons 103 (List.cons 116 (List.cons 104 List.nil))))))))))) (congrArg Value.bool (by rw [str_eq])) ?_
  refine kp [16, 14, 7, 6, 0, 1, 2] ?_
  refine nt ?_
  refine cdp (fun hc3 : key = (ByteArray.mk (List.toArray (List.cons 108 (List.cons 101 (List.cons 110 (List.cons 103 (List.cons 116 (List.cons 104 List.nil)))))))) => ?_) (fun hc3 => ?_)
  ·refine sr ?_
   refine os 2 ?_
   refine L (cl (hz_Len h w) ?_)
   rintro _ _ rfl
   refine os 1 ?_
   refine L (cl (word_Int (n := (lenN (HeapV.pub H F) w : Int)) (by have q_ := h.lok.lenN w; omega)) ?_)
   rintro _ _ rfl
   refine un ?_
   refine oV (.agg #[.int .u64 (intW (lenN (HeapV.pub H F) w : Int)), .int .u64 18445336698825998336, .int .i64 1]) ?_
   refine L (st [.int .u64 (intW (lenN (HeapV.pub H F) w : Int)), .int .u64 18445336698825998336, .int .i64 1] ?_)
   refine os 1 ?_
   refine kp [7, 16, 14, 6, 0, 1, 2] ?_
   refine nt ?_
   refine Qi (Qm (Qm ?_))
   refine body_endC [.agg #[.int .u64 (intW (lenN (HeapV.pub H F) w : Int)), .int .u64 18445336698825998336, .int .i64 1], .bool true] (fun _ => (.cons ⟨b1, 0, rfl, .inl ⟨[.int .u64 (intW (lenN (HeapV.pub H F) w : Int)), .int .u64 18445336698825998336, .int .i64 1], by kernel_rfl, (Qb (Cell.own Qe rfl) (Qb (Cell.own Qe rfl) (Qb (Cell.own Qe rfl) Qo))), rfl⟩⟩ (.cons rfl .nil))) ?_
   exact ⟨(), ow, by first | (rw [ownQ_len (by assumption) (by assumption)]; rfl) | (rw [own_elem (by assumption) (by assumption) (by assumption), if_pos (by assumption)]; rfl) | (rw [own_elem (by assumption) (by assumption) (by assumption), if_neg (by simp [*])]; rfl) | (rw [own_get (by assumption) (by assumption) (by assumption)]; exact (descR_eq _).symm) | (rw [ownQ_plain (by assumption)]; exact (descR_eq _).symm)⟩
  refine Ql (Qj ?_)
  refine sr ?_
  refine os 1 ?_
  refine L (cl (prop_Index hL hks) ?_)
  rintro _ _ rfl
  refine un ?_
  refine os 5 ?_
  refine kp [9, 8, 16, 14, 7, 6, 0, 1, 2] ?_
  refine nsr ?_
  refine os 1 ?_
  refine nt ?_
  refine cd (fun hc4 : ((idxV key).2) = true => ?_) (fun hc4 => ?_)
  ·refine sr ?_
   refine os 3 ?_
   refine L (cl (hz_Elem h w ((idxV key).1)) ?_)
   rintro _ _ rfl
   refine os 5 ?_
   refine kp [11, 10, 28, 9, 8, 16, 14, 7, 6, 0, 1, 2] ?_
   refine nq ?_
   refine sr ?_
   refine os 2 ?_
   refine nt ?_
   refine cd (fun hc5 : (!((elemQ (HeapV.pub H F) w ((idxV key).1)).2)) = true => ?_) (fun hc5 => ?_)
   ·replace hc5 := bnot_t hc5
    refine sr ?_
    refine oV (.agg #[.int .u64 0, .int .u64 0, .int .i64 0]) ?_
    refine L (st [.int .u64 0, .int .u64 0, .int .i64 0] ?_)
    refine os 1 ?_
    refine nt ?_
    refine Qi (Qm (Qm ?_))
    refine body_endC [.agg #[.int .u64 0, .int .u64 0, .int .i64 0], .bool false] (fun _ => (.cons ⟨b1, 0, rfl, .inl ⟨[.int .u64 0, .int .u64 0, .int .i64 0], by kernel_rfl, (Qb (Cell.own Qe rfl) (Qb (Cell.own Qe rfl) (Qb (Cell.own Qe rfl) Qo))), rfl⟩⟩ (.cons rfl .nil))) ?_
    exact ⟨(), ow, by first | (rw [ownQ_len (by assumption) (by assumption)]; rfl) | (rw [own_elem (by assumption) (by assumption) (by assumption), if_pos (by assumption)]; rfl) | (rw [own_elem (by assumption) (by assumption) (by assumption), if_neg (by simp [*])]; rfl) | (rw [own_get (by assumption) (by assumption) (by assumption)]; exact (descR_eq _).symm) | (rw [ownQ_plain (by assumption)]; exact (descR_eq _).symm)⟩
   replace hc5 := bnot_f hc5
   refine Ql (Qj ?_)
   refine sr ?_
   refine os 1 ?_
   refine oV (.agg #[.int .u64 ((elemQ (HeapV.pub H F) w ((idxV key).1)).1), .int .u64 18445336698825998336, .int .i64 7]) ?_
   refine L (st [.int .u64 ((elemQ (HeapV.pub H F) w ((idxV key).1)).1), .int .u64 18445336698825998336, .int .i64 7] ?_)
   refine os 1 ?_
   refine kp [7, 37, 11, 10, 28, 9, 8, 16, 14, 6, 0, 1, 2] ?_
   refine nt ?_
   refine Qi (Qm ?_)
   refine body_endC [.agg #[.int .u64 ((elemQ (HeapV.pub H F) w ((idxV key).1)).1), .int .u64 18445336698825998336, .int .i64 7], .bool true] (fun _ => (.cons ⟨b1, 0, rfl, .inl ⟨[.int .u64 ((elemQ (HeapV.pub H F) w ((idxV key).1)).1), .int .u64 18445336698825998336, .int .i64 7], by kernel_rfl, (Qb (Cell.own Qe rfl) (Qb (Cell.own Qe rfl) (Qb (Cell.own Qe rfl) Qo))), rfl⟩⟩ (.cons rfl .nil))) ?_
   exact ⟨(), ow, by first | (rw [ownQ_len (by assumption) (by assumption)]; rfl) | (rw [own_elem (by assumption) (by assumption) (by assumption), if_pos (by assumption)]; rfl) | (rw [own_elem (by assumption) (by assumption) (by assumption), if_neg (by simp [*])]; rfl) | (rw [own_get (by assumption) (by assumption) (by assumption)]; exact (descR_eq _).symm) | (rw [ownQ_plain (by assumption)]; exact (descR_eq _).symm)⟩
  refine Ql (Qj ?_)
  refine sr ?_
  refine os 3 ?_
  refine L (cl (hz_Get h w key) ?_)
  rintro v6 _ hv6
  obtain rfl : v6 = .tuple #[.agg #[.int .u64 ((descG (getQ (HeapV.pub H F) w key)).1), .int .u64 ((descG (getQ (HeapV.pub H F) w key)).2.1), .int .i64 ((descG (getQ (HeapV.pub H F) w key)).2.2)], .bool ((getQ (HeapV.pub H F) w key).isSome)] := hv6.trans (descR_eq _)
  refine os 2 ?_
  refine L (st [.int .u64 ((descG (getQ (HeapV.pub H F) w key)).1), .int .u64 ((descG (getQ (HeapV.pub H F) w key)).2.1), .int .i64 ((descG (getQ (HeapV.pub H F) w key)).2.2)] ?_)
  refine os 1 ?_
  refine kp [7, 28, 9, 8, 16, 14, 6, 0, 1, 2] ?_
  refine nt ?_
  refine Qi ?_
  refine body_endC [.agg #[.int .u64 ((descG (getQ (HeapV.pub H F) w key)).1), .int .u64 ((descG (getQ (HeapV.pub H F) w key)).2.1), .int .i64 ((descG (getQ (HeapV.pub H F) w key)).2.2)], .bool ((getQ (HeapV.pub H F) w key).isSome)] (fun _ => (.cons ⟨b1, 0, rfl, .inl ⟨[.int .u64 ((descG (getQ (HeapV.pub H F) w key)).1), .int .u64 ((descG (getQ (HeapV.pub H F) w key)).2.1), .int .i64 ((descG (getQ (HeapV.pub H F) w key)).2.2)], by kernel_rfl, (Qb (Cell.own Qe rfl) (Qb (Cell.own Qe rfl) (Qb (Cell.own Qe rfl) Qo))), rfl⟩⟩ (.cons rfl .nil))) ?_
  exact ⟨(), ow, by first | (rw [ownQ_len (by assumption) (by assumption)]; rfl) | (rw [own_elem (by assumption) (by assumption) (by assumption), if_pos (by assumption)]; rfl) | (rw [own_elem (by assumption) (by assumption) (by assumption), if_neg (by simp [*])]; rfl) | (rw [own_get (by assumption) (by assumption) (by assumption)]; exact (descR_eq _).symm) | (rw [ownQ_plain (by assumption)]; exact (descR_eq _).symm)⟩
 refine Ql (Qj ?_)
 refine sr ?_
 refine os 3 ?_
 refine L (cl (hz_Get h w key) ?_)
 rintro v7 _ hv7
 obtain rfl : v7 = .tuple #[.agg #[.int .u64 ((descG (getQ (HeapV.pub H F) w key)).1), .int .u64 ((descG (getQ (HeapV.pub H F) w key)).2.1), .int .i64 ((descG (getQ (HeapV.pub H F) w key)).2.2)], .bool ((getQ (HeapV.pub H F) w key).isSome)] := hv7.trans (descR_eq _)
 refine os 2 ?_
 refine kp [46, 45, 14, 7, 6, 0, 1, 2] ?_
 refine L (st [.int .u64 ((descG (getQ (HeapV.pub H F) w key)).1), .int .u64 ((descG (getQ (HeapV.pub H F) w key)).2.1), .int .i64 ((descG (getQ (HeapV.pub H F) w key)).2.2)] ?_)
 refine os 1 ?_
 refine nt ?_
 refine Qi ?_
 refine body_endC [.agg #[.int .u64 ((descG (getQ (HeapV.pub H F) w key)).1), .int .u64 ((descG (getQ (HeapV.pub H F) w key)).2.1), .int .i64 ((descG (getQ (HeapV.pub H F) w key)).2.2)], .bool ((getQ (HeapV.pub H F) w key).isSome)] (fun _ => (.cons ⟨b1, 0, rfl, .inl ⟨[.int .u64 ((descG (getQ (HeapV.pub H F) w key)).1), .int .u64 ((descG (getQ (HeapV.pub H F) w key)).2.1), .int .i64 ((descG (getQ (HeapV.pub H F) w key)).2.2)], by kernel_rfl, (Qb (Cell.own Qe rfl) (Qb (Cell.own Qe rfl) (Qb (Cell.own Qe rfl) Qo))), rfl⟩⟩ (.cons rfl .nil))) ?_
 exact ⟨(), ow, by first | (rw [ownQ_len (by assumption) (by assumption)]; rfl) | (rw [own_elem (by assumption) (by assumption) (by assumption), if_pos (by assumption)]; rfl) | (rw [own_elem (by assumption) (by assumption) (by assumption), if_neg (by simp [*])]; rfl) | (rw [own_get (by assumption) (by assumption) (by assumption)]; exact (descR_eq _).symm) | (rw [ownQ_plain (by assumption)]; exact (descR_eq _).symm)⟩

end Go.Proofs.YthflblophelioaaGreatDoor
namespace Go.Proofs.YthflblophelioaaGreatDoor
open Go.Sl

theorem prop_Lookup {W0 : World} (hL : Laid W0) {k : Nat} {H : HeapV} {F : HeapF} (h : HInv k H F) (w : Int) {key : ByteArray} (hks : key.size ≤ 281474976710656) : SC Tryz.prog W0 24 #[.pointer (some ⟨F.p, 0, none⟩), .int .u64 w, .string key] (HeapV.ent H F) (Ret (fun _ : Unit => HeapV.ent H F) (fun v _ => v = .tuple #[.int .u64 (lookV (lookQ (H.pub F) w key)).1, descV (lookV (lookQ (H.pub F) w key)).2, .bool (lookQ (H.pub F) w key).isSome])) := by
 have hln := h.lok.len
 refine SC_body (fn := Tryz.f24) (n := 32) Tryz.func24 rfl (by kernel_rfl) (ρ := [(0, pt F.p 0), (1, .int .u64 w), (2, .string key)]) rfl ?_
 refine SW_sig ((HeapV.ent H F) ++ ([])) (by simp only [List.append_nil, List.append_assoc]) ?_
 refine sr ?_
 refine os 1 ?_
 refine L (nw 45 3 [.int .u64 0, .int .u64 0, .int .i64 0] ?_)
 intro b1
 refine os 1 ?_
 refine nq ?_
 refine sr ?_
 refine os 1 ?_
 refine L (cl (hz_Objects h ) ?_)
 rintro _ _ rfl
 refine os 1 ?_
 refine nt ?_
 refine SW_block ?_
 refine SW_loop (α := Nat) (fun z_ ρ_ σ_ => Fits ρ_ σ_ [(0, pt F.p 0), (2, .string key), (6, .int .u64 0), (7, pt b1 0), (8, .bool false), (12, .int .i64 ((HeapV.pub H F).length : Int)), (1, .int .u64 (upN (HeapV.pub H F) w z_)), (13, .int .i64 (z_ : Int))] ((HeapV.ent H F) ++ ((b1, .cells 45 3 [.int .u64 0, .int .u64 0, .int .i64 0]) :: ([]))) ∧ z_ ≤ (HeapV.pub H F).length ∧ (∀ j, j < z_ → ownQ (HeapV.pub H F) (upN (HeapV.pub H F) w j) key = none)) (fun z_ => (HeapV.pub H F).length - z_) 0 ⟨⟨fun _ => rfl, ow⟩, Nat.zero_le _, fun j hj => absurd hj (Nat.not_lt_zero j)⟩ ?_
 rintro i ρ_ σ_ ⟨hfit, hi0, hi1⟩
 refine SW_fits hfit ?_
 clear hfit
 refine sr ?_
 refine os 1 ?_
 refine nq ?_
 refine cdp (fun hc2 : (i : Int) < ((HeapV.pub H F).length : Int) => ?_) (fun hc2 => ?_)
 ·refine Ql (Qj ?_)
  refine SW_seq ?_
  refine SW_block ?_
  refine sr ?_
  refine os 3 ?_
  refine L (cl (prop_Own hL h (upN (HeapV.pub H F) w i) hks) ?_)
  rintro v2 _ hv2
  obtain rfl : v2 = .tuple #[.agg #[.int .u64 ((descG (ownQ (HeapV.pub H F) (upN (HeapV.pub H F) w i) key)).1), .int .u64 ((descG (ownQ (HeapV.pub H F) (upN (HeapV.pub H F) w i) key)).2.1), .int .i64 ((descG (ownQ (HeapV.pub H F) (upN (HeapV.pub H F) w i) key)).2.2)], .bool ((ownQ (HeapV.pub H F) (upN (HeapV.pub H F) w i) key).isSome)] := hv2.trans (descR_eq _)
  refine os 3 ?_
  refine L (nw 45 3 [.int .u64 0, .int .u64 0, .int .i64 0] ?_)
  intro b3
  refine L (st [.int .u64 ((descG (ownQ (HeapV.pub H F) (upN (HeapV.pub H F) w i) key)).1), .int .u64 ((descG (ownQ (HeapV.pub H F) (upN (HeapV.pub H F) w i) key)).2.1), .int .i64 ((descG (ownQ (HeapV.pub H F) (upN (HeapV.pub H F) w i) key)).2.2)] ?_)
  refine os 1 ?_
  refine kp [10, 9, 14, 0, 2, 6, 7, 8, 12, 1, 13] ?_
  refine nq ?_
  refine sr ?_
  refine os 1 ?_
  refine nt ?_
  refine cd (fun hc4 : ((ownQ (HeapV.pub H F) (upN (HeapV.pub H F) w i) key).isSome) = true => ?_) (fun hc4 => ?_)
  ·refine SW_seq ?_
   refine SW_draw [(b3, 0, .int .u64 ((descG (ownQ (HeapV.pub H F) (upN (HeapV.pub H F) w i) key)).1)), (b3, 1, .int .u64 ((descG (ownQ (HeapV.pub H F) (upN (HeapV.pub H F) w i) key)).2.1)), (b3, 2, .int .i64 ((descG (ownQ (HeapV.pub H F) (upN (HeapV.pub H F) w i) key)).2.2))] [0, 2] (by kernel_rfl) (Qf (Cell.own Qe rfl) (Qf (Cell.own Qe rfl) (Qf (Cell.own Qe rfl) rd_nil))) ?_
   refine aS 0 ?_
   refine tr 1 (.agg #[.int .u64 ((descG (ownQ (HeapV.pub H F) (upN (HeapV.pub H F) w i) key)).1), .int .u64 ((descG (ownQ (HeapV.pub H F) (upN (HeapV.pub H F) w i) key)).2.1), .int .i64 ((descG (ownQ (HeapV.pub H F) (upN (HeapV.pub H F) w i) key)).2.2)]) ?_ (hy := fun δ w_ hr => Rd_loads b3 0 [.int .u64 ((descG (ownQ (HeapV.pub H F) (upN (HeapV.pub H F) w i) key)).1), .int .u64 ((descG (ownQ (HeapV.pub H F) (upN (HeapV.pub H F) w i) key)).2.1), .int .i64 ((descG (ownQ (HeapV.pub H F) (upN (HeapV.pub H F) w i) key)).2.2)] rfl (by kernel_rfl) (rdm_cons List.mem_cons_self (rdm_cons (List.mem_cons_of_mem _ List.mem_cons_self) (rdm_cons (List.mem_cons_of_mem _ (List.mem_cons_of_mem _ List.mem_cons_self)) rdm_nil))) hr)
   refine aS 2 ?_
   refine sa1 false 3 (h := st [.int .u64 ((descG (ownQ (HeapV.pub H F) (upN (HeapV.pub H F) w i) key)).1), .int .u64 ((descG (ownQ (HeapV.pub H F) (upN (HeapV.pub H F) w i) key)).2.1), .int .i64 ((descG (ownQ (HeapV.pub H F) (upN (HeapV.pub H F) w i) key)).2.2)] ?_)
   refine ⟨fun hnd => (by cases hnd), ?_⟩
   refine aS 4 ?_
   refine SA_done (by kernel_rfl) (Qj ?_)
   refine Qi (Qm (r_in (Qm (Qm (r_in (Qm ?_))))))
   refine body_endC [.int .u64 (upN (HeapV.pub H F) w i), .agg #[.int .u64 ((descG (ownQ (HeapV.pub H F) (upN (HeapV.pub H F) w i) key)).1), .int .u64 ((descG (ownQ (HeapV.pub H F) (upN (HeapV.pub H F) w i) key)).2.1), .int .i64 ((descG (ownQ (HeapV.pub H F) (upN (HeapV.pub H F) w i) key)).2.2)], .bool true] (fun _ => (.cons rfl (.cons ⟨b1, 0, rfl, .inl ⟨[.int .u64 ((descG (ownQ (HeapV.pub H F) (upN (HeapV.pub H F) w i) key)).1), .int .u64 ((descG (ownQ (HeapV.pub H F) (upN (HeapV.pub H F) w i) key)).2.1), .int .i64 ((descG (ownQ (HeapV.pub H F) (upN (HeapV.pub H F) w i) key)).2.2)], by kernel_rfl, (Qb (Cell.own Qe rfl) (Qb (Cell.own Qe rfl) (Qb (Cell.own Qe rfl) Qo))), rfl⟩⟩ (.cons rfl .nil)))) ?_
   exact ⟨(), ow, by rw [look_hit (i := i) (by omega) hi1 (some_of (by assumption))] <;> rfl⟩
  refine Ql (Qj ?_)
  refine sr ?_
  refine os 2 ?_
  refine L (cl (hz_Proto h (upN (HeapV.pub H F) w i)) ?_)
  rintro _ _ rfl
  refine os 1 ?_
  refine kp [1, 22, 10, 9, 14, 0, 2, 6, 7, 8, 12, 13] ?_
  refine nsr ?_
  refine os 2 ?_
  refine nt ?_
  refine cd (fun hc5 : ((protoW (HeapV.pub H F) (upN (HeapV.pub H F) w i)) == 18445336698825998337) = true => ?_) (fun hc5 => ?_)
  ·simp only [beq_iff_eq, beq_eq_false_iff_ne, ne_eq] at hc5
   refine SW_exit (x_pass (by decide) (x_then (x_then (x_in (Qj ?_)))))
   refine sr ?_
   refine oV (.agg #[.int .u64 0, .int .u64 0, .int .i64 0]) ?_
   refine os 1 ?_
   refine L (st [.int .u64 0, .int .u64 0, .int .i64 0] ?_)
   refine os 1 ?_
   refine nt ?_
   refine Qi ?_
   refine body_endC [.int .u64 18445336698825998336, .agg #[.int .u64 0, .int .u64 0, .int .i64 0], .bool false] (fun _ => (.cons rfl (.cons ⟨b1, 0, rfl, .inl ⟨[.int .u64 0, .int .u64 0, .int .i64 0], by kernel_rfl, (Qb (Cell.own Qe rfl) (Qb (Cell.own Qe rfl) (Qb (Cell.own Qe rfl) Qo))), rfl⟩⟩ (.cons rfl .nil)))) ?_
   exact ⟨(), ow, by rw [look_out (i := i + 1) (by omega) (fun j hj => by by_cases q_ : j = i; (subst q_; exact none_of (by assumption)); exact hi1 j (by omega)) (.inr (by show objAt (protoW _ (upN _ w i)) _ = none; rw [hc5]; exact objAt_null _))] <;> rfl⟩
  simp only [beq_iff_eq, beq_eq_false_iff_ne, ne_eq] at hc5
  refine Ql (n_in (Qj ?_))
  refine Qn ?_
  refine os 2 ?_
  refine nt ?_
  exact ⟨i + 1, by omega, ⟨fun _ => rfl, ow⟩, by omega, fun j hj => by by_cases q_ : j = i; (subst q_; exact none_of (by assumption)); exact hi1 j (by omega)⟩
 refine SW_exit (x_then (x_then (x_in (Qj ?_))))
 refine sr ?_
 refine oV (.agg #[.int .u64 0, .int .u64 0, .int .i64 0]) ?_
 refine os 1 ?_
 refine L (st [.int .u64 0, .int .u64 0, .int .i64 0] ?_)
 refine os 1 ?_
 refine nt ?_
 refine Qi ?_
 refine body_endC [.int .u64 18445336698825998336, .agg #[.int .u64 0, .int .u64 0, .int .i64 0], .bool false] (fun _ => (.cons rfl (.cons ⟨b1, 0, rfl, .inl ⟨[.int .u64 0, .int .u64 0, .int .i64 0], by kernel_rfl, (Qb (Cell.own Qe rfl) (Qb (Cell.own Qe rfl) (Qb (Cell.own Qe rfl) Qo))), rfl⟩⟩ (.cons rfl .nil)))) ?_
 exact ⟨(), ow, by rw [look_out (i := i) (by omega) hi1 (.inl (by omega))] <;> rfl⟩

end Go.Proofs.YthflblophelioaaGreatDoor
namespace Go.Proofs.YthflblophelioaaGreatDoor
open Go.Sl

theorem prop_both {W0 : World} (x : WishP) : SC Tryz.prog W0 63 #[.agg #[.int .i64 x.has, .int .u64 x.value, .int .u64 x.get, .int .u64 x.set, .int .i64 x.flags]] [] (Ret (fun _ : Unit => []) (fun v _ => v = .bool (bothP x))) := by
 refine SC_body (fn := Tryz.f63) (n := 13) Tryz.func63 rfl (by kernel_rfl) (ρ := [(0, .agg #[.int .i64 x.has, .int .u64 x.value, .int .u64 x.get, .int .u64 x.set, .int .i64 x.flags])]) rfl ?_
 refine sr ?_
 refine L (nw 35 5 [.int .i64 x.has, .int .u64 x.value, .int .u64 x.get, .int .u64 x.set, .int .i64 x.flags] ?_)
 intro b1
 refine os 1 ?_
 refine nsr ?_
 refine os 1 ?_
 refine L (ld ?_)
 refine oV (.int .i64 (band x.has 48)) ?_
 refine os 2 ?_
 refine tb 7 (fun hg2 => ?_) (fun hg2 => ?_)
 ·replace hg2 : ((band x.has 48) != 0) = true := hg2
  refine os 1 ?_
  refine L (ld ?_)
  refine oV (.int .i64 (band x.has 3)) ?_
  refine os 3 ?_
  refine kp [2, 1, 0] ?_
  refine nt ?_
  refine Qi ?_
  refine Qg (.bool ((band x.has 3) != 0)) (fun _ => rfl) ?_
  exact ⟨(), ⟨_, List.Perm.refl _⟩, congrArg Value.bool (by unfold bothP accW datW; simp [*])⟩
 replace hg2 : ((band x.has 48) != 0) = false := hg2
 refine os 6 ?_
 refine kp [2, 1, 0] ?_
 refine nt ?_
 refine Qi ?_
 refine Qg (.bool false) (fun _ => rfl) ?_
 exact ⟨(), ⟨_, List.Perm.refl _⟩, congrArg Value.bool (by unfold bothP accW datW; simp [*])⟩

theorem prop_wished {W0 : World} (d : DescP) (x : WishP) : SC Tryz.prog W0 64 #[.agg #[.int .u64 d.1, .int .u64 d.2.1, .int .i64 d.2.2], .agg #[.int .i64 x.has, .int .u64 x.value, .int .u64 x.get, .int .u64 x.set, .int .i64 x.flags]] [] (Ret (fun _ : Unit => []) (fun v _ => v = descV (wishP d x))) := by
 obtain ⟨d1, hd1⟩ : ∃ q, q = wish1 d x := ⟨_, rfl⟩
 obtain ⟨d2, hd2⟩ : ∃ q, q = wish2 d1 x := ⟨_, rfl⟩
 obtain ⟨f1, hf1⟩ : ∃ q, q = flagW x 2 1 d2.2.2 := ⟨_, rfl⟩
 obtain ⟨f2, hf2⟩ : ∃ q, q = flagW x 4 2 f1 := ⟨_, rfl⟩
 obtain ⟨f3, hf3⟩ : ∃ q, q = flagW x 8 4 f2 := ⟨_, rfl⟩
 obtain ⟨d3, hd3⟩ : ∃ q, q = wish3 d2 x := ⟨_, rfl⟩
 obtain ⟨d4, hd4⟩ : ∃ q, q = wish4 d3 x := ⟨_, rfl⟩
 obtain ⟨d5, hd5⟩ : ∃ q, q = wish5 d4 x := ⟨_, rfl⟩
 obtain ⟨d6, hd6⟩ : ∃ q, q = wish6 d5 x := ⟨_, rfl⟩
 have hw : wishP d x = d6 := by unfold wishP; rw [← hd1, ← hd2, ← hd3, ← hd4, ← hd5, ← hd6]
 rw [hw]
 refine SC_body (fn := Tryz.f64) (n := 96) Tryz.func64 rfl (by kernel_rfl) (ρ := [(0, .agg #[.int .u64 d.1, .int .u64 d.2.1, .int .i64 d.2.2]), (1, .agg #[.int .i64 x.has, .int .u64 x.value, .int .u64 x.get, .int .u64 x.set, .int .i64 x.flags])]) rfl ?_
 refine sr ?_
 refine L (nw 45 3 [.int .u64 d.1, .int .u64 d.2.1, .int .i64 d.2.2] ?_)
 intro b1
 refine L (nw 35 5 [.int .i64 x.has, .int .u64 x.value, .int .u64 x.get, .int .u64 x.set, .int .i64 x.flags] ?_)
 intro b2
 refine L (nw 45 3 [.int .u64 0, .int .u64 0, .int .i64 0] ?_)
 intro b3
 refine nsr ?_
 refine L (lds 3 ?_)
 refine L (nw 45 3 [.int .u64 0, .int .u64 0, .int .i64 0] ?_)
 intro b4
 refine L (st [.int .u64 d.1, .int .u64 d.2.1, .int .i64 d.2.2] ?_)
 refine nsr ?_
 refine os 1 ?_
 refine L (ld ?_)
 refine oV (.int .i64 (band x.has 48)) ?_
 refine os 2 ?_
 refine kp [6, 5, 4, 3, 2, 0, 1] ?_
 refine nsr ?_
 refine os 1 ?_
 refine L (ld ?_)
 refine oV (.int .i64 (band x.has 3)) ?_
 refine os 2 ?_
 refine kp [7, 6, 5, 4, 3, 2, 0, 1] ?_
 refine nq ?_
 refine SW_seq ?_
 refine SW_cut3 (fun ρ_ σ_ => Fits ρ_ σ_ [(7, .bool ((band x.has 3) != 0)), (5, pt b4 0), (4, pt b3 0), (3, pt b2 0)] ((b4, .cells 45 3 [.int .u64 d1.1, .int .u64 d1.2.1, .int .i64 d1.2.2]) :: ((b3, .cells 45 3 [.int .u64 0, .int .u64 0, .int .i64 0]) :: ((b2, .cells 35 5 [.int .i64 x.has, .int .u64 x.value, .int .u64 x.get, .int .u64 x.set, .int .i64 x.flags]) :: ((b1, .cells 45 3 [.int .u64 d.1, .int .u64 d.2.1, .int .i64 d.2.2]) :: ([])))))) ?_ ?_
 ·refine Qn ?_
  refine os 2 ?_
  refine tb 20 (fun hg5 => ?_) (fun hg5 => ?_)
  ·replace hg5 : ((band x.has 48) != 0) = true := hg5
   refine os 1 ?_
   refine L (ld ?_)
   refine oV (.int .i64 (band d.2.2 8)) ?_
   refine os 2 ?_
   refine kp [25, 7, 6, 5, 4, 3, 2, 0, 1] ?_
   refine nt ?_
   refine cd (fun hc6 : ((band d.2.2 8) == 0) = true => ?_) (fun hc6 => ?_)
   ·refine sr ?_
    refine os 1 ?_
    refine L (ld ?_)
    refine oV (.int .i64 (bandn d.2.2 1)) ?_
    refine oV (.int .i64 (bor (bandn d.2.2 1) 8)) ?_
    refine os 1 ?_
    refine L (st [.int .u64 d.1, .int .u64 d.2.1, .int .i64 (bor (bandn d.2.2 1) 8)] ?_)
    refine nr ?_
    refine os 1 ?_
    refine L (st [.int .u64 18445336698825998336, .int .u64 d.2.1, .int .i64 (bor (bandn d.2.2 1) 8)] ?_)
    refine os 1 ?_
    refine kp [32, 25, 7, 6, 5, 4, 3, 2, 0, 1] ?_
    refine L (st [.int .u64 18445336698825998336, .int .u64 18445336698825998336, .int .i64 (bor (bandn d.2.2 1) 8)] ?_)
    refine nt ?_
    have en : d1 = (18445336698825998336, 18445336698825998336, bor (bandn d.2.2 1) 8) := hd1.trans (by unfold wish1 accW; first | exact if_pos (by assumption) | exact if_pos ⟨by assumption, by assumption⟩ | exact ite_ff (by assumption) | exact ite_f1 (by assumption) | exact ite_f2 (by assumption))
    rw [en]
    exact ⟨fun _ => rfl, ow⟩
   refine Ql (Qj ?_)
   have en : d1 = (d.1, d.2.1, d.2.2) := hd1.trans (by unfold wish1 accW; first | exact if_pos (by assumption) | exact if_pos ⟨by assumption, by assumption⟩ | exact ite_ff (by assumption) | exact ite_f1 (by assumption) | exact ite_f2 (by assumption))
   rw [en]
   exact ⟨fun _ => rfl, ow⟩
  replace hg5 : ((band x.has 48) != 0) = false := hg5
  refine os 5 ?_
  refine kp [25, 7, 6, 5, 4, 3, 2, 0, 1] ?_
  refine nt ?_
  refine cf ?_
  refine Ql (Qj ?_)
  have en : d1 = (d.1, d.2.1, d.2.2) := hd1.trans (by unfold wish1 accW; first | exact if_pos (by assumption) | exact if_pos ⟨by assumption, by assumption⟩ | exact ite_ff (by assumption) | exact ite_f1 (by assumption) | exact ite_f2 (by assumption))
  rw [en]
  exact ⟨fun _ => rfl, ow⟩
 ·rintro ρ_ σ_ hfit
  refine SW_fits hfit ?_
  clear hfit
  refine SW_seq ?_
  refine SW_seq ?_
  refine SW_cut3 (fun ρ_ σ_ => Fits ρ_ σ_ [(5, pt b4 0), (4, pt b3 0), (3, pt b2 0)] ((b4, .cells 45 3 [.int .u64 d2.1, .int .u64 d2.2.1, .int .i64 d2.2.2]) :: ((b3, .cells 45 3 [.int .u64 0, .int .u64 0, .int .i64 0]) :: ((b2, .cells 35 5 [.int .i64 x.has, .int .u64 x.value, .int .u64 x.get, .int .u64 x.set, .int .i64 x.flags]) :: ((b1, .cells 45 3 [.int .u64 d.1, .int .u64 d.2.1, .int .i64 d.2.2]) :: ([])))))) ?_ ?_
  ·refine Qn ?_
   refine os 2 ?_
   refine tb 34 (fun hg7 => ?_) (fun hg7 => ?_)
   ·replace hg7 : ((band x.has 3) != 0) = true := hg7
    refine os 1 ?_
    refine L (ld ?_)
    refine oV (.int .i64 (band d1.2.2 8)) ?_
    refine os 2 ?_
    refine kp [39, 7, 5, 4, 3] ?_
    refine nt ?_
    refine cd (fun hc8 : ((band d1.2.2 8) != 0) = true => ?_) (fun hc8 => ?_)
    ·refine sr ?_
     refine os 1 ?_
     refine L (ld ?_)
     refine oV (.int .i64 (bandn d1.2.2 8)) ?_
     refine os 1 ?_
     refine L (st [.int .u64 d1.1, .int .u64 d1.2.1, .int .i64 (bandn d1.2.2 8)] ?_)
     refine nr ?_
     refine os 1 ?_
     refine L (st [.int .u64 18445336698825998336, .int .u64 d1.2.1, .int .i64 (bandn d1.2.2 8)] ?_)
     refine os 1 ?_
     refine L (st [.int .u64 18445336698825998336, .int .u64 18445336698825998336, .int .i64 (bandn d1.2.2 8)] ?_)
     refine nt ?_
     have en : d2 = (18445336698825998336, 18445336698825998336, bandn d1.2.2 8) := hd2.trans (by unfold wish2 datW; first | exact if_pos (by assumption) | exact if_pos ⟨by assumption, by assumption⟩ | exact ite_ff (by assumption) | exact ite_f1 (by assumption) | exact ite_f2 (by assumption))
     rw [en]
     exact ⟨fun _ => rfl, ow⟩
    refine Ql (Qj ?_)
    have en : d2 = (d1.1, d1.2.1, d1.2.2) := hd2.trans (by unfold wish2 datW; first | exact if_pos (by assumption) | exact if_pos ⟨by assumption, by assumption⟩ | exact ite_ff (by assumption) | exact ite_f1 (by assumption) | exact ite_f2 (by assumption))
    rw [en]
    exact ⟨fun _ => rfl, ow⟩
   replace hg7 : ((band x.has 3) != 0) = false := hg7
   refine os 5 ?_
   refine kp [39, 7, 5, 4, 3] ?_
   refine nt ?_
   refine cf ?_
   refine Ql (Qj ?_)
   have en : d2 = (d1.1, d1.2.1, d1.2.2) := hd2.trans (by unfold wish2 datW; first | exact if_pos (by assumption) | exact if_pos ⟨by assumption, by assumption⟩ | exact ite_ff (by assumption) | exact ite_f1 (by assumption) | exact ite_f2 (by assumption))
   rw [en]
   exact ⟨fun _ => rfl, ow⟩
  ·rintro ρ_ σ_ hfit
   refine SW_fits hfit ?_
   clear hfit
   refine SW_seq ?_
   refine sr ?_
   refine oV (.agg #[.int .i64 2, .int .i64 1]) ?_
   refine oV (.agg #[.int .i64 4, .int .i64 2]) ?_
   refine oV (.agg #[.int .i64 8, .int .i64 4]) ?_
   refine L (nws 157 6 3 [.int .i64 2, .int .i64 1, .int .i64 4, .int .i64 2, .int .i64 8, .int .i64 4] ?_)
   intro b9
   refine os 2 ?_
   refine kp [51, 50, 49, 5, 4, 3] ?_
   refine nt ?_
   refine SW_block ?_
   refine SW_rounds 3 ?_
   refine SWr_s ?_
   refine sr ?_
   refine oV (.bool true) ?_
   refine nq ?_
   refine ct ?_
   refine Ql (Qj ?_)
   refine SW_seq ?_
   refine SW_block ?_
   refine sr ?_
   refine L (O_indexAddr' 0 (0) b9 0 3 3 .i64 2 Tryz.underlying158 (by kernel_rfl) (fun _ => rfl) (fun _ => rfl) (by omega) (by omega) (by omega) rfl ?_)
   refine L (lds 2 ?_)
   refine L (nw 157 2 [.int .i64 0, .int .i64 0] ?_)
   intro b10
   refine L (st [.int .i64 2, .int .i64 1] ?_)
   refine nsr ?_
   refine os 1 ?_
   refine L (ld ?_)
   refine oV (pt b10 0) ?_
   refine L (ld ?_)
   refine oV (.int .i64 (band x.has 2)) ?_
   refine os 1 ?_
   refine kp [60, 9, 52, 51, 50, 49, 5, 4, 3] ?_
   refine nt ?_
   refine SW_cutI (fun ρ_ σ_ => Fits ρ_ σ_ [(51, .int .i64 0), (50, .int .i64 3), (49, .slice (some ⟨b9, 0, none⟩) 3 3), (5, pt b4 0), (4, pt b3 0), (3, pt b2 0)] ((b10, .cells 157 2 [.int .i64 2, .int .i64 1]) :: ((b9, .cells 157 6 [.int .i64 2, .int .i64 1, .int .i64 4, .int .i64 2, .int .i64 8, .int .i64 4]) :: ((b4, .cells 45 3 [.int .u64 d2.1, .int .u64 d2.2.1, .int .i64 f1]) :: ((b3, .cells 45 3 [.int .u64 0, .int .u64 0, .int .i64 0]) :: ((b2, .cells 35 5 [.int .i64 x.has, .int .u64 x.value, .int .u64 x.get, .int .u64 x.set, .int .i64 x.flags]) :: ((b1, .cells 45 3 [.int .u64 d.1, .int .u64 d.2.1, .int .i64 d.2.2]) :: ([])))))))) ?_ ?_
   ·refine cd (fun hc11 : ((band x.has 2) != 0) = true => ?_) (fun hc11 => ?_)
    ·refine Qn ?_
     refine os 1 ?_
     refine L (ld ?_)
     refine oV (pt b10 1) ?_
     refine L (ld ?_)
     refine oV (.int .i64 (bandn d2.2.2 1)) ?_
     refine os 1 ?_
     refine L (ld ?_)
     refine oV (pt b10 1) ?_
     refine L (ld ?_)
     refine oV (.int .i64 (band x.flags 1)) ?_
     refine oV (.int .i64 (bor (bandn d2.2.2 1) (band x.flags 1))) ?_
     refine os 1 ?_
     refine kp [72, 71, 60, 9, 52, 51, 50, 49, 5, 4, 3] ?_
     refine L (st [.int .u64 d2.1, .int .u64 d2.2.1, .int .i64 (bor (bandn d2.2.2 1) (band x.flags 1))] ?_)
     refine SL_nil (n_in (Qj ?_))
     have en : f1 = bor (bandn d2.2.2 1) (band x.flags 1) := hf1.trans (by unfold flagW; first | exact if_pos (by assumption) | exact if_pos ⟨by assumption, by assumption⟩ | exact ite_ff (by assumption) | exact ite_f1 (by assumption) | exact ite_f2 (by assumption))
     rw [en]
     exact ⟨fun _ => rfl, ow⟩
    refine Ql (n_in (Qj ?_))
    have en : f1 = d2.2.2 := hf1.trans (by unfold flagW; first | exact if_pos (by assumption) | exact if_pos ⟨by assumption, by assumption⟩ | exact ite_ff (by assumption) | exact ite_f1 (by assumption) | exact ite_f2 (by assumption))
    rw [en]
    exact ⟨fun _ => rfl, ow⟩
   ·rintro ρ_ σ_ hfit
    refine SW_fits hfit ?_
    clear hfit
    refine Qn ?_
    refine oV (.int .i64 1) ?_
    refine os 1 ?_
    refine nt ?_
    refine SWr_s ?_
    refine sr ?_
    refine oV (.bool true) ?_
    refine nq ?_
    refine ct ?_
    refine Ql (Qj ?_)
    refine SW_seq ?_
    refine SW_block ?_
    refine sr ?_
    refine L (O_indexAddr' 1 (2) b9 0 3 3 .i64 2 Tryz.underlying158 (by kernel_rfl) (fun _ => rfl) (fun _ => rfl) (by omega) (by omega) (by omega) rfl ?_)
    refine L (lds 2 ?_)
    refine L (nw 157 2 [.int .i64 0, .int .i64 0] ?_)
    intro b12
    refine L (st [.int .i64 4, .int .i64 2] ?_)
    refine nsr ?_
    refine os 1 ?_
    refine L (ld ?_)
    refine oV (pt b12 0) ?_
    refine L (ld ?_)
    refine oV (.int .i64 (band x.has 4)) ?_
    refine os 1 ?_
    refine kp [60, 9, 52, 51, 50, 49, 5, 4, 3] ?_
    refine nt ?_
    refine SW_cutI (fun ρ_ σ_ => Fits ρ_ σ_ [(51, .int .i64 1), (50, .int .i64 3), (49, .slice (some ⟨b9, 0, none⟩) 3 3), (5, pt b4 0), (4, pt b3 0), (3, pt b2 0)] ((b12, .cells 157 2 [.int .i64 4, .int .i64 2]) :: ((b10, .cells 157 2 [.int .i64 2, .int .i64 1]) :: ((b9, .cells 157 6 [.int .i64 2, .int .i64 1, .int .i64 4, .int .i64 2, .int .i64 8, .int .i64 4]) :: ((b4, .cells 45 3 [.int .u64 d2.1, .int .u64 d2.2.1, .int .i64 f2]) :: ((b3, .cells 45 3 [.int .u64 0, .int .u64 0, .int .i64 0]) :: ((b2, .cells 35 5 [.int .i64 x.has, .int .u64 x.value, .int .u64 x.get, .int .u64 x.set, .int .i64 x.flags]) :: ((b1, .cells 45 3 [.int .u64 d.1, .int .u64 d.2.1, .int .i64 d.2.2]) :: ([]))))))))) ?_ ?_
    ·refine cd (fun hc13 : ((band x.has 4) != 0) = true => ?_) (fun hc13 => ?_)
     ·refine Qn ?_
      refine os 1 ?_
      refine L (ld ?_)
      refine oV (pt b12 1) ?_
      refine L (ld ?_)
      refine oV (.int .i64 (bandn f1 2)) ?_
      refine os 1 ?_
      refine L (ld ?_)
      refine oV (pt b12 1) ?_
      refine L (ld ?_)
      refine oV (.int .i64 (band x.flags 2)) ?_
      refine oV (.int .i64 (bor (bandn f1 2) (band x.flags 2))) ?_
      refine os 1 ?_
      refine kp [72, 71, 60, 9, 52, 51, 50, 49, 5, 4, 3] ?_
      refine L (st [.int .u64 d2.1, .int .u64 d2.2.1, .int .i64 (bor (bandn f1 2) (band x.flags 2))] ?_)
      refine SL_nil (n_in (Qj ?_))
      have en : f2 = bor (bandn f1 2) (band x.flags 2) := hf2.trans (by unfold flagW; first | exact if_pos (by assumption) | exact if_pos ⟨by assumption, by assumption⟩ | exact ite_ff (by assumption) | exact ite_f1 (by assumption) | exact ite_f2 (by assumption))
      rw [en]
      exact ⟨fun _ => rfl, ow⟩
     refine Ql (n_in (Qj ?_))
     have en : f2 = f1 := hf2.trans (by unfold flagW; first | exact if_pos (by assumption) | exact if_pos ⟨by assumption, by assumption⟩ | exact ite_ff (by assumption) | exact ite_f1 (by assumption) | exact ite_f2 (by assumption))
     rw [en]
     exact ⟨fun _ => rfl, ow⟩
    ·rintro ρ_ σ_ hfit
     refine SW_fits hfit ?_
     clear hfit
     refine Qn ?_
     refine oV (.int .i64 2) ?_
     refine os 1 ?_
     refine nt ?_
     refine SWr_s ?_
     refine sr ?_
     refine oV (.bool true) ?_
     refine nq ?_
     refine ct ?_
     refine Ql (Qj ?_)
     refine SW_seq ?_
     refine SW_block ?_
     refine sr ?_
     refine L (O_indexAddr' 2 (4) b9 0 3 3 .i64 2 Tryz.underlying158 (by kernel_rfl) (fun _ => rfl) (fun _ => rfl) (by omega) (by omega) (by omega) rfl ?_)
     refine L (lds 2 ?_)
     refine L (nw 157 2 [.int .i64 0, .int .i64 0] ?_)
     intro b14
     refine L (st [.int .i64 8, .int .i64 4] ?_)
     refine nsr ?_
     refine os 1 ?_
     refine L (ld ?_)
     refine oV (pt b14 0) ?_
     refine L (ld ?_)
     refine oV (.int .i64 (band x.has 8)) ?_
     refine os 1 ?_
     refine kp [60, 9, 52, 51, 50, 49, 5, 4, 3] ?_
     refine nt ?_
     refine SW_cutI (fun ρ_ σ_ => Fits ρ_ σ_ [(51, .int .i64 2), (50, .int .i64 3), (49, .slice (some ⟨b9, 0, none⟩) 3 3), (5, pt b4 0), (4, pt b3 0), (3, pt b2 0)] ((b14, .cells 157 2 [.int .i64 8, .int .i64 4]) :: ((b12, .cells 157 2 [.int .i64 4, .int .i64 2]) :: ((b10, .cells 157 2 [.int .i64 2, .int .i64 1]) :: ((b9, .cells 157 6 [.int .i64 2, .int .i64 1, .int .i64 4, .int .i64 2, .int .i64 8, .int .i64 4]) :: ((b4, .cells 45 3 [.int .u64 d2.1, .int .u64 d2.2.1, .int .i64 f3]) :: ((b3, .cells 45 3 [.int .u64 0, .int .u64 0, .int .i64 0]) :: ((b2, .cells 35 5 [.int .i64 x.has, .int .u64 x.value, .int .u64 x.get, .int .u64 x.set, .int .i64 x.flags]) :: ((b1, .cells 45 3 [.int .u64 d.1, .int .u64 d.2.1, .int .i64 d.2.2]) :: ([])))))))))) ?_ ?_
     ·refine cd (fun hc15 : ((band x.has 8) != 0) = true => ?_) (fun hc15 => ?_)
      ·refine Qn ?_
       refine os 1 ?_
       refine L (ld ?_)
       refine oV (pt b14 1) ?_
       refine L (ld ?_)
       refine oV (.int .i64 (bandn f2 4)) ?_
       refine os 1 ?_
       refine L (ld ?_)
       refine oV (pt b14 1) ?_
       refine L (ld ?_)
       refine oV (.int .i64 (band x.flags 4)) ?_
       refine oV (.int .i64 (bor (bandn f2 4) (band x.flags 4))) ?_
       refine os 1 ?_
       refine kp [72, 71, 60, 9, 52, 51, 50, 49, 5, 4, 3] ?_
       refine L (st [.int .u64 d2.1, .int .u64 d2.2.1, .int .i64 (bor (bandn f2 4) (band x.flags 4))] ?_)
       refine SL_nil (n_in (Qj ?_))
       have en : f3 = bor (bandn f2 4) (band x.flags 4) := hf3.trans (by unfold flagW; first | exact if_pos (by assumption) | exact if_pos ⟨by assumption, by assumption⟩ | exact ite_ff (by assumption) | exact ite_f1 (by assumption) | exact ite_f2 (by assumption))
       rw [en]
       exact ⟨fun _ => rfl, ow⟩
      refine Ql (n_in (Qj ?_))
      have en : f3 = f2 := hf3.trans (by unfold flagW; first | exact if_pos (by assumption) | exact if_pos ⟨by assumption, by assumption⟩ | exact ite_ff (by assumption) | exact ite_f1 (by assumption) | exact ite_f2 (by assumption))
      rw [en]
      exact ⟨fun _ => rfl, ow⟩
     ·rintro ρ_ σ_ hfit
      refine SW_fits hfit ?_
      clear hfit
      refine Qn ?_
      refine oV (.int .i64 3) ?_
      refine os 1 ?_
      refine nt ?_
      refine SWr_z ?_
      refine sr ?_
      refine oV (.bool false) ?_
      refine nq ?_
      refine cf ?_
      refine SW_exit (x_then (x_then (x_in (Qj ?_))))
      refine SW_seq ?_
      refine SW_seq ?_
      have en : d3 = (d2.1, d2.2.1, f3) := hd3.trans (by unfold wish3 flagsW; rw [← hf1, ← hf2, ← hf3])
      refine SW_sig ((b14, .cells 157 2 [.int .i64 8, .int .i64 4]) :: ((b12, .cells 157 2 [.int .i64 4, .int .i64 2]) :: ((b10, .cells 157 2 [.int .i64 2, .int .i64 1]) :: ((b9, .cells 157 6 [.int .i64 2, .int .i64 1, .int .i64 4, .int .i64 2, .int .i64 8, .int .i64 4]) :: ((b4, .cells 45 3 [.int .u64 d3.1, .int .u64 d3.2.1, .int .i64 d3.2.2]) :: ((b3, .cells 45 3 [.int .u64 0, .int .u64 0, .int .i64 0]) :: ((b2, .cells 35 5 [.int .i64 x.has, .int .u64 x.value, .int .u64 x.get, .int .u64 x.set, .int .i64 x.flags]) :: ((b1, .cells 45 3 [.int .u64 d.1, .int .u64 d.2.1, .int .i64 d.2.2]) :: ([]))))))))) (by rw [en]) ?_
      refine Qn ?_
      refine os 1 ?_
      refine L (ld ?_)
      refine oV (.int .i64 (band x.has 1)) ?_
      refine os 1 ?_
      refine kp [77, 52, 51, 50, 49, 5, 4, 3] ?_
      refine nt ?_
      refine SW_cut (fun ρ_ σ_ => Fits ρ_ σ_ [(5, pt b4 0), (4, pt b3 0), (3, pt b2 0)] ((b14, .cells 157 2 [.int .i64 8, .int .i64 4]) :: ((b12, .cells 157 2 [.int .i64 4, .int .i64 2]) :: ((b10, .cells 157 2 [.int .i64 2, .int .i64 1]) :: ((b9, .cells 157 6 [.int .i64 2, .int .i64 1, .int .i64 4, .int .i64 2, .int .i64 8, .int .i64 4]) :: ((b4, .cells 45 3 [.int .u64 d4.1, .int .u64 d4.2.1, .int .i64 d4.2.2]) :: ((b3, .cells 45 3 [.int .u64 0, .int .u64 0, .int .i64 0]) :: ((b2, .cells 35 5 [.int .i64 x.has, .int .u64 x.value, .int .u64 x.get, .int .u64 x.set, .int .i64 x.flags]) :: ((b1, .cells 45 3 [.int .u64 d.1, .int .u64 d.2.1, .int .i64 d.2.2]) :: ([])))))))))) ?_ ?_
      ·refine cd (fun hc16 : ((band x.has 1) != 0) = true => ?_) (fun hc16 => ?_)
       ·refine Qn ?_
        refine os 1 ?_
        refine L (ld ?_)
        refine os 1 ?_
        refine L (st [.int .u64 x.value, .int .u64 d3.2.1, .int .i64 d3.2.2] ?_)
        refine nt ?_
        have en : d4 = (x.value, d3.2.1, d3.2.2) := hd4.trans (by unfold wish4; first | exact if_pos (by assumption) | exact if_pos ⟨by assumption, by assumption⟩ | exact ite_ff (by assumption) | exact ite_f1 (by assumption) | exact ite_f2 (by assumption))
        rw [en]
        exact ⟨fun _ => rfl, ow⟩
       refine Ql (Qj ?_)
       have en : d4 = (d3.1, d3.2.1, d3.2.2) := hd4.trans (by unfold wish4; first | exact if_pos (by assumption) | exact if_pos ⟨by assumption, by assumption⟩ | exact ite_ff (by assumption) | exact ite_f1 (by assumption) | exact ite_f2 (by assumption))
       rw [en]
       exact ⟨fun _ => rfl, ow⟩
      ·rintro ρ_ σ_ hfit
       refine SW_fits hfit ?_
       clear hfit
       refine SW_seq ?_
       refine sr ?_
       refine os 1 ?_
       refine L (ld ?_)
       refine oV (.int .i64 (band x.has 16)) ?_
       refine os 1 ?_
       refine kp [84, 5, 4, 3] ?_
       refine nt ?_
       refine SW_cut (fun ρ_ σ_ => Fits ρ_ σ_ [(5, pt b4 0), (4, pt b3 0), (3, pt b2 0)] ((b14, .cells 157 2 [.int .i64 8, .int .i64 4]) :: ((b12, .cells 157 2 [.int .i64 4, .int .i64 2]) :: ((b10, .cells 157 2 [.int .i64 2, .int .i64 1]) :: ((b9, .cells 157 6 [.int .i64 2, .int .i64 1, .int .i64 4, .int .i64 2, .int .i64 8, .int .i64 4]) :: ((b4, .cells 45 3 [.int .u64 d5.1, .int .u64 d5.2.1, .int .i64 d5.2.2]) :: ((b3, .cells 45 3 [.int .u64 0, .int .u64 0, .int .i64 0]) :: ((b2, .cells 35 5 [.int .i64 x.has, .int .u64 x.value, .int .u64 x.get, .int .u64 x.set, .int .i64 x.flags]) :: ((b1, .cells 45 3 [.int .u64 d.1, .int .u64 d.2.1, .int .i64 d.2.2]) :: ([])))))))))) ?_ ?_
       ·refine cd (fun hc17 : ((band x.has 16) != 0) = true => ?_) (fun hc17 => ?_)
        ·refine Qn ?_
         refine os 1 ?_
         refine L (ld ?_)
         refine os 1 ?_
         refine L (st [.int .u64 x.get, .int .u64 d4.2.1, .int .i64 d4.2.2] ?_)
         refine nt ?_
         have en : d5 = (x.get, d4.2.1, d4.2.2) := hd5.trans (by unfold wish5; first | exact if_pos (by assumption) | exact if_pos ⟨by assumption, by assumption⟩ | exact ite_ff (by assumption) | exact ite_f1 (by assumption) | exact ite_f2 (by assumption))
         rw [en]
         exact ⟨fun _ => rfl, ow⟩
        refine Ql (Qj ?_)
        have en : d5 = (d4.1, d4.2.1, d4.2.2) := hd5.trans (by unfold wish5; first | exact if_pos (by assumption) | exact if_pos ⟨by assumption, by assumption⟩ | exact ite_ff (by assumption) | exact ite_f1 (by assumption) | exact ite_f2 (by assumption))
        rw [en]
        exact ⟨fun _ => rfl, ow⟩
       ·rintro ρ_ σ_ hfit
        refine SW_fits hfit ?_
        clear hfit
        refine SW_seq ?_
        refine sr ?_
        refine os 1 ?_
        refine L (ld ?_)
        refine oV (.int .i64 (band x.has 32)) ?_
        refine os 1 ?_
        refine kp [91, 5, 4, 3] ?_
        refine nt ?_
        refine SW_cut (fun ρ_ σ_ => Fits ρ_ σ_ [(5, pt b4 0), (4, pt b3 0), (3, pt b2 0)] ((b14, .cells 157 2 [.int .i64 8, .int .i64 4]) :: ((b12, .cells 157 2 [.int .i64 4, .int .i64 2]) :: ((b10, .cells 157 2 [.int .i64 2, .int .i64 1]) :: ((b9, .cells 157 6 [.int .i64 2, .int .i64 1, .int .i64 4, .int .i64 2, .int .i64 8, .int .i64 4]) :: ((b4, .cells 45 3 [.int .u64 d6.1, .int .u64 d6.2.1, .int .i64 d6.2.2]) :: ((b3, .cells 45 3 [.int .u64 0, .int .u64 0, .int .i64 0]) :: ((b2, .cells 35 5 [.int .i64 x.has, .int .u64 x.value, .int .u64 x.get, .int .u64 x.set, .int .i64 x.flags]) :: ((b1, .cells 45 3 [.int .u64 d.1, .int .u64 d.2.1, .int .i64 d.2.2]) :: ([])))))))))) ?_ ?_
        ·refine cd (fun hc18 : ((band x.has 32) != 0) = true => ?_) (fun hc18 => ?_)
         ·refine Qn ?_
          refine os 1 ?_
          refine L (ld ?_)
          refine os 1 ?_
          refine L (st [.int .u64 d5.1, .int .u64 x.set, .int .i64 d5.2.2] ?_)
          refine nt ?_
          have en : d6 = (d5.1, x.set, d5.2.2) := hd6.trans (by unfold wish6; first | exact if_pos (by assumption) | exact if_pos ⟨by assumption, by assumption⟩ | exact ite_ff (by assumption) | exact ite_f1 (by assumption) | exact ite_f2 (by assumption))
          rw [en]
          exact ⟨fun _ => rfl, ow⟩
         refine Ql (Qj ?_)
         have en : d6 = (d5.1, d5.2.1, d5.2.2) := hd6.trans (by unfold wish6; first | exact if_pos (by assumption) | exact if_pos ⟨by assumption, by assumption⟩ | exact ite_ff (by assumption) | exact ite_f1 (by assumption) | exact ite_f2 (by assumption))
         rw [en]
         exact ⟨fun _ => rfl, ow⟩
        ·rintro ρ_ σ_ hfit
         refine SW_fits hfit ?_
         clear hfit
         refine sr ?_
         refine L (lds 3 ?_)
         refine L (st [.int .u64 d6.1, .int .u64 d6.2.1, .int .i64 d6.2.2] ?_)
         refine nt ?_
         refine Qi ?_
         refine body_endC [.agg #[.int .u64 d6.1, .int .u64 d6.2.1, .int .i64 d6.2.2]] (fun _ => (.cons ⟨b3, 0, rfl, .inl ⟨[.int .u64 d6.1, .int .u64 d6.2.1, .int .i64 d6.2.2], by kernel_rfl, (Qb (Cell.own Qe rfl) (Qb (Cell.own Qe rfl) (Qb (Cell.own Qe rfl) Qo))), rfl⟩⟩ .nil)) ?_
         exact ⟨(), ⟨_, List.Perm.refl _⟩, rfl⟩

end Go.Proofs.YthflblophelioaaGreatDoor
namespace Go.Proofs.YthflblophelioaaGreatDoor
open Go.Sl

theorem prop_may {W0 : World} (d e : DescP) : SC Tryz.prog W0 65 #[.agg #[.int .u64 d.1, .int .u64 d.2.1, .int .i64 d.2.2], .agg #[.int .u64 e.1, .int .u64 e.2.1, .int .i64 e.2.2]] [] (Ret (fun _ : Unit => []) (fun v _ => v = .bool (mayW d e))) := by
 refine SC_body (fn := Tryz.f65) (n := 39) Tryz.func65 rfl (by kernel_rfl) (ρ := [(0, .agg #[.int .u64 d.1, .int .u64 d.2.1, .int .i64 d.2.2]), (1, .agg #[.int .u64 e.1, .int .u64 e.2.1, .int .i64 e.2.2])]) rfl ?_
 refine sr ?_
 refine L (nw 45 3 [.int .u64 d.1, .int .u64 d.2.1, .int .i64 d.2.2] ?_)
 intro b1
 refine L (nw 45 3 [.int .u64 e.1, .int .u64 e.2.1, .int .i64 e.2.2] ?_)
 intro b2
 refine os 1 ?_
 refine nq ?_
 refine sr ?_
 refine os 1 ?_
 refine L (ld ?_)
 refine oV (.int .i64 (band d.2.2 4)) ?_
 refine os 2 ?_
 refine tb 9 (fun hg3 => ?_) (fun hg3 => ?_)
 ·replace hg3 : ((band d.2.2 4) != 0) = true := hg3
  refine os 4 ?_
  refine kp [13, 4, 3, 2, 0, 1] ?_
  refine nt ?_
  refine ct ?_
  refine sr ?_
  refine os 1 ?_
  refine nt ?_
  refine Qi (Qm ?_)
  refine Qg (.bool true) (fun _ => rfl) ?_
  exact ⟨(), ⟨_, List.Perm.refl _⟩, congrArg Value.bool (by rw [mayW_eq]; unfold deqB; simp only [*, Bool.or_true, Bool.true_or, Bool.false_or, Bool.or_false, Bool.not_true, Bool.not_false, Bool.true_and, Bool.false_and, Bool.and_true, Bool.and_false])⟩
 replace hg3 : ((band d.2.2 4) != 0) = false := hg3
 refine L (lds 3 ?_)
 refine L (lds 3 ?_)
 refine oV (.bool ((d.1 == e.1) && ((d.2.1 == e.2.1) && (d.2.2 == e.2.2)))) ?_ (hs := eqlD)
 refine os 1 ?_
 refine kp [13, 4, 3, 2, 0, 1] ?_
 refine nt ?_
 refine cd (fun hc4 : (((d.1 == e.1) && ((d.2.1 == e.2.1) && (d.2.2 == e.2.2)))) = true => ?_) (fun hc4 => ?_)
 ·refine sr ?_
  refine os 1 ?_
  refine nt ?_
  refine Qi (Qm ?_)
  refine Qg (.bool true) (fun _ => rfl) ?_
  exact ⟨(), ⟨_, List.Perm.refl _⟩, congrArg Value.bool (by rw [mayW_eq]; unfold deqB; simp only [*, Bool.or_true, Bool.true_or, Bool.false_or, Bool.or_false, Bool.not_true, Bool.not_false, Bool.true_and, Bool.false_and, Bool.and_true, Bool.and_false])⟩
 refine Ql (Qj ?_)
 refine SW_seq ?_
 refine sr ?_
 refine os 1 ?_
 refine L (ld ?_)
 refine oV (.int .i64 (bandn d.2.2 1)) ?_
 refine os 1 ?_
 refine L (ld ?_)
 refine oV (.int .i64 (bandn e.2.2 1)) ?_
 refine os 2 ?_
 refine kp [21, 13, 4, 3, 2, 0, 1] ?_
 refine tb 21 (fun hg5 => ?_) (fun hg5 => ?_)
 ·replace hg5 : ((bandn d.2.2 1) != (bandn e.2.2 1)) = true := hg5
  refine os 5 ?_
  refine kp [26, 13, 4, 3, 2, 0, 1] ?_
  refine nt ?_
  refine ct ?_
  refine sr ?_
  refine os 1 ?_
  refine nt ?_
  refine Qi (Qm ?_)
  refine Qg (.bool false) (fun _ => rfl) ?_
  exact ⟨(), ⟨_, List.Perm.refl _⟩, congrArg Value.bool (by rw [mayW_eq]; unfold deqB; simp only [*, Bool.or_true, Bool.true_or, Bool.false_or, Bool.or_false, Bool.not_true, Bool.not_false, Bool.true_and, Bool.false_and, Bool.and_true, Bool.and_false])⟩
 replace hg5 : ((bandn d.2.2 1) != (bandn e.2.2 1)) = false := hg5
 refine os 1 ?_
 refine L (ld ?_)
 refine oV (.int .i64 (band d.2.2 8)) ?_
 refine os 2 ?_
 refine kp [26, 13, 4, 3, 2, 0, 1] ?_
 refine nt ?_
 refine cd (fun hc6 : ((band d.2.2 8) != 0) = true => ?_) (fun hc6 => ?_)
 ·refine sr ?_
  refine os 1 ?_
  refine nt ?_
  refine Qi (Qm ?_)
  refine Qg (.bool false) (fun _ => rfl) ?_
  exact ⟨(), ⟨_, List.Perm.refl _⟩, congrArg Value.bool (by rw [mayW_eq]; unfold deqB; simp only [*, Bool.or_true, Bool.true_or, Bool.false_or, Bool.or_false, Bool.not_true, Bool.not_false, Bool.true_and, Bool.false_and, Bool.and_true, Bool.and_false])⟩
 refine Ql (Qj ?_)
 refine sr ?_
 refine os 1 ?_
 refine L (ld ?_)
 refine oV (.int .i64 (band d.2.2 1)) ?_
 refine os 2 ?_
 refine tb 31 (fun hg7 => ?_) (fun hg7 => ?_)
 ·replace hg7 : ((band d.2.2 1) != 0) = true := hg7
  refine os 1 ?_
  refine L (ld ?_)
  refine oV (.int .i64 (bor e.2.2 1)) ?_
  refine os 1 ?_
  refine kp [35, 34, 31, 26, 13, 4, 3, 2, 0, 1] ?_
  refine L (ld ?_)
  refine os 3 ?_
  refine kp [4, 26, 13, 3, 2, 0, 1] ?_
  refine nt ?_
  refine Qi ?_
  refine Qg (.bool ((bor e.2.2 1) == d.2.2)) (fun _ => rfl) ?_
  exact ⟨(), ⟨_, List.Perm.refl _⟩, congrArg Value.bool (by rw [mayW_eq]; unfold deqB; simp only [*, Bool.or_true, Bool.true_or, Bool.false_or, Bool.or_false, Bool.not_true, Bool.not_false, Bool.true_and, Bool.false_and, Bool.and_true, Bool.and_false])⟩
 replace hg7 : ((band d.2.2 1) != 0) = false := hg7
 refine os 8 ?_
 refine kp [4, 26, 13, 3, 2, 0, 1] ?_
 refine nt ?_
 refine Qi ?_
 refine Qg (.bool false) (fun _ => rfl) ?_
 exact ⟨(), ⟨_, List.Perm.refl _⟩, congrArg Value.bool (by rw [mayW_eq]; unfold deqB; simp only [*, Bool.or_true, Bool.true_or, Bool.false_or, Bool.or_false, Bool.not_true, Bool.not_false, Bool.true_and, Bool.false_and, Bool.and_true, Bool.and_false])⟩

theorem prop_length {W0 : World} {k : Nat} {H : HeapV} {F : HeapF} (hk : k ≤ 8000000) (h : HInv k H F) (w y : Int) : SC Tryz.prog W0 66 #[.pointer (some ⟨F.p, 0, none⟩), .int .u64 w, .int .u64 y] (HeapV.ent H F) (Ret (fun H2 : HeapV => HeapV.ent H2 F) (fun v H2 => v = .bool (lenGo (H.pub F) w y).2 ∧ PStp k H H2 F (lenGo (H.pub F) w y).1)) := by
 refine SC_body (fn := Tryz.f66) (n := 22) Tryz.func66 rfl (by kernel_rfl) (ρ := [(0, pt F.p 0), (1, .int .u64 w), (2, .int .u64 y)]) rfl ?_
 refine SW_sig ((HeapV.ent H F) ++ ([])) (by simp only [List.append_nil, List.append_assoc]) ?_
 refine sr ?_
 refine os 1 ?_
 refine nsr ?_
 refine os 1 ?_
 rcases hm1 : isI y with _ | m1
 ·refine L (cl (word_IsInt (w := y)) ?_)
  rintro v1 _ hv1
  obtain rfl : v1 = .tuple #[.int .i32 0, .bool false] := hv1.trans (by rw [hm1])
  refine un ?_
  refine os 5 ?_
  refine kp [8, 7, 6, 0, 1, 2] ?_
  refine nsr ?_
  refine os 9 ?_
  refine kp [6, 8, 7, 0, 1, 2] ?_
  refine nt ?_
  refine Qi ?_
  refine Qg (.bool false) (fun _ => rfl) ?_
  exact ⟨H, ow, by rw [show lenGo (H.pub F) w y = (H.pub F, false) from by unfold lenGo; rw [hm1]]; exact ⟨rfl, PStp.same h⟩⟩
 have hir := isI_range hm1
 refine L (cl (word_IsInt (w := y)) ?_)
 rintro v2 _ hv2
 obtain rfl : v2 = .tuple #[.int .i32 m1, .bool true] := hv2.trans (by rw [hm1])
 refine un ?_
 refine os 5 ?_
 refine kp [8, 7, 6, 0, 1, 2] ?_
 refine nsr ?_
 refine os 6 ?_
 refine L (cl (hq_SetLen hk h w m1) ?_)
 rintro _ H2 ⟨rfl, hst⟩
 refine os 2 ?_
 refine kp [6, 8, 7, 0, 1, 2] ?_
 refine nt ?_
 refine Qi ?_
 refine Qg (.bool (lenQ (H.pub F) w m1)) (fun _ => rfl) ?_
 exact ⟨H2, ow, by rw [show lenGo (H.pub F) w y = (modP (H.pub F) w (lenO m1), lenQ (H.pub F) w m1) from by unfold lenGo; rw [hm1]]; exact ⟨rfl, hst.p⟩⟩

end Go.Proofs.YthflblophelioaaGreatDoor
namespace Go.Proofs.YthflblophelioaaGreatDoor
open Go.Sl

theorem prop_Define {W0 : World} (hL : Laid W0) {k : Nat} {H : HeapV} {F : HeapF} (h : HInv k H F) (hk : k ≤ 8000000) (hfl : ∀ o ∈ HeapV.pub H F, ∀ d ∈ o.descs, normF d.2.2 = d.2.2) (w : Int) {key : ByteArray} (hks : key.size ≤ 281474976710656) (x : WishP) : SC Tryz.prog W0 34 #[.pointer (some ⟨F.p, 0, none⟩), .int .u64 w, .string key, .agg #[.int .i64 x.has, .int .u64 x.value, .int .u64 x.get, .int .u64 x.set, .int .i64 x.flags]] (HeapV.ent H F) (Ret (fun H2 : HeapV => HeapV.ent H2 F) (fun v H2 => v = .bool (defP (HeapV.pub H F) w key x).2 ∧ PStp (k + 1) H H2 F (defP (HeapV.pub H F) w key x).1)) := by
 refine SC_body (fn := Tryz.f34) (n := 96) Tryz.func34 rfl (by kernel_rfl) (ρ := [(0, pt F.p 0), (1, .int .u64 w), (2, .string key), (3, .agg #[.int .i64 x.has, .int .u64 x.value, .int .u64 x.get, .int .u64 x.set, .int .i64 x.flags])]) rfl ?_
 refine SW_sig ((HeapV.ent H F) ++ ([])) (by simp only [List.append_nil, List.append_assoc]) ?_
 refine sr ?_
 refine L (nw 35 5 [.int .i64 x.has, .int .u64 x.value, .int .u64 x.get, .int .u64 x.set, .int .i64 x.flags] ?_)
 intro b1
 refine os 1 ?_
 refine nsr ?_
 refine os 2 ?_
 refine L (cl (hz_Kind h w) ?_)
 rintro _ _ rfl
 refine os 5 ?_
 refine kp [10, 8, 7, 0, 1, 2, 3] ?_
 refine nq ?_
 refine sr ?_
 refine os 3 ?_
 refine tb 24 (fun hg2 => ?_) (fun hg2 => ?_)
 ·replace hg2 : (!((kindQ (HeapV.pub H F) w).2)) = true := hg2
  replace hg2 := bnot_t hg2
  refine os 3 ?_
  refine kp [27, 10, 8, 7, 0, 1, 2, 3] ?_
  refine nt ?_
  refine ct ?_
  refine sr ?_
  refine os 1 ?_
  refine nt ?_
  refine Qi (Qm ?_)
  refine Qg (.bool false) (fun _ => rfl) ?_
  exact ⟨H, ow, by rw [defP_no (by first | exact .inl (by assumption) | exact .inr (.inl (by assumption)))]; exact ⟨rfl, (PStp.same h).mono (Nat.le_succ _)⟩⟩
 replace hg2 : (!((kindQ (HeapV.pub H F) w).2)) = false := hg2
 replace hg2 := bnot_f hg2
 refine L (lds 5 ?_)
 refine L (cl (prop_both x) ?_)
 rintro _ _ rfl
 refine un ?_
 refine os 1 ?_
 refine kp [27, 10, 8, 7, 0, 1, 2, 3] ?_
 refine nt ?_
 refine cd (fun hc3 : ((bothP x)) = true => ?_) (fun hc3 => ?_)
 ·refine sr ?_
  refine os 1 ?_
  refine nt ?_
  refine Qi (Qm ?_)
  refine Qg (.bool false) (fun _ => rfl) ?_
  exact ⟨H, ow, by rw [defP_no (by first | exact .inl (by assumption) | exact .inr (.inl (by assumption)))]; exact ⟨rfl, (PStp.same h).mono (Nat.le_succ _)⟩⟩
 refine Ql (Qj ?_)
 refine sr ?_
 refine os 3 ?_
 refine L (cl (prop_Own hL h w hks) ?_)
 rintro v3 _ hv3
 obtain rfl : v3 = .tuple #[.agg #[.int .u64 ((descG (ownQ (HeapV.pub H F) w key)).1), .int .u64 ((descG (ownQ (HeapV.pub H F) w key)).2.1), .int .i64 ((descG (ownQ (HeapV.pub H F) w key)).2.2)], .bool ((ownQ (HeapV.pub H F) w key).isSome)] := hv3.trans (descR_eq _)
 refine os 3 ?_
 refine L (nw 45 3 [.int .u64 0, .int .u64 0, .int .i64 0] ?_)
 intro b4
 refine L (st [.int .u64 ((descG (ownQ (HeapV.pub H F) w key)).1), .int .u64 ((descG (ownQ (HeapV.pub H F) w key)).2.1), .int .i64 ((descG (ownQ (HeapV.pub H F) w key)).2.2)] ?_)
 refine os 1 ?_
 refine kp [12, 11, 27, 10, 8, 7, 0, 1, 2, 3] ?_
 refine nq ?_
 refine sr ?_
 refine os 2 ?_
 refine nt ?_
 refine cd (fun hc5 : (!((ownQ (HeapV.pub H F) w key).isSome)) = true => ?_) (fun hc5 => ?_)
 ·replace hc5 := bnot_t hc5
  refine SW_seq ?_
  refine sr ?_
  refine os 2 ?_
  refine L (cl (hz_Open h w) ?_)
  rintro _ _ rfl
  refine os 1 ?_
  refine kp [40, 36, 12, 11, 27, 10, 8, 7, 0, 1, 2, 3] ?_
  refine nt ?_
  refine cd (fun hc6 : (!(openQ (HeapV.pub H F) w)) = true => ?_) (fun hc6 => ?_)
  ·replace hc6 := bnot_t hc6
   refine sr ?_
   refine os 1 ?_
   refine nt ?_
   refine Qi (Qm (Qm ?_))
   refine Qg (.bool false) (fun _ => rfl) ?_
   exact ⟨H, ow, by rw [defP_no (by exact .inr (.inr (.inl ⟨by assumption, by assumption⟩)))]; exact ⟨rfl, (PStp.same h).mono (Nat.le_succ _)⟩⟩
  replace hc6 := bnot_f hc6
  refine Ql (Qj ?_)
  refine Qn ?_
  refine oV (.agg #[.int .u64 18445336698825998336, .int .u64 18445336698825998336, .int .i64 0]) ?_
  refine L (st [.int .u64 18445336698825998336, .int .u64 18445336698825998336, .int .i64 0] ?_)
  refine nq ?_
  have ho : (ownQ (HeapV.pub H F) w key).getD zeroD = (undefW, undefW, 0) := getD_none (by assumption)
  obtain ⟨d, hd⟩ : ∃ q, q = defD (HeapV.pub H F) w key x := ⟨_, rfl⟩
  refine Qn ?_
  refine L (lds 3 ?_)
  refine L (lds 5 ?_)
  refine L (cl (prop_wished (undefW, undefW, 0) x) ?_)
  rintro v5 _ hv5
  obtain rfl : v5 = .agg #[.int .u64 d.1, .int .u64 d.2.1, .int .i64 d.2.2] := hv5.trans (by rw [hd, defD, ho])
  refine un ?_
  refine L (nw 45 3 [.int .u64 0, .int .u64 0, .int .i64 0] ?_)
  intro b7
  refine L (st [.int .u64 d.1, .int .u64 d.2.1, .int .i64 d.2.2] ?_)
  refine nq ?_
  refine sr ?_
  refine os 2 ?_
  refine pn 46 (show ((ownQ (HeapV.pub H F) w key).isSome) = false from (by assumption)) ?_
  refine os 5 ?_
  refine kp [51, 13, 40, 36, 12, 11, 27, 10, 8, 7, 0, 1, 2, 3] ?_
  refine nt ?_
  refine cf ?_
  refine Ql (Qj ?_)
  refine SW_seq ?_
  refine SW_seq ?_
  have hno : ¬ defNo (HeapV.pub H F) w key x := by
    rintro (a_ | a_ | ⟨a_, b_⟩ | ⟨a_, b_⟩)
    · have z_ : (kindQ (HeapV.pub H F) w).2 = true := by assumption
      rw [a_] at z_; cases z_
    · have z_ : bothP x = false := by assumption
      rw [a_] at z_; cases z_
    · have z_ : openQ (HeapV.pub H F) w = true := by assumption
      rw [b_] at z_; cases z_
    · have z_ : (ownQ (HeapV.pub H F) w key).isSome = false := by assumption
      rw [a_] at z_; cases z_
  refine Qn ?_
  refine os 2 ?_
  refine L (cl (prop_array h w) ?_)
  rintro _ _ rfl
  refine nt ?_
  refine cd (fun hc9 : ((arrP (HeapV.pub H F) w)) = true => ?_) (fun hc9 => ?_)
  ·refine SW_seq ?_
   refine sr ?_
   refine os 1 ?_
   refine oX (.bool (key.toList == (ByteArray.mk (List.toArray (List.cons 108 (List.cons 101 (List.cons 110 (List.cons 103 (List.cons 116 (List.cons 104 List.nil)))))))).toList)) (.bool (decide (key = (ByteArray.mk (List.toArray (List.cons 108 (List.cons 101 (List.cons 110 (List.cons 103 (List.cons 116 (List.cons 104 List.nil))))))))))) (congrArg Value.bool (by rw [str_eq])) ?_
   refine kp [56, 54, 51, 13, 40, 36, 12, 11, 27, 10, 8, 7, 0, 1, 2, 3] ?_
   refine nt ?_
   refine cdp (fun hc10 : key = (ByteArray.mk (List.toArray (List.cons 108 (List.cons 101 (List.cons 110 (List.cons 103 (List.cons 116 (List.cons 104 List.nil)))))))) => ?_) (fun hc10 => ?_)
   ·refine sr ?_
    refine os 1 ?_
    refine L (ld ?_)
    refine os 2 ?_
    refine tb 60 (fun hg11 => ?_) (fun hg11 => ?_)
    ·replace hg11 : (d.2.2 == 1) = true := hg11
     refine os 3 ?_
     refine L (ld ?_)
     refine L (cl (prop_length hk h w d.1) ?_)
     rintro _ H2 ⟨rfl, hst⟩
     refine os 2 ?_
     refine kp [8, 56, 54, 51, 13, 40, 36, 12, 11, 27, 10, 7, 0, 1, 2, 3] ?_
     refine nt ?_
     refine Qi (Qm (Qm ?_))
     refine Qg (.bool ((lenGo (HeapV.pub H F) w d.1).2)) (fun _ => rfl) ?_
     rw [defP_go hno, ← hd]
     rw [defGo_len (by assumption) (by assumption) (by assumption)]
     exact ⟨H2, ow, rfl, hst.mono (Nat.le_succ _)⟩
    replace hg11 : (d.2.2 == 1) = false := hg11
    refine os 7 ?_
    refine kp [8, 56, 54, 51, 13, 40, 36, 12, 11, 27, 10, 7, 0, 1, 2, 3] ?_
    refine nt ?_
    refine Qi (Qm (Qm ?_))
    refine Qg (.bool false) (fun _ => rfl) ?_
    rw [defP_go hno, ← hd]
    rw [defGo_len' (by assumption) (by assumption) (by assumption)]
    exact ⟨H, ow, rfl, (PStp.same h).mono (Nat.le_succ _)⟩
   refine Ql (Qj ?_)
   refine sr ?_
   refine os 1 ?_
   refine L (cl (prop_Index hL hks) ?_)
   rintro _ _ rfl
   refine un ?_
   refine os 5 ?_
   refine kp [15, 14, 56, 54, 51, 13, 40, 36, 12, 11, 27, 10, 8, 7, 0, 1, 2, 3] ?_
   refine nsr ?_
   refine os 1 ?_
   refine nt ?_
   refine cd (fun hc12 : ((idxV key).2) = true => ?_) (fun hc12 => ?_)
   ·refine sr ?_
    refine os 1 ?_
    refine L (ld ?_)
    refine os 2 ?_
    refine tb 76 (fun hg13 => ?_) (fun hg13 => ?_)
    ·replace hg13 : (d.2.2 == 7) = true := hg13
     refine os 4 ?_
     refine L (ld ?_)
     refine L (cl (hq_SetElem hk h w ((idxV key).1) d.1) ?_)
     rintro _ H2 ⟨rfl, hst⟩
     refine os 2 ?_
     refine kp [8, 72, 15, 14, 56, 54, 51, 13, 40, 36, 12, 11, 27, 10, 7, 0, 1, 2, 3] ?_
     refine nt ?_
     refine Qi (Qm ?_)
     refine Qg (.bool (setQ (HeapV.pub H F) w ((idxV key).1))) (fun _ => rfl) ?_
     rw [defP_go hno, ← hd]
     rw [defGo_ix (by assumption) (by assumption) (by assumption) (by assumption)]
     exact ⟨H2, ow, rfl, hst.p.mono (Nat.le_succ _)⟩
    replace hg13 : (d.2.2 == 7) = false := hg13
    refine os 8 ?_
    refine kp [8, 72, 15, 14, 56, 54, 51, 13, 40, 36, 12, 11, 27, 10, 7, 0, 1, 2, 3] ?_
    refine nt ?_
    refine Qi (Qm ?_)
    refine Qg (.bool false) (fun _ => rfl) ?_
    rw [defP_go hno, ← hd]
    rw [defGo_ix' (by assumption) (by assumption) (by assumption) (by assumption)]
    exact ⟨H, ow, rfl, (PStp.same h).mono (Nat.le_succ _)⟩
   refine Ql (Qj ?_)
   refine SW_seq ?_
   refine sr ?_
   refine os 1 ?_
   refine oV (.bool true) ?_
   refine os 5 ?_
   refine kp [90, 72, 15, 14, 56, 54, 51, 13, 40, 36, 12, 11, 27, 10, 8, 7, 0, 1, 2, 3] ?_
   refine nt ?_
   refine ct ?_
   refine Qn ?_
   refine os 3 ?_
   refine L (lds 3 ?_)
   refine L (cl (hq_Put hk h w key d) ?_)
   rintro _ H2 ⟨rfl, hst⟩
   refine nsr ?_
   refine os 1 ?_
   refine kp [8, 90, 72, 15, 14, 56, 54, 51, 13, 40, 36, 12, 11, 27, 10, 7, 0, 1, 2, 3] ?_
   refine nt ?_
   refine Qi ?_
   refine Qg (.bool true) (fun _ => rfl) ?_
   rw [defP_go hno, ← hd]
   rw [defGo_put (by assumption) (by assumption) (by assumption)]
   exact ⟨H2, ow, rfl, hst.p⟩
  refine Ql (Qj ?_)
  refine SW_seq ?_
  refine sr ?_
  refine os 1 ?_
  refine oV (.bool true) ?_
  refine os 5 ?_
  refine kp [90, 54, 51, 13, 40, 36, 12, 11, 27, 10, 8, 7, 0, 1, 2, 3] ?_
  refine nt ?_
  refine ct ?_
  refine Qn ?_
  refine os 3 ?_
  refine L (lds 3 ?_)
  refine L (cl (hq_Put hk h w key d) ?_)
  rintro _ H2 ⟨rfl, hst⟩
  refine nsr ?_
  refine os 1 ?_
  refine kp [8, 90, 54, 51, 13, 40, 36, 12, 11, 27, 10, 7, 0, 1, 2, 3] ?_
  refine nt ?_
  refine Qi ?_
  refine Qg (.bool true) (fun _ => rfl) ?_
  rw [defP_go hno, ← hd]
  rw [defGo_plain (by assumption)]
  exact ⟨H2, ow, rfl, hst.p⟩
 replace hc5 := bnot_f hc5
 refine Ql (Qj ?_)
 refine SW_seq ?_
 have ho : (ownQ (HeapV.pub H F) w key).getD zeroD = descG (ownQ (HeapV.pub H F) w key) := getD_some (by assumption)
 obtain ⟨d, hd⟩ : ∃ q, q = defD (HeapV.pub H F) w key x := ⟨_, rfl⟩
 refine Qn ?_
 refine L (lds 3 ?_)
 refine L (lds 5 ?_)
 refine L (cl (prop_wished (descG (ownQ (HeapV.pub H F) w key)) x) ?_)
 rintro v12 _ hv12
 obtain rfl : v12 = .agg #[.int .u64 d.1, .int .u64 d.2.1, .int .i64 d.2.2] := hv12.trans (by rw [hd, defD, ho])
 refine un ?_
 refine L (nw 45 3 [.int .u64 0, .int .u64 0, .int .i64 0] ?_)
 intro b14
 refine L (st [.int .u64 d.1, .int .u64 d.2.1, .int .i64 d.2.2] ?_)
 refine nq ?_
 refine sr ?_
 refine os 2 ?_
 refine pn 46 (show ((ownQ (HeapV.pub H F) w key).isSome) = true from (by assumption)) ?_
 refine L (lds 3 ?_)
 refine L (lds 3 ?_)
 refine L (cl (prop_may (descG (ownQ (HeapV.pub H F) w key)) d) ?_)
 rintro _ _ rfl
 refine un ?_
 refine os 2 ?_
 refine kp [51, 13, 36, 12, 11, 27, 10, 8, 7, 0, 1, 2, 3] ?_
 refine nt ?_
 refine cd (fun hc16 : (!(mayW (descG (ownQ (HeapV.pub H F) w key)) d)) = true => ?_) (fun hc16 => ?_)
 ·replace hc16 := bnot_t hc16
  refine sr ?_
  refine os 1 ?_
  refine nt ?_
  refine Qi (Qm ?_)
  refine Qg (.bool false) (fun _ => rfl) ?_
  exact ⟨H, ow, by rw [defP_no (by exact .inr (.inr (.inr ⟨by assumption, by rw [ho, ← hd]; assumption⟩)))]; exact ⟨rfl, (PStp.same h).mono (Nat.le_succ _)⟩⟩
 replace hc16 := bnot_f hc16
 refine Ql (Qj ?_)
 refine SW_seq ?_
 refine SW_seq ?_
 have hno : ¬ defNo (HeapV.pub H F) w key x := by
   rintro (a_ | a_ | ⟨a_, b_⟩ | ⟨a_, b_⟩)
   · have z_ : (kindQ (HeapV.pub H F) w).2 = true := by assumption
     rw [a_] at z_; cases z_
   · have z_ : bothP x = false := by assumption
     rw [a_] at z_; cases z_
   · have z_ : (ownQ (HeapV.pub H F) w key).isSome = true := by assumption
     rw [a_] at z_; cases z_
   · have z_ : mayW (descG (ownQ (HeapV.pub H F) w key)) d = true := by assumption
     rw [ho, ← hd, z_] at b_; cases b_
 refine Qn ?_
 refine os 2 ?_
 refine L (cl (prop_array h w) ?_)
 rintro _ _ rfl
 refine nt ?_
 refine cd (fun hc17 : ((arrP (HeapV.pub H F) w)) = true => ?_) (fun hc17 => ?_)
 ·refine SW_seq ?_
  refine sr ?_
  refine os 1 ?_
  refine oX (.bool (key.toList == (ByteArray.mk (List.toArray (List.cons 108 (List.cons 101 (List.cons 110 (List.cons 103 (List.cons 116 (List.cons 104 List.nil)))))))).toList)) (.bool (decide (key = (ByteArray.mk (List.toArray (List.cons 108 (List.cons 101 (List.cons 110 (List.cons 103 (List.cons 116 (List.cons 104 List.nil))))))))))) (congrArg Value.bool (by rw [str_eq])) ?_
  refine kp [56, 54, 51, 13, 36, 12, 11, 27, 10, 8, 7, 0, 1, 2, 3] ?_
  refine nt ?_
  refine cdp (fun hc18 : key = (ByteArray.mk (List.toArray (List.cons 108 (List.cons 101 (List.cons 110 (List.cons 103 (List.cons 116 (List.cons 104 List.nil)))))))) => ?_) (fun hc18 => ?_)
  ·refine sr ?_
   refine os 1 ?_
   refine L (ld ?_)
   refine os 2 ?_
   refine tb 60 (fun hg19 => ?_) (fun hg19 => ?_)
   ·replace hg19 : (d.2.2 == 1) = true := hg19
    refine os 3 ?_
    refine L (ld ?_)
    refine L (cl (prop_length hk h w d.1) ?_)
    rintro _ H2 ⟨rfl, hst⟩
    refine os 2 ?_
    refine kp [8, 56, 54, 51, 13, 36, 12, 11, 27, 10, 7, 0, 1, 2, 3] ?_
    refine nt ?_
    refine Qi (Qm (Qm ?_))
    refine Qg (.bool ((lenGo (HeapV.pub H F) w d.1).2)) (fun _ => rfl) ?_
    rw [defP_go hno, ← hd]
    rw [defGo_len (by assumption) (by assumption) (by assumption)]
    exact ⟨H2, ow, rfl, hst.mono (Nat.le_succ _)⟩
   replace hg19 : (d.2.2 == 1) = false := hg19
   refine os 7 ?_
   refine kp [8, 56, 54, 51, 13, 36, 12, 11, 27, 10, 7, 0, 1, 2, 3] ?_
   refine nt ?_
   refine Qi (Qm (Qm ?_))
   refine Qg (.bool false) (fun _ => rfl) ?_
   rw [defP_go hno, ← hd]
   rw [defGo_len' (by assumption) (by assumption) (by assumption)]
   exact ⟨H, ow, rfl, (PStp.same h).mono (Nat.le_succ _)⟩
  refine Ql (Qj ?_)
  refine sr ?_
  refine os 1 ?_
  refine L (cl (prop_Index hL hks) ?_)
  rintro _ _ rfl
  refine un ?_
  refine os 5 ?_
  refine kp [15, 14, 56, 54, 51, 13, 36, 12, 11, 27, 10, 8, 7, 0, 1, 2, 3] ?_
  refine nsr ?_
  refine os 1 ?_
  refine nt ?_
  refine cd (fun hc20 : ((idxV key).2) = true => ?_) (fun hc20 => ?_)
  ·refine sr ?_
   refine os 1 ?_
   refine L (ld ?_)
   refine os 2 ?_
   refine tb 76 (fun hg21 => ?_) (fun hg21 => ?_)
   ·replace hg21 : (d.2.2 == 7) = true := hg21
    refine os 4 ?_
    refine L (ld ?_)
    refine L (cl (hq_SetElem hk h w ((idxV key).1) d.1) ?_)
    rintro _ H2 ⟨rfl, hst⟩
    refine os 2 ?_
    refine kp [8, 72, 15, 14, 56, 54, 51, 13, 36, 12, 11, 27, 10, 7, 0, 1, 2, 3] ?_
    refine nt ?_
    refine Qi (Qm ?_)
    refine Qg (.bool (setQ (HeapV.pub H F) w ((idxV key).1))) (fun _ => rfl) ?_
    rw [defP_go hno, ← hd]
    rw [defGo_ix (by assumption) (by assumption) (by assumption) (by assumption)]
    exact ⟨H2, ow, rfl, hst.p.mono (Nat.le_succ _)⟩
   replace hg21 : (d.2.2 == 7) = false := hg21
   refine os 8 ?_
   refine kp [8, 72, 15, 14, 56, 54, 51, 13, 36, 12, 11, 27, 10, 7, 0, 1, 2, 3] ?_
   refine nt ?_
   refine Qi (Qm ?_)
   refine Qg (.bool false) (fun _ => rfl) ?_
   rw [defP_go hno, ← hd]
   rw [defGo_ix' (by assumption) (by assumption) (by assumption) (by assumption)]
   exact ⟨H, ow, rfl, (PStp.same h).mono (Nat.le_succ _)⟩
  refine Ql (Qj ?_)
  refine SW_seq ?_
  refine sr ?_
  refine os 1 ?_
  refine oV (.bool false) ?_
  refine os 1 ?_
  refine L (lds 3 ?_)
  refine L (lds 3 ?_)
  refine oV (.bool (!(((descG (ownQ (HeapV.pub H F) w key)).1 == d.1) && (((descG (ownQ (HeapV.pub H F) w key)).2.1 == d.2.1) && ((descG (ownQ (HeapV.pub H F) w key)).2.2 == d.2.2))))) ?_ (hs := neqD)
  refine os 1 ?_
  refine kp [90, 72, 15, 14, 56, 54, 51, 13, 36, 12, 11, 27, 10, 8, 7, 0, 1, 2, 3] ?_
  refine nt ?_
  refine cd (fun hc22 : (!(((descG (ownQ (HeapV.pub H F) w key)).1 == d.1) && (((descG (ownQ (HeapV.pub H F) w key)).2.1 == d.2.1) && ((descG (ownQ (HeapV.pub H F) w key)).2.2 == d.2.2)))) = true => ?_) (fun hc22 => ?_)
  ·replace hc22 := bnot_t hc22
   refine Qn ?_
   refine os 3 ?_
   refine L (lds 3 ?_)
   refine L (cl (hq_Put hk h w key d) ?_)
   rintro _ H2 ⟨rfl, hst⟩
   refine nsr ?_
   refine os 1 ?_
   refine kp [8, 90, 72, 15, 14, 56, 54, 51, 13, 36, 12, 11, 27, 10, 7, 0, 1, 2, 3] ?_
   refine nt ?_
   refine Qi ?_
   refine Qg (.bool true) (fun _ => rfl) ?_
   rw [defP_go hno, ← hd]
   rw [defGo_put (by assumption) (by assumption) (by assumption)]
   exact ⟨H2, ow, rfl, hst.p⟩
  replace hc22 := bnot_f hc22
  refine Ql (Qj ?_)
  refine sr ?_
  refine os 1 ?_
  refine nt ?_
  refine Qi ?_
  refine Qg (.bool true) (fun _ => rfl) ?_
  rw [defP_go hno, ← hd]
  rw [defGo_put (by assumption) (by assumption) (by assumption)]
  rw [put_same hfl (d := d) (by rw [← own_get (by assumption) (by assumption) (by assumption)]; exact (some_of (by assumption)).trans (congrArg some (deq_iff.1 (by assumption))))]
  exact ⟨H, ow, rfl, (PStp.same h).mono (Nat.le_succ _)⟩
 refine Ql (Qj ?_)
 refine SW_seq ?_
 refine sr ?_
 refine os 1 ?_
 refine oV (.bool false) ?_
 refine os 1 ?_
 refine L (lds 3 ?_)
 refine L (lds 3 ?_)
 refine oV (.bool (!(((descG (ownQ (HeapV.pub H F) w key)).1 == d.1) && (((descG (ownQ (HeapV.pub H F) w key)).2.1 == d.2.1) && ((descG (ownQ (HeapV.pub H F) w key)).2.2 == d.2.2))))) ?_ (hs := neqD)
 refine os 1 ?_
 refine kp [90, 54, 51, 13, 36, 12, 11, 27, 10, 8, 7, 0, 1, 2, 3] ?_
 refine nt ?_
 refine cd (fun hc23 : (!(((descG (ownQ (HeapV.pub H F) w key)).1 == d.1) && (((descG (ownQ (HeapV.pub H F) w key)).2.1 == d.2.1) && ((descG (ownQ (HeapV.pub H F) w key)).2.2 == d.2.2)))) = true => ?_) (fun hc23 => ?_)
 ·replace hc23 := bnot_t hc23
  refine Qn ?_
  refine os 3 ?_
  refine L (lds 3 ?_)
  refine L (cl (hq_Put hk h w key d) ?_)
  rintro _ H2 ⟨rfl, hst⟩
  refine nsr ?_
  refine os 1 ?_
  refine kp [8, 90, 54, 51, 13, 36, 12, 11, 27, 10, 7, 0, 1, 2, 3] ?_
  refine nt ?_
  refine Qi ?_
  refine Qg (.bool true) (fun _ => rfl) ?_
  rw [defP_go hno, ← hd]
  rw [defGo_plain (by assumption)]
  exact ⟨H2, ow, rfl, hst.p⟩
 replace hc23 := bnot_f hc23
 refine Ql (Qj ?_)
 refine sr ?_
 refine os 1 ?_
 refine nt ?_
 refine Qi ?_
 refine Qg (.bool true) (fun _ => rfl) ?_
 rw [defP_go hno, ← hd]
 rw [defGo_plain (by assumption)]
 rw [put_same hfl (d := d) (by rw [← ownQ_plain (by assumption)]; exact (some_of (by assumption)).trans (congrArg some (deq_iff.1 (by assumption))))]
 exact ⟨H, ow, rfl, (PStp.same h).mono (Nat.le_succ _)⟩

end Go.Proofs.YthflblophelioaaGreatDoor
namespace Go.Proofs.YthflblophelioaaGreatDoor
open Go.Sl

theorem prop_Delete {W0 : World} (hL : Laid W0) {k : Nat} {H : HeapV} {F : HeapF} (h : HInv k H F) (hk : k ≤ 8000000) (w : Int) {key : ByteArray} (hks : key.size ≤ 281474976710656) : SC Tryz.prog W0 36 #[.pointer (some ⟨F.p, 0, none⟩), .int .u64 w, .string key] (HeapV.ent H F) (Ret (fun H2 : HeapV => HeapV.ent H2 F) (fun v H2 => v = .bool (delP (HeapV.pub H F) w key).2 ∧ PStp k H H2 F (delP (HeapV.pub H F) w key).1)) := by
 refine SC_body (fn := Tryz.f36) (n := 45) Tryz.func36 rfl (by kernel_rfl) (ρ := [(0, pt F.p 0), (1, .int .u64 w), (2, .string key)]) rfl ?_
 refine SW_sig ((HeapV.ent H F) ++ ([])) (by simp only [List.append_nil, List.append_assoc]) ?_
 refine sr ?_
 refine os 1 ?_
 refine nsr ?_
 refine os 3 ?_
 refine L (cl (prop_Own hL h w hks) ?_)
 rintro v1 _ hv1
 obtain rfl : v1 = .tuple #[.agg #[.int .u64 ((descG (ownQ (HeapV.pub H F) w key)).1), .int .u64 ((descG (ownQ (HeapV.pub H F) w key)).2.1), .int .i64 ((descG (ownQ (HeapV.pub H F) w key)).2.2)], .bool ((ownQ (HeapV.pub H F) w key).isSome)] := hv1.trans (descR_eq _)
 refine os 3 ?_
 refine L (nw 45 3 [.int .u64 0, .int .u64 0, .int .i64 0] ?_)
 intro b1
 refine L (st [.int .u64 ((descG (ownQ (HeapV.pub H F) w key)).1), .int .u64 ((descG (ownQ (HeapV.pub H F) w key)).2.1), .int .i64 ((descG (ownQ (HeapV.pub H F) w key)).2.2)] ?_)
 refine os 1 ?_
 refine kp [8, 7, 6, 0, 1, 2] ?_
 refine nq ?_
 refine SW_block ?_
 refine sr ?_
 refine os 3 ?_
 refine nt ?_
 refine cd (fun hc2 : (!((ownQ (HeapV.pub H F) w key).isSome)) = true => ?_) (fun hc2 => ?_)
 ·replace hc2 := bnot_t hc2
  refine sr ?_
  refine os 1 ?_
  refine nt ?_
  refine Qi (r_in (Qm ?_))
  refine Qg (.bool true) (fun _ => rfl) ?_
  exact ⟨H, ow, by rw [delP_none (by assumption)]; exact ⟨rfl, PStp.same h⟩⟩
 replace hc2 := bnot_f hc2
 refine sr ?_
 refine os 1 ?_
 refine L (ld ?_)
 refine oV (.int .i64 (band ((descG (ownQ (HeapV.pub H F) w key)).2.2) 4)) ?_
 refine os 2 ?_
 refine kp [21, 18, 8, 7, 6, 0, 1, 2] ?_
 refine nt ?_
 refine cd (fun hc3 : ((band ((descG (ownQ (HeapV.pub H F) w key)).2.2) 4) == 0) = true => ?_) (fun hc3 => ?_)
 ·refine sr ?_
  refine os 1 ?_
  refine nt ?_
  refine Qi (r_in (Qm ?_))
  refine Qg (.bool false) (fun _ => rfl) ?_
  exact ⟨H, ow, by rw [delP_no (by assumption) (by assumption)]; exact ⟨rfl, PStp.same h⟩⟩
 refine Ql (n_in (Qj ?_))
 refine sr ?_
 refine os 1 ?_
 refine L (cl (prop_Index hL hks) ?_)
 rintro _ _ rfl
 refine un ?_
 refine os 5 ?_
 refine kp [10, 9, 21, 18, 8, 7, 6, 0, 1, 2] ?_
 refine nq ?_
 refine sr ?_
 refine os 2 ?_
 refine tb 32 (fun hg4 => ?_) (fun hg4 => ?_)
 ·replace hg4 : ((idxV key).2) = true := hg4
  refine os 2 ?_
  refine L (cl (prop_array h w) ?_)
  rintro _ _ rfl
  refine os 1 ?_
  refine kp [36, 10, 9, 21, 18, 8, 7, 6, 0, 1, 2] ?_
  refine nt ?_
  refine cd (fun hc5 : ((arrP (HeapV.pub H F) w)) = true => ?_) (fun hc5 => ?_)
  ·refine sr ?_
   refine os 3 ?_
   refine L (cl (hq_SetElem hk h w ((idxV key).1) 18445336698825998340) ?_)
   rintro _ H2 ⟨rfl, hst⟩
   refine os 1 ?_
   refine kp [6, 36, 10, 9, 21, 18, 8, 7, 0, 1, 2] ?_
   refine nt ?_
   refine Qi (Qm ?_)
   refine Qg (.bool (setQ (HeapV.pub H F) w ((idxV key).1))) (fun _ => rfl) ?_
   exact ⟨H2, ow, by rw [delP_ix (by assumption) (by assumption) (by assumption) (by assumption)]; exact ⟨rfl, hst.p⟩⟩
  refine Ql (Qj ?_)
  refine sr ?_
  refine os 3 ?_
  refine L (cl (hq_Drop hk h w key) ?_)
  rintro _ H2 ⟨rfl, hst⟩
  refine os 1 ?_
  refine kp [6, 36, 10, 9, 21, 18, 8, 7, 0, 1, 2] ?_
  refine nt ?_
  refine Qi ?_
  refine Qg (.bool (hasQ (HeapV.pub H F) w key)) (fun _ => rfl) ?_
  exact ⟨H2, ow, by rw [delP_drop (by assumption) (by assumption) (by first | exact .inl (by assumption) | exact .inr (by assumption))]; exact ⟨rfl, hst.p⟩⟩
 replace hg4 : ((idxV key).2) = false := hg4
 refine os 4 ?_
 refine kp [36, 10, 9, 21, 18, 8, 7, 6, 0, 1, 2] ?_
 refine nt ?_
 refine cf ?_
 refine Ql (Qj ?_)
 refine sr ?_
 refine os 3 ?_
 refine L (cl (hq_Drop hk h w key) ?_)
 rintro _ H2 ⟨rfl, hst⟩
 refine os 1 ?_
 refine kp [6, 36, 10, 9, 21, 18, 8, 7, 0, 1, 2] ?_
 refine nt ?_
 refine Qi ?_
 refine Qg (.bool (hasQ (HeapV.pub H F) w key)) (fun _ => rfl) ?_
 exact ⟨H2, ow, by rw [delP_drop (by assumption) (by assumption) (by first | exact .inl (by assumption) | exact .inr (by assumption))]; exact ⟨rfl, hst.p⟩⟩

theorem prop_Assign {W0 : World} (hL : Laid W0) {k : Nat} {H : HeapV} {F : HeapF} (h : HInv k H F) (hk : k ≤ 8000000) (hfl : ∀ o ∈ HeapV.pub H F, ∀ d ∈ o.descs, normF d.2.2 = d.2.2) (w : Int) {key : ByteArray} (hks : key.size ≤ 281474976710656) (y : Int) : SC Tryz.prog W0 22 #[.pointer (some ⟨F.p, 0, none⟩), .int .u64 w, .string key, .int .u64 y] (HeapV.ent H F) (Ret (fun H2 : HeapV => HeapV.ent H2 F) (fun v H2 => v = .tuple #[.int .u64 (asgP (HeapV.pub H F) w key y).2.1, .int .i64 (asgP (HeapV.pub H F) w key y).2.2] ∧ PStp (k + 1) H H2 F (asgP (HeapV.pub H F) w key y).1)) := by
 refine SC_body (fn := Tryz.f22) (n := 60) Tryz.func22 rfl (by kernel_rfl) (ρ := [(0, pt F.p 0), (1, .int .u64 w), (2, .string key), (3, .int .u64 y)]) rfl ?_
 refine SW_sig ((HeapV.ent H F) ++ ([])) (by simp only [List.append_nil, List.append_assoc]) ?_
 refine sr ?_
 refine os 2 ?_
 refine nsr ?_
 refine os 3 ?_
 refine L (cl (prop_Lookup hL h w hks) ?_)
 rintro _ _ rfl
 refine os 4 ?_
 refine L (nw 45 3 [.int .u64 0, .int .u64 0, .int .i64 0] ?_)
 intro b1
 refine os 1 ?_
 refine kp [10, 11, 21, 20, 9, 8, 0, 1, 2, 3] ?_
 refine L (st [.int .u64 ((lookV (lookQ (HeapV.pub H F) w key)).2.1), .int .u64 ((lookV (lookQ (HeapV.pub H F) w key)).2.2.1), .int .i64 ((lookV (lookQ (HeapV.pub H F) w key)).2.2.2)] ?_)
 refine os 1 ?_
 refine nq ?_
 refine SW_block ?_
 refine sr ?_
 refine os 2 ?_
 refine tb 24 (fun hg2 => ?_) (fun hg2 => ?_)
 ·replace hg2 : ((lookQ (HeapV.pub H F) w key).isSome) = true := hg2
  refine os 1 ?_
  refine L (ld ?_)
  refine oV (.int .i64 (band ((lookV (lookQ (HeapV.pub H F) w key)).2.2.2) 8)) ?_
  refine os 3 ?_
  refine kp [22, 12, 10, 11, 9, 8, 0, 1, 2, 3] ?_
  refine nt ?_
  refine cd (fun hc3 : ((band ((lookV (lookQ (HeapV.pub H F) w key)).2.2.2) 8) != 0) = true => ?_) (fun hc3 => ?_)
  ·refine SW_seq ?_
   refine sr ?_
   refine os 1 ?_
   refine L (ld ?_)
   refine os 1 ?_
   refine nt ?_
   refine cd (fun hc4 : (((lookV (lookQ (HeapV.pub H F) w key)).2.2.1) == 18445336698825998336) = true => ?_) (fun hc4 => ?_)
   ·refine sr ?_
    refine os 2 ?_
    refine nt ?_
    refine Qi (Qm (r_in (Qm ?_)))
    refine Qg (.tuple #[.int .u64 18445336698825998336, .int .i64 1]) (fun _ => rfl) ?_
    exact ⟨H, ow, by rw [asgP_ref (by assumption) (by assumption) (by assumption)]; exact ⟨rfl, (PStp.same h).mono (Nat.le_succ _)⟩⟩
   refine Ql (Qj ?_)
   refine sr ?_
   refine os 1 ?_
   refine L (ld ?_)
   refine os 2 ?_
   refine kp [9, 8, 32, 22, 12, 10, 11, 0, 1, 2, 3] ?_
   refine nt ?_
   refine Qi (r_in (Qm ?_))
   refine Qg (.tuple #[.int .u64 ((lookV (lookQ (HeapV.pub H F) w key)).2.2.1), .int .i64 2]) (fun _ => rfl) ?_
   exact ⟨H, ow, by rw [asgP_call (by assumption) (by assumption) (by assumption)]; exact ⟨rfl, (PStp.same h).mono (Nat.le_succ _)⟩⟩
  refine sr ?_
  refine os 3 ?_
  refine L (ld ?_)
  refine oV (.int .i64 (band ((lookV (lookQ (HeapV.pub H F) w key)).2.2.2) 1)) ?_
  refine os 3 ?_
  refine kp [35, 22, 12, 10, 11, 9, 8, 0, 1, 2, 3] ?_
  refine nt ?_
  refine cd (fun hc5 : ((band ((lookV (lookQ (HeapV.pub H F) w key)).2.2.2) 1) == 0) = true => ?_) (fun hc5 => ?_)
  ·refine sr ?_
   refine os 2 ?_
   refine nt ?_
   refine Qi (r_in (Qm ?_))
   refine Qg (.tuple #[.int .u64 18445336698825998336, .int .i64 1]) (fun _ => rfl) ?_
   exact ⟨H, ow, by rw [asgP_ro (by assumption) (by assumption) (by assumption)]; exact ⟨rfl, (PStp.same h).mono (Nat.le_succ _)⟩⟩
  refine Ql (n_in (Qj ?_))
  refine sr ?_
  refine os 1 ?_
  refine oV (.agg #[.int .i64 1, .int .u64 y, .int .u64 0, .int .u64 0, .int .i64 0]) ?_
  refine L (nw 35 5 [.int .i64 0, .int .u64 0, .int .u64 0, .int .u64 0, .int .i64 0] ?_)
  intro b6
  refine L (st [.int .i64 1, .int .u64 y, .int .u64 0, .int .u64 0, .int .i64 0] ?_)
  refine nq ?_
  refine sr ?_
  refine os 1 ?_
  refine oV (.bool false) ?_
  refine os 5 ?_
  refine kp [51, 13, 35, 22, 12, 10, 11, 9, 8, 0, 1, 2, 3] ?_
  refine nt ?_
  refine cd (fun hc7 : (((lookV (lookQ (HeapV.pub H F) w key)).1) != w) = true => ?_) (fun hc7 => ?_)
  ·refine Qn ?_
   refine os 1 ?_
   refine oV (.agg #[.int .i64 15, .int .u64 y, .int .u64 0, .int .u64 0, .int .i64 7]) ?_
   refine L (st [.int .i64 15, .int .u64 y, .int .u64 0, .int .u64 0, .int .i64 7] ?_)
   refine nq ?_
   refine sr ?_
   refine os 3 ?_
   refine L (lds 5 ?_)
   have hW : asgW (HeapV.pub H F) w key y = ⟨15, y, 0, 0, 7⟩ := asgW_new (by first | exact .inl (by assumption) | exact .inr (by assumption))
   refine L (cl (prop_Define hL h hk hfl w hks ⟨15, y, 0, 0, 7⟩) ?_)
   rintro _ H2 ⟨rfl, hst⟩
   rw [← hW] at hst
   refine os 1 ?_
   refine kp [59, 51, 13, 35, 22, 12, 10, 11, 9, 8, 0, 1, 2, 3] ?_
   refine nt ?_
   refine cd (fun hc8 : (!((defP (HeapV.pub H F) w key ⟨15, y, 0, 0, 7⟩).2)) = true => ?_) (fun hc8 => ?_)
   ·replace hc8 := bnot_t hc8
    refine sr ?_
    refine os 2 ?_
    refine nt ?_
    refine Qi (Qm ?_)
    refine Qg (.tuple #[.int .u64 18445336698825998336, .int .i64 1]) (fun _ => rfl) ?_
    refine ⟨H2, ow, ?_⟩
    rw [asgP_def (by first | exact .inl (by assumption) | exact .inr ⟨by assumption, by assumption⟩)]
    exact ⟨by rw [hW, ite_ff (by assumption)], hst⟩
   replace hc8 := bnot_f hc8
   refine Ql (Qj ?_)
   refine sr ?_
   refine os 2 ?_
   refine nt ?_
   refine Qi ?_
   refine Qg (.tuple #[.int .u64 18445336698825998336, .int .i64 0]) (fun _ => rfl) ?_
   refine ⟨H2, ow, ?_⟩
   rw [asgP_def (by first | exact .inl (by assumption) | exact .inr ⟨by assumption, by assumption⟩)]
   exact ⟨by rw [hW, if_pos (by assumption)], hst⟩
  refine Ql (Qj ?_)
  refine SW_seq ?_
  refine sr ?_
  refine os 3 ?_
  refine L (lds 5 ?_)
  have hW : asgW (HeapV.pub H F) w key y = ⟨1, y, 0, 0, 0⟩ := asgW_own (by assumption) (by assumption)
  refine L (cl (prop_Define hL h hk hfl w hks ⟨1, y, 0, 0, 0⟩) ?_)
  rintro _ H2 ⟨rfl, hst⟩
  rw [← hW] at hst
  refine os 1 ?_
  refine kp [59, 51, 13, 35, 22, 12, 10, 11, 9, 8, 0, 1, 2, 3] ?_
  refine nt ?_
  refine cd (fun hc9 : (!((defP (HeapV.pub H F) w key ⟨1, y, 0, 0, 0⟩).2)) = true => ?_) (fun hc9 => ?_)
  ·replace hc9 := bnot_t hc9
   refine sr ?_
   refine os 2 ?_
   refine nt ?_
   refine Qi (Qm ?_)
   refine Qg (.tuple #[.int .u64 18445336698825998336, .int .i64 1]) (fun _ => rfl) ?_
   refine ⟨H2, ow, ?_⟩
   rw [asgP_def (by first | exact .inl (by assumption) | exact .inr ⟨by assumption, by assumption⟩)]
   exact ⟨by rw [hW, ite_ff (by assumption)], hst⟩
  replace hc9 := bnot_f hc9
  refine Ql (Qj ?_)
  refine sr ?_
  refine os 2 ?_
  refine nt ?_
  refine Qi ?_
  refine Qg (.tuple #[.int .u64 18445336698825998336, .int .i64 0]) (fun _ => rfl) ?_
  refine ⟨H2, ow, ?_⟩
  rw [asgP_def (by first | exact .inl (by assumption) | exact .inr ⟨by assumption, by assumption⟩)]
  exact ⟨by rw [hW, if_pos (by assumption)], hst⟩
 replace hg2 : ((lookQ (HeapV.pub H F) w key).isSome) = false := hg2
 refine os 6 ?_
 refine kp [22, 12, 10, 11, 9, 8, 0, 1, 2, 3] ?_
 refine nt ?_
 refine cf ?_
 refine sr ?_
 refine os 8 ?_
 refine kp [35, 22, 12, 10, 11, 9, 8, 0, 1, 2, 3] ?_
 refine nt ?_
 refine cf ?_
 refine Ql (n_in (Qj ?_))
 refine sr ?_
 refine os 1 ?_
 refine oV (.agg #[.int .i64 1, .int .u64 y, .int .u64 0, .int .u64 0, .int .i64 0]) ?_
 refine L (nw 35 5 [.int .i64 0, .int .u64 0, .int .u64 0, .int .u64 0, .int .i64 0] ?_)
 intro b10
 refine L (st [.int .i64 1, .int .u64 y, .int .u64 0, .int .u64 0, .int .i64 0] ?_)
 refine nq ?_
 refine sr ?_
 refine os 1 ?_
 refine oV (.bool true) ?_
 refine os 5 ?_
 refine kp [51, 13, 35, 22, 12, 10, 11, 9, 8, 0, 1, 2, 3] ?_
 refine nt ?_
 refine ct ?_
 refine Qn ?_
 refine os 1 ?_
 refine oV (.agg #[.int .i64 15, .int .u64 y, .int .u64 0, .int .u64 0, .int .i64 7]) ?_
 refine L (st [.int .i64 15, .int .u64 y, .int .u64 0, .int .u64 0, .int .i64 7] ?_)
 refine nq ?_
 refine sr ?_
 refine os 3 ?_
 refine L (lds 5 ?_)
 have hW : asgW (HeapV.pub H F) w key y = ⟨15, y, 0, 0, 7⟩ := asgW_new (by first | exact .inl (by assumption) | exact .inr (by assumption))
 refine L (cl (prop_Define hL h hk hfl w hks ⟨15, y, 0, 0, 7⟩) ?_)
 rintro _ H2 ⟨rfl, hst⟩
 rw [← hW] at hst
 refine os 1 ?_
 refine kp [59, 51, 13, 35, 22, 12, 10, 11, 9, 8, 0, 1, 2, 3] ?_
 refine nt ?_
 refine cd (fun hc11 : (!((defP (HeapV.pub H F) w key ⟨15, y, 0, 0, 7⟩).2)) = true => ?_) (fun hc11 => ?_)
 ·replace hc11 := bnot_t hc11
  refine sr ?_
  refine os 2 ?_
  refine nt ?_
  refine Qi (Qm ?_)
  refine Qg (.tuple #[.int .u64 18445336698825998336, .int .i64 1]) (fun _ => rfl) ?_
  refine ⟨H2, ow, ?_⟩
  rw [asgP_def (by first | exact .inl (by assumption) | exact .inr ⟨by assumption, by assumption⟩)]
  exact ⟨by rw [hW, ite_ff (by assumption)], hst⟩
 replace hc11 := bnot_f hc11
 refine Ql (Qj ?_)
 refine sr ?_
 refine os 2 ?_
 refine nt ?_
 refine Qi ?_
 refine Qg (.tuple #[.int .u64 18445336698825998336, .int .i64 0]) (fun _ => rfl) ?_
 refine ⟨H2, ow, ?_⟩
 rw [asgP_def (by first | exact .inl (by assumption) | exact .inr ⟨by assumption, by assumption⟩)]
 exact ⟨by rw [hW, if_pos (by assumption)], hst⟩

end Go.Proofs.YthflblophelioaaGreatDoor
namespace Go.Proofs.YthflblophelioaaGreatDoor
open Go.Sl

theorem prop_SetProto {W0 : World} {k : Nat} {H : HeapV} {F : HeapF} (h : HInv k H F) (hk : k ≤ 8000000) (w p : Int) (hE : Ends (HeapV.pub H F) p) (hP : ProtosIn (HeapV.pub H F)) : SC Tryz.prog W0 39 #[.pointer (some ⟨F.p, 0, none⟩), .int .u64 w, .int .u64 p] (HeapV.ent H F) (Ret (fun H2 : HeapV => HeapV.ent H2 F) (fun v H2 => v = .bool (spP (HeapV.pub H F) w p).2 ∧ PStp k H H2 F (spP (HeapV.pub H F) w p).1)) := by
 refine SC_body (fn := Tryz.f39) (n := 59) Tryz.func39 rfl (by kernel_rfl) (ρ := [(0, pt F.p 0), (1, .int .u64 w), (2, .int .u64 p)]) rfl ?_
 refine SW_sig ((HeapV.ent H F) ++ ([])) (by simp only [List.append_nil, List.append_assoc]) ?_
 refine sr ?_
 refine os 1 ?_
 refine nsr ?_
 refine os 2 ?_
 refine L (cl (hz_Kind h w) ?_)
 rintro _ _ rfl
 refine os 5 ?_
 refine kp [8, 6, 0, 1, 2] ?_
 refine nsr ?_
 refine os 2 ?_
 refine L (cl (hz_Kind h p) ?_)
 rintro _ _ rfl
 refine os 5 ?_
 refine kp [10, 8, 6, 0, 1, 2] ?_
 refine nq ?_
 refine SW_block ?_
 refine sr ?_
 refine os 3 ?_
 refine tb 27 (fun hg1 => ?_) (fun hg1 => ?_)
 ·replace hg1 : (!((kindQ (HeapV.pub H F) w).2)) = true := hg1
  replace hg1 := bnot_t hg1
  refine os 8 ?_
  refine kp [24, 10, 8, 6, 0, 1, 2] ?_
  refine nt ?_
  refine ct ?_
  refine sr ?_
  refine os 1 ?_
  refine nt ?_
  refine Qi (r_in (Qm ?_))
  refine Qg (.bool false) (fun _ => rfl) ?_
  first
  | (exact ⟨H, ow, by rw [spP_kind (by assumption)]; exact ⟨rfl, PStp.same h⟩⟩)
  | (exact ⟨H, ow, by rw [spP_up (by assumption) (by assumption)]; exact ⟨rfl, PStp.same h⟩⟩)
 replace hg1 : (!((kindQ (HeapV.pub H F) w).2)) = false := hg1
 replace hg1 := bnot_f hg1
 refine os 3 ?_
 refine tb 30 (fun hg2 => ?_) (fun hg2 => ?_)
 ·replace hg2 : (!((kindQ (HeapV.pub H F) p).2)) = true := hg2
  replace hg2 := bnot_t hg2
  refine os 5 ?_
  refine kp [24, 10, 8, 6, 0, 1, 2] ?_
  refine nt ?_
  refine cd (fun hc3 : (p != 18445336698825998337) = true => ?_) (fun hc3 => ?_)
  ·refine sr ?_
   refine os 1 ?_
   refine nt ?_
   refine Qi (r_in (Qm ?_))
   refine Qg (.bool false) (fun _ => rfl) ?_
   first
   | (exact ⟨H, ow, by rw [spP_kind (by assumption)]; exact ⟨rfl, PStp.same h⟩⟩)
   | (exact ⟨H, ow, by rw [spP_up (by assumption) (by assumption)]; exact ⟨rfl, PStp.same h⟩⟩)
  refine sr ?_
  refine os 2 ?_
  refine L (cl (hz_Proto h w) ?_)
  rintro _ _ rfl
  refine os 3 ?_
  refine kp [35, 24, 10, 8, 6, 0, 1, 2] ?_
  refine nt ?_
  refine cd (fun hc4 : ((protoW (HeapV.pub H F) w) == p) = true => ?_) (fun hc4 => ?_)
  ·simp only [beq_iff_eq, beq_eq_false_iff_ne, ne_eq, bne_iff_ne, bne_eq_false_iff_eq] at hc4
   refine sr ?_
   refine os 1 ?_
   refine nt ?_
   refine Qi (r_in (Qm ?_))
   refine Qg (.bool true) (fun _ => rfl) ?_
   exact ⟨H, ow, by rw [spP_ok (by assumption) (by first | exact .inl (by assumption) | exact .inr (by assumption)), if_pos (by assumption)]; exact ⟨rfl, PStp.same h⟩⟩
  simp only [beq_iff_eq, beq_eq_false_iff_ne, ne_eq, bne_iff_ne, bne_eq_false_iff_eq] at hc4
  refine sr ?_
  refine os 2 ?_
  refine L (cl (hz_Open h w) ?_)
  rintro _ _ rfl
  refine os 2 ?_
  refine kp [41, 35, 24, 10, 8, 6, 0, 1, 2] ?_
  refine nt ?_
  refine cd (fun hc5 : (!(openQ (HeapV.pub H F) w)) = true => ?_) (fun hc5 => ?_)
  ·replace hc5 := bnot_t hc5
   refine sr ?_
   refine os 1 ?_
   refine nt ?_
   refine Qi (r_in (Qm ?_))
   refine Qg (.bool false) (fun _ => rfl) ?_
   exact ⟨H, ow, by rw [spP_ok (by assumption) (by first | exact .inl (by assumption) | exact .inr (by assumption)), if_neg (by assumption), if_pos (by assumption)]; exact ⟨rfl, PStp.same h⟩⟩
  replace hc5 := bnot_f hc5
  refine Ql (n_in (Qj ?_))
  refine SW_seq ?_
  refine sr ?_
  refine os 2 ?_
  refine nt ?_
  refine SW_block ?_
  have hin : p = nullW ∨ objAt p (HeapV.pub H F).length ≠ none := by
    first
    | exact .inr (kindQ_some.1 (by assumption))
    | (left; have z_ : (p != nullW) = false := (by assumption); simpa using z_)
  have hob := kindQ_some.1 (show (kindQ (HeapV.pub H F) w).2 = true from by assumption)
  refine SW_loop (α := Nat) (fun z_ ρ_ σ_ => Fits ρ_ σ_ [(0, pt F.p 0), (1, .int .u64 w), (2, .int .u64 p), (6, .bool false), (11, .int .u64 (upN (HeapV.pub H F) p z_))] ((HeapV.ent H F) ++ ([])) ∧ z_ ≤ (HeapV.pub H F).length ∧ (∀ j, j < z_ → upN (HeapV.pub H F) p j ≠ w)) (fun z_ => (HeapV.pub H F).length - z_) 0 ⟨⟨fun _ => rfl, ow⟩, Nat.zero_le _, fun j hj => absurd hj (Nat.not_lt_zero j)⟩ ?_
  rintro i ρ_ σ_ ⟨hfit, hi0, hi1⟩
  refine SW_fits hfit ?_
  clear hfit
  refine SW_seq ?_
  refine sr ?_
  refine os 2 ?_
  refine nt ?_
  refine cd (fun hc6 : ((upN (HeapV.pub H F) p i) != 18445336698825998337) = true => ?_) (fun hc6 => ?_)
  ·simp only [beq_iff_eq, beq_eq_false_iff_ne, ne_eq, bne_iff_ne, bne_eq_false_iff_eq] at hc6
   refine Ql (Qj ?_)
   refine SW_seq ?_
   refine SW_block ?_
   refine sr ?_
   refine os 3 ?_
   refine kp [54, 48, 0, 1, 2, 6, 11] ?_
   refine nt ?_
   refine cd (fun hc7 : ((upN (HeapV.pub H F) p i) == w) = true => ?_) (fun hc7 => ?_)
   ·simp only [beq_iff_eq, beq_eq_false_iff_ne, ne_eq, bne_iff_ne, bne_eq_false_iff_eq] at hc7
    refine sr ?_
    refine os 1 ?_
    refine nt ?_
    refine Qi (r_in (Qm (Qm (r_in (Qm ?_)))))
    refine Qg (.bool false) (fun _ => rfl) ?_
    exact ⟨H, ow, by rw [spP_ok (by assumption) (by first | exact .inl (by assumption) | exact .inr (by assumption)), if_neg (show ¬ protoW (HeapV.pub H F) w = p from by assumption), if_neg (show ¬ openQ (HeapV.pub H F) w = false from by intro z_; have y_ : openQ (HeapV.pub H F) w = true := (by assumption); rw [z_] at y_; cases y_), if_pos (hit_yes (i := i) hi0 (by assumption))]; exact ⟨rfl, PStp.same h⟩⟩
   simp only [beq_iff_eq, beq_eq_false_iff_ne, ne_eq, bne_iff_ne, bne_eq_false_iff_eq] at hc7
   refine Ql (n_in (Qj ?_))
   refine Qn ?_
   refine os 2 ?_
   refine L (cl (hz_Proto h (upN (HeapV.pub H F) p i)) ?_)
   rintro _ _ rfl
   refine os 1 ?_
   refine kp [11, 54, 48, 0, 1, 2, 6] ?_
   refine nt ?_
   have hlt := up_lt hP hin hE (i := i) (by assumption) hi0
   exact ⟨i + 1, by omega, ⟨fun _ => rfl, ow⟩, hlt, fun j hj => by by_cases q_ : j = i; (subst q_; assumption); exact hi1 j (by omega)⟩
  simp only [beq_iff_eq, beq_eq_false_iff_ne, ne_eq, bne_iff_ne, bne_eq_false_iff_eq] at hc6
  refine SW_exit (x_then (x_then (x_in (Qj ?_))))
  refine sr ?_
  refine os 3 ?_
  refine L (cl (hq_SetProto hk h w p hE) ?_)
  rintro _ H2 ⟨rfl, hst⟩
  refine nsr ?_
  refine os 1 ?_
  refine kp [6, 48, 0, 1, 2, 11] ?_
  refine nt ?_
  refine Qi ?_
  refine Qg (.bool true) (fun _ => rfl) ?_
  exact ⟨H2, ow, by rw [spP_ok (by assumption) (by first | exact .inl (by assumption) | exact .inr (by assumption)), if_neg (show ¬ protoW (HeapV.pub H F) w = p from by assumption), if_neg (show ¬ openQ (HeapV.pub H F) w = false from by intro z_; have y_ : openQ (HeapV.pub H F) w = true := (by assumption); rw [z_] at y_; cases y_), if_neg (by rw [hit_no (i := i) hob hi1 (by assumption)]; simp)]; exact ⟨rfl, hst.p⟩⟩
 replace hg2 : (!((kindQ (HeapV.pub H F) p).2)) = false := hg2
 replace hg2 := bnot_f hg2
 refine os 5 ?_
 refine kp [24, 10, 8, 6, 0, 1, 2] ?_
 refine nt ?_
 refine cf ?_
 refine sr ?_
 refine os 2 ?_
 refine L (cl (hz_Proto h w) ?_)
 rintro _ _ rfl
 refine os 3 ?_
 refine kp [35, 24, 10, 8, 6, 0, 1, 2] ?_
 refine nt ?_
 refine cd (fun hc8 : ((protoW (HeapV.pub H F) w) == p) = true => ?_) (fun hc8 => ?_)
 ·simp only [beq_iff_eq, beq_eq_false_iff_ne, ne_eq, bne_iff_ne, bne_eq_false_iff_eq] at hc8
  refine sr ?_
  refine os 1 ?_
  refine nt ?_
  refine Qi (r_in (Qm ?_))
  refine Qg (.bool true) (fun _ => rfl) ?_
  exact ⟨H, ow, by rw [spP_ok (by assumption) (by first | exact .inl (by assumption) | exact .inr (by assumption)), if_pos (by assumption)]; exact ⟨rfl, PStp.same h⟩⟩
 simp only [beq_iff_eq, beq_eq_false_iff_ne, ne_eq, bne_iff_ne, bne_eq_false_iff_eq] at hc8
 refine sr ?_
 refine os 2 ?_
 refine L (cl (hz_Open h w) ?_)
 rintro _ _ rfl
 refine os 2 ?_
 refine kp [41, 35, 24, 10, 8, 6, 0, 1, 2] ?_
 refine nt ?_
 refine cd (fun hc9 : (!(openQ (HeapV.pub H F) w)) = true => ?_) (fun hc9 => ?_)
 ·replace hc9 := bnot_t hc9
  refine sr ?_
  refine os 1 ?_
  refine nt ?_
  refine Qi (r_in (Qm ?_))
  refine Qg (.bool false) (fun _ => rfl) ?_
  exact ⟨H, ow, by rw [spP_ok (by assumption) (by first | exact .inl (by assumption) | exact .inr (by assumption)), if_neg (by assumption), if_pos (by assumption)]; exact ⟨rfl, PStp.same h⟩⟩
 replace hc9 := bnot_f hc9
 refine Ql (n_in (Qj ?_))
 refine SW_seq ?_
 refine sr ?_
 refine os 2 ?_
 refine nt ?_
 refine SW_block ?_
 have hin : p = nullW ∨ objAt p (HeapV.pub H F).length ≠ none := by
   first
   | exact .inr (kindQ_some.1 (by assumption))
   | (left; have z_ : (p != nullW) = false := (by assumption); simpa using z_)
 have hob := kindQ_some.1 (show (kindQ (HeapV.pub H F) w).2 = true from by assumption)
 refine SW_loop (α := Nat) (fun z_ ρ_ σ_ => Fits ρ_ σ_ [(0, pt F.p 0), (1, .int .u64 w), (2, .int .u64 p), (6, .bool false), (11, .int .u64 (upN (HeapV.pub H F) p z_))] ((HeapV.ent H F) ++ ([])) ∧ z_ ≤ (HeapV.pub H F).length ∧ (∀ j, j < z_ → upN (HeapV.pub H F) p j ≠ w)) (fun z_ => (HeapV.pub H F).length - z_) 0 ⟨⟨fun _ => rfl, ow⟩, Nat.zero_le _, fun j hj => absurd hj (Nat.not_lt_zero j)⟩ ?_
 rintro i ρ_ σ_ ⟨hfit, hi0, hi1⟩
 refine SW_fits hfit ?_
 clear hfit
 refine SW_seq ?_
 refine sr ?_
 refine os 2 ?_
 refine nt ?_
 refine cd (fun hc10 : ((upN (HeapV.pub H F) p i) != 18445336698825998337) = true => ?_) (fun hc10 => ?_)
 ·simp only [beq_iff_eq, beq_eq_false_iff_ne, ne_eq, bne_iff_ne, bne_eq_false_iff_eq] at hc10
  refine Ql (Qj ?_)
  refine SW_seq ?_
  refine SW_block ?_
  refine sr ?_
  refine os 3 ?_
  refine kp [54, 48, 0, 1, 2, 6, 11] ?_
  refine nt ?_
  refine cd (fun hc11 : ((upN (HeapV.pub H F) p i) == w) = true => ?_) (fun hc11 => ?_)
  ·simp only [beq_iff_eq, beq_eq_false_iff_ne, ne_eq, bne_iff_ne, bne_eq_false_iff_eq] at hc11
   refine sr ?_
   refine os 1 ?_
   refine nt ?_
   refine Qi (r_in (Qm (Qm (r_in (Qm ?_)))))
   refine Qg (.bool false) (fun _ => rfl) ?_
   exact ⟨H, ow, by rw [spP_ok (by assumption) (by first | exact .inl (by assumption) | exact .inr (by assumption)), if_neg (show ¬ protoW (HeapV.pub H F) w = p from by assumption), if_neg (show ¬ openQ (HeapV.pub H F) w = false from by intro z_; have y_ : openQ (HeapV.pub H F) w = true := (by assumption); rw [z_] at y_; cases y_), if_pos (hit_yes (i := i) hi0 (by assumption))]; exact ⟨rfl, PStp.same h⟩⟩
  simp only [beq_iff_eq, beq_eq_false_iff_ne, ne_eq, bne_iff_ne, bne_eq_false_iff_eq] at hc11
  refine Ql (n_in (Qj ?_))
  refine Qn ?_
  refine os 2 ?_
  refine L (cl (hz_Proto h (upN (HeapV.pub H F) p i)) ?_)
  rintro _ _ rfl
  refine os 1 ?_
  refine kp [11, 54, 48, 0, 1, 2, 6] ?_
  refine nt ?_
  have hlt := up_lt hP hin hE (i := i) (by assumption) hi0
  exact ⟨i + 1, by omega, ⟨fun _ => rfl, ow⟩, hlt, fun j hj => by by_cases q_ : j = i; (subst q_; assumption); exact hi1 j (by omega)⟩
 simp only [beq_iff_eq, beq_eq_false_iff_ne, ne_eq, bne_iff_ne, bne_eq_false_iff_eq] at hc10
 refine SW_exit (x_then (x_then (x_in (Qj ?_))))
 refine sr ?_
 refine os 3 ?_
 refine L (cl (hq_SetProto hk h w p hE) ?_)
 rintro _ H2 ⟨rfl, hst⟩
 refine nsr ?_
 refine os 1 ?_
 refine kp [6, 48, 0, 1, 2, 11] ?_
 refine nt ?_
 refine Qi ?_
 refine Qg (.bool true) (fun _ => rfl) ?_
 exact ⟨H2, ow, by rw [spP_ok (by assumption) (by first | exact .inl (by assumption) | exact .inr (by assumption)), if_neg (show ¬ protoW (HeapV.pub H F) w = p from by assumption), if_neg (show ¬ openQ (HeapV.pub H F) w = false from by intro z_; have y_ : openQ (HeapV.pub H F) w = true := (by assumption); rw [z_] at y_; cases y_), if_neg (by rw [hit_no (i := i) hob hi1 (by assumption)]; simp)]; exact ⟨rfl, hst.p⟩⟩

end Go.Proofs.YthflblophelioaaGreatDoor
