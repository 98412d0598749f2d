/-
  What the functions of numbers as texts do, step by step: each theorem is one function's contract. Conditions: those that each theorem names.
-/
import Derived.Test.YtnhmmjogfkjceaaGreatDoorProg
import Derived.Test.YtnhmmjogfkjceaaGreatDoorM3
import Derived.Test.YtnhmmjogfkjceaaGreatDoorM2
set_option linter.unusedVariables false
set_option linter.unusedSimpArgs false
set_option maxRecDepth 100000
set_option maxHeartbeats 4000000
namespace Go.Proofs.YtnhmmjogfkjceaaGreatDoor
open Go.Sl

theorem lex_run_digit {W0 : World} {X : Bytes} {a m b : Nat} {g : Gs} {l : List Tok} (hk : Gs.ok 4 l.length g (l.flatMap Tok.cells)) (hX : X.length ≤ 1048576) (hm : m ≤ X.length) : SC Tryz.prog W0 52 #[pt b 0, .int .i64 (m : Int), .func (.func 55) #[] #[]] ((b, .cells 50 3 [.string (bS X), .int .i64 (a : Int), Gs.val g l.length]) :: (Gs.ent 46 4 g (l.flatMap Tok.cells))) (Ret (fun _ : Unit => (b, .cells 50 3 [.string (bS X), .int .i64 (a : Int), Gs.val g l.length]) :: (Gs.ent 46 4 g (l.flatMap Tok.cells))) (fun v _ => v = .int .i64 (runL isDig X m : Int))) := by
 refine SC_body (fn := Tryz.f52) (n := 27) Tryz.func52 rfl (by kernel_rfl) (ρ := [(0, pt b 0), (1, .int .i64 (m : Int)), (2, .func (.func 55) #[] #[])]) rfl ?_
 refine SW_sig ((b, .cells 50 3 [.string (bS X), .int .i64 (a : Int), Gs.val g l.length]) :: ((Gs.ent 46 4 g (l.flatMap Tok.cells)) ++ ([]))) (by simp only [List.append_nil, List.append_assoc]) ?_
 refine sr ?_
 refine os 1 ?_
 refine nq ?_
 refine SW_block ?_
 refine SW_loop (α := Nat) (fun z_ ρ_ σ_ => Fits ρ_ σ_ [(0, pt b 0), (1, .int .i64 (z_ : Int)), (2, .func (.func 55) #[] #[])] ((b, .cells 50 3 [.string (bS X), .int .i64 (a : Int), Gs.val g l.length]) :: ((Gs.ent 46 4 g (l.flatMap Tok.cells)) ++ ([]))) ∧ z_ ≤ X.length ∧ runL isDig X z_ = runL isDig X m) (fun z_ => X.length - z_) m ⟨⟨fun _ => rfl, ow⟩, hm, rfl⟩ ?_
 rintro n ρ_ σ_ ⟨hfit, hi0, hi1⟩
 refine SW_fits hfit ?_
 clear hfit
 refine SW_seq ?_
 refine sr ?_
 refine os 4 ?_
 refine L (ld ?_)
 refine oX (.int .i64 ((bS X).size : Int)) (.int .i64 (X.length : Int)) (congrArg (fun n_ : Nat => Value.int .i64 (n_ : Int)) (bS_size _)) ?_
 refine os 2 ?_
 refine kp [14, 0, 1, 2] ?_
 refine tbp 14 (fun hg1 => ?_) (fun hg1 => ?_)
 ·replace hg1 : (n : Int) < (X.length : Int) := hg1
  refine os 4 ?_
  refine L (ld ?_)
  refine os 1 ?_
  obtain ⟨e1, he1⟩ : ∃ y_, X[n]? = some y_ := ⟨_, List.getElem?_eq_getElem (by omega)⟩
  refine ixb (n : Int) X .i64 e1 Tryz.underlying9 he1 ?_
  refine L (cl (lex_digit (c := e1)) ?_)
  rintro _ _ rfl
  refine un ?_
  refine os 1 ?_
  refine kp [23, 0, 1, 2] ?_
  refine nt ?_
  refine cd (fun hc2 : (isDig e1) = true => ?_) (fun hc2 => ?_)
  ·replace hc2 : isDig e1 = true := by simpa using hc2
   refine SW_skip (n_then ?_)
   refine SW_block ?_
   refine SW_region ?_
   refine os 3 ?_
   refine SL_nil (n_in (n_then ?_))
   exact ⟨n + 1, by omega, ⟨fun _ => rfl, ow⟩, by omega, (runL_step he1 hc2).symm.trans hi1⟩
  replace hc2 : isDig e1 = false := by simpa using hc2
  refine SW_exit (x_then (x_then (x_in (n_then ?_))))
  refine sr ?_
  refine os 2 ?_
  refine nt ?_
  refine SW_ret ?_
  refine body_end (.int .i64 (n : Int)) (fun _ => rfl) ?_
  exact ⟨(), ow, by rw [← hi1, runL_stop he1 hc2]⟩
 replace hg1 : ¬ ((n : Int) < (X.length : Int)) := hg1
 refine os 9 ?_
 refine kp [23, 0, 1, 2] ?_
 refine nt ?_
 refine cf ?_
 refine SW_exit (x_then (x_then (x_in (n_then ?_))))
 refine sr ?_
 refine os 2 ?_
 refine nt ?_
 refine SW_ret ?_
 refine body_end (.int .i64 (n : Int)) (fun _ => rfl) ?_
 exact ⟨(), ow, by rw [← hi1, runL_end (by omega)]⟩

theorem lex_run_digitZ {W0 : World} {X : Bytes} {a m b : Nat} {z : Int} {g : Gs} {l : List Tok} (hz : z = (m : Int)) (hk : Gs.ok 4 l.length g (l.flatMap Tok.cells)) (hX : X.length ≤ 1048576) (hm : m ≤ X.length) : SC Tryz.prog W0 52 #[pt b 0, .int .i64 z, .func (.func 55) #[] #[]] ((b, .cells 50 3 [.string (bS X), .int .i64 (a : Int), Gs.val g l.length]) :: (Gs.ent 46 4 g (l.flatMap Tok.cells))) (Ret (fun _ : Unit => (b, .cells 50 3 [.string (bS X), .int .i64 (a : Int), Gs.val g l.length]) :: (Gs.ent 46 4 g (l.flatMap Tok.cells))) (fun v _ => v = .int .i64 (runL isDig X m : Int))) := by
 subst hz; exact lex_run_digit hk hX hm

theorem lex_run_small {W0 : World} {X : Bytes} {a m b : Nat} {g : Gs} {l : List Tok} (hk : Gs.ok 4 l.length g (l.flatMap Tok.cells)) (hX : X.length ≤ 1048576) (hm : m ≤ X.length) : SC Tryz.prog W0 52 #[pt b 0, .int .i64 (m : Int), .func (.func 57) #[] #[]] ((b, .cells 50 3 [.string (bS X), .int .i64 (a : Int), Gs.val g l.length]) :: (Gs.ent 46 4 g (l.flatMap Tok.cells))) (Ret (fun _ : Unit => (b, .cells 50 3 [.string (bS X), .int .i64 (a : Int), Gs.val g l.length]) :: (Gs.ent 46 4 g (l.flatMap Tok.cells))) (fun v _ => v = .int .i64 (runL isSm X m : Int))) := by
 refine SC_body (fn := Tryz.f52) (n := 27) Tryz.func52 rfl (by kernel_rfl) (ρ := [(0, pt b 0), (1, .int .i64 (m : Int)), (2, .func (.func 57) #[] #[])]) rfl ?_
 refine SW_sig ((b, .cells 50 3 [.string (bS X), .int .i64 (a : Int), Gs.val g l.length]) :: ((Gs.ent 46 4 g (l.flatMap Tok.cells)) ++ ([]))) (by simp only [List.append_nil, List.append_assoc]) ?_
 refine sr ?_
 refine os 1 ?_
 refine nq ?_
 refine SW_block ?_
 refine SW_loop (α := Nat) (fun z_ ρ_ σ_ => Fits ρ_ σ_ [(0, pt b 0), (1, .int .i64 (z_ : Int)), (2, .func (.func 57) #[] #[])] ((b, .cells 50 3 [.string (bS X), .int .i64 (a : Int), Gs.val g l.length]) :: ((Gs.ent 46 4 g (l.flatMap Tok.cells)) ++ ([]))) ∧ z_ ≤ X.length ∧ runL isSm X z_ = runL isSm X m) (fun z_ => X.length - z_) m ⟨⟨fun _ => rfl, ow⟩, hm, rfl⟩ ?_
 rintro n ρ_ σ_ ⟨hfit, hi0, hi1⟩
 refine SW_fits hfit ?_
 clear hfit
 refine SW_seq ?_
 refine sr ?_
 refine os 4 ?_
 refine L (ld ?_)
 refine oX (.int .i64 ((bS X).size : Int)) (.int .i64 (X.length : Int)) (congrArg (fun n_ : Nat => Value.int .i64 (n_ : Int)) (bS_size _)) ?_
 refine os 2 ?_
 refine kp [14, 0, 1, 2] ?_
 refine tbp 14 (fun hg1 => ?_) (fun hg1 => ?_)
 ·replace hg1 : (n : Int) < (X.length : Int) := hg1
  refine os 4 ?_
  refine L (ld ?_)
  refine os 1 ?_
  obtain ⟨e1, he1⟩ : ∃ y_, X[n]? = some y_ := ⟨_, List.getElem?_eq_getElem (by omega)⟩
  refine ixb (n : Int) X .i64 e1 Tryz.underlying9 he1 ?_
  refine L (cl (lex_small (c := e1)) ?_)
  rintro _ _ rfl
  refine un ?_
  refine os 1 ?_
  refine kp [23, 0, 1, 2] ?_
  refine nt ?_
  refine cd (fun hc2 : (isSm e1) = true => ?_) (fun hc2 => ?_)
  ·replace hc2 : isSm e1 = true := by simpa using hc2
   refine SW_skip (n_then ?_)
   refine SW_block ?_
   refine SW_region ?_
   refine os 3 ?_
   refine SL_nil (n_in (n_then ?_))
   exact ⟨n + 1, by omega, ⟨fun _ => rfl, ow⟩, by omega, (runL_step he1 hc2).symm.trans hi1⟩
  replace hc2 : isSm e1 = false := by simpa using hc2
  refine SW_exit (x_then (x_then (x_in (n_then ?_))))
  refine sr ?_
  refine os 2 ?_
  refine nt ?_
  refine SW_ret ?_
  refine body_end (.int .i64 (n : Int)) (fun _ => rfl) ?_
  exact ⟨(), ow, by rw [← hi1, runL_stop he1 hc2]⟩
 replace hg1 : ¬ ((n : Int) < (X.length : Int)) := hg1
 refine os 9 ?_
 refine kp [23, 0, 1, 2] ?_
 refine nt ?_
 refine cf ?_
 refine SW_exit (x_then (x_then (x_in (n_then ?_))))
 refine sr ?_
 refine os 2 ?_
 refine nt ?_
 refine SW_ret ?_
 refine body_end (.int .i64 (n : Int)) (fun _ => rfl) ?_
 exact ⟨(), ow, by rw [← hi1, runL_end (by omega)]⟩

theorem lex_run_smallZ {W0 : World} {X : Bytes} {a m b : Nat} {z : Int} {g : Gs} {l : List Tok} (hz : z = (m : Int)) (hk : Gs.ok 4 l.length g (l.flatMap Tok.cells)) (hX : X.length ≤ 1048576) (hm : m ≤ X.length) : SC Tryz.prog W0 52 #[pt b 0, .int .i64 z, .func (.func 57) #[] #[]] ((b, .cells 50 3 [.string (bS X), .int .i64 (a : Int), Gs.val g l.length]) :: (Gs.ent 46 4 g (l.flatMap Tok.cells))) (Ret (fun _ : Unit => (b, .cells 50 3 [.string (bS X), .int .i64 (a : Int), Gs.val g l.length]) :: (Gs.ent 46 4 g (l.flatMap Tok.cells))) (fun v _ => v = .int .i64 (runL isSm X m : Int))) := by
 subst hz; exact lex_run_small hk hX hm

theorem lex_run_base {W0 : World} {X : Bytes} {a m b : Nat} {g : Gs} {l : List Tok} (hk : Gs.ok 4 l.length g (l.flatMap Tok.cells)) (hX : X.length ≤ 1048576) (hm : m ≤ X.length) : SC Tryz.prog W0 52 #[pt b 0, .int .i64 (m : Int), .func (.func 112) #[] #[]] ((b, .cells 50 3 [.string (bS X), .int .i64 (a : Int), Gs.val g l.length]) :: (Gs.ent 46 4 g (l.flatMap Tok.cells))) (Ret (fun _ : Unit => (b, .cells 50 3 [.string (bS X), .int .i64 (a : Int), Gs.val g l.length]) :: (Gs.ent 46 4 g (l.flatMap Tok.cells))) (fun v _ => v = .int .i64 (runL isHx X m : Int))) := by
 refine SC_body (fn := Tryz.f52) (n := 27) Tryz.func52 rfl (by kernel_rfl) (ρ := [(0, pt b 0), (1, .int .i64 (m : Int)), (2, .func (.func 112) #[] #[])]) rfl ?_
 refine SW_sig ((b, .cells 50 3 [.string (bS X), .int .i64 (a : Int), Gs.val g l.length]) :: ((Gs.ent 46 4 g (l.flatMap Tok.cells)) ++ ([]))) (by simp only [List.append_nil, List.append_assoc]) ?_
 refine sr ?_
 refine os 1 ?_
 refine nq ?_
 refine SW_block ?_
 refine SW_loop (α := Nat) (fun z_ ρ_ σ_ => Fits ρ_ σ_ [(0, pt b 0), (1, .int .i64 (z_ : Int)), (2, .func (.func 112) #[] #[])] ((b, .cells 50 3 [.string (bS X), .int .i64 (a : Int), Gs.val g l.length]) :: ((Gs.ent 46 4 g (l.flatMap Tok.cells)) ++ ([]))) ∧ z_ ≤ X.length ∧ runL isHx X z_ = runL isHx X m) (fun z_ => X.length - z_) m ⟨⟨fun _ => rfl, ow⟩, hm, rfl⟩ ?_
 rintro n ρ_ σ_ ⟨hfit, hi0, hi1⟩
 refine SW_fits hfit ?_
 clear hfit
 refine SW_seq ?_
 refine sr ?_
 refine os 4 ?_
 refine L (ld ?_)
 refine oX (.int .i64 ((bS X).size : Int)) (.int .i64 (X.length : Int)) (congrArg (fun n_ : Nat => Value.int .i64 (n_ : Int)) (bS_size _)) ?_
 refine os 2 ?_
 refine kp [14, 0, 1, 2] ?_
 refine tbp 14 (fun hg1 => ?_) (fun hg1 => ?_)
 ·replace hg1 : (n : Int) < (X.length : Int) := hg1
  refine os 4 ?_
  refine L (ld ?_)
  refine os 1 ?_
  obtain ⟨e1, he1⟩ : ∃ y_, X[n]? = some y_ := ⟨_, List.getElem?_eq_getElem (by omega)⟩
  refine ixb (n : Int) X .i64 e1 Tryz.underlying9 he1 ?_
  refine L (cl (lex_base (c := e1)) ?_)
  rintro _ _ rfl
  refine un ?_
  refine os 1 ?_
  refine kp [23, 0, 1, 2] ?_
  refine nt ?_
  refine cd (fun hc2 : (isHx e1) = true => ?_) (fun hc2 => ?_)
  ·replace hc2 : isHx e1 = true := by simpa using hc2
   refine SW_skip (n_then ?_)
   refine SW_block ?_
   refine SW_region ?_
   refine os 3 ?_
   refine SL_nil (n_in (n_then ?_))
   exact ⟨n + 1, by omega, ⟨fun _ => rfl, ow⟩, by omega, (runL_step he1 hc2).symm.trans hi1⟩
  replace hc2 : isHx e1 = false := by simpa using hc2
  refine SW_exit (x_then (x_then (x_in (n_then ?_))))
  refine sr ?_
  refine os 2 ?_
  refine nt ?_
  refine SW_ret ?_
  refine body_end (.int .i64 (n : Int)) (fun _ => rfl) ?_
  exact ⟨(), ow, by rw [← hi1, runL_stop he1 hc2]⟩
 replace hg1 : ¬ ((n : Int) < (X.length : Int)) := hg1
 refine os 9 ?_
 refine kp [23, 0, 1, 2] ?_
 refine nt ?_
 refine cf ?_
 refine SW_exit (x_then (x_then (x_in (n_then ?_))))
 refine sr ?_
 refine os 2 ?_
 refine nt ?_
 refine SW_ret ?_
 refine body_end (.int .i64 (n : Int)) (fun _ => rfl) ?_
 exact ⟨(), ow, by rw [← hi1, runL_end (by omega)]⟩

theorem lex_run_baseZ {W0 : World} {X : Bytes} {a m b : Nat} {z : Int} {g : Gs} {l : List Tok} (hz : z = (m : Int)) (hk : Gs.ok 4 l.length g (l.flatMap Tok.cells)) (hX : X.length ≤ 1048576) (hm : m ≤ X.length) : SC Tryz.prog W0 52 #[pt b 0, .int .i64 z, .func (.func 112) #[] #[]] ((b, .cells 50 3 [.string (bS X), .int .i64 (a : Int), Gs.val g l.length]) :: (Gs.ent 46 4 g (l.flatMap Tok.cells))) (Ret (fun _ : Unit => (b, .cells 50 3 [.string (bS X), .int .i64 (a : Int), Gs.val g l.length]) :: (Gs.ent 46 4 g (l.flatMap Tok.cells))) (fun v _ => v = .int .i64 (runL isHx X m : Int))) := by
 subst hz; exact lex_run_base hk hX hm

theorem lex_run_nl {W0 : World} {X : Bytes} {a m b : Nat} {g : Gs} {l : List Tok} (hk : Gs.ok 4 l.length g (l.flatMap Tok.cells)) (hX : X.length ≤ 1048576) (hm : m ≤ X.length) : SC Tryz.prog W0 52 #[pt b 0, .int .i64 (m : Int), .func (.func 53) #[] #[]] ((b, .cells 50 3 [.string (bS X), .int .i64 (a : Int), Gs.val g l.length]) :: (Gs.ent 46 4 g (l.flatMap Tok.cells))) (Ret (fun _ : Unit => (b, .cells 50 3 [.string (bS X), .int .i64 (a : Int), Gs.val g l.length]) :: (Gs.ent 46 4 g (l.flatMap Tok.cells))) (fun v _ => v = .int .i64 (runL notNl X m : Int))) := by
 refine SC_body (fn := Tryz.f52) (n := 27) Tryz.func52 rfl (by kernel_rfl) (ρ := [(0, pt b 0), (1, .int .i64 (m : Int)), (2, .func (.func 53) #[] #[])]) rfl ?_
 refine SW_sig ((b, .cells 50 3 [.string (bS X), .int .i64 (a : Int), Gs.val g l.length]) :: ((Gs.ent 46 4 g (l.flatMap Tok.cells)) ++ ([]))) (by simp only [List.append_nil, List.append_assoc]) ?_
 refine sr ?_
 refine os 1 ?_
 refine nq ?_
 refine SW_block ?_
 refine SW_loop (α := Nat) (fun z_ ρ_ σ_ => Fits ρ_ σ_ [(0, pt b 0), (1, .int .i64 (z_ : Int)), (2, .func (.func 53) #[] #[])] ((b, .cells 50 3 [.string (bS X), .int .i64 (a : Int), Gs.val g l.length]) :: ((Gs.ent 46 4 g (l.flatMap Tok.cells)) ++ ([]))) ∧ z_ ≤ X.length ∧ runL notNl X z_ = runL notNl X m) (fun z_ => X.length - z_) m ⟨⟨fun _ => rfl, ow⟩, hm, rfl⟩ ?_
 rintro n ρ_ σ_ ⟨hfit, hi0, hi1⟩
 refine SW_fits hfit ?_
 clear hfit
 refine SW_seq ?_
 refine sr ?_
 refine os 4 ?_
 refine L (ld ?_)
 refine oX (.int .i64 ((bS X).size : Int)) (.int .i64 (X.length : Int)) (congrArg (fun n_ : Nat => Value.int .i64 (n_ : Int)) (bS_size _)) ?_
 refine os 2 ?_
 refine kp [14, 0, 1, 2] ?_
 refine tbp 14 (fun hg1 => ?_) (fun hg1 => ?_)
 ·replace hg1 : (n : Int) < (X.length : Int) := hg1
  refine os 4 ?_
  refine L (ld ?_)
  refine os 1 ?_
  obtain ⟨e1, he1⟩ : ∃ y_, X[n]? = some y_ := ⟨_, List.getElem?_eq_getElem (by omega)⟩
  refine ixb (n : Int) X .i64 e1 Tryz.underlying9 he1 ?_
  refine L (cl (lex_notNl (c := e1)) ?_)
  rintro _ _ rfl
  refine un ?_
  refine os 1 ?_
  refine kp [23, 0, 1, 2] ?_
  refine nt ?_
  refine cd (fun hc2 : (notNl e1) = true => ?_) (fun hc2 => ?_)
  ·replace hc2 : notNl e1 = true := by simpa using hc2
   refine SW_skip (n_then ?_)
   refine SW_block ?_
   refine SW_region ?_
   refine os 3 ?_
   refine SL_nil (n_in (n_then ?_))
   exact ⟨n + 1, by omega, ⟨fun _ => rfl, ow⟩, by omega, (runL_step he1 hc2).symm.trans hi1⟩
  replace hc2 : notNl e1 = false := by simpa using hc2
  refine SW_exit (x_then (x_then (x_in (n_then ?_))))
  refine sr ?_
  refine os 2 ?_
  refine nt ?_
  refine SW_ret ?_
  refine body_end (.int .i64 (n : Int)) (fun _ => rfl) ?_
  exact ⟨(), ow, by rw [← hi1, runL_stop he1 hc2]⟩
 replace hg1 : ¬ ((n : Int) < (X.length : Int)) := hg1
 refine os 9 ?_
 refine kp [23, 0, 1, 2] ?_
 refine nt ?_
 refine cf ?_
 refine SW_exit (x_then (x_then (x_in (n_then ?_))))
 refine sr ?_
 refine os 2 ?_
 refine nt ?_
 refine SW_ret ?_
 refine body_end (.int .i64 (n : Int)) (fun _ => rfl) ?_
 exact ⟨(), ow, by rw [← hi1, runL_end (by omega)]⟩

theorem lex_run_nlZ {W0 : World} {X : Bytes} {a m b : Nat} {z : Int} {g : Gs} {l : List Tok} (hz : z = (m : Int)) (hk : Gs.ok 4 l.length g (l.flatMap Tok.cells)) (hX : X.length ≤ 1048576) (hm : m ≤ X.length) : SC Tryz.prog W0 52 #[pt b 0, .int .i64 z, .func (.func 53) #[] #[]] ((b, .cells 50 3 [.string (bS X), .int .i64 (a : Int), Gs.val g l.length]) :: (Gs.ent 46 4 g (l.flatMap Tok.cells))) (Ret (fun _ : Unit => (b, .cells 50 3 [.string (bS X), .int .i64 (a : Int), Gs.val g l.length]) :: (Gs.ent 46 4 g (l.flatMap Tok.cells))) (fun v _ => v = .int .i64 (runL notNl X m : Int))) := by
 subst hz; exact lex_run_nl hk hX hm

theorem lex_put {W0 : World} {X T : Bytes} {a b num too : Nat} {kind : Int} {g : Gs} {l : List Tok} (hk : Gs.ok 4 l.length g (l.flatMap Tok.cells)) (hl : l.length ≤ 2097152) : SC Tryz.prog W0 28 #[pt b 0, .int .i64 kind, .string (bS T), .int .u64 (num : Int), .int .i64 (too : Int)] ((b, .cells 50 3 [.string (bS X), .int .i64 (a : Int), Gs.val g l.length]) :: (Gs.ent 46 4 g (l.flatMap Tok.cells))) (Ret (fun q : Gs => (b, .cells 50 3 [.string (bS X), .int .i64 (too : Int), Gs.val q (l ++ [(⟨kind, a, T, num⟩ : Tok)]).length]) :: (Gs.ent 46 4 q ((l ++ [(⟨kind, a, T, num⟩ : Tok)]).flatMap Tok.cells))) (fun v q => v = .tuple #[] ∧ Gs.ok 4 (l ++ [(⟨kind, a, T, num⟩ : Tok)]).length q ((l ++ [(⟨kind, a, T, num⟩ : Tok)]).flatMap Tok.cells))) := by
 refine SC_body (fn := Tryz.f28) (n := 31) Tryz.func28 rfl (by kernel_rfl) (ρ := [(0, pt b 0), (1, .int .i64 kind), (2, .string (bS T)), (3, .int .u64 (num : Int)), (4, .int .i64 (too : Int))]) rfl ?_
 refine SW_sig ((b, .cells 50 3 [.string (bS X), .int .i64 (a : Int), Gs.val g l.length]) :: ((Gs.ent 46 4 g (l.flatMap Tok.cells)) ++ ([]))) (by simp only [List.append_nil, List.append_assoc]) ?_
 refine SW_seq ?_
 refine SW_draw [(b, 2, Gs.val g l.length), (b, 1, .int .i64 (a : Int))] [0, 1, 2, 3, 4, 5, 6, 7, 8, 9, 10, 11, 12, 13] (by kernel_rfl) (rd_cons (Cell.own mem_z rfl) (rd_cons (Cell.own mem_z rfl) rd_nil)) ?_
 refine aS 0 ?_
 refine aS 1 ?_
 refine aS 2 ?_
 refine aF 3 ?_
 refine aL 4 ?_
 refine aS 5 ?_
 refine aS 6 ?_
 refine aS 7 ?_
 refine aF 8 ?_
 refine aL 9 ?_
 refine aS 10 ?_
 refine aS 11 ?_
 refine tk 12 (.agg #[.int .i64 kind, .int .i64 (a : Int), .string (bS T), .int .u64 (num : Int)]) ?_
 refine kpA [22, 14, 10, 0, 1, 2, 3, 4] ?_
 refine sa1 true 13 (h := nws 46 4 1 [.int .i64 kind, .int .i64 (a : Int), .string (bS T), .int .u64 (num : Int)] ?_)
 intro b1
 refine ⟨fun hnd => (rd_cons (Cell.own (mem_c mem_z) rfl) (rd_cons (Cell.own (mem_c mem_z) rfl) rd_nil)), ?_⟩
 refine SA_perm _ (perm_cc (perm_cc perm_cz)) ?_
 refine sa1 false 14 (h := O_append (size := 4) (bytes := 40) (z := .agg #[.int .i64 0, .int .i64 0, .string (bS []), .int .u64 0]) g l.length 1 (some ⟨b1, 0, none⟩) 1 (l.flatMap Tok.cells) ([.int .i64 kind, .int .i64 (a : Int), .string (bS T), .int .u64 (num : Int)]) ((l ++ [(⟨kind, a, T, num⟩ : Tok)]).flatMap Tok.cells) (flat_snoc _ (⟨kind, a, T, num⟩ : Tok) rfl) (fun _ => rfl) (fun _ => rfl) Tryz.underlying23 (by kernel_rfl) rfl (by decide) hk rfl (.inr ⟨b1, 0, rfl, Cells.own (mem_a mem_z) rfl⟩) rfl (by omega) (by decide) rfl ?_)
 intro s2 hks2 hfs2
 rw [show l.length + 1 = (l ++ [(⟨kind, a, T, num⟩ : Tok)]).length from by first | (simp; done) | (simp; omega)]
 rw [show l.length + 1 = (l ++ [(⟨kind, a, T, num⟩ : Tok)]).length from by first | (simp; done) | (simp; omega)] at hks2
 have hls2 : (l ++ [(⟨kind, a, T, num⟩ : Tok)]).length = l.length + 1 := by first | (simp; done) | (simp; omega)
 refine ⟨fun hnd => (by cases hnd), ?_⟩
 refine aS 15 ?_
 refine aF 16 ?_
 refine sa1 false 17 (h := st [.string (bS X), .int .i64 (a : Int), Gs.val s2 ((l ++ [(⟨kind, a, T, num⟩ : Tok)]).length)] ?_)
 refine ⟨fun hnd => (by cases hnd), ?_⟩
 refine SA_done (by kernel_rfl) (n_then ?_)
 refine SW_region ?_
 refine os 4 ?_
 refine kp [30, 28, 0, 1, 2, 3, 4] ?_
 refine L (st [.string (bS X), .int .i64 (too : Int), Gs.val s2 ((l ++ [(⟨kind, a, T, num⟩ : Tok)]).length)] ?_)
 refine SL_nil ?_
 refine body_end' (.tuple #[]) (fun _ => rfl) ?_
 exact ⟨s2, ow, rfl, hks2⟩

theorem lex_blanks {W0 : World} (hL : LaidL W0) {X : Bytes} {a b : Nat} {g : Gs} {l : List Tok} (hk : Gs.ok 4 l.length g (l.flatMap Tok.cells)) (hX : X.length ≤ 1048576) (ha : a ≤ X.length) : SC Tryz.prog W0 26 #[pt b 0] ((b, .cells 50 3 [.string (bS X), .int .i64 (a : Int), Gs.val g l.length]) :: (Gs.ent 46 4 g (l.flatMap Tok.cells))) (Ret (fun _ : Unit => (b, .cells 50 3 [.string (bS X), .int .i64 ((blP X a).1 : Int), Gs.val g l.length]) :: (Gs.ent 46 4 g (l.flatMap Tok.cells))) (fun v _ => v = .int .i64 (if (blP X a).2 = true then 0 else 52))) := by
 refine SC_body (fn := Tryz.f26) (n := 82) Tryz.func26 rfl (by kernel_rfl) (ρ := [(0, pt b 0)]) rfl ?_
 refine SW_sig ((b, .cells 50 3 [.string (bS X), .int .i64 (a : Int), Gs.val g l.length]) :: ((Gs.ent 46 4 g (l.flatMap Tok.cells)) ++ ([]))) (by simp only [List.append_nil, List.append_assoc]) ?_
 refine sr ?_
 refine os 1 ?_
 refine nq ?_
 refine SW_block ?_
 refine SW_loop (α := Nat × Nat) (fun z_ ρ_ σ_ => Fits ρ_ σ_ [(0, pt b 0)] ((b, .cells 50 3 [.string (bS X), .int .i64 (z_.2 : Int), Gs.val g l.length]) :: ((Gs.ent 46 4 g (l.flatMap Tok.cells)) ++ ([]))) ∧ z_.2 ≤ X.length ∧ X.length - z_.2 < z_.1 ∧ blE z_.1 X z_.2 = blP X a) (fun z_ => X.length - z_.2) ((X.length + 1), a) ⟨⟨fun _ => rfl, ow⟩, ha, (show X.length - a < X.length + 1 by omega), rfl⟩ ?_
 rintro ⟨f, n⟩ ρ_ σ_ ⟨hfit, hi0, hi1, hi2⟩
 refine SW_fits hfit ?_
 clear hfit
 simp only [] at hi0 hi1 hi2 ⊢
 obtain ⟨f, rfl⟩ : ∃ q_, f = q_ + 1 := ⟨f - 1, by omega⟩
 refine SW_seq ?_
 refine SW_seq ?_
 refine SW_draw [(b, 1, .int .i64 (n : Int)), (b, 0, .string (bS X))] [0, 1, 2, 3, 4, 5, 6, 7, 8] (by kernel_rfl) (rd_cons (Cell.own mem_z rfl) (rd_cons (Cell.own mem_z rfl) rd_nil)) ?_
 refine aS 0 ?_
 refine aS 1 ?_
 refine aF 2 ?_
 refine aL 3 ?_
 refine aS 4 ?_
 refine aS 5 ?_
 refine aF 6 ?_
 refine aL 7 ?_
 refine tk 8 (.int .i64 ((bS X).size : Int)) ?_
 rw [bS_size]
 refine aS 9 ?_
 refine kpA [14, 0] ?_
 refine SA_done (by kernel_rfl) (n_then ?_)
 refine cdp (fun hc1 : (n : Int) < (X.length : Int) => ?_) (fun hc1 => ?_)
 ·refine SW_skip (n_then ?_)
  refine SW_block ?_
  refine sr ?_
  refine os 1 ?_
  refine L (cl (lex_peek (X := X) (a := n) (k := 0) (l := l) hk hX (by omega) (by decide)) ?_)
  rintro v1 _ hv1
  obtain rfl : v1 = .int .u8 ((atB X n).toNat : Int) := hv1.trans (rfl)
  refine un ?_
  refine os 1 ?_
  refine nt ?_
  refine SW_block ?_
  refine sr ?_
  refine os 3 ?_
  refine tb 20 (fun hg2 => ?_) (fun hg2 => ?_)
  ·replace hg2 : (((atB X n).toNat : Int) == 32) = true := hg2
   simp only [beq_iff_eq, bne_iff_ne, ne_eq, beq_eq_false_iff_ne, bne_eq_false_iff_eq, Classical.not_not] at hg2
   refine os 8 ?_
   refine kp [17, 3, 14, 0] ?_
   refine nt ?_
   refine ct ?_
   refine SW_region ?_
   refine os 3 ?_
   refine L (ld ?_)
   refine os 3 ?_
   refine L (st [.string (bS X), .int .i64 ((n : Int) + 1), Gs.val g l.length] ?_)
   refine SL_nil (n_in (n_in (n_then ?_)))
   rw [show (n : Int) + 1 = (((n + 1) : Nat) : Int) from by omega]
   rw [blE_sp (by omega) (by omega)] at hi2
   exact ⟨(f, (n + 1)), by simp only []; omega, ⟨fun _ => rfl, ow⟩, by simp only []; omega, by simp only []; omega, hi2⟩
  replace hg2 : (((atB X n).toNat : Int) == 32) = false := hg2
  simp only [beq_iff_eq, bne_iff_ne, ne_eq, beq_eq_false_iff_ne, bne_eq_false_iff_eq, Classical.not_not] at hg2
  refine os 4 ?_
  refine kp [24, 3, 14, 0] ?_
  refine tb 24 (fun hg3 => ?_) (fun hg3 => ?_)
  ·replace hg3 : (((atB X n).toNat : Int) == 10) = true := hg3
   simp only [beq_iff_eq, bne_iff_ne, ne_eq, beq_eq_false_iff_ne, bne_eq_false_iff_eq, Classical.not_not] at hg3
   refine os 4 ?_
   refine kp [17, 3, 14, 0] ?_
   refine nt ?_
   refine ct ?_
   refine SW_region ?_
   refine os 3 ?_
   refine L (ld ?_)
   refine os 3 ?_
   refine L (st [.string (bS X), .int .i64 ((n : Int) + 1), Gs.val g l.length] ?_)
   refine SL_nil (n_in (n_in (n_then ?_)))
   rw [show (n : Int) + 1 = (((n + 1) : Nat) : Int) from by omega]
   rw [blE_sp (by omega) (by omega)] at hi2
   exact ⟨(f, (n + 1)), by simp only []; omega, ⟨fun _ => rfl, ow⟩, by simp only []; omega, by simp only []; omega, hi2⟩
  replace hg3 : (((atB X n).toNat : Int) == 10) = false := hg3
  simp only [beq_iff_eq, bne_iff_ne, ne_eq, beq_eq_false_iff_ne, bne_eq_false_iff_eq, Classical.not_not] at hg3
  refine os 4 ?_
  refine kp [17, 3, 14, 0] ?_
  refine nt ?_
  refine cd (fun hc4 : (((atB X n).toNat : Int) == 9) = true => ?_) (fun hc4 => ?_)
  ·simp only [beq_iff_eq, bne_iff_ne, ne_eq, beq_eq_false_iff_ne, bne_eq_false_iff_eq, Classical.not_not] at hc4
   refine SW_region ?_
   refine os 3 ?_
   refine L (ld ?_)
   refine os 3 ?_
   refine L (st [.string (bS X), .int .i64 ((n : Int) + 1), Gs.val g l.length] ?_)
   refine SL_nil (n_in (n_in (n_then ?_)))
   rw [show (n : Int) + 1 = (((n + 1) : Nat) : Int) from by omega]
   rw [blE_sp (by omega) (by omega)] at hi2
   exact ⟨(f, (n + 1)), by simp only []; omega, ⟨fun _ => rfl, ow⟩, by simp only []; omega, by simp only []; omega, hi2⟩
  simp only [beq_iff_eq, bne_iff_ne, ne_eq, beq_eq_false_iff_ne, bne_eq_false_iff_eq, Classical.not_not] at hc4
  refine sr ?_
  refine os 3 ?_
  refine tb 38 (fun hg5 => ?_) (fun hg5 => ?_)
  ·replace hg5 : (((atB X n).toNat : Int) == 47) = true := hg5
   simp only [beq_iff_eq, bne_iff_ne, ne_eq, beq_eq_false_iff_ne, bne_eq_false_iff_eq, Classical.not_not] at hg5
   refine os 1 ?_
   refine L (cl (lex_peek (X := X) (a := n) (k := 1) (l := l) hk hX (by omega) (by decide)) ?_)
   rintro v2 _ hv2
   obtain rfl : v2 = .int .u8 ((atB X (n + 1)).toNat : Int) := hv2.trans (rfl)
   refine un ?_
   refine os 3 ?_
   refine kp [35, 17, 3, 14, 0] ?_
   refine nt ?_
   refine cd (fun hc6 : (((atB X (n + 1)).toNat : Int) == 47) = true => ?_) (fun hc6 => ?_)
   ·simp only [beq_iff_eq, bne_iff_ne, ne_eq, beq_eq_false_iff_ne, bne_eq_false_iff_eq, Classical.not_not] at hc6
    refine SW_region ?_
    refine os 5 ?_
    refine L (ld ?_)
    refine L (cl (lex_run_nlZ (X := X) (a := n) (m := n) (z := (n : Int)) (l := l) (by omega) hk hX (by omega)) ?_)
    rintro v3 _ hv3
    obtain rfl : v3 = .int .i64 (runL notNl X n : Int) := hv3.trans (rfl)
    refine un ?_
    refine os 2 ?_
    refine kp [51, 49, 35, 17, 3, 14, 0] ?_
    refine L (st [.string (bS X), .int .i64 (runL notNl X n : Int), Gs.val g l.length] ?_)
    refine SL_nil (n_in (n_in (n_then ?_)))
    have hlg_ := line_gt (X := X) (a := n) (by omega) (by omega)
    have hll_ := runL_le (p := notNl) hi0
    rw [blE_line (by omega) (by omega) (by omega)] at hi2
    exact ⟨(f, (runL notNl X n)), by simp only []; omega, ⟨fun _ => rfl, ow⟩, by simp only []; omega, by simp only []; omega, hi2⟩
   simp only [beq_iff_eq, bne_iff_ne, ne_eq, beq_eq_false_iff_ne, bne_eq_false_iff_eq, Classical.not_not] at hc6
   refine sr ?_
   refine os 3 ?_
   refine tb 55 (fun hg7 => ?_) (fun hg7 => ?_)
   ·replace hg7 : (((atB X n).toNat : Int) == 47) = true := hg7
    simp only [beq_iff_eq, bne_iff_ne, ne_eq, beq_eq_false_iff_ne, bne_eq_false_iff_eq, Classical.not_not] at hg7
    refine os 1 ?_
    refine L (cl (lex_peek (X := X) (a := n) (k := 1) (l := l) hk hX (by omega) (by decide)) ?_)
    rintro v4 _ hv4
    obtain rfl : v4 = .int .u8 ((atB X (n + 1)).toNat : Int) := hv4.trans (rfl)
    refine un ?_
    refine os 3 ?_
    refine kp [52, 35, 17, 3, 14, 0] ?_
    refine nt ?_
    refine cd (fun hc8 : (((atB X (n + 1)).toNat : Int) == 42) = true => ?_) (fun hc8 => ?_)
    ·simp only [beq_iff_eq, bne_iff_ne, ne_eq, beq_eq_false_iff_ne, bne_eq_false_iff_eq, Classical.not_not] at hc8
     have h2_ : n + 1 < X.length := atB_lt (by omega)
     refine SW_seq ?_
     refine SW_draw [(b, 0, .string (bS X)), (b, 1, .int .i64 (n : Int))] [0, 1, 2, 3, 4, 5, 6, 7, 8] (by kernel_rfl) (rd_cons (Cell.own mem_z rfl) (rd_cons (Cell.own mem_z rfl) rd_nil)) ?_
     refine aS 0 ?_
     refine aS 1 ?_
     refine aF 2 ?_
     refine aL 3 ?_
     refine aS 4 ?_
     refine aS 5 ?_
     refine aF 6 ?_
     refine aL 7 ?_
     refine tk 8 (.int .i64 (IntKind.wrap .i64 ((n : Int) + 2))) ?_
     rw [show IntKind.wrap .i64 ((n : Int) + 2) = (n : Int) + 2 from IntWalk.i64_in _ (by omega)]
     refine tk 9 (.string (bS (X.drop ((n : Int) + 2).toNat))) ?_ (hy := fun δ w => run_strFrom (l := X) ((n : Int) + 2) .i64 Tryz.underlying9 rfl rfl (by omega) (by omega))
     rw [show ((n : Int) + 2).toNat = (n + 2) from by omega]
     refine kpA [69, 52, 35, 17, 3, 14, 0] ?_
     refine sa1 false 10 (h := cl (str_Index hL (X.drop (n + 2)) [42, 47] (by first | omega | (simp; omega))) ?_)
     rintro _ _ rfl
     try simp only [List.cons_append, List.append_assoc, List.nil_append]
     refine ⟨fun hnd => (by cases hnd), ?_⟩
     refine aS 11 ?_
     refine SA_done (by kernel_rfl) (n_then ?_)
     refine SW_seq ?_
     refine sr ?_
     refine os 2 ?_
     refine kp [72, 4, 52, 35, 17, 3, 14, 0] ?_
     refine nt ?_
     refine cdp (fun hc9 : (Lib.index (X.drop (n + 2)) [42, 47]) < 0 => ?_) (fun hc9 => ?_)
     ·refine sr ?_
      refine os 1 ?_
      refine nt ?_
      refine SW_ret (r_then (r_in (r_in (r_then (r_in (r_then ?_))))))
      refine body_end (.int .i64 52) (fun _ => rfl) ?_
      have hr_ : blP X a = (n, false) := hi2.symm.trans (blE_bad (by omega) (by omega) (by omega) (by omega))
      rw [hr_]
      exact ⟨(), ow, rfl⟩
     obtain ⟨j, hj_⟩ := Int.eq_ofNat_of_zero_le (show 0 ≤ Lib.index (X.drop (n + 2)) [42, 47] by omega)
     have hjr_ : j + 2 ≤ (X.drop (n + 2)).length := index_room hj_
     rw [List.length_drop] at hjr_
     rw [hj_]
     refine SW_skip (n_then ?_)
     refine SW_region ?_
     refine os 3 ?_
     refine L (ld ?_)
     refine os 5 ?_
     refine kp [81, 79, 72, 4, 52, 35, 17, 3, 14, 0] ?_
     refine L (st [.string (bS X), .int .i64 ((n : Int) + ((j : Int) + 4)), Gs.val g l.length] ?_)
     refine SL_nil (n_in (n_in (n_then ?_)))
     rw [show (n : Int) + ((j : Int) + 4) = (((n + (j + 4)) : Nat) : Int) from by omega]
     rw [blE_rem (by omega) (by omega) (by omega) (by omega), hj_, Int.toNat_natCast] at hi2
     exact ⟨(f, (n + (j + 4))), by simp only []; omega, ⟨fun _ => rfl, ow⟩, by simp only []; omega, by simp only []; omega, hi2⟩
    simp only [beq_iff_eq, bne_iff_ne, ne_eq, beq_eq_false_iff_ne, bne_eq_false_iff_eq, Classical.not_not] at hc8
    refine sr ?_
    refine os 1 ?_
    refine nt ?_
    refine SW_ret (r_in (r_in (r_then (r_in (r_then ?_)))))
    refine body_end (.int .i64 0) (fun _ => rfl) ?_
    have hr_ : blP X a = (n, true) := hi2.symm.trans (blE_other (by omega) (by omega) (by omega) (by omega))
    rw [hr_]
    exact ⟨(), ow, rfl⟩
   replace hg7 : (((atB X n).toNat : Int) == 47) = false := hg7
   simp only [beq_iff_eq, bne_iff_ne, ne_eq, beq_eq_false_iff_ne, bne_eq_false_iff_eq, Classical.not_not] at hg7
   refine os 5 ?_
   refine kp [52, 35, 17, 3, 14, 0] ?_
   refine nt ?_
   refine cf ?_
   refine sr ?_
   refine os 1 ?_
   refine nt ?_
   refine SW_ret (r_in (r_in (r_then (r_in (r_then ?_)))))
   refine body_end (.int .i64 0) (fun _ => rfl) ?_
   have hr_ : blP X a = (n, true) := hi2.symm.trans (blE_other (by omega) (by omega) (by omega) (by omega))
   rw [hr_]
   exact ⟨(), ow, rfl⟩
  replace hg5 : (((atB X n).toNat : Int) == 47) = false := hg5
  simp only [beq_iff_eq, bne_iff_ne, ne_eq, beq_eq_false_iff_ne, bne_eq_false_iff_eq, Classical.not_not] at hg5
  refine os 5 ?_
  refine kp [35, 17, 3, 14, 0] ?_
  refine nt ?_
  refine cf ?_
  refine sr ?_
  refine os 3 ?_
  refine tb 55 (fun hg10 => ?_) (fun hg10 => ?_)
  ·replace hg10 : (((atB X n).toNat : Int) == 47) = true := hg10
   simp only [beq_iff_eq, bne_iff_ne, ne_eq, beq_eq_false_iff_ne, bne_eq_false_iff_eq, Classical.not_not] at hg10
   refine os 1 ?_
   refine L (cl (lex_peek (X := X) (a := n) (k := 1) (l := l) hk hX (by omega) (by decide)) ?_)
   rintro v7 _ hv7
   obtain rfl : v7 = .int .u8 ((atB X (n + 1)).toNat : Int) := hv7.trans (rfl)
   refine un ?_
   refine os 3 ?_
   refine kp [52, 35, 17, 3, 14, 0] ?_
   refine nt ?_
   refine cd (fun hc11 : (((atB X (n + 1)).toNat : Int) == 42) = true => ?_) (fun hc11 => ?_)
   ·simp only [beq_iff_eq, bne_iff_ne, ne_eq, beq_eq_false_iff_ne, bne_eq_false_iff_eq, Classical.not_not] at hc11
    have h2_ : n + 1 < X.length := atB_lt (by omega)
    refine SW_seq ?_
    refine SW_draw [(b, 0, .string (bS X)), (b, 1, .int .i64 (n : Int))] [0, 1, 2, 3, 4, 5, 6, 7, 8] (by kernel_rfl) (rd_cons (Cell.own mem_z rfl) (rd_cons (Cell.own mem_z rfl) rd_nil)) ?_
    refine aS 0 ?_
    refine aS 1 ?_
    refine aF 2 ?_
    refine aL 3 ?_
    refine aS 4 ?_
    refine aS 5 ?_
    refine aF 6 ?_
    refine aL 7 ?_
    refine tk 8 (.int .i64 (IntKind.wrap .i64 ((n : Int) + 2))) ?_
    rw [show IntKind.wrap .i64 ((n : Int) + 2) = (n : Int) + 2 from IntWalk.i64_in _ (by omega)]
    refine tk 9 (.string (bS (X.drop ((n : Int) + 2).toNat))) ?_ (hy := fun δ w => run_strFrom (l := X) ((n : Int) + 2) .i64 Tryz.underlying9 rfl rfl (by omega) (by omega))
    rw [show ((n : Int) + 2).toNat = (n + 2) from by omega]
    refine kpA [69, 52, 35, 17, 3, 14, 0] ?_
    refine sa1 false 10 (h := cl (str_Index hL (X.drop (n + 2)) [42, 47] (by first | omega | (simp; omega))) ?_)
    rintro _ _ rfl
    try simp only [List.cons_append, List.append_assoc, List.nil_append]
    refine ⟨fun hnd => (by cases hnd), ?_⟩
    refine aS 11 ?_
    refine SA_done (by kernel_rfl) (n_then ?_)
    refine SW_seq ?_
    refine sr ?_
    refine os 2 ?_
    refine kp [72, 4, 52, 35, 17, 3, 14, 0] ?_
    refine nt ?_
    refine cdp (fun hc12 : (Lib.index (X.drop (n + 2)) [42, 47]) < 0 => ?_) (fun hc12 => ?_)
    ·refine sr ?_
     refine os 1 ?_
     refine nt ?_
     refine SW_ret (r_then (r_in (r_in (r_then (r_in (r_then ?_))))))
     refine body_end (.int .i64 52) (fun _ => rfl) ?_
     have hr_ : blP X a = (n, false) := hi2.symm.trans (blE_bad (by omega) (by omega) (by omega) (by omega))
     rw [hr_]
     exact ⟨(), ow, rfl⟩
    obtain ⟨j, hj_⟩ := Int.eq_ofNat_of_zero_le (show 0 ≤ Lib.index (X.drop (n + 2)) [42, 47] by omega)
    have hjr_ : j + 2 ≤ (X.drop (n + 2)).length := index_room hj_
    rw [List.length_drop] at hjr_
    rw [hj_]
    refine SW_skip (n_then ?_)
    refine SW_region ?_
    refine os 3 ?_
    refine L (ld ?_)
    refine os 5 ?_
    refine kp [81, 79, 72, 4, 52, 35, 17, 3, 14, 0] ?_
    refine L (st [.string (bS X), .int .i64 ((n : Int) + ((j : Int) + 4)), Gs.val g l.length] ?_)
    refine SL_nil (n_in (n_in (n_then ?_)))
    rw [show (n : Int) + ((j : Int) + 4) = (((n + (j + 4)) : Nat) : Int) from by omega]
    rw [blE_rem (by omega) (by omega) (by omega) (by omega), hj_, Int.toNat_natCast] at hi2
    exact ⟨(f, (n + (j + 4))), by simp only []; omega, ⟨fun _ => rfl, ow⟩, by simp only []; omega, by simp only []; omega, hi2⟩
   simp only [beq_iff_eq, bne_iff_ne, ne_eq, beq_eq_false_iff_ne, bne_eq_false_iff_eq, Classical.not_not] at hc11
   refine sr ?_
   refine os 1 ?_
   refine nt ?_
   refine SW_ret (r_in (r_in (r_then (r_in (r_then ?_)))))
   refine body_end (.int .i64 0) (fun _ => rfl) ?_
   have hr_ : blP X a = (n, true) := hi2.symm.trans (blE_other (by omega) (by omega) (by omega) (by omega))
   rw [hr_]
   exact ⟨(), ow, rfl⟩
  replace hg10 : (((atB X n).toNat : Int) == 47) = false := hg10
  simp only [beq_iff_eq, bne_iff_ne, ne_eq, beq_eq_false_iff_ne, bne_eq_false_iff_eq, Classical.not_not] at hg10
  refine os 5 ?_
  refine kp [52, 35, 17, 3, 14, 0] ?_
  refine nt ?_
  refine cf ?_
  refine sr ?_
  refine os 1 ?_
  refine nt ?_
  refine SW_ret (r_in (r_in (r_then (r_in (r_then ?_)))))
  refine body_end (.int .i64 0) (fun _ => rfl) ?_
  have hr_ : blP X a = (n, true) := hi2.symm.trans (blE_other (by omega) (by omega) (by omega) (by omega))
  rw [hr_]
  exact ⟨(), ow, rfl⟩
 refine SW_exit (x_then (x_then (x_in (n_then ?_))))
 refine sr ?_
 refine os 1 ?_
 refine nt ?_
 refine SW_ret ?_
 refine body_end (.int .i64 0) (fun _ => rfl) ?_
 have hr_ : blP X a = (n, true) := hi2.symm.trans (blE_end (by omega))
 rw [hr_]
 exact ⟨(), ow, rfl⟩

end Go.Proofs.YtnhmmjogfkjceaaGreatDoor
namespace Go.Proofs.YtnhmmjogfkjceaaGreatDoor
open Go.Sl

theorem lex_copy_fresh {W0 : World} {q : Nat} {v : Value} : SC Tryz.prog W0 125 #[pt q 0] [(q, .cells 97 2 [.pointer none, v])] (Ret (fun _ : Unit => [(q, .cells 97 2 [pt q 0, v])]) (fun v _ => v = .tuple #[])) := by
 refine SC_body (fn := Tryz.f125) (n := 20) Tryz.func125 rfl (by kernel_rfl) (ρ := [(0, pt q 0)]) rfl ?_
 refine sr ?_
 refine os 3 ?_
 refine L (ld ?_)
 refine oV (.bool true) ?_
 refine kp [6, 0] ?_
 refine nt ?_
 refine ct ?_
 refine SW_region ?_
 refine os 2 ?_
 refine L (O_toU (sz := 2) (b := q) Tryz.underlying94 (by kernel_rfl) (by kernel_rfl) (by decide) (by decide) (fun _ => rfl) mem_z rfl ?_)
 refine L (O_val (pt q 0) rfl (fun δ w _ => by kernel_rfl) ?_)
 refine L (O_fromU (b := q) (by kernel_rfl) Tryz.underlying94 (by kernel_rfl) (by kernel_rfl) (fun _ => rfl) mem_z rfl ?_)
 refine os 2 ?_
 refine L (st [pt q 0, v] ?_)
 refine SL_nil ?_
 refine body_end' (.tuple #[]) (fun _ => rfl) ?_
 exact ⟨(), ow, rfl⟩

theorem lex_WriteByte_fresh {W0 : World} {q : Nat} {c : UInt8} {h : Gs} {m : Bytes} (hk : Gs.ok 1 m.length h (m.map u8V)) (hm : m.length ≤ 2097152) : SC Tryz.prog W0 114 #[pt q 0, .int .u8 (c.toNat : Int)] ((q, .cells 97 2 [.pointer none, Gs.val h m.length]) :: (Gs.ent 5 1 h (m.map u8V))) (Ret (fun r : Gs => (q, .cells 97 2 [pt q 0, Gs.val r (m ++ [c]).length]) :: (Gs.ent 5 1 r ((m ++ [c]).map u8V))) (fun v r => v = .nilIface ∧ Gs.ok 1 (m ++ [c]).length r ((m ++ [c]).map u8V))) := by
 refine SC_body (fn := Tryz.f114) (n := 17) Tryz.func114 rfl (by kernel_rfl) (ρ := [(0, pt q 0), (1, .int .u8 (c.toNat : Int))]) rfl ?_
 refine SW_sig ((q, .cells 97 2 [.pointer none, Gs.val h m.length]) :: ((Gs.ent 5 1 h (m.map u8V)) ++ ([]))) (by simp only [List.append_nil, List.append_assoc]) ?_
 refine sr ?_
 refine os 1 ?_
 refine nsr ?_
 refine os 1 ?_
 refine L (cl (lex_copy_fresh (q := q)) ?_)
 rintro _ _ rfl
 refine un ?_
 refine nsr ?_
 refine os 4 ?_
 refine L (ld ?_)
 refine os 1 ?_
 refine L (nws 5 1 1 [.int .u8 (c.toNat : Int)] ?_)
 intro b1
 refine SL_perm _ (perm_cc (perm_cc perm_cz)) ?_
 refine L (O_append (size := 1) (bytes := 1) (z := .int .u8 0) h m.length 1 (some ⟨b1, 0, none⟩) 1 (m.map u8V) ([.int .u8 (c.toNat : Int)]) ((m ++ [c]).map u8V) (map_snoc _ c rfl) (fun _ => rfl) (fun _ => rfl) Tryz.underlying95 (by kernel_rfl) rfl (by decide) hk rfl (.inr ⟨b1, 0, rfl, Cells.own (mem_a mem_z) rfl⟩) rfl (by omega) (by decide) rfl ?_)
 intro s2 hks2 hfs2
 rw [show m.length + 1 = (m ++ [c]).length from by first | (simp; done) | (simp; omega)]
 rw [show m.length + 1 = (m ++ [c]).length from by first | (simp; done) | (simp; omega)] at hks2
 have hls2 : (m ++ [c]).length = m.length + 1 := by first | (simp; done) | (simp; omega)
 refine os 2 ?_
 refine kp [16, 14, 4, 0, 1] ?_
 refine L (st [pt q 0, Gs.val s2 ((m ++ [c]).length)] ?_)
 refine nsr ?_
 refine os 1 ?_
 refine nt ?_
 refine SW_ret ?_
 refine body_end (.nilIface) (fun _ => rfl) ?_
 exact ⟨s2, ow, rfl, hks2⟩

theorem lex_copy_used {W0 : World} {q : Nat} {v : Value} : SC Tryz.prog W0 125 #[pt q 0] [(q, .cells 97 2 [pt q 0, v])] (Ret (fun _ : Unit => [(q, .cells 97 2 [pt q 0, v])]) (fun v _ => v = .tuple #[])) := by
 refine SC_body (fn := Tryz.f125) (n := 20) Tryz.func125 rfl (by kernel_rfl) (ρ := [(0, pt q 0)]) rfl ?_
 refine sr ?_
 refine os 3 ?_
 refine L (ld ?_)
 refine oV (.bool false) ?_
 refine kp [6, 0] ?_
 refine nt ?_
 refine cf ?_
 refine sr ?_
 refine os 3 ?_
 refine L (ld ?_)
 refine os 1 ?_
 refine oV (.bool false) ?_ (hs := (fun δ w_ => run_neqP Tryz.underlying94 (by kernel_rfl) rfl rfl))
 refine kp [19, 6, 0] ?_
 refine nt ?_
 refine cf ?_
 refine SW_skip ?_
 refine body_end' (.tuple #[]) (fun _ => rfl) ?_
 exact ⟨(), ow, rfl⟩

theorem lex_WriteByte_used {W0 : World} {q : Nat} {c : UInt8} {h : Gs} {m : Bytes} (hk : Gs.ok 1 m.length h (m.map u8V)) (hm : m.length ≤ 2097152) : SC Tryz.prog W0 114 #[pt q 0, .int .u8 (c.toNat : Int)] ((q, .cells 97 2 [pt q 0, Gs.val h m.length]) :: (Gs.ent 5 1 h (m.map u8V))) (Ret (fun r : Gs => (q, .cells 97 2 [pt q 0, Gs.val r (m ++ [c]).length]) :: (Gs.ent 5 1 r ((m ++ [c]).map u8V))) (fun v r => v = .nilIface ∧ Gs.ok 1 (m ++ [c]).length r ((m ++ [c]).map u8V))) := by
 refine SC_body (fn := Tryz.f114) (n := 17) Tryz.func114 rfl (by kernel_rfl) (ρ := [(0, pt q 0), (1, .int .u8 (c.toNat : Int))]) rfl ?_
 refine SW_sig ((q, .cells 97 2 [pt q 0, Gs.val h m.length]) :: ((Gs.ent 5 1 h (m.map u8V)) ++ ([]))) (by simp only [List.append_nil, List.append_assoc]) ?_
 refine sr ?_
 refine os 1 ?_
 refine nsr ?_
 refine os 1 ?_
 refine L (cl (lex_copy_used (q := q)) ?_)
 rintro _ _ rfl
 refine un ?_
 refine nsr ?_
 refine os 4 ?_
 refine L (ld ?_)
 refine os 1 ?_
 refine L (nws 5 1 1 [.int .u8 (c.toNat : Int)] ?_)
 intro b1
 refine SL_perm _ (perm_cc (perm_cc perm_cz)) ?_
 refine L (O_append (size := 1) (bytes := 1) (z := .int .u8 0) h m.length 1 (some ⟨b1, 0, none⟩) 1 (m.map u8V) ([.int .u8 (c.toNat : Int)]) ((m ++ [c]).map u8V) (map_snoc _ c rfl) (fun _ => rfl) (fun _ => rfl) Tryz.underlying95 (by kernel_rfl) rfl (by decide) hk rfl (.inr ⟨b1, 0, rfl, Cells.own (mem_a mem_z) rfl⟩) rfl (by omega) (by decide) rfl ?_)
 intro s2 hks2 hfs2
 rw [show m.length + 1 = (m ++ [c]).length from by first | (simp; done) | (simp; omega)]
 rw [show m.length + 1 = (m ++ [c]).length from by first | (simp; done) | (simp; omega)] at hks2
 have hls2 : (m ++ [c]).length = m.length + 1 := by first | (simp; done) | (simp; omega)
 refine os 2 ?_
 refine kp [16, 14, 4, 0, 1] ?_
 refine L (st [pt q 0, Gs.val s2 ((m ++ [c]).length)] ?_)
 refine nsr ?_
 refine os 1 ?_
 refine nt ?_
 refine SW_ret ?_
 refine body_end (.nilIface) (fun _ => rfl) ?_
 exact ⟨s2, ow, rfl, hks2⟩

theorem lex_Len {W0 : World} {q : Nat} {p : Value} {h : Gs} {m : Bytes} (hk : Gs.ok 1 m.length h (m.map u8V)) : SC Tryz.prog W0 82 #[pt q 0] ((q, .cells 97 2 [p, Gs.val h m.length]) :: (Gs.ent 5 1 h (m.map u8V))) (Ret (fun _ : Unit => (q, .cells 97 2 [p, Gs.val h m.length]) :: (Gs.ent 5 1 h (m.map u8V))) (fun v _ => v = .int .i64 (m.length : Int))) := by
 refine SC_body (fn := Tryz.f82) (n := 8) Tryz.func82 rfl (by kernel_rfl) (ρ := [(0, pt q 0)]) rfl ?_
 refine SW_sig ((q, .cells 97 2 [p, Gs.val h m.length]) :: ((Gs.ent 5 1 h (m.map u8V)) ++ ([]))) (by simp only [List.append_nil, List.append_assoc]) ?_
 refine sr ?_
 refine os 1 ?_
 refine nsr ?_
 refine os 3 ?_
 refine L (ld ?_)
 refine os 2 ?_
 refine kp [2, 0] ?_
 refine nt ?_
 refine SW_ret ?_
 refine body_end (.int .i64 (m.length : Int)) (fun _ => rfl) ?_
 exact ⟨(), ow, rfl⟩

theorem lex_String_nil {W0 : World} {q : Nat} {p : Value} : SC Tryz.prog W0 83 #[pt q 0] [(q, .cells 97 2 [p, .slice none 0 0])] (Ret (fun _ : Unit => []) (fun v _ => v = .string (bS []))) := by
 refine SC_body (fn := Tryz.f83) (n := 14) Tryz.func83 rfl (by kernel_rfl) (ρ := [(0, pt q 0)]) rfl ?_
 refine sr ?_
 refine os 1 ?_
 refine nq ?_
 refine SW_draw [(q, 1, .slice none 0 0), (q, 1, .slice none 0 0)] [0, 1, 2, 3, 4, 5, 6, 7, 8, 9] (by kernel_rfl) (rd_cons (Cell.own mem_z rfl) (rd_cons (Cell.own mem_z rfl) rd_nil)) ?_
 refine aS 0 ?_
 refine aS 1 ?_
 refine aF 2 ?_
 refine aL 3 ?_
 refine tk 4 (.pointer none) ?_ (hy := fun δ w_ => run_usd_nil 0 0 rfl)
 refine aS 5 ?_
 refine aS 6 ?_
 refine aF 7 ?_
 refine aL 8 ?_
 refine aS 9 ?_
 refine kpA [12, 7, 2, 0] ?_
 refine tk 10 (.string (bS [])) ?_ (hy := fun δ w_ => run_us_none rfl rfl)
 refine aS 11 ?_
 refine SA_done (by kernel_rfl) (n_then ?_)
 refine SW_ret ?_
 refine body_end (.string (bS [])) (fun _ => rfl) ?_
 exact ⟨(), ow, rfl⟩

theorem lex_String_at {W0 : World} {q x y : Nat} {p : Value} {m : Bytes} (hk : Gs.ok 1 m.length (Gs.at x y) (m.map u8V)) (hm : m ≠ []) : SC Tryz.prog W0 83 #[pt q 0] ((q, .cells 97 2 [p, Gs.val (Gs.at x y) m.length]) :: (Gs.ent 5 1 (Gs.at x y) (m.map u8V))) (Ret (fun _ : Unit => []) (fun v _ => v = .string (bS m))) := by
 refine SC_body (fn := Tryz.f83) (n := 14) Tryz.func83 rfl (by kernel_rfl) (ρ := [(0, pt q 0)]) rfl ?_
 refine SW_sig ((q, .cells 97 2 [p, Gs.val (Gs.at x y) m.length]) :: ((Gs.ent 5 1 (Gs.at x y) (m.map u8V)) ++ ([]))) (by simp only [List.append_nil, List.append_assoc]) ?_
 have hy_ : m.length ≤ y := hk.1
 have hml_ : 0 < m.length := List.length_pos_iff.2 hm
 refine sr ?_
 refine os 1 ?_
 refine nq ?_
 refine SW_draw [(q, 1, Gs.val (Gs.at x y) m.length), (q, 1, Gs.val (Gs.at x y) m.length)] [0, 1, 2, 3, 4, 5, 6, 7, 8, 9] (by kernel_rfl) (rd_cons (Cell.own mem_z rfl) (rd_cons (Cell.own mem_z rfl) rd_nil)) ?_
 refine aS 0 ?_
 refine aS 1 ?_
 refine aF 2 ?_
 refine aL 3 ?_
 refine tk 4 (pt x 0) ?_ (hy := fun δ w_ => run_usd x m.length y (by omega) rfl)
 refine aS 5 ?_
 refine aS 6 ?_
 refine aF 7 ?_
 refine aL 8 ?_
 refine aS 9 ?_
 refine kpA [12, 7, 2, 0] ?_
 refine SA_perm _ (perm_cc perm_cz) ?_
 refine sa1 false 10 (h := O_us x y m Tryz.underlying135 (by kernel_rfl) hm hk (fun _ => rfl) (fun _ => rfl) rfl ?_)
 refine ⟨fun hnd => (by cases hnd), ?_⟩
 refine aS 11 ?_
 refine SA_done (by kernel_rfl) (n_then ?_)
 refine SW_ret ?_
 refine body_end (.string (bS m)) (fun _ => rfl) ?_
 exact ⟨(), ow, rfl⟩

end Go.Proofs.YtnhmmjogfkjceaaGreatDoor
namespace Go.Proofs.YtnhmmjogfkjceaaGreatDoor
open Go.Sl

theorem lex_putZ {W0 : World} {X T : Bytes} {a b num too : Nat} {z kind : Int} {g : Gs} {l : List Tok} (hz : z = (too : Int)) (hk : Gs.ok 4 l.length g (l.flatMap Tok.cells)) (hl : l.length ≤ 2097152) : SC Tryz.prog W0 28 #[pt b 0, .int .i64 kind, .string (bS T), .int .u64 (num : Int), .int .i64 z] ((b, .cells 50 3 [.string (bS X), .int .i64 (a : Int), Gs.val g l.length]) :: (Gs.ent 46 4 g (l.flatMap Tok.cells))) (Ret (fun q : Gs => (b, .cells 50 3 [.string (bS X), .int .i64 (too : Int), Gs.val q (l ++ [(⟨kind, a, T, num⟩ : Tok)]).length]) :: (Gs.ent 46 4 q ((l ++ [(⟨kind, a, T, num⟩ : Tok)]).flatMap Tok.cells))) (fun v q => v = .tuple #[] ∧ Gs.ok 4 (l ++ [(⟨kind, a, T, num⟩ : Tok)]).length q ((l ++ [(⟨kind, a, T, num⟩ : Tok)]).flatMap Tok.cells))) := by
 subst hz; exact lex_put hk hl

theorem lex_name {W0 : World} (hL : LaidL W0) {X : Bytes} {a b : Nat} {g : Gs} {l : List Tok} (hk : Gs.ok 4 l.length g (l.flatMap Tok.cells)) (hX : X.length ≤ 1048576) (hl : l.length ≤ 2097152) (ha : a < X.length) : SC Tryz.prog W0 58 #[pt b 0] ((b, .cells 50 3 [.string (bS X), .int .i64 (a : Int), Gs.val g l.length]) :: (Gs.ent 46 4 g (l.flatMap Tok.cells))) (Ret (fun q : Gs => (b, .cells 50 3 [.string (bS X), .int .i64 ((nameR X a).past a : Int), Gs.val q ((nameR X a).toks a l).length]) :: (Gs.ent 46 4 q (((nameR X a).toks a l).flatMap Tok.cells))) (fun v q => v = .int .i64 (nameR X a).err ∧ Gs.ok 4 ((nameR X a).toks a l).length q (((nameR X a).toks a l).flatMap Tok.cells))) := by
 refine SC_body (fn := Tryz.f58) (n := 36) Tryz.func58 rfl (by kernel_rfl) (ρ := [(0, pt b 0)]) rfl ?_
 refine SW_sig ((b, .cells 50 3 [.string (bS X), .int .i64 (a : Int), Gs.val g l.length]) :: ((Gs.ent 46 4 g (l.flatMap Tok.cells)) ++ ([]))) (by simp only [List.append_nil, List.append_assoc]) ?_
 refine sr ?_
 refine os 1 ?_
 refine nsr ?_
 refine os 4 ?_
 refine L (ld ?_)
 refine L (cl (lex_run_smallZ (X := X) (a := a) (m := a) (z := (a : Int)) (l := l) (by omega) hk hX (by omega)) ?_)
 rintro v1 _ hv1
 obtain rfl : v1 = .int .i64 (runL isSm X a : Int) := hv1.trans (rfl)
 refine un ?_
 refine os 1 ?_
 refine kp [3, 2, 0] ?_
 refine nq ?_
 have hge_ := runL_ge isSm X a
 have hle_ := runL_le (p := isSm) (X := X) (n := a) (by omega)
 refine SW_draw [(b, 0, .string (bS X)), (b, 1, .int .i64 (a : Int))] [0, 1, 2, 3, 4, 5, 6, 7, 8] (by kernel_rfl) (rd_cons (Cell.own mem_z rfl) (rd_cons (Cell.own mem_z rfl) rd_nil)) ?_
 refine aS 0 ?_
 refine aS 1 ?_
 refine aF 2 ?_
 refine aL 3 ?_
 refine aS 4 ?_
 refine aS 5 ?_
 refine aF 6 ?_
 refine aL 7 ?_
 refine aS 8 ?_
 refine tk 9 (.string (bS ((X.take ((runL isSm X a : Int)).toNat).drop ((a : Int)).toNat))) ?_ (hy := fun δ w => run_strMid (l := X) (a : Int) (runL isSm X a : Int) .i64 .i64 Tryz.underlying9 rfl rfl rfl (by omega) (by omega) (by omega))
 rw [show ((runL isSm X a : Int)).toNat = (runL isSm X a) from by omega, show ((a : Int)).toNat = a from by omega]
 refine kpA [20, 3, 2, 0] ?_
 refine aS 10 ?_
 refine SA_done (by kernel_rfl) (n_then ?_)
 refine SW_seq ?_
 refine SW_seq ?_
 generalize hT_ : ((X.take (runL isSm X a)).drop a : Bytes) = T
 have hTl_ : T.length ≤ X.length := by rw [← hT_, List.length_drop, List.length_take]; omega
 have hT'_ : nameT X a = T := hT_
 refine SW_region ?_
 refine os 1 ?_
 refine oX (.int .i64 ((bS T).size : Int)) (.int .i64 (T.length : Int)) (congrArg (fun n_ : Nat => Value.int .i64 (n_ : Int)) (bS_size _)) ?_
 refine os 1 ?_
 refine kp [23, 4, 3, 2, 0] ?_
 refine nt ?_
 refine cdp (fun hc1 : (T.length : Int) > 32 => ?_) (fun hc1 => ?_)
 ·refine sr ?_
  refine os 1 ?_
  refine nt ?_
  refine SW_ret (r_then ?_)
  refine body_end (.int .i64 53) (fun _ => rfl) ?_
  have hr_ : nameR X a = .bad 53 := nameR_bad (by rw [hT'_]; omega)
  rw [hr_]
  exact ⟨g, (ow (S := ((b, .cells 50 3 [.string (bS X), .int .i64 (a : Int), Gs.val g l.length]) :: (Gs.ent 46 4 g (l.flatMap Tok.cells))))), rfl, hk⟩
 refine SW_skip (n_then ?_)
 refine SW_seq ?_
 refine sr ?_
 refine os 1 ?_
 refine oV (.string (bS ([32] ++ T))) ?_ (hs := (fun δ w_ => run_catB [32] T (by simp; omega) rfl rfl))
 refine oV (.string (bS (([32] ++ T) ++ [32]))) ?_ (hs := (fun δ w_ => run_catB ([32] ++ T) [32] (by simp; omega) rfl rfl))
 refine L (cl (str_Contains hL wordsB (([32] ++ T) ++ [32]) (by decide)) ?_)
 rintro _ _ rfl
 refine un ?_
 refine nt ?_
 refine cd (fun hc2 : (Lib.contains wordsB (([32] ++ T) ++ [32])) = true => ?_) (fun hc2 => ?_)
 ·refine SW_region ?_
  refine os 3 ?_
  refine L (cl (lex_putZ (X := X) (T := T) (a := a) (num := 0) (too := (runL isSm X a)) (z := (runL isSm X a : Int)) (kind := 2) (l := l) (by omega) hk (by omega)) ?_)
  rintro _ q3 ⟨rfl, hkq3⟩
  refine un ?_
  refine nsr ?_
  refine os 1 ?_
  refine kp [2, 27, 23, 4, 3, 0] ?_
  refine nt ?_
  refine SW_ret ?_
  refine body_end (.int .i64 0) (fun _ => rfl) ?_
  have hr_ : nameR X a = .tok 2 T 0 (runL isSm X a) := by have := nameR_word (X := X) (a := a) (by rw [hT'_]; omega) (by rw [hT'_]; exact hc2); rwa [hT'_] at this
  rw [hr_]
  exact ⟨q3, (ow (S := ((b, .cells 50 3 [.string (bS X), .int .i64 ((runL isSm X a) : Int), Gs.val q3 (l ++ [(⟨2, a, T, 0⟩ : Tok)]).length]) :: (Gs.ent 46 4 q3 ((l ++ [(⟨2, a, T, 0⟩ : Tok)]).flatMap Tok.cells))))), rfl, hkq3⟩
 refine SW_region ?_
 refine os 3 ?_
 refine L (cl (lex_putZ (X := X) (T := T) (a := a) (num := 0) (too := (runL isSm X a)) (z := (runL isSm X a : Int)) (kind := 1) (l := l) (by omega) hk (by omega)) ?_)
 rintro _ q4 ⟨rfl, hkq4⟩
 refine un ?_
 refine nsr ?_
 refine os 1 ?_
 refine kp [2, 27, 23, 4, 3, 0] ?_
 refine nt ?_
 refine SW_ret ?_
 refine body_end (.int .i64 0) (fun _ => rfl) ?_
 have hr_ : nameR X a = .tok 1 T 0 (runL isSm X a) := by have := nameR_name (X := X) (a := a) (by rw [hT'_]; omega) (by rw [hT'_]; exact hc2); rwa [hT'_] at this
 rw [hr_]
 exact ⟨q4, (ow (S := ((b, .cells 50 3 [.string (bS X), .int .i64 ((runL isSm X a) : Int), Gs.val q4 (l ++ [(⟨1, a, T, 0⟩ : Tok)]).length]) :: (Gs.ent 46 4 q4 ((l ++ [(⟨1, a, T, 0⟩ : Tok)]).flatMap Tok.cells))))), rfl, hkq4⟩

theorem lex_number {W0 : World} (hL : LaidL W0) {X : Bytes} {a b : Nat} {g : Gs} {l : List Tok} (hk : Gs.ok 4 l.length g (l.flatMap Tok.cells)) (hX : X.length ≤ 1048576) (hl : l.length ≤ 2097152) (ha : a < X.length) : SC Tryz.prog W0 56 #[pt b 0] ((b, .cells 50 3 [.string (bS X), .int .i64 (a : Int), Gs.val g l.length]) :: (Gs.ent 46 4 g (l.flatMap Tok.cells))) (Ret (fun q : Gs => (b, .cells 50 3 [.string (bS X), .int .i64 ((numR X a).past a : Int), Gs.val q ((numR X a).toks a l).length]) :: (Gs.ent 46 4 q (((numR X a).toks a l).flatMap Tok.cells))) (fun v q => v = .int .i64 (numR X a).err ∧ Gs.ok 4 ((numR X a).toks a l).length q (((numR X a).toks a l).flatMap Tok.cells))) := by
 refine SC_body (fn := Tryz.f56) (n := 145) Tryz.func56 rfl (by kernel_rfl) (ρ := [(0, pt b 0)]) rfl ?_
 refine SW_sig ((b, .cells 50 3 [.string (bS X), .int .i64 (a : Int), Gs.val g l.length]) :: ((Gs.ent 46 4 g (l.flatMap Tok.cells)) ++ ([]))) (by simp only [List.append_nil, List.append_assoc]) ?_
 refine sr ?_
 refine os 1 ?_
 refine nsr ?_
 refine os 4 ?_
 refine L (ld ?_)
 refine L (cl (lex_run_digitZ (X := X) (a := a) (m := a) (z := (a : Int)) (l := l) (by omega) hk hX (by omega)) ?_)
 rintro v1 _ hv1
 obtain rfl : v1 = .int .i64 (runL isDig X a : Int) := hv1.trans (rfl)
 refine un ?_
 refine os 1 ?_
 refine kp [3, 2, 0] ?_
 refine nq ?_
 refine SW_seq ?_
 refine SW_cut3 (fun ρ_ σ_ => Fits ρ_ σ_ [(0, pt b 0), (3, .int .i64 (numE X a : Int))] ((b, .cells 50 3 [.string (bS X), .int .i64 (a : Int), Gs.val g l.length]) :: ((Gs.ent 46 4 g (l.flatMap Tok.cells)) ++ ([])))) ?_ ?_
 ·refine SW_region ?_
  refine os 1 ?_
  refine L (cl (lex_peek (X := X) (a := a) (k := 0) (l := l) hk hX (by omega) (by decide)) ?_)
  rintro v2 _ hv2
  obtain rfl : v2 = .int .u8 ((atB X a).toNat : Int) := hv2.trans (rfl)
  refine un ?_
  refine os 2 ?_
  refine tb 15 (fun hg1 => ?_) (fun hg1 => ?_)
  ·replace hg1 : (((atB X a).toNat : Int) == 48) = true := hg1
   simp only [beq_iff_eq, bne_iff_ne, ne_eq, beq_eq_false_iff_ne, bne_eq_false_iff_eq, Classical.not_not] at hg1
   refine os 1 ?_
   refine L (cl (lex_peek (X := X) (a := a) (k := 1) (l := l) hk hX (by omega) (by decide)) ?_)
   rintro v3 _ hv3
   obtain rfl : v3 = .int .u8 ((atB X (a + 1)).toNat : Int) := hv3.trans (rfl)
   refine un ?_
   refine os 2 ?_
   refine kp [19, 3, 2, 0] ?_
   refine nt ?_
   refine cd (fun hc2 : (((atB X (a + 1)).toNat : Int) == 120) = true => ?_) (fun hc2 => ?_)
   ·simp only [beq_iff_eq, bne_iff_ne, ne_eq, beq_eq_false_iff_ne, bne_eq_false_iff_eq, Classical.not_not] at hc2
    have hal_ : a + 1 < X.length := atB_lt (by omega)
    refine SW_region ?_
    refine os 4 ?_
    refine L (ld ?_)
    refine os 1 ?_
    refine L (cl (lex_run_baseZ (X := X) (a := a) (m := (a + 2)) (z := ((a : Int) + 2)) (l := l) (by omega) hk hX (by omega)) ?_)
    rintro v4 _ hv4
    obtain rfl : v4 = .int .i64 (runL isHx X (a + 2) : Int) := hv4.trans (rfl)
    refine un ?_
    refine os 1 ?_
    refine kp [3, 19, 2, 0] ?_
    refine nt ?_
    rw [numE_hex (X := X) (a := a) (by omega)]
    exact ⟨fun _ => rfl, ow⟩
   simp only [beq_iff_eq, bne_iff_ne, ne_eq, beq_eq_false_iff_ne, bne_eq_false_iff_eq, Classical.not_not] at hc2
   refine SW_seq ?_
   refine SW_seq ?_
   have hdl_ := runL_le (p := isDig) (X := X) (n := a) (by omega)
   refine SW_cut3 (fun ρ_ σ_ => Fits ρ_ σ_ [(0, pt b 0), (3, .int .i64 (numFr X (runL isDig X a) : Int))] ((b, .cells 50 3 [.string (bS X), .int .i64 (a : Int), Gs.val g l.length]) :: ((Gs.ent 46 4 g (l.flatMap Tok.cells)) ++ ([])))) ?_ ?_
   ·refine SW_region ?_
    refine os 5 ?_
    refine L (ld ?_)
    refine oX (.int .i64 ((bS X).size : Int)) (.int .i64 (X.length : Int)) (congrArg (fun n_ : Nat => Value.int .i64 (n_ : Int)) (bS_size _)) ?_
    refine os 2 ?_
    refine kp [35, 19, 3, 2, 0] ?_
    refine tbp 35 (fun hg3 => ?_) (fun hg3 => ?_)
    ·replace hg3 : ((runL isDig X a : Int) + 1) < (X.length : Int) := hg3
     refine os 3 ?_
     refine L (ld ?_)
     refine os 1 ?_
     obtain ⟨e1, he1⟩ : ∃ y_, X[(runL isDig X a)]? = some y_ := ⟨_, List.getElem?_eq_getElem (by omega)⟩
     refine ixb (runL isDig X a : Int) X .i64 e1 Tryz.underlying9 (by rw [show ((runL isDig X a : Int)).toNat = (runL isDig X a) from by omega]; exact he1) ?_
     refine os 3 ?_
     refine kp [44, 19, 3, 2, 0] ?_
     refine tb 44 (fun hg4 => ?_) (fun hg4 => ?_)
     ·replace hg4 : ((e1.toNat : Int) == 46) = true := hg4
      simp only [beq_iff_eq, bne_iff_ne, ne_eq, beq_eq_false_iff_ne, bne_eq_false_iff_eq, Classical.not_not] at hg4
      refine os 3 ?_
      refine L (ld ?_)
      refine os 2 ?_
      obtain ⟨e2, he2⟩ : ∃ y_, X[(runL isDig X a + 1)]? = some y_ := ⟨_, List.getElem?_eq_getElem (by omega)⟩
      refine ixb ((runL isDig X a : Int) + 1) X .i64 e2 Tryz.underlying9 (by rw [show ((runL isDig X a : Int) + 1).toNat = (runL isDig X a + 1) from by omega]; exact he2) ?_
      refine L (cl (lex_digit (c := e2)) ?_)
      rintro v5 _ hv5
      obtain rfl : v5 = .bool (decide (48 ≤ (e2.toNat : Int) ∧ (e2.toNat : Int) ≤ 57)) := hv5.trans (by rw [dig_at])
      refine un ?_
      refine os 1 ?_
      refine kp [53, 19, 3, 2, 0] ?_
      refine nt ?_
      refine cdp (fun hc5 : 48 ≤ (e2.toNat : Int) ∧ (e2.toNat : Int) ≤ 57 => ?_) (fun hc5 => ?_)
      ·refine SW_region ?_
       refine os 3 ?_
       refine L (cl (lex_run_digitZ (X := X) (a := a) (m := (runL isDig X a + 1)) (z := ((runL isDig X a : Int) + 1)) (l := l) (by omega) hk hX (by omega)) ?_)
       rintro v6 _ hv6
       obtain rfl : v6 = .int .i64 (runL isDig X (runL isDig X a + 1) : Int) := hv6.trans (rfl)
       refine un ?_
       refine os 1 ?_
       refine kp [3, 53, 19, 2, 0] ?_
       refine nt ?_
       rw [numFr_yes he1 he2 (by omega) (by omega)]
       exact ⟨fun _ => rfl, ow⟩
      refine SW_skip (n_then ?_)
      rw [numFr_no3 he2 (by omega)]
      exact ⟨fun _ => rfl, ow⟩
     replace hg4 : ((e1.toNat : Int) == 46) = false := hg4
     simp only [beq_iff_eq, bne_iff_ne, ne_eq, beq_eq_false_iff_ne, bne_eq_false_iff_eq, Classical.not_not] at hg4
     refine os 9 ?_
     refine kp [53, 19, 3, 2, 0] ?_
     refine nt ?_
     refine cf ?_
     refine SW_skip (n_then ?_)
     rw [numFr_no2 he1 (by omega)]
     exact ⟨fun _ => rfl, ow⟩
    replace hg3 : ¬ (((runL isDig X a : Int) + 1) < (X.length : Int)) := hg3
    refine os 18 ?_
    refine kp [53, 19, 3, 2, 0] ?_
    refine nt ?_
    refine cf ?_
    refine SW_skip (n_then ?_)
    rw [numFr_no1 (X := X) (t := (runL isDig X a)) (by omega)]
    exact ⟨fun _ => rfl, ow⟩
   ·rintro ρ_ σ_ hfit
    refine SW_fits hfit ?_
    clear hfit
    refine SW_seq ?_
    have hfl_ := numFr_le (X := X) hdl_
    refine SW_cut3 (fun ρ_ σ_ => Fits ρ_ σ_ [(0, pt b 0), (3, .int .i64 (numEx X (numFr X (runL isDig X a)) : Int))] ((b, .cells 50 3 [.string (bS X), .int .i64 (a : Int), Gs.val g l.length]) :: ((Gs.ent 46 4 g (l.flatMap Tok.cells)) ++ ([])))) ?_ ?_
    ·refine SW_region ?_
     refine os 4 ?_
     refine L (ld ?_)
     refine oX (.int .i64 ((bS X).size : Int)) (.int .i64 (X.length : Int)) (congrArg (fun n_ : Nat => Value.int .i64 (n_ : Int)) (bS_size _)) ?_
     refine os 2 ?_
     refine kp [65, 0, 3] ?_
     refine tbp 65 (fun hg6 => ?_) (fun hg6 => ?_)
     ·replace hg6 : (numFr X (runL isDig X a) : Int) < (X.length : Int) := hg6
      refine os 3 ?_
      refine L (ld ?_)
      refine os 1 ?_
      obtain ⟨e3, he3⟩ : ∃ y_, X[(numFr X (runL isDig X a))]? = some y_ := ⟨_, List.getElem?_eq_getElem (by omega)⟩
      refine ixb (numFr X (runL isDig X a) : Int) X .i64 e3 Tryz.underlying9 (by rw [show ((numFr X (runL isDig X a) : Int)).toNat = (numFr X (runL isDig X a)) from by omega]; exact he3) ?_
      refine oV (.int .u8 ((e3 ||| 32).toNat : Int)) ?_ (hs := or8R (m := (e3.toNat : Int)) (c := 32) _ (or8 e3))
      refine os 2 ?_
      refine kp [74, 0, 3] ?_
      refine nt ?_
      refine cd (fun hc7 : (((e3 ||| 32).toNat : Int) == 101) = true => ?_) (fun hc7 => ?_)
      ·simp only [beq_iff_eq, bne_iff_ne, ne_eq, beq_eq_false_iff_ne, bne_eq_false_iff_eq, Classical.not_not] at hc7
       refine sr ?_
       refine os 3 ?_
       refine nq ?_
       refine SW_seq ?_
       rw [show (numFr X (runL isDig X a) : Int) + 1 = (((numFr X (runL isDig X a) + 1) : Nat) : Int) from by omega]
       refine SW_cut3 (fun ρ_ σ_ => Fits ρ_ σ_ [(0, pt b 0), (3, .int .i64 (numSg X (numFr X (runL isDig X a) + 1) : Int))] ((b, .cells 50 3 [.string (bS X), .int .i64 (a : Int), Gs.val g l.length]) :: ((Gs.ent 46 4 g (l.flatMap Tok.cells)) ++ ([])))) ?_ ?_
       ·refine SW_region ?_
        refine os 4 ?_
        refine L (ld ?_)
        refine oX (.int .i64 ((bS X).size : Int)) (.int .i64 (X.length : Int)) (congrArg (fun n_ : Nat => Value.int .i64 (n_ : Int)) (bS_size _)) ?_
        refine os 2 ?_
        refine kp [84, 3, 74, 0] ?_
        refine tbp 84 (fun hg8 => ?_) (fun hg8 => ?_)
        ·replace hg8 : (((numFr X (runL isDig X a) + 1) : Nat) : Int) < (X.length : Int) := hg8
         refine os 3 ?_
         refine L (ld ?_)
         refine os 1 ?_
         obtain ⟨e4, he4⟩ : ∃ y_, X[(numFr X (runL isDig X a) + 1)]? = some y_ := ⟨_, List.getElem?_eq_getElem (by omega)⟩
         refine ixb (((numFr X (runL isDig X a) + 1) : Nat) : Int) X .i64 e4 Tryz.underlying9 (by rw [show ((((numFr X (runL isDig X a) + 1) : Nat) : Int)).toNat = (numFr X (runL isDig X a) + 1) from by omega]; exact he4) ?_
         refine os 2 ?_
         refine kp [92, 84, 3, 74, 0] ?_
         refine tb 92 (fun hg9 => ?_) (fun hg9 => ?_)
         ·replace hg9 : ((e4.toNat : Int) == 43) = true := hg9
          simp only [beq_iff_eq, bne_iff_ne, ne_eq, beq_eq_false_iff_ne, bne_eq_false_iff_eq, Classical.not_not] at hg9
          refine os 9 ?_
          refine kp [101, 3, 74, 0] ?_
          refine nt ?_
          refine ct ?_
          refine SW_region ?_
          refine os 3 ?_
          refine nt ?_
          rw [numSg_yes he4 (by omega)]
          exact ⟨fun _ => rfl, ow⟩
         replace hg9 : ((e4.toNat : Int) == 43) = false := hg9
         simp only [beq_iff_eq, bne_iff_ne, ne_eq, beq_eq_false_iff_ne, bne_eq_false_iff_eq, Classical.not_not] at hg9
         refine os 3 ?_
         refine L (ld ?_)
         refine os 1 ?_
         refine ixb (((numFr X (runL isDig X a) + 1) : Nat) : Int) X .i64 e4 Tryz.underlying9 (by rw [show ((((numFr X (runL isDig X a) + 1) : Nat) : Int)).toNat = (numFr X (runL isDig X a) + 1) from by omega]; exact he4) ?_
         refine os 3 ?_
         refine kp [101, 3, 74, 0] ?_
         refine nt ?_
         refine cd (fun hc10 : ((e4.toNat : Int) == 45) = true => ?_) (fun hc10 => ?_)
         ·simp only [beq_iff_eq, bne_iff_ne, ne_eq, beq_eq_false_iff_ne, bne_eq_false_iff_eq, Classical.not_not] at hc10
          refine SW_region ?_
          refine os 3 ?_
          refine nt ?_
          rw [numSg_yes he4 (by omega)]
          exact ⟨fun _ => rfl, ow⟩
         simp only [beq_iff_eq, bne_iff_ne, ne_eq, beq_eq_false_iff_ne, bne_eq_false_iff_eq, Classical.not_not] at hc10
         refine SW_skip (n_then ?_)
         rw [numSg_no2 he4 (by omega)]
         exact ⟨fun _ => rfl, ow⟩
        replace hg8 : ¬ ((((numFr X (runL isDig X a) + 1) : Nat) : Int) < (X.length : Int)) := hg8
        refine os 17 ?_
        refine kp [101, 3, 74, 0] ?_
        refine nt ?_
        refine cf ?_
        refine SW_skip (n_then ?_)
        rw [numSg_no1 (X := X) (t := (numFr X (runL isDig X a) + 1)) (by omega)]
        exact ⟨fun _ => rfl, ow⟩
       ·rintro ρ_ σ_ hfit
        refine SW_fits hfit ?_
        clear hfit
        have hsl_ := numSg_le (X := X) (t := (numFr X (runL isDig X a) + 1)) (by omega)
        refine SW_region ?_
        refine os 2 ?_
        refine L (cl (lex_run_digitZ (X := X) (a := a) (m := numSg X (numFr X (runL isDig X a) + 1)) (z := (numSg X (numFr X (runL isDig X a) + 1) : Int)) (l := l) (by omega) hk hX (by omega)) ?_)
        rintro v7 _ hv7
        obtain rfl : v7 = .int .i64 (runL isDig X (numSg X (numFr X (runL isDig X a) + 1)) : Int) := hv7.trans (rfl)
        refine un ?_
        refine os 1 ?_
        refine kp [3, 0] ?_
        refine nt ?_
        rw [numEx_yes he3 (by omega)]
        exact ⟨fun _ => rfl, ow⟩
      simp only [beq_iff_eq, bne_iff_ne, ne_eq, beq_eq_false_iff_ne, bne_eq_false_iff_eq, Classical.not_not] at hc7
      refine SW_skip (n_then ?_)
      rw [numEx_no2 he3 (by omega)]
      exact ⟨fun _ => rfl, ow⟩
     replace hg6 : ¬ ((numFr X (runL isDig X a) : Int) < (X.length : Int)) := hg6
     refine os 9 ?_
     refine kp [74, 0, 3] ?_
     refine nt ?_
     refine cf ?_
     refine SW_skip (n_then ?_)
     rw [numEx_no1 (X := X) (t := (numFr X (runL isDig X a))) (by omega)]
     exact ⟨fun _ => rfl, ow⟩
    ·rintro ρ_ σ_ hfit
     rw [numE_dec (X := X) (a := a) (by omega)]
     exact hfit
  replace hg1 : (((atB X a).toNat : Int) == 48) = false := hg1
  simp only [beq_iff_eq, bne_iff_ne, ne_eq, beq_eq_false_iff_ne, bne_eq_false_iff_eq, Classical.not_not] at hg1
  refine os 4 ?_
  refine kp [19, 3, 2, 0] ?_
  refine nt ?_
  refine cf ?_
  refine SW_seq ?_
  refine SW_seq ?_
  have hdl_ := runL_le (p := isDig) (X := X) (n := a) (by omega)
  refine SW_cut3 (fun ρ_ σ_ => Fits ρ_ σ_ [(0, pt b 0), (3, .int .i64 (numFr X (runL isDig X a) : Int))] ((b, .cells 50 3 [.string (bS X), .int .i64 (a : Int), Gs.val g l.length]) :: ((Gs.ent 46 4 g (l.flatMap Tok.cells)) ++ ([])))) ?_ ?_
  ·refine SW_region ?_
   refine os 5 ?_
   refine L (ld ?_)
   refine oX (.int .i64 ((bS X).size : Int)) (.int .i64 (X.length : Int)) (congrArg (fun n_ : Nat => Value.int .i64 (n_ : Int)) (bS_size _)) ?_
   refine os 2 ?_
   refine kp [35, 19, 3, 2, 0] ?_
   refine tbp 35 (fun hg11 => ?_) (fun hg11 => ?_)
   ·replace hg11 : ((runL isDig X a : Int) + 1) < (X.length : Int) := hg11
    refine os 3 ?_
    refine L (ld ?_)
    refine os 1 ?_
    obtain ⟨e5, he5⟩ : ∃ y_, X[(runL isDig X a)]? = some y_ := ⟨_, List.getElem?_eq_getElem (by omega)⟩
    refine ixb (runL isDig X a : Int) X .i64 e5 Tryz.underlying9 (by rw [show ((runL isDig X a : Int)).toNat = (runL isDig X a) from by omega]; exact he5) ?_
    refine os 3 ?_
    refine kp [44, 19, 3, 2, 0] ?_
    refine tb 44 (fun hg12 => ?_) (fun hg12 => ?_)
    ·replace hg12 : ((e5.toNat : Int) == 46) = true := hg12
     simp only [beq_iff_eq, bne_iff_ne, ne_eq, beq_eq_false_iff_ne, bne_eq_false_iff_eq, Classical.not_not] at hg12
     refine os 3 ?_
     refine L (ld ?_)
     refine os 2 ?_
     obtain ⟨e6, he6⟩ : ∃ y_, X[(runL isDig X a + 1)]? = some y_ := ⟨_, List.getElem?_eq_getElem (by omega)⟩
     refine ixb ((runL isDig X a : Int) + 1) X .i64 e6 Tryz.underlying9 (by rw [show ((runL isDig X a : Int) + 1).toNat = (runL isDig X a + 1) from by omega]; exact he6) ?_
     refine L (cl (lex_digit (c := e6)) ?_)
     rintro v8 _ hv8
     obtain rfl : v8 = .bool (decide (48 ≤ (e6.toNat : Int) ∧ (e6.toNat : Int) ≤ 57)) := hv8.trans (by rw [dig_at])
     refine un ?_
     refine os 1 ?_
     refine kp [53, 19, 3, 2, 0] ?_
     refine nt ?_
     refine cdp (fun hc13 : 48 ≤ (e6.toNat : Int) ∧ (e6.toNat : Int) ≤ 57 => ?_) (fun hc13 => ?_)
     ·refine SW_region ?_
      refine os 3 ?_
      refine L (cl (lex_run_digitZ (X := X) (a := a) (m := (runL isDig X a + 1)) (z := ((runL isDig X a : Int) + 1)) (l := l) (by omega) hk hX (by omega)) ?_)
      rintro v9 _ hv9
      obtain rfl : v9 = .int .i64 (runL isDig X (runL isDig X a + 1) : Int) := hv9.trans (rfl)
      refine un ?_
      refine os 1 ?_
      refine kp [3, 53, 19, 2, 0] ?_
      refine nt ?_
      rw [numFr_yes he5 he6 (by omega) (by omega)]
      exact ⟨fun _ => rfl, ow⟩
     refine SW_skip (n_then ?_)
     rw [numFr_no3 he6 (by omega)]
     exact ⟨fun _ => rfl, ow⟩
    replace hg12 : ((e5.toNat : Int) == 46) = false := hg12
    simp only [beq_iff_eq, bne_iff_ne, ne_eq, beq_eq_false_iff_ne, bne_eq_false_iff_eq, Classical.not_not] at hg12
    refine os 9 ?_
    refine kp [53, 19, 3, 2, 0] ?_
    refine nt ?_
    refine cf ?_
    refine SW_skip (n_then ?_)
    rw [numFr_no2 he5 (by omega)]
    exact ⟨fun _ => rfl, ow⟩
   replace hg11 : ¬ (((runL isDig X a : Int) + 1) < (X.length : Int)) := hg11
   refine os 18 ?_
   refine kp [53, 19, 3, 2, 0] ?_
   refine nt ?_
   refine cf ?_
   refine SW_skip (n_then ?_)
   rw [numFr_no1 (X := X) (t := (runL isDig X a)) (by omega)]
   exact ⟨fun _ => rfl, ow⟩
  ·rintro ρ_ σ_ hfit
   refine SW_fits hfit ?_
   clear hfit
   refine SW_seq ?_
   have hfl_ := numFr_le (X := X) hdl_
   refine SW_cut3 (fun ρ_ σ_ => Fits ρ_ σ_ [(0, pt b 0), (3, .int .i64 (numEx X (numFr X (runL isDig X a)) : Int))] ((b, .cells 50 3 [.string (bS X), .int .i64 (a : Int), Gs.val g l.length]) :: ((Gs.ent 46 4 g (l.flatMap Tok.cells)) ++ ([])))) ?_ ?_
   ·refine SW_region ?_
    refine os 4 ?_
    refine L (ld ?_)
    refine oX (.int .i64 ((bS X).size : Int)) (.int .i64 (X.length : Int)) (congrArg (fun n_ : Nat => Value.int .i64 (n_ : Int)) (bS_size _)) ?_
    refine os 2 ?_
    refine kp [65, 0, 3] ?_
    refine tbp 65 (fun hg14 => ?_) (fun hg14 => ?_)
    ·replace hg14 : (numFr X (runL isDig X a) : Int) < (X.length : Int) := hg14
     refine os 3 ?_
     refine L (ld ?_)
     refine os 1 ?_
     obtain ⟨e7, he7⟩ : ∃ y_, X[(numFr X (runL isDig X a))]? = some y_ := ⟨_, List.getElem?_eq_getElem (by omega)⟩
     refine ixb (numFr X (runL isDig X a) : Int) X .i64 e7 Tryz.underlying9 (by rw [show ((numFr X (runL isDig X a) : Int)).toNat = (numFr X (runL isDig X a)) from by omega]; exact he7) ?_
     refine oV (.int .u8 ((e7 ||| 32).toNat : Int)) ?_ (hs := or8R (m := (e7.toNat : Int)) (c := 32) _ (or8 e7))
     refine os 2 ?_
     refine kp [74, 0, 3] ?_
     refine nt ?_
     refine cd (fun hc15 : (((e7 ||| 32).toNat : Int) == 101) = true => ?_) (fun hc15 => ?_)
     ·simp only [beq_iff_eq, bne_iff_ne, ne_eq, beq_eq_false_iff_ne, bne_eq_false_iff_eq, Classical.not_not] at hc15
      refine sr ?_
      refine os 3 ?_
      refine nq ?_
      refine SW_seq ?_
      rw [show (numFr X (runL isDig X a) : Int) + 1 = (((numFr X (runL isDig X a) + 1) : Nat) : Int) from by omega]
      refine SW_cut3 (fun ρ_ σ_ => Fits ρ_ σ_ [(0, pt b 0), (3, .int .i64 (numSg X (numFr X (runL isDig X a) + 1) : Int))] ((b, .cells 50 3 [.string (bS X), .int .i64 (a : Int), Gs.val g l.length]) :: ((Gs.ent 46 4 g (l.flatMap Tok.cells)) ++ ([])))) ?_ ?_
      ·refine SW_region ?_
       refine os 4 ?_
       refine L (ld ?_)
       refine oX (.int .i64 ((bS X).size : Int)) (.int .i64 (X.length : Int)) (congrArg (fun n_ : Nat => Value.int .i64 (n_ : Int)) (bS_size _)) ?_
       refine os 2 ?_
       refine kp [84, 3, 74, 0] ?_
       refine tbp 84 (fun hg16 => ?_) (fun hg16 => ?_)
       ·replace hg16 : (((numFr X (runL isDig X a) + 1) : Nat) : Int) < (X.length : Int) := hg16
        refine os 3 ?_
        refine L (ld ?_)
        refine os 1 ?_
        obtain ⟨e8, he8⟩ : ∃ y_, X[(numFr X (runL isDig X a) + 1)]? = some y_ := ⟨_, List.getElem?_eq_getElem (by omega)⟩
        refine ixb (((numFr X (runL isDig X a) + 1) : Nat) : Int) X .i64 e8 Tryz.underlying9 (by rw [show ((((numFr X (runL isDig X a) + 1) : Nat) : Int)).toNat = (numFr X (runL isDig X a) + 1) from by omega]; exact he8) ?_
        refine os 2 ?_
        refine kp [92, 84, 3, 74, 0] ?_
        refine tb 92 (fun hg17 => ?_) (fun hg17 => ?_)
        ·replace hg17 : ((e8.toNat : Int) == 43) = true := hg17
         simp only [beq_iff_eq, bne_iff_ne, ne_eq, beq_eq_false_iff_ne, bne_eq_false_iff_eq, Classical.not_not] at hg17
         refine os 9 ?_
         refine kp [101, 3, 74, 0] ?_
         refine nt ?_
         refine ct ?_
         refine SW_region ?_
         refine os 3 ?_
         refine nt ?_
         rw [numSg_yes he8 (by omega)]
         exact ⟨fun _ => rfl, ow⟩
        replace hg17 : ((e8.toNat : Int) == 43) = false := hg17
        simp only [beq_iff_eq, bne_iff_ne, ne_eq, beq_eq_false_iff_ne, bne_eq_false_iff_eq, Classical.not_not] at hg17
        refine os 3 ?_
        refine L (ld ?_)
        refine os 1 ?_
        refine ixb (((numFr X (runL isDig X a) + 1) : Nat) : Int) X .i64 e8 Tryz.underlying9 (by rw [show ((((numFr X (runL isDig X a) + 1) : Nat) : Int)).toNat = (numFr X (runL isDig X a) + 1) from by omega]; exact he8) ?_
        refine os 3 ?_
        refine kp [101, 3, 74, 0] ?_
        refine nt ?_
        refine cd (fun hc18 : ((e8.toNat : Int) == 45) = true => ?_) (fun hc18 => ?_)
        ·simp only [beq_iff_eq, bne_iff_ne, ne_eq, beq_eq_false_iff_ne, bne_eq_false_iff_eq, Classical.not_not] at hc18
         refine SW_region ?_
         refine os 3 ?_
         refine nt ?_
         rw [numSg_yes he8 (by omega)]
         exact ⟨fun _ => rfl, ow⟩
        simp only [beq_iff_eq, bne_iff_ne, ne_eq, beq_eq_false_iff_ne, bne_eq_false_iff_eq, Classical.not_not] at hc18
        refine SW_skip (n_then ?_)
        rw [numSg_no2 he8 (by omega)]
        exact ⟨fun _ => rfl, ow⟩
       replace hg16 : ¬ ((((numFr X (runL isDig X a) + 1) : Nat) : Int) < (X.length : Int)) := hg16
       refine os 17 ?_
       refine kp [101, 3, 74, 0] ?_
       refine nt ?_
       refine cf ?_
       refine SW_skip (n_then ?_)
       rw [numSg_no1 (X := X) (t := (numFr X (runL isDig X a) + 1)) (by omega)]
       exact ⟨fun _ => rfl, ow⟩
      ·rintro ρ_ σ_ hfit
       refine SW_fits hfit ?_
       clear hfit
       have hsl_ := numSg_le (X := X) (t := (numFr X (runL isDig X a) + 1)) (by omega)
       refine SW_region ?_
       refine os 2 ?_
       refine L (cl (lex_run_digitZ (X := X) (a := a) (m := numSg X (numFr X (runL isDig X a) + 1)) (z := (numSg X (numFr X (runL isDig X a) + 1) : Int)) (l := l) (by omega) hk hX (by omega)) ?_)
       rintro v10 _ hv10
       obtain rfl : v10 = .int .i64 (runL isDig X (numSg X (numFr X (runL isDig X a) + 1)) : Int) := hv10.trans (rfl)
       refine un ?_
       refine os 1 ?_
       refine kp [3, 0] ?_
       refine nt ?_
       rw [numEx_yes he7 (by omega)]
       exact ⟨fun _ => rfl, ow⟩
     simp only [beq_iff_eq, bne_iff_ne, ne_eq, beq_eq_false_iff_ne, bne_eq_false_iff_eq, Classical.not_not] at hc15
     refine SW_skip (n_then ?_)
     rw [numEx_no2 he7 (by omega)]
     exact ⟨fun _ => rfl, ow⟩
    replace hg14 : ¬ ((numFr X (runL isDig X a) : Int) < (X.length : Int)) := hg14
    refine os 9 ?_
    refine kp [74, 0, 3] ?_
    refine nt ?_
    refine cf ?_
    refine SW_skip (n_then ?_)
    rw [numEx_no1 (X := X) (t := (numFr X (runL isDig X a))) (by omega)]
    exact ⟨fun _ => rfl, ow⟩
   ·rintro ρ_ σ_ hfit
    rw [numE_dec (X := X) (a := a) (by omega)]
    exact hfit
 ·rintro ρ_ σ_ hfit
  refine SW_fits hfit ?_
  clear hfit
  refine SW_seq ?_
  have hel_ := numE_le (X := X) (a := a) (by omega)
  have heg_ := numE_ge X a
  refine SW_draw [(b, 0, .string (bS X)), (b, 1, .int .i64 (a : Int))] [0, 1, 2, 3, 4, 5, 6, 7, 8] (by kernel_rfl) (rd_cons (Cell.own mem_z rfl) (rd_cons (Cell.own mem_z rfl) rd_nil)) ?_
  refine aS 0 ?_
  refine aS 1 ?_
  refine aF 2 ?_
  refine aL 3 ?_
  refine aS 4 ?_
  refine aS 5 ?_
  refine aF 6 ?_
  refine aL 7 ?_
  refine aS 8 ?_
  refine tk 9 (.string (bS ((X.take ((numE X a : Int)).toNat).drop ((a : Int)).toNat))) ?_ (hy := fun δ w => run_strMid (l := X) (a : Int) (numE X a : Int) .i64 .i64 Tryz.underlying9 rfl rfl rfl (by omega) (by omega) (by omega))
  rw [show ((numE X a : Int)).toNat = (numE X a) from by omega, show ((a : Int)).toNat = a from by omega]
  refine kpA [117, 0, 3] ?_
  refine sa1 false 10 (h := cl (num_Literal (X := ((X.take (numE X a)).drop a)) (by simp; omega)) ?_)
  rintro v12 _ hv12
  obtain rfl : v12 = .tuple #[.int .u64 ((litP ((X.take (numE X a)).drop a)).1 : Int), .bool ((litP ((X.take (numE X a)).drop a)).2)] := hv12.trans (rfl)
  try simp only [List.cons_append, List.append_assoc, List.nil_append]
  refine ⟨fun hnd => (by cases hnd), ?_⟩
  refine aS 11 ?_
  refine aS 12 ?_
  refine aS 13 ?_
  refine aS 14 ?_
  refine aS 15 ?_
  refine SA_done (by kernel_rfl) (n_then ?_)
  refine SW_seq ?_
  refine sr ?_
  refine os 3 ?_
  refine kp [123, 5, 4, 0, 3] ?_
  refine tb 123 (fun hg19 => ?_) (fun hg19 => ?_)
  ·replace hg19 : (!((litP ((X.take (numE X a)).drop a)).2)) = true := hg19
   replace hg19 := bnot_t hg19
   refine os 17 ?_
   refine kp [140, 5, 4, 0, 3] ?_
   refine nt ?_
   refine ct ?_
   refine sr ?_
   refine os 1 ?_
   refine nt ?_
   refine SW_ret (r_then ?_)
   refine body_end (.int .i64 54) (fun _ => rfl) ?_
   have hr_ : numR X a = .bad 54 := numR_bad1 hg19
   rw [hr_]
   exact ⟨g, (ow (S := ((b, .cells 50 3 [.string (bS X), .int .i64 (a : Int), Gs.val g l.length]) :: (Gs.ent 46 4 g (l.flatMap Tok.cells))))), rfl, hk⟩
  replace hg19 : (!((litP ((X.take (numE X a)).drop a)).2)) = false := hg19
  replace hg19 := bnot_f hg19
  refine os 4 ?_
  refine L (ld ?_)
  refine oX (.int .i64 ((bS X).size : Int)) (.int .i64 (X.length : Int)) (congrArg (fun n_ : Nat => Value.int .i64 (n_ : Int)) (bS_size _)) ?_
  refine os 2 ?_
  refine kp [131, 123, 5, 4, 0, 3] ?_
  refine tbp 131 (fun hg20 => ?_) (fun hg20 => ?_)
  ·replace hg20 : (numE X a : Int) < (X.length : Int) := hg20
   refine os 3 ?_
   refine L (ld ?_)
   refine os 1 ?_
   obtain ⟨e9, he9⟩ : ∃ y_, X[(numE X a)]? = some y_ := ⟨_, List.getElem?_eq_getElem (by omega)⟩
   refine ixb (numE X a : Int) X .i64 e9 Tryz.underlying9 (by rw [show ((numE X a : Int)).toNat = (numE X a) from by omega]; exact he9) ?_
   refine L (cl (lex_small (c := e9)) ?_)
   rintro _ _ rfl
   refine un ?_
   refine os 2 ?_
   refine kp [140, 5, 4, 0, 3] ?_
   refine nt ?_
   refine cd (fun hc21 : (isSm e9) = true => ?_) (fun hc21 => ?_)
   ·refine sr ?_
    refine os 1 ?_
    refine nt ?_
    refine SW_ret (r_then ?_)
    refine body_end (.int .i64 54) (fun _ => rfl) ?_
    have hr_ : numR X a = .bad 54 := numR_bad2 he9 hc21
    rw [hr_]
    exact ⟨g, (ow (S := ((b, .cells 50 3 [.string (bS X), .int .i64 (a : Int), Gs.val g l.length]) :: (Gs.ent 46 4 g (l.flatMap Tok.cells))))), rfl, hk⟩
   refine SW_skip (n_then ?_)
   refine sr ?_
   refine os 3 ?_
   refine L (cl (lex_putZ (X := X) (T := []) (a := a) (num := ((litP ((X.take (numE X a)).drop a)).1)) (too := (numE X a)) (z := (numE X a : Int)) (kind := 3) (l := l) (by omega) hk (by omega)) ?_)
   rintro _ q22 ⟨rfl, hkq22⟩
   refine un ?_
   refine nsr ?_
   refine os 1 ?_
   refine kp [2, 140, 5, 4, 0, 3] ?_
   refine nt ?_
   refine SW_ret ?_
   refine body_end (.int .i64 0) (fun _ => rfl) ?_
   have hr_ : numR X a = .tok 3 [] (litP ((X.take (numE X a)).drop a)).1 (numE X a) := numR_ok2 hg19 he9 hc21
   rw [hr_]
   exact ⟨q22, (ow (S := ((b, .cells 50 3 [.string (bS X), .int .i64 ((numE X a) : Int), Gs.val q22 (l ++ [(⟨3, a, [], (litP ((X.take (numE X a)).drop a)).1⟩ : Tok)]).length]) :: (Gs.ent 46 4 q22 ((l ++ [(⟨3, a, [], (litP ((X.take (numE X a)).drop a)).1⟩ : Tok)]).flatMap Tok.cells))))), rfl, hkq22⟩
  replace hg20 : ¬ ((numE X a : Int) < (X.length : Int)) := hg20
  refine os 9 ?_
  refine kp [140, 5, 4, 0, 3] ?_
  refine nt ?_
  refine cf ?_
  refine SW_skip (n_then ?_)
  refine sr ?_
  refine os 3 ?_
  refine L (cl (lex_putZ (X := X) (T := []) (a := a) (num := ((litP ((X.take (numE X a)).drop a)).1)) (too := (numE X a)) (z := (numE X a : Int)) (kind := 3) (l := l) (by omega) hk (by omega)) ?_)
  rintro _ q23 ⟨rfl, hkq23⟩
  refine un ?_
  refine nsr ?_
  refine os 1 ?_
  refine kp [2, 140, 5, 4, 0, 3] ?_
  refine nt ?_
  refine SW_ret ?_
  refine body_end (.int .i64 0) (fun _ => rfl) ?_
  have hr_ : numR X a = .tok 3 [] (litP ((X.take (numE X a)).drop a)).1 (numE X a) := numR_ok1 hg19 (by omega)
  rw [hr_]
  exact ⟨q23, (ow (S := ((b, .cells 50 3 [.string (bS X), .int .i64 ((numE X a) : Int), Gs.val q23 (l ++ [(⟨3, a, [], (litP ((X.take (numE X a)).drop a)).1⟩ : Tok)]).length]) :: (Gs.ent 46 4 q23 ((l ++ [(⟨3, a, [], (litP ((X.take (numE X a)).drop a)).1⟩ : Tok)]).flatMap Tok.cells))))), rfl, hkq23⟩

end Go.Proofs.YtnhmmjogfkjceaaGreatDoor
namespace Go.Proofs.YtnhmmjogfkjceaaGreatDoor
open Go.Sl

theorem lex_escape {W0 : World} {Y : Bytes} (hY : Y.length ≤ 1048576) : SC Tryz.prog W0 113 #[.string (bS Y)] [] (Ret (fun _ : Unit => []) (fun v _ => v = .tuple #[.int .u8 ((escP Y).1.toNat : Int), .int .i64 ((escP Y).2 : Int)])) := by
 refine SC_body (fn := Tryz.f113) (n := 41) Tryz.func113 rfl (by kernel_rfl) (ρ := [(0, .string (bS Y))]) rfl ?_
 refine sr ?_
 refine os 2 ?_
 refine nq ?_
 refine sr ?_
 refine os 1 ?_
 refine oX (.int .i64 ((bS Y).size : Int)) (.int .i64 (Y.length : Int)) (congrArg (fun n_ : Nat => Value.int .i64 (n_ : Int)) (bS_size _)) ?_
 refine os 2 ?_
 refine tbp 8 (fun hg1 => ?_) (fun hg1 => ?_)
 ·replace hg1 : (Y.length : Int) > 3 := hg1
  refine os 1 ?_
  obtain ⟨e1, he1⟩ : ∃ y_, Y[1]? = some y_ := ⟨_, List.getElem?_eq_getElem (by omega)⟩
  refine ixb 1 Y .i64 e1 Tryz.underlying9 he1 ?_
  refine os 3 ?_
  refine kp [13, 3, 2, 0] ?_
  refine tb 13 (fun hg2 => ?_) (fun hg2 => ?_)
  ·replace hg2 : ((e1.toNat : Int) == 120) = true := hg2
   simp only [beq_iff_eq, bne_iff_ne, ne_eq, beq_eq_false_iff_ne, bne_eq_false_iff_eq, Classical.not_not] at hg2
   refine os 1 ?_
   obtain ⟨e2, he2⟩ : ∃ y_, Y[2]? = some y_ := ⟨_, List.getElem?_eq_getElem (by omega)⟩
   refine ixb 2 Y .i64 e2 Tryz.underlying9 he2 ?_
   refine L (cl (lex_base (c := e2)) ?_)
   rintro _ _ rfl
   refine un ?_
   refine os 2 ?_
   refine tb 18 (fun hg3 => ?_) (fun hg3 => ?_)
   ·replace hg3 : (isHx e2) = true := hg3
    refine os 1 ?_
    obtain ⟨e3, he3⟩ : ∃ y_, Y[3]? = some y_ := ⟨_, List.getElem?_eq_getElem (by omega)⟩
    refine ixb 3 Y .i64 e3 Tryz.underlying9 he3 ?_
    refine L (cl (lex_base (c := e3)) ?_)
    rintro _ _ rfl
    refine un ?_
    refine os 1 ?_
    refine kp [22, 3, 2, 0] ?_
    refine nt ?_
    refine cd (fun hc4 : (isHx e3) = true => ?_) (fun hc4 => ?_)
    ·refine SW_seq ?_
     have hn2_ := nibV_lt hg3
     have hn3_ := nibV_lt hc4
     refine SW_draw [] [] (by kernel_rfl) rd_nil ?_
     refine aS 0 ?_
     refine tk 1 (.int .u8 (e2.toNat : Int)) ?_ (hy := fun δ w => run_indexB 2 Y .i64 e2 Tryz.underlying9 rfl rfl (by omega) he2)
     refine aS 4 ?_
     refine tk 5 (.int .u8 (e3.toNat : Int)) ?_ (hy := fun δ w => run_indexB 3 Y .i64 e3 Tryz.underlying9 rfl rfl (by omega) he3)
     refine sa1 false 2 (h := cl (lex_nibble hg3) ?_)
     rintro _ _ rfl
     try simp only [List.cons_append, List.append_assoc, List.nil_append]
     refine ⟨fun hnd => (by cases hnd), ?_⟩
     refine tk 3 (.int .u8 (IntKind.wrap .u8 ((nibV e2 : Int) * 16))) ?_
     rw [show IntKind.wrap .u8 ((nibV e2 : Int) * 16) = (nibV e2 : Int) * 16 from IntWalk.u8_in _ (by omega)]
     refine sa1 false 6 (h := cl (lex_nibble hc4) ?_)
     rintro _ _ rfl
     try simp only [List.cons_append, List.append_assoc, List.nil_append]
     refine ⟨fun hnd => (by cases hnd), ?_⟩
     refine tk 7 (.int .u8 ((nib16 e2 e3).toNat : Int)) ?_ (hy := or8R (m := (nibV e2 : Int) * 16) (c := (nibV e3 : Int)) _ (by rw [nib16_at hn2_ hn3_]; exact or_nib8 hn2_ hn3_))
     refine aS 8 ?_
     refine kpA [2, 22, 3, 0] ?_
     refine aS 9 ?_
     refine SA_done (by kernel_rfl) (n_then ?_)
     refine SW_ret (r_then ?_)
     refine body_end (.tuple #[.int .u8 ((nib16 e2 e3).toNat : Int), .int .i64 4]) (fun _ => rfl) ?_
     have he_ : escP Y = (nib16 e2 e3, 4) := by have := escP_hex (Y := Y) (by omega) (by rw [atB_some he1]; omega) (by rw [atB_some he2]; assumption) (by rw [atB_some he3]; assumption); rwa [atB_some he2, atB_some he3] at this
     rw [he_]
     exact ⟨(), ow, rfl⟩
    refine SW_skip (n_then ?_)
    refine SW_seq ?_
    refine sr ?_
    refine os 1 ?_
    refine oX (.int .i64 ((bS Y).size : Int)) (.int .i64 (Y.length : Int)) (congrArg (fun n_ : Nat => Value.int .i64 (n_ : Int)) (bS_size _)) ?_
    refine os 1 ?_
    refine nt ?_
    refine cdp (fun hc5 : (Y.length : Int) < 2 => ?_) (fun hc5 => ?_)
    ·refine sr ?_
     refine os 2 ?_
     refine nt ?_
     refine SW_ret (r_then ?_)
     refine body_end (.tuple #[.int .u8 0, .int .i64 0]) (fun _ => rfl) ?_
     have hnx_ : ¬ (Y.length > 3 ∧ (atB Y 1).toNat = 120 ∧ isHx (atB Y 2) = true ∧ isHx (atB Y 3) = true) := by rintro ⟨q1, q2, q3, q4⟩; try rw [atB_some he1] at q2; try rw [atB_some he2] at q3; try rw [atB_some he3] at q4; first | omega | simp_all
     rw [escP_short hnx_ (by omega)]
     exact ⟨(), ow, rfl⟩
    refine SW_skip (n_then ?_)
    refine sr ?_
    refine os 1 ?_
    refine ixb 1 Y .i64 e1 Tryz.underlying9 he1 ?_
    refine L (cl (str_IndexByte [110, 116, 92, 39, 34] e1) ?_)
    rintro _ _ rfl
    refine un ?_
    refine os 1 ?_
    refine kp [4, 33, 22, 3, 2, 0] ?_
    refine nq ?_
    refine sr ?_
    refine os 2 ?_
    refine nt ?_
    refine cdp (fun hc6 : (Lib.indexByte [110, 116, 92, 39, 34] e1) < 0 => ?_) (fun hc6 => ?_)
    ·refine sr ?_
     refine os 2 ?_
     refine nt ?_
     refine SW_ret (r_then ?_)
     refine body_end (.tuple #[.int .u8 0, .int .i64 0]) (fun _ => rfl) ?_
     have hnx_ : ¬ (Y.length > 3 ∧ (atB Y 1).toNat = 120 ∧ isHx (atB Y 2) = true ∧ isHx (atB Y 3) = true) := by rintro ⟨q1, q2, q3, q4⟩; try rw [atB_some he1] at q2; try rw [atB_some he2] at q3; try rw [atB_some he3] at q4; first | omega | simp_all
     rw [escP_none hnx_ (by omega) (by rw [atB_some he1]; assumption)]
     exact ⟨(), ow, rfl⟩
    refine SW_skip (n_then ?_)
    refine SW_seq ?_
    have hix_ : (Lib.indexByte [110, 116, 92, 39, 34] e1).toNat < [10, 9, 92, 39, 34].length := idx_lt e1
    refine SW_region ?_
    refine os 1 ?_
    obtain ⟨e4, he4⟩ : ∃ y_, escB[((Lib.indexByte [110, 116, 92, 39, 34] e1)).toNat]? = some y_ := ⟨_, List.getElem?_eq_getElem (by exact hix_)⟩
    refine ixb (Lib.indexByte [110, 116, 92, 39, 34] e1) escB .i64 e4 Tryz.underlying9 (by rw [show ((Lib.indexByte [110, 116, 92, 39, 34] e1)).toNat = ((Lib.indexByte [110, 116, 92, 39, 34] e1)).toNat from by omega]; exact he4) ?_
    refine os 2 ?_
    refine kp [3, 2, 38, 4, 33, 22, 0] ?_
    refine nt ?_
    refine SW_ret ?_
    refine body_end (.tuple #[.int .u8 (e4.toNat : Int), .int .i64 2]) (fun _ => rfl) ?_
    have hnx_ : ¬ (Y.length > 3 ∧ (atB Y 1).toNat = 120 ∧ isHx (atB Y 2) = true ∧ isHx (atB Y 3) = true) := by rintro ⟨q1, q2, q3, q4⟩; try rw [atB_some he1] at q2; try rw [atB_some he2] at q3; try rw [atB_some he3] at q4; first | omega | simp_all
    rw [escP_one hnx_ (by omega) (by rw [atB_some he1]; assumption), atB_some he1, atB_some he4]
    exact ⟨(), ow, rfl⟩
   replace hg3 : (isHx e2) = false := hg3
   refine os 4 ?_
   refine kp [22, 3, 2, 0] ?_
   refine nt ?_
   refine cf ?_
   refine SW_skip (n_then ?_)
   refine SW_seq ?_
   refine sr ?_
   refine os 1 ?_
   refine oX (.int .i64 ((bS Y).size : Int)) (.int .i64 (Y.length : Int)) (congrArg (fun n_ : Nat => Value.int .i64 (n_ : Int)) (bS_size _)) ?_
   refine os 1 ?_
   refine nt ?_
   refine cdp (fun hc7 : (Y.length : Int) < 2 => ?_) (fun hc7 => ?_)
   ·refine sr ?_
    refine os 2 ?_
    refine nt ?_
    refine SW_ret (r_then ?_)
    refine body_end (.tuple #[.int .u8 0, .int .i64 0]) (fun _ => rfl) ?_
    have hnx_ : ¬ (Y.length > 3 ∧ (atB Y 1).toNat = 120 ∧ isHx (atB Y 2) = true ∧ isHx (atB Y 3) = true) := by rintro ⟨q1, q2, q3, q4⟩; try rw [atB_some he1] at q2; try rw [atB_some he2] at q3; first | omega | simp_all
    rw [escP_short hnx_ (by omega)]
    exact ⟨(), ow, rfl⟩
   refine SW_skip (n_then ?_)
   refine sr ?_
   refine os 1 ?_
   refine ixb 1 Y .i64 e1 Tryz.underlying9 he1 ?_
   refine L (cl (str_IndexByte [110, 116, 92, 39, 34] e1) ?_)
   rintro _ _ rfl
   refine un ?_
   refine os 1 ?_
   refine kp [4, 33, 22, 3, 2, 0] ?_
   refine nq ?_
   refine sr ?_
   refine os 2 ?_
   refine nt ?_
   refine cdp (fun hc8 : (Lib.indexByte [110, 116, 92, 39, 34] e1) < 0 => ?_) (fun hc8 => ?_)
   ·refine sr ?_
    refine os 2 ?_
    refine nt ?_
    refine SW_ret (r_then ?_)
    refine body_end (.tuple #[.int .u8 0, .int .i64 0]) (fun _ => rfl) ?_
    have hnx_ : ¬ (Y.length > 3 ∧ (atB Y 1).toNat = 120 ∧ isHx (atB Y 2) = true ∧ isHx (atB Y 3) = true) := by rintro ⟨q1, q2, q3, q4⟩; try rw [atB_some he1] at q2; try rw [atB_some he2] at q3; first | omega | simp_all
    rw [escP_none hnx_ (by omega) (by rw [atB_some he1]; assumption)]
    exact ⟨(), ow, rfl⟩
   refine SW_skip (n_then ?_)
   refine SW_seq ?_
   have hix_ : (Lib.indexByte [110, 116, 92, 39, 34] e1).toNat < [10, 9, 92, 39, 34].length := idx_lt e1
   refine SW_region ?_
   refine os 1 ?_
   obtain ⟨e5, he5⟩ : ∃ y_, escB[((Lib.indexByte [110, 116, 92, 39, 34] e1)).toNat]? = some y_ := ⟨_, List.getElem?_eq_getElem (by exact hix_)⟩
   refine ixb (Lib.indexByte [110, 116, 92, 39, 34] e1) escB .i64 e5 Tryz.underlying9 (by rw [show ((Lib.indexByte [110, 116, 92, 39, 34] e1)).toNat = ((Lib.indexByte [110, 116, 92, 39, 34] e1)).toNat from by omega]; exact he5) ?_
   refine os 2 ?_
   refine kp [3, 2, 38, 4, 33, 22, 0] ?_
   refine nt ?_
   refine SW_ret ?_
   refine body_end (.tuple #[.int .u8 (e5.toNat : Int), .int .i64 2]) (fun _ => rfl) ?_
   have hnx_ : ¬ (Y.length > 3 ∧ (atB Y 1).toNat = 120 ∧ isHx (atB Y 2) = true ∧ isHx (atB Y 3) = true) := by rintro ⟨q1, q2, q3, q4⟩; try rw [atB_some he1] at q2; try rw [atB_some he2] at q3; first | omega | simp_all
   rw [escP_one hnx_ (by omega) (by rw [atB_some he1]; assumption), atB_some he1, atB_some he5]
   exact ⟨(), ow, rfl⟩
  replace hg2 : ((e1.toNat : Int) == 120) = false := hg2
  simp only [beq_iff_eq, bne_iff_ne, ne_eq, beq_eq_false_iff_ne, bne_eq_false_iff_eq, Classical.not_not] at hg2
  refine os 9 ?_
  refine kp [22, 3, 2, 0] ?_
  refine nt ?_
  refine cf ?_
  refine SW_skip (n_then ?_)
  refine SW_seq ?_
  refine sr ?_
  refine os 1 ?_
  refine oX (.int .i64 ((bS Y).size : Int)) (.int .i64 (Y.length : Int)) (congrArg (fun n_ : Nat => Value.int .i64 (n_ : Int)) (bS_size _)) ?_
  refine os 1 ?_
  refine nt ?_
  refine cdp (fun hc9 : (Y.length : Int) < 2 => ?_) (fun hc9 => ?_)
  ·refine sr ?_
   refine os 2 ?_
   refine nt ?_
   refine SW_ret (r_then ?_)
   refine body_end (.tuple #[.int .u8 0, .int .i64 0]) (fun _ => rfl) ?_
   have hnx_ : ¬ (Y.length > 3 ∧ (atB Y 1).toNat = 120 ∧ isHx (atB Y 2) = true ∧ isHx (atB Y 3) = true) := by rintro ⟨q1, q2, q3, q4⟩; try rw [atB_some he1] at q2; first | omega | simp_all
   rw [escP_short hnx_ (by omega)]
   exact ⟨(), ow, rfl⟩
  refine SW_skip (n_then ?_)
  refine sr ?_
  refine os 1 ?_
  refine ixb 1 Y .i64 e1 Tryz.underlying9 he1 ?_
  refine L (cl (str_IndexByte [110, 116, 92, 39, 34] e1) ?_)
  rintro _ _ rfl
  refine un ?_
  refine os 1 ?_
  refine kp [4, 33, 22, 3, 2, 0] ?_
  refine nq ?_
  refine sr ?_
  refine os 2 ?_
  refine nt ?_
  refine cdp (fun hc10 : (Lib.indexByte [110, 116, 92, 39, 34] e1) < 0 => ?_) (fun hc10 => ?_)
  ·refine sr ?_
   refine os 2 ?_
   refine nt ?_
   refine SW_ret (r_then ?_)
   refine body_end (.tuple #[.int .u8 0, .int .i64 0]) (fun _ => rfl) ?_
   have hnx_ : ¬ (Y.length > 3 ∧ (atB Y 1).toNat = 120 ∧ isHx (atB Y 2) = true ∧ isHx (atB Y 3) = true) := by rintro ⟨q1, q2, q3, q4⟩; try rw [atB_some he1] at q2; first | omega | simp_all
   rw [escP_none hnx_ (by omega) (by rw [atB_some he1]; assumption)]
   exact ⟨(), ow, rfl⟩
  refine SW_skip (n_then ?_)
  refine SW_seq ?_
  have hix_ : (Lib.indexByte [110, 116, 92, 39, 34] e1).toNat < [10, 9, 92, 39, 34].length := idx_lt e1
  refine SW_region ?_
  refine os 1 ?_
  obtain ⟨e6, he6⟩ : ∃ y_, escB[((Lib.indexByte [110, 116, 92, 39, 34] e1)).toNat]? = some y_ := ⟨_, List.getElem?_eq_getElem (by exact hix_)⟩
  refine ixb (Lib.indexByte [110, 116, 92, 39, 34] e1) escB .i64 e6 Tryz.underlying9 (by rw [show ((Lib.indexByte [110, 116, 92, 39, 34] e1)).toNat = ((Lib.indexByte [110, 116, 92, 39, 34] e1)).toNat from by omega]; exact he6) ?_
  refine os 2 ?_
  refine kp [3, 2, 38, 4, 33, 22, 0] ?_
  refine nt ?_
  refine SW_ret ?_
  refine body_end (.tuple #[.int .u8 (e6.toNat : Int), .int .i64 2]) (fun _ => rfl) ?_
  have hnx_ : ¬ (Y.length > 3 ∧ (atB Y 1).toNat = 120 ∧ isHx (atB Y 2) = true ∧ isHx (atB Y 3) = true) := by rintro ⟨q1, q2, q3, q4⟩; try rw [atB_some he1] at q2; first | omega | simp_all
  rw [escP_one hnx_ (by omega) (by rw [atB_some he1]; assumption), atB_some he1, atB_some he6]
  exact ⟨(), ow, rfl⟩
 replace hg1 : ¬ ((Y.length : Int) > 3) := hg1
 refine os 14 ?_
 refine kp [22, 3, 2, 0] ?_
 refine nt ?_
 refine cf ?_
 refine SW_skip (n_then ?_)
 refine SW_seq ?_
 refine sr ?_
 refine os 1 ?_
 refine oX (.int .i64 ((bS Y).size : Int)) (.int .i64 (Y.length : Int)) (congrArg (fun n_ : Nat => Value.int .i64 (n_ : Int)) (bS_size _)) ?_
 refine os 1 ?_
 refine nt ?_
 refine cdp (fun hc11 : (Y.length : Int) < 2 => ?_) (fun hc11 => ?_)
 ·refine sr ?_
  refine os 2 ?_
  refine nt ?_
  refine SW_ret (r_then ?_)
  refine body_end (.tuple #[.int .u8 0, .int .i64 0]) (fun _ => rfl) ?_
  have hnx_ : ¬ (Y.length > 3 ∧ (atB Y 1).toNat = 120 ∧ isHx (atB Y 2) = true ∧ isHx (atB Y 3) = true) := by rintro ⟨q1, q2, q3, q4⟩; first | omega | simp_all
  rw [escP_short hnx_ (by omega)]
  exact ⟨(), ow, rfl⟩
 refine SW_skip (n_then ?_)
 refine sr ?_
 refine os 1 ?_
 obtain ⟨e7, he7⟩ : ∃ y_, Y[1]? = some y_ := ⟨_, List.getElem?_eq_getElem (by omega)⟩
 refine ixb 1 Y .i64 e7 Tryz.underlying9 he7 ?_
 refine L (cl (str_IndexByte [110, 116, 92, 39, 34] e7) ?_)
 rintro _ _ rfl
 refine un ?_
 refine os 1 ?_
 refine kp [4, 33, 22, 3, 2, 0] ?_
 refine nq ?_
 refine sr ?_
 refine os 2 ?_
 refine nt ?_
 refine cdp (fun hc12 : (Lib.indexByte [110, 116, 92, 39, 34] e7) < 0 => ?_) (fun hc12 => ?_)
 ·refine sr ?_
  refine os 2 ?_
  refine nt ?_
  refine SW_ret (r_then ?_)
  refine body_end (.tuple #[.int .u8 0, .int .i64 0]) (fun _ => rfl) ?_
  have hnx_ : ¬ (Y.length > 3 ∧ (atB Y 1).toNat = 120 ∧ isHx (atB Y 2) = true ∧ isHx (atB Y 3) = true) := by rintro ⟨q1, q2, q3, q4⟩; try rw [atB_some he7] at q2; first | omega | simp_all
  rw [escP_none hnx_ (by omega) (by rw [atB_some he7]; assumption)]
  exact ⟨(), ow, rfl⟩
 refine SW_skip (n_then ?_)
 refine SW_seq ?_
 have hix_ : (Lib.indexByte [110, 116, 92, 39, 34] e7).toNat < [10, 9, 92, 39, 34].length := idx_lt e7
 refine SW_region ?_
 refine os 1 ?_
 obtain ⟨e8, he8⟩ : ∃ y_, escB[((Lib.indexByte [110, 116, 92, 39, 34] e7)).toNat]? = some y_ := ⟨_, List.getElem?_eq_getElem (by exact hix_)⟩
 refine ixb (Lib.indexByte [110, 116, 92, 39, 34] e7) escB .i64 e8 Tryz.underlying9 (by rw [show ((Lib.indexByte [110, 116, 92, 39, 34] e7)).toNat = ((Lib.indexByte [110, 116, 92, 39, 34] e7)).toNat from by omega]; exact he8) ?_
 refine os 2 ?_
 refine kp [3, 2, 38, 4, 33, 22, 0] ?_
 refine nt ?_
 refine SW_ret ?_
 refine body_end (.tuple #[.int .u8 (e8.toNat : Int), .int .i64 2]) (fun _ => rfl) ?_
 have hnx_ : ¬ (Y.length > 3 ∧ (atB Y 1).toNat = 120 ∧ isHx (atB Y 2) = true ∧ isHx (atB Y 3) = true) := by rintro ⟨q1, q2, q3, q4⟩; try rw [atB_some he7] at q2; first | omega | simp_all
 rw [escP_one hnx_ (by omega) (by rw [atB_some he7]; assumption), atB_some he7, atB_some he8]
 exact ⟨(), ow, rfl⟩

theorem lex_WriteByte {W0 : World} {q : Nat} {p : Value} {c : UInt8} {z : Int} {h : Gs} {m : Bytes} (hp : p = .pointer none ∨ p = pt q 0) (hz : z = (c.toNat : Int)) (hk : Gs.ok 1 m.length h (m.map u8V)) (hm : m.length ≤ 2097152) : SC Tryz.prog W0 114 #[pt q 0, .int .u8 z] ((q, .cells 97 2 [p, Gs.val h m.length]) :: (Gs.ent 5 1 h (m.map u8V))) (Ret (fun r : Gs => (q, .cells 97 2 [pt q 0, Gs.val r (m ++ [c]).length]) :: (Gs.ent 5 1 r ((m ++ [c]).map u8V))) (fun v r => v = .nilIface ∧ Gs.ok 1 (m ++ [c]).length r ((m ++ [c]).map u8V))) := by
 subst hz
 rcases hp with rfl | rfl
 · exact lex_WriteByte_fresh hk hm
 · exact lex_WriteByte_used hk hm
theorem lex_String {W0 : World} {q : Nat} {p : Value} {h : Gs} {m : Bytes} (hk : Gs.ok 1 m.length h (m.map u8V)) (hm : m = [] → h = Gs.nil) : SC Tryz.prog W0 83 #[pt q 0] ((q, .cells 97 2 [p, Gs.val h m.length]) :: (Gs.ent 5 1 h (m.map u8V))) (Ret (fun _ : Unit => []) (fun v _ => v = .string (bS m))) := by
 cases h with
 | nil =>
   obtain ⟨_, h2⟩ := hk
   obtain rfl : m = [] := by simpa using h2
   exact lex_String_nil
 | «at» x y => exact lex_String_at hk fun e => by cases hm e

theorem lex_text {W0 : World} (hL : LaidL W0) {X : Bytes} {a b : Nat} {g : Gs} {l : List Tok} (hk : Gs.ok 4 l.length g (l.flatMap Tok.cells)) (hX : X.length ≤ 1048576) (hl : l.length ≤ 2097152) (ha : a < X.length) : SC Tryz.prog W0 59 #[pt b 0] ((b, .cells 50 3 [.string (bS X), .int .i64 (a : Int), Gs.val g l.length]) :: (Gs.ent 46 4 g (l.flatMap Tok.cells))) (Ret (fun q : Gs => (b, .cells 50 3 [.string (bS X), .int .i64 ((textR X a).past a : Int), Gs.val q ((textR X a).toks a l).length]) :: (Gs.ent 46 4 q (((textR X a).toks a l).flatMap Tok.cells))) (fun v q => v = .int .i64 (textR X a).err ∧ Gs.ok 4 ((textR X a).toks a l).length q (((textR X a).toks a l).flatMap Tok.cells))) := by
 refine SC_body (fn := Tryz.f59) (n := 80) Tryz.func59 rfl (by kernel_rfl) (ρ := [(0, pt b 0)]) rfl ?_
 refine SW_sig ((b, .cells 50 3 [.string (bS X), .int .i64 (a : Int), Gs.val g l.length]) :: ((Gs.ent 46 4 g (l.flatMap Tok.cells)) ++ ([]))) (by simp only [List.append_nil, List.append_assoc]) ?_
 refine sr ?_
 refine os 1 ?_
 refine nsr ?_
 refine os 1 ?_
 refine L (cl (lex_peek (X := X) (a := a) (k := 0) (l := l) hk hX (by omega) (by decide)) ?_)
 rintro v1 _ hv1
 obtain rfl : v1 = .int .u8 ((atB X a).toNat : Int) := hv1.trans (rfl)
 refine un ?_
 refine os 1 ?_
 refine nsr ?_
 refine L (nw 97 2 [.pointer none, .slice none 0 0] ?_)
 intro b1
 refine nsr ?_
 refine os 3 ?_
 refine L (ld ?_)
 refine os 2 ?_
 refine kp [5, 4, 3, 2, 0] ?_
 refine nq ?_
 refine SW_block ?_
 refine SW_sig ((b1, .cells 97 2 [.pointer none, Gs.val Gs.nil (([] : Bytes).length)]) :: ((Gs.ent 5 1 Gs.nil (([] : Bytes).map u8V)) ++ ((b, .cells 50 3 [.string (bS X), .int .i64 (a : Int), Gs.val g l.length]) :: ((Gs.ent 46 4 g (l.flatMap Tok.cells)) ++ ([]))))) rfl ?_
 refine SW_loop (α := Nat × Nat × Gs × Bytes × Value) (fun z_ ρ_ σ_ => Fits ρ_ σ_ [(0, pt b 0), (3, .int .u8 ((atB X a).toNat : Int)), (4, pt b1 0), (5, .int .i64 (z_.2.1 : Int))] ((b1, .cells 97 2 [z_.2.2.2.2, Gs.val z_.2.2.1 z_.2.2.2.1.length]) :: ((Gs.ent 5 1 z_.2.2.1 (z_.2.2.2.1.map u8V)) ++ ((b, .cells 50 3 [.string (bS X), .int .i64 (a : Int), Gs.val g l.length]) :: ((Gs.ent 46 4 g (l.flatMap Tok.cells)) ++ ([]))))) ∧ z_.2.1 ≤ X.length ∧ X.length - z_.2.1 < z_.1 ∧ strE z_.1 X (atB X a) z_.2.1 z_.2.2.2.1 = strP X a ∧ Gs.ok 1 z_.2.2.2.1.length z_.2.2.1 (z_.2.2.2.1.map u8V) ∧ z_.2.2.2.1.length ≤ z_.2.1 ∧ (z_.2.2.2.1 = [] → z_.2.2.1 = Gs.nil) ∧ (z_.2.2.2.2 = .pointer none ∨ z_.2.2.2.2 = pt b1 0)) (fun z_ => X.length - z_.2.1) ((X.length + 1), (a + 1), Gs.nil, ([] : Bytes), (.pointer none)) ⟨⟨fun _ => rfl, ow⟩, by simp only []; omega, by simp only []; omega, rfl, ⟨rfl, rfl⟩, Nat.zero_le _, fun _ => rfl, .inl rfl⟩ ?_
 rintro ⟨f, n, h, m, p⟩ ρ_ σ_ ⟨hfit, hi0, hi1, hi2, hi3, hi4, hi5, hi6⟩
 refine SW_fits hfit ?_
 clear hfit
 simp only [] at hi0 hi1 hi2 hi3 hi4 hi5 hi6 ⊢
 obtain ⟨f, rfl⟩ : ∃ q_, f = q_ + 1 := ⟨f - 1, by omega⟩
 refine SW_seq ?_
 refine sr ?_
 refine os 4 ?_
 refine L (ld ?_)
 refine oX (.int .i64 ((bS X).size : Int)) (.int .i64 (X.length : Int)) (congrArg (fun n_ : Nat => Value.int .i64 (n_ : Int)) (bS_size _)) ?_
 refine os 2 ?_
 refine kp [23, 0, 3, 4, 5] ?_
 refine tbp 23 (fun hg2 => ?_) (fun hg2 => ?_)
 ·replace hg2 : (n : Int) < (X.length : Int) := hg2
  refine os 3 ?_
  refine L (ld ?_)
  refine os 1 ?_
  obtain ⟨e1, he1⟩ : ∃ y_, X[n]? = some y_ := ⟨_, List.getElem?_eq_getElem (by omega)⟩
  refine ixb (n : Int) X .i64 e1 Tryz.underlying9 he1 ?_
  refine os 3 ?_
  refine kp [32, 0, 3, 4, 5] ?_
  refine nt ?_
  refine cd (fun hc3 : ((e1.toNat : Int) != ((atB X a).toNat : Int)) = true => ?_) (fun hc3 => ?_)
  ·simp only [beq_iff_eq, bne_iff_ne, ne_eq, beq_eq_false_iff_ne, bne_eq_false_iff_eq, Classical.not_not] at hc3
   refine SW_skip (n_then ?_)
   refine SW_seq ?_
   refine SW_block ?_
   refine sr ?_
   refine os 3 ?_
   refine L (ld ?_)
   refine os 1 ?_
   refine ixb (n : Int) X .i64 e1 Tryz.underlying9 he1 ?_
   refine os 1 ?_
   refine kp [6, 32, 0, 3, 4, 5] ?_
   refine nq ?_
   refine sr ?_
   refine os 2 ?_
   refine nt ?_
   refine cd (fun hc4 : ((e1.toNat : Int) == 10) = true => ?_) (fun hc4 => ?_)
   ·simp only [beq_iff_eq, bne_iff_ne, ne_eq, beq_eq_false_iff_ne, bne_eq_false_iff_eq, Classical.not_not] at hc4
    refine sr ?_
    refine os 1 ?_
    refine nt ?_
    refine SW_ret (r_then (r_in (r_then (r_then (r_in (r_then ?_))))))
    refine body_end (.int .i64 55) (fun _ => rfl) ?_
    have hne_ : atB X n ≠ atB X a := fun q_ => hc3 (by rw [← atB_some he1, q_])
    have hen_ := atB_some he1
    have hen2_ : (atB X n).toNat = e1.toNat := by rw [hen_]
    rw [strE_nl (by omega) hne_ (by omega)] at hi2
    have hr_ : textR X a = .bad 55 := textR_none hi2.symm
    rw [hr_]
    exact ⟨g, (ow (S := ((b, .cells 50 3 [.string (bS X), .int .i64 (a : Int), Gs.val g l.length]) :: (Gs.ent 46 4 g (l.flatMap Tok.cells))))), rfl, hk⟩
   simp only [beq_iff_eq, bne_iff_ne, ne_eq, beq_eq_false_iff_ne, bne_eq_false_iff_eq, Classical.not_not] at hc4
   refine SW_skip (n_then ?_)
   refine SW_seq ?_
   refine sr ?_
   refine os 2 ?_
   refine nt ?_
   refine cd (fun hc5 : ((e1.toNat : Int) == 92) = true => ?_) (fun hc5 => ?_)
   ·simp only [beq_iff_eq, bne_iff_ne, ne_eq, beq_eq_false_iff_ne, bne_eq_false_iff_eq, Classical.not_not] at hc5
    refine SW_seq ?_
    have hei_ := escP_in (X.drop n)
    rw [List.length_drop] at hei_
    refine SW_region ?_
    refine os 3 ?_
    refine L (ld ?_)
    refine os 1 ?_
    refine L (O_val (.string (bS (X.drop ((n : Int)).toNat))) rfl (fun δ w _ => run_strFrom (l := X) (n : Int) .i64 Tryz.underlying9 rfl rfl (by omega) (by omega)) ?_)
    rw [show ((n : Int)).toNat = n from by omega]
    refine L (cl (lex_escape (Y := (X.drop n)) (by simp; omega)) ?_)
    rintro _ _ rfl
    refine un ?_
    refine os 5 ?_
    refine kp [8, 7, 44, 42, 6, 32, 0, 3, 4, 5] ?_
    refine nq ?_
    refine sr ?_
    refine os 2 ?_
    refine nt ?_
    refine cd (fun hc6 : (((escP (X.drop n)).2 : Int) == 0) = true => ?_) (fun hc6 => ?_)
    ·simp only [beq_iff_eq, bne_iff_ne, ne_eq, beq_eq_false_iff_ne, bne_eq_false_iff_eq, Classical.not_not] at hc6
     refine sr ?_
     refine os 1 ?_
     refine nt ?_
     refine SW_ret (r_then (r_then (r_in (r_then (r_then (r_in (r_then ?_)))))))
     refine body_end (.int .i64 55) (fun _ => rfl) ?_
     have hne_ : atB X n ≠ atB X a := fun q_ => hc3 (by rw [← atB_some he1, q_])
     have hen_ := atB_some he1
     have hen2_ : (atB X n).toNat = e1.toNat := by rw [hen_]
     rw [strE_no (by omega) hne_ (by omega) (by omega)] at hi2
     have hr_ : textR X a = .bad 55 := textR_none hi2.symm
     rw [hr_]
     exact ⟨g, (ow (S := ((b, .cells 50 3 [.string (bS X), .int .i64 (a : Int), Gs.val g l.length]) :: (Gs.ent 46 4 g (l.flatMap Tok.cells))))), rfl, hk⟩
    simp only [beq_iff_eq, bne_iff_ne, ne_eq, beq_eq_false_iff_ne, bne_eq_false_iff_eq, Classical.not_not] at hc6
    refine SW_skip (n_then ?_)
    refine SW_region ?_
    refine os 7 ?_
    refine kp [5, 6, 56, 8, 7, 44, 42, 32, 0, 3, 4] ?_
    refine nr ?_
    refine os 1 ?_
    refine L (cl (lex_WriteByte (q := b1) (p := p) (c := (escP (X.drop n)).1) (m := m) hi6 rfl hi3 (by omega)) ?_)
    rintro _ r7 ⟨rfl, hkr7⟩
    refine un ?_
    have hmlr7 : (m ++ [(escP (X.drop n)).1]).length = m.length + 1 := by simp
    refine SL_nil (n_in (n_then ?_))
    refine SW_region ?_
    refine os 3 ?_
    refine kp [5, 6, 56, 8, 7, 44, 42, 32, 0, 3, 4] ?_
    refine nt ?_
    have hne_ : atB X n ≠ atB X a := fun q_ => hc3 (by rw [← atB_some he1, q_])
    have hen_ := atB_some he1
    have hen2_ : (atB X n).toNat = e1.toNat := by rw [hen_]
    rw [strE_esc (by omega) hne_ (by omega) (by omega)] at hi2
    rw [show (((n : Int) + ((escP (X.drop n)).2 : Int)) - 1) + 1 = (((n + (escP (X.drop n)).2) : Nat) : Int) from by omega]
    exact ⟨(f, (n + (escP (X.drop n)).2), r7, (m ++ [(escP (X.drop n)).1]), pt b1 0), by simp only []; omega, ⟨fun _ => rfl, ow⟩, by simp only []; omega, by simp only []; omega, hi2, hkr7, by simp only []; omega, fun q_ => by simp at q_, .inr rfl⟩
   simp only [beq_iff_eq, bne_iff_ne, ne_eq, beq_eq_false_iff_ne, bne_eq_false_iff_eq, Classical.not_not] at hc5
   refine SW_skip (n_then ?_)
   refine SW_region ?_
   refine os 1 ?_
   refine L (cl (lex_WriteByte (q := b1) (p := p) (c := e1) (m := m) hi6 rfl hi3 (by omega)) ?_)
   rintro _ r8 ⟨rfl, hkr8⟩
   refine un ?_
   have hmlr8 : (m ++ [e1]).length = m.length + 1 := by simp
   refine SL_nil (n_in (n_then ?_))
   refine SW_region ?_
   refine os 3 ?_
   refine kp [5, 44, 42, 6, 32, 0, 3, 4] ?_
   refine nt ?_
   have hne_ : atB X n ≠ atB X a := fun q_ => hc3 (by rw [← atB_some he1, q_])
   have hen_ := atB_some he1
   have hen2_ : (atB X n).toNat = e1.toNat := by rw [hen_]
   rw [strE_one (by omega) hne_ (by omega) (by omega), hen_] at hi2
   rw [show (n : Int) + 1 = (((n + 1) : Nat) : Int) from by omega]
   exact ⟨(f, (n + 1), r8, (m ++ [e1]), pt b1 0), by simp only []; omega, ⟨fun _ => rfl, ow⟩, by simp only []; omega, by simp only []; omega, hi2, hkr8, by simp only []; omega, fun q_ => by simp at q_, .inr rfl⟩
  simp only [beq_iff_eq, bne_iff_ne, ne_eq, beq_eq_false_iff_ne, bne_eq_false_iff_eq, Classical.not_not] at hc3
  refine SW_exit (x_then (x_then (x_in (n_then ?_))))
  refine SW_seq ?_
  refine SW_block ?_
  refine sr ?_
  refine os 4 ?_
  refine L (ld ?_)
  refine oX (.int .i64 ((bS X).size : Int)) (.int .i64 (X.length : Int)) (congrArg (fun n_ : Nat => Value.int .i64 (n_ : Int)) (bS_size _)) ?_
  refine os 2 ?_
  refine kp [64, 32, 0, 3, 4, 5] ?_
  refine nt ?_
  refine SW_false (fun _ => (congrArg Value.bool (show ((n : Int) == (X.length : Int)) = false from (by simp; omega)))) ?_
  refine sr ?_
  refine L (cl (lex_Len (q := b1) (m := m) hi3) ?_)
  rintro _ _ rfl
  refine un ?_
  refine os 2 ?_
  refine nt ?_
  refine cdp (fun hc9 : (m.length : Int) > 4096 => ?_) (fun hc9 => ?_)
  ·refine sr ?_
   refine os 1 ?_
   refine nt ?_
   refine SW_ret (r_in (r_then ?_))
   refine body_end (.int .i64 56) (fun _ => rfl) ?_
   rw [strE_close (by omega) (by rw [atB_some he1]; exact UInt8.toNat_inj.1 (by omega))] at hi2
   have hr_ : textR X a = .bad 56 := textR_long hi2.symm (by omega)
   rw [hr_]
   exact ⟨g, (ow (S := ((b, .cells 50 3 [.string (bS X), .int .i64 (a : Int), Gs.val g l.length]) :: (Gs.ent 46 4 g (l.flatMap Tok.cells))))), rfl, hk⟩
  refine SW_skip (n_in (n_then ?_))
  refine sr ?_
  refine os 1 ?_
  refine L (cl (lex_String (q := b1) (m := m) hi3 hi5) ?_)
  rintro _ _ rfl
  refine un ?_
  refine os 2 ?_
  refine L (cl (lex_putZ (X := X) (T := m) (a := a) (num := 0) (too := (n + 1)) (z := ((n : Int) + 1)) (kind := 4) (l := l) (by omega) hk (by omega)) ?_)
  rintro _ q10 ⟨rfl, hkq10⟩
  refine un ?_
  refine nsr ?_
  refine os 1 ?_
  refine kp [2, 72, 64, 32, 0, 3, 4, 5] ?_
  refine nt ?_
  refine SW_ret ?_
  refine body_end (.int .i64 0) (fun _ => rfl) ?_
  rw [strE_close (by omega) (by rw [atB_some he1]; exact UInt8.toNat_inj.1 (by omega))] at hi2
  have hr_ : textR X a = .tok 4 m 0 (n + 1) := textR_some hi2.symm (by omega)
  rw [hr_]
  exact ⟨q10, (ow (S := ((b, .cells 50 3 [.string (bS X), .int .i64 ((n + 1 : Nat) : Int), Gs.val q10 (l ++ [(⟨4, a, m, 0⟩ : Tok)]).length]) :: (Gs.ent 46 4 q10 ((l ++ [(⟨4, a, m, 0⟩ : Tok)]).flatMap Tok.cells))))), rfl, hkq10⟩
 replace hg2 : ¬ ((n : Int) < (X.length : Int)) := hg2
 refine os 9 ?_
 refine kp [32, 0, 3, 4, 5] ?_
 refine nt ?_
 refine cf ?_
 refine SW_exit (x_then (x_then (x_in (n_then ?_))))
 refine SW_seq ?_
 refine SW_block ?_
 refine sr ?_
 refine os 4 ?_
 refine L (ld ?_)
 refine oX (.int .i64 ((bS X).size : Int)) (.int .i64 (X.length : Int)) (congrArg (fun n_ : Nat => Value.int .i64 (n_ : Int)) (bS_size _)) ?_
 refine os 2 ?_
 refine kp [64, 32, 0, 3, 4, 5] ?_
 refine nt ?_
 refine SW_true (fun _ => (congrArg Value.bool (show ((n : Int) == (X.length : Int)) = true from (by simp; omega)))) ?_
 refine sr ?_
 refine os 1 ?_
 refine nt ?_
 refine SW_ret (r_in (r_then ?_))
 refine body_end (.int .i64 55) (fun _ => rfl) ?_
 rw [strE_end (by omega)] at hi2
 have hr_ : textR X a = .bad 55 := textR_none hi2.symm
 rw [hr_]
 exact ⟨g, (ow (S := ((b, .cells 50 3 [.string (bS X), .int .i64 (a : Int), Gs.val g l.length]) :: (Gs.ent 46 4 g (l.flatMap Tok.cells))))), rfl, hk⟩

end Go.Proofs.YtnhmmjogfkjceaaGreatDoor
namespace Go.Proofs.YtnhmmjogfkjceaaGreatDoor
open Go.Sl

theorem lex_signs {W0 : World} (hL : LaidL W0) : SC Tryz.prog W0 115 #[.string (bS signsB)] [] (Ret (fun b : Nat => [(b, .txt (signsL.map fun q => Value.string (bS q)))]) (fun v b => v = .slice (some ⟨b, 0, none⟩) 48 48)) := by
 have h := str_Fields hL signsB (by decide) signs_ascii
 rw [signs_fields] at h
 exact h

theorem lex_sign {W0 : World} (hL : LaidL W0) {X : Bytes} {a b : Nat} {g : Gs} {l : List Tok} (hk : Gs.ok 4 l.length g (l.flatMap Tok.cells)) (hX : X.length ≤ 1048576) (hl : l.length ≤ 2097152) (ha : a < X.length) : SC Tryz.prog W0 60 #[pt b 0] ((b, .cells 50 3 [.string (bS X), .int .i64 (a : Int), Gs.val g l.length]) :: (Gs.ent 46 4 g (l.flatMap Tok.cells))) (Ret (fun q : Gs => (b, .cells 50 3 [.string (bS X), .int .i64 ((signR X a).past a : Int), Gs.val q ((signR X a).toks a l).length]) :: (Gs.ent 46 4 q (((signR X a).toks a l).flatMap Tok.cells))) (fun v q => v = .int .i64 (signR X a).err ∧ Gs.ok 4 ((signR X a).toks a l).length q (((signR X a).toks a l).flatMap Tok.cells))) := by
 refine SC_body (fn := Tryz.f60) (n := 33) Tryz.func60 rfl (by kernel_rfl) (ρ := [(0, pt b 0)]) rfl ?_
 refine SW_sig ((b, .cells 50 3 [.string (bS X), .int .i64 (a : Int), Gs.val g l.length]) :: ((Gs.ent 46 4 g (l.flatMap Tok.cells)) ++ ([]))) (by simp only [List.append_nil, List.append_assoc]) ?_
 refine sr ?_
 refine os 1 ?_
 refine nq ?_
 refine sr ?_
 refine L (cl (lex_signs hL) ?_)
 rintro _ b1 rfl
 refine un ?_
 refine os 2 ?_
 refine nt ?_
 refine SW_block ?_
 refine SW_loop (α := Nat) (fun z_ ρ_ σ_ => Fits ρ_ σ_ [(0, pt b 0), (5, .slice (some ⟨b1, 0, none⟩) 48 48), (6, .int .i64 48), (7, .int .i64 (z_ : Int))] ((b1, .txt (signsL.map fun q => Value.string (bS q))) :: ((b, .cells 50 3 [.string (bS X), .int .i64 (a : Int), Gs.val g l.length]) :: ((Gs.ent 46 4 g (l.flatMap Tok.cells)) ++ ([])))) ∧ z_ ≤ 48 ∧ ∀ y ∈ signsL.take z_, Lib.hasPrefix (X.drop a) y = false) (fun z_ => 48 - z_) 0 ⟨⟨fun _ => rfl, ow⟩, Nat.zero_le _, fun _ h_ => by simp at h_⟩ ?_
 rintro i ρ_ σ_ ⟨hfit, hi0, hi1⟩
 refine SW_fits hfit ?_
 clear hfit
 refine sr ?_
 refine os 1 ?_
 refine nq ?_
 refine cdp (fun hc2 : (i : Int) < 48 => ?_) (fun hc2 => ?_)
 ·refine SW_skip (n_then ?_)
  refine SW_seq ?_
  refine SW_block ?_
  refine sr ?_
  refine L (O_indexAddr' (i : Int) (i) b1 0 48 48 .i64 1 Tryz.underlying125 (by kernel_rfl) (fun _ => rfl) (fun _ => rfl) (by omega) (by omega) (by omega) rfl ?_)
  obtain ⟨e1, he1⟩ : ∃ y_, signsL[i]? = some y_ := ⟨_, List.getElem?_eq_getElem (by rw [signs_n]; omega)⟩
  refine L (ld ?_ (hc := Cell.txt mem_z (strs_at he1)))
  refine os 1 ?_
  refine nq ?_
  refine SW_draw [(b, 0, .string (bS X)), (b, 1, .int .i64 (a : Int))] [0, 1, 2, 3, 4, 5, 6, 7, 9] (by kernel_rfl) (rd_cons (Cell.own (mem_c mem_z) rfl) (rd_cons (Cell.own (mem_c mem_z) rfl) rd_nil)) ?_
  refine aS 0 ?_
  refine aS 1 ?_
  refine aF 2 ?_
  refine aL 3 ?_
  refine aS 4 ?_
  refine aS 5 ?_
  refine aF 6 ?_
  refine aL 7 ?_
  refine kpA [18, 14, 4, 8, 0, 5, 6, 7] ?_
  refine tk 8 (.string (bS (X.drop ((a : Int)).toNat))) ?_ (hy := fun δ w => run_strFrom (l := X) (a : Int) .i64 Tryz.underlying9 rfl rfl (by omega) (by omega))
  rw [show ((a : Int)).toNat = a from by omega]
  refine aS 9 ?_
  refine sa1 false 10 (h := cl (str_HasPrefix (X.drop a) e1) ?_)
  rintro _ _ rfl
  try simp only [List.cons_append, List.append_assoc, List.nil_append]
  refine ⟨fun hnd => (by cases hnd), ?_⟩
  refine SA_done (by kernel_rfl) (n_then ?_)
  refine cd (fun hc3 : (Lib.hasPrefix (X.drop a) e1) = true => ?_) (fun hc3 => ?_)
  ·refine SW_seq ?_
   have hxl_ := signs_le _ (List.mem_of_getElem? he1)
   refine SW_region ?_
   refine os 5 ?_
   refine kp [26, 23, 22, 21, 4, 8, 0, 5, 6, 7] ?_
   refine L (ld ?_)
   refine os 1 ?_
   refine oX (.int .i64 ((bS e1).size : Int)) (.int .i64 (e1.length : Int)) (congrArg (fun n_ : Nat => Value.int .i64 (n_ : Int)) (bS_size _)) ?_
   refine os 1 ?_
   refine L (cl (lex_putZ (X := X) (T := e1) (a := a) (num := 0) (too := ((a : Int) + (e1.length : Int)).toNat) (z := ((a : Int) + (e1.length : Int))) (kind := 5) (l := l) (by omega) hk (by omega)) ?_)
   rintro _ q4 ⟨rfl, hkq4⟩
   refine un ?_
   refine nsr ?_
   refine os 1 ?_
   refine kp [2, 21, 4, 8, 0, 5, 6, 7] ?_
   refine nt ?_
   refine SW_ret (r_in (r_then (r_then (r_in (r_then ?_)))))
   refine body_end (.int .i64 0) (fun _ => rfl) ?_
   have hr_ : signR X a = .tok 5 e1 0 (a + e1.length) := signR_at hi1 he1 hc3
   rw [hr_]
   exact ⟨q4, (ow (S := ((b, .cells 50 3 [.string (bS X), .int .i64 ((((a : Int) + (e1.length : Int)).toNat : Nat) : Int), Gs.val q4 (l ++ [(⟨5, a, e1, 0⟩ : Tok)]).length]) :: (Gs.ent 46 4 q4 ((l ++ [(⟨5, a, e1, 0⟩ : Tok)]).flatMap Tok.cells))))), rfl, hkq4⟩
  refine SW_skip (n_in (n_then ?_))
  refine SW_region ?_
  refine os 2 ?_
  refine kp [7, 21, 4, 8, 0, 5, 6] ?_
  refine nt ?_
  exact ⟨i + 1, by omega, ⟨fun _ => rfl, ow⟩, by omega, sign_step hi1 he1 hc3⟩
 refine SW_exit (x_then (x_then (x_in (n_then ?_))))
 refine sr ?_
 refine os 1 ?_
 refine nt ?_
 refine SW_ret ?_
 refine body_end (.int .i64 57) (fun _ => rfl) ?_
 have hr_ : signR X a = .bad 57 := signR_no (by omega) hi1
 rw [hr_]
 exact ⟨g, (ow (S := ((b, .cells 50 3 [.string (bS X), .int .i64 (a : Int), Gs.val g l.length]) :: (Gs.ent 46 4 g (l.flatMap Tok.cells))))), rfl, hk⟩

theorem lex_next {W0 : World} (hL : LaidL W0) {X : Bytes} {a b : Nat} {g : Gs} {l : List Tok} (hk : Gs.ok 4 l.length g (l.flatMap Tok.cells)) (hX : X.length ≤ 1048576) (hl : l.length ≤ 2097152) (ha : a < X.length) : SC Tryz.prog W0 27 #[pt b 0] ((b, .cells 50 3 [.string (bS X), .int .i64 (a : Int), Gs.val g l.length]) :: (Gs.ent 46 4 g (l.flatMap Tok.cells))) (Ret (fun q : Gs => (b, .cells 50 3 [.string (bS X), .int .i64 ((tokR X a).past a : Int), Gs.val q ((tokR X a).toks a l).length]) :: (Gs.ent 46 4 q (((tokR X a).toks a l).flatMap Tok.cells))) (fun v q => v = .int .i64 (tokR X a).err ∧ Gs.ok 4 ((tokR X a).toks a l).length q (((tokR X a).toks a l).flatMap Tok.cells))) := by
 refine SC_body (fn := Tryz.f27) (n := 27) Tryz.func27 rfl (by kernel_rfl) (ρ := [(0, pt b 0)]) rfl ?_
 refine SW_sig ((b, .cells 50 3 [.string (bS X), .int .i64 (a : Int), Gs.val g l.length]) :: ((Gs.ent 46 4 g (l.flatMap Tok.cells)) ++ ([]))) (by simp only [List.append_nil, List.append_assoc]) ?_
 refine sr ?_
 refine os 1 ?_
 refine nq ?_
 refine sr ?_
 refine os 1 ?_
 refine L (cl (lex_peek (X := X) (a := a) (k := 0) (l := l) hk hX (by omega) (by decide)) ?_)
 rintro v1 _ hv1
 obtain rfl : v1 = .int .u8 ((atB X a).toNat : Int) := hv1.trans (rfl)
 refine un ?_
 refine os 1 ?_
 refine nt ?_
 refine SW_block ?_
 refine sr ?_
 refine os 1 ?_
 refine L (cl (lex_digit (c := (atB X a))) ?_)
 rintro v2 _ hv2
 obtain rfl : v2 = .bool (decide (48 ≤ ((atB X a).toNat : Int) ∧ ((atB X a).toNat : Int) ≤ 57)) := hv2.trans (by rw [dig_at])
 refine un ?_
 refine os 1 ?_
 refine kp [6, 3, 2, 0] ?_
 refine nt ?_
 refine cdp (fun hc1 : 48 ≤ ((atB X a).toNat : Int) ∧ ((atB X a).toNat : Int) ≤ 57 => ?_) (fun hc1 => ?_)
 ·refine sr ?_
  refine os 1 ?_
  refine L (cl (lex_number hL (X := X) (a := a) (l := l) hk hX (by omega) (by omega)) ?_)
  rintro v3 q2 ⟨hv3, hkq2⟩
  obtain rfl : v3 = .int .i64 ((numR X a).err) := hv3.trans (rfl)
  refine un ?_
  refine os 1 ?_
  refine nt ?_
  refine SW_ret (r_in (r_then ?_))
  refine body_end (.int .i64 ((numR X a).err)) (fun _ => rfl) ?_
  have hr_ : tokR X a = numR X a := tok_num (by rw [dig_at]; exact decide_eq_true hc1)
  rw [hr_]
  exact ⟨q2, ow, rfl, hkq2⟩
 refine sr ?_
 refine os 1 ?_
 refine L (cl (lex_small (c := (atB X a))) ?_)
 rintro _ _ rfl
 refine un ?_
 refine os 1 ?_
 refine nt ?_
 refine cd (fun hc3 : (isSm (atB X a)) = true => ?_) (fun hc3 => ?_)
 ·refine sr ?_
  refine os 1 ?_
  refine L (cl (lex_name hL (X := X) (a := a) (l := l) hk hX (by omega) (by omega)) ?_)
  rintro v5 q4 ⟨hv5, hkq4⟩
  obtain rfl : v5 = .int .i64 ((nameR X a).err) := hv5.trans (rfl)
  refine un ?_
  refine os 1 ?_
  refine kp [2, 11, 6, 3, 0] ?_
  refine nt ?_
  refine SW_ret (r_in (r_then ?_))
  refine body_end (.int .i64 ((nameR X a).err)) (fun _ => rfl) ?_
  have hr_ : tokR X a = nameR X a := tok_name (by rw [dig_at]; exact decide_eq_false hc1) hc3
  rw [hr_]
  exact ⟨q4, ow, rfl, hkq4⟩
 refine sr ?_
 refine os 3 ?_
 refine tb 19 (fun hg5 => ?_) (fun hg5 => ?_)
 ·replace hg5 : (((atB X a).toNat : Int) == 34) = true := hg5
  simp only [beq_iff_eq, bne_iff_ne, ne_eq, beq_eq_false_iff_ne, bne_eq_false_iff_eq, Classical.not_not] at hg5
  refine os 4 ?_
  refine kp [16, 11, 6, 3, 2, 0] ?_
  refine nt ?_
  refine ct ?_
  refine sr ?_
  refine os 1 ?_
  refine L (cl (lex_text hL (X := X) (a := a) (l := l) hk hX (by omega) (by omega)) ?_)
  rintro v6 q6 ⟨hv6, hkq6⟩
  obtain rfl : v6 = .int .i64 ((textR X a).err) := hv6.trans (rfl)
  refine un ?_
  refine os 1 ?_
  refine nt ?_
  refine SW_ret (r_in (r_then ?_))
  refine body_end (.int .i64 ((textR X a).err)) (fun _ => rfl) ?_
  have hr_ : tokR X a = textR X a := tok_text (by rw [dig_at]; exact decide_eq_false hc1) hc3 (by omega)
  rw [hr_]
  exact ⟨q6, ow, rfl, hkq6⟩
 replace hg5 : (((atB X a).toNat : Int) == 34) = false := hg5
 simp only [beq_iff_eq, bne_iff_ne, ne_eq, beq_eq_false_iff_ne, bne_eq_false_iff_eq, Classical.not_not] at hg5
 refine os 4 ?_
 refine kp [16, 11, 6, 3, 2, 0] ?_
 refine nt ?_
 refine cd (fun hc7 : (((atB X a).toNat : Int) == 39) = true => ?_) (fun hc7 => ?_)
 ·simp only [beq_iff_eq, bne_iff_ne, ne_eq, beq_eq_false_iff_ne, bne_eq_false_iff_eq, Classical.not_not] at hc7
  refine sr ?_
  refine os 1 ?_
  refine L (cl (lex_text hL (X := X) (a := a) (l := l) hk hX (by omega) (by omega)) ?_)
  rintro v7 q8 ⟨hv7, hkq8⟩
  obtain rfl : v7 = .int .i64 ((textR X a).err) := hv7.trans (rfl)
  refine un ?_
  refine os 1 ?_
  refine nt ?_
  refine SW_ret (r_in (r_then ?_))
  refine body_end (.int .i64 ((textR X a).err)) (fun _ => rfl) ?_
  have hr_ : tokR X a = textR X a := tok_text (by rw [dig_at]; exact decide_eq_false hc1) hc3 (by omega)
  rw [hr_]
  exact ⟨q8, ow, rfl, hkq8⟩
 simp only [beq_iff_eq, bne_iff_ne, ne_eq, beq_eq_false_iff_ne, bne_eq_false_iff_eq, Classical.not_not] at hc7
 refine SW_skip (n_in (n_then ?_))
 refine sr ?_
 refine os 1 ?_
 refine L (cl (lex_sign hL (X := X) (a := a) (l := l) hk hX (by omega) (by omega)) ?_)
 rintro v8 q9 ⟨hv8, hkq9⟩
 obtain rfl : v8 = .int .i64 ((signR X a).err) := hv8.trans (rfl)
 refine un ?_
 refine os 1 ?_
 refine nt ?_
 refine SW_ret ?_
 refine body_end (.int .i64 ((signR X a).err)) (fun _ => rfl) ?_
 have hr_ : tokR X a = signR X a := tok_sign (by rw [dig_at]; exact decide_eq_false hc1) hc3 (by omega)
 rw [hr_]
 exact ⟨q9, ow, rfl, hkq9⟩

theorem lex_Scan {W0 : World} (hL : LaidL W0) {X : Bytes} : SC Tryz.prog W0 9 #[.string (bS X)] [] (Ret (fun q : Gs => Gs.ent 46 4 q (((scanP X).toks).flatMap Tok.cells)) (fun v q => v = .tuple #[Gs.val q (scanP X).toks.length, .int .i64 ((scanP X).place : Int), .int .i64 (scanP X).err] ∧ Gs.ok 4 ((scanP X).toks).length q (((scanP X).toks).flatMap Tok.cells))) := by
 refine SC_body (fn := Tryz.f9) (n := 59) Tryz.func9 rfl (by kernel_rfl) (ρ := [(0, .string (bS X))]) rfl ?_
 refine sr ?_
 refine os 3 ?_
 refine nq ?_
 refine sr ?_
 refine os 1 ?_
 refine oX (.int .i64 ((bS X).size : Int)) (.int .i64 (X.length : Int)) (congrArg (fun n_ : Nat => Value.int .i64 (n_ : Int)) (bS_size _)) ?_
 refine os 1 ?_
 refine nt ?_
 refine cdp (fun hc1 : (X.length : Int) > 65536 => ?_) (fun hc1 => ?_)
 ·refine sr ?_
  refine os 3 ?_
  refine nt ?_
  refine SW_ret (r_then ?_)
  refine body_end (.tuple #[.slice none 0 0, .int .i64 0, .int .i64 50]) (fun _ => rfl) ?_
  have hr_ : scanP X = .bad 0 50 := by unfold scanP; rw [if_pos (by omega)]
  rw [hr_]
  exact ⟨Gs.nil, (ow (S := [])), rfl, rfl, rfl⟩
 refine SW_skip (n_then ?_)
 refine SW_seq ?_
 refine sr ?_
 refine os 1 ?_
 refine L (O_range (bS X) (by kernel_rfl) (fun _ => rfl) rfl ?_)
 intro b2
 refine nt ?_
 refine SW_block ?_
 refine SW_loop (α := Nat) (fun z_ ρ_ σ_ => Fits ρ_ σ_ [(0, .string (bS X)), (13, pt b2 0)] ((b2, .it (bS X) z_) :: ([])) ∧ z_ ≤ X.length ∧ ∀ c ∈ X.take z_, okR (c.toNat : Int) = true) (fun z_ => X.length - z_) 0 ⟨⟨fun _ => rfl, ow⟩, Nat.zero_le _, fun _ h_ => by simp at h_⟩ ?_
 rintro n ρ_ σ_ ⟨hfit, hi0, hi1⟩
 refine SW_fits hfit ?_
 clear hfit
 refine sr ?_
 by_cases hp1 : n < X.length
 ·obtain ⟨e2, he2⟩ : ∃ y_, X[n]? = some y_ := ⟨_, List.getElem?_eq_getElem (by omega)⟩
  by_cases hp3 : e2.toNat < 128
  ·refine L (O_next (p' := (n + 1)) (.tuple #[.bool true, .int .i64 (n : Int), .int .i32 (e2.toNat : Int)]) rfl (fun _ => rfl) (fun w_ hw_ => next_ascii he2 hp3 hw_) ?_)
   refine os 1 ?_
   refine nq ?_
   refine ct ?_
   refine SW_skip (n_then ?_)
   refine SW_block ?_
   refine sr ?_
   refine os 4 ?_
   refine nsr ?_
   refine os 1 ?_
   refine L (cl (lex_allowed (z := (e2.toNat : Int))) ?_)
   rintro _ _ rfl
   refine un ?_
   refine os 1 ?_
   refine kp [20, 6, 5, 15, 14, 0, 13] ?_
   refine nt ?_
   refine cd (fun hc3 : (!(okR (e2.toNat : Int))) = true => ?_) (fun hc3 => ?_)
   ·replace hc3 := bnot_t hc3
    refine sr ?_
    refine os 4 ?_
    refine nt ?_
    refine SW_ret (r_in (r_then (r_in (r_then ?_))))
    refine body_end (.tuple #[.slice none 0 0, .int .i64 (n : Int), .int .i64 51]) (fun _ => rfl) ?_
    have hr_ : scanP X = .bad n 51 := by unfold scanP; rw [if_neg (by omega), badAt_some hi1 he2 (by simpa using hc3)]
    rw [hr_]
    exact ⟨Gs.nil, (ow (S := [])), rfl, rfl, rfl⟩
   replace hc3 := bnot_f hc3
   refine SW_skip (n_in (n_then ?_))
   exact ⟨n + 1, by omega, ⟨fun _ => rfl, ow⟩, by omega, ok_step hi1 he2 (by simpa using hc3)⟩
  refine L (O_next (p' := (n + (Utf8.decode (bS X) n).2)) (.tuple #[.bool true, .int .i64 (n : Int), .int .i32 ((Utf8.decode (bS X) n).1 : Int)]) rfl (fun _ => rfl) (fun w_ hw_ => next_high he2 hw_) ?_)
  refine os 1 ?_
  refine nq ?_
  refine ct ?_
  refine SW_skip (n_then ?_)
  refine SW_block ?_
  refine sr ?_
  refine os 4 ?_
  refine nsr ?_
  refine os 1 ?_
  refine L (cl (lex_allowed (z := ((Utf8.decode (bS X) n).1 : Int))) ?_)
  rintro _ _ rfl
  refine un ?_
  refine os 1 ?_
  refine kp [20, 6, 5, 15, 14, 0, 13] ?_
  refine nt ?_
  refine cd (fun hc4 : (!(okR ((Utf8.decode (bS X) n).1 : Int))) = true => ?_) (fun hc4 => ?_)
  ·replace hc4 := bnot_t hc4
   refine sr ?_
   refine os 4 ?_
   refine nt ?_
   refine SW_ret (r_in (r_then (r_in (r_then ?_))))
   refine body_end (.tuple #[.slice none 0 0, .int .i64 (n : Int), .int .i64 51]) (fun _ => rfl) ?_
   have hr_ : scanP X = .bad n 51 := by unfold scanP; rw [if_neg (by omega), badAt_some hi1 he2 (ok_low hp3)]
   rw [hr_]
   exact ⟨Gs.nil, (ow (S := [])), rfl, rfl, rfl⟩
  replace hc4 := bnot_f hc4
  exact absurd hc4 (by rw [ok_hi (by have := decode_hi he2 hp3; omega)]; decide)
 refine L (O_nextE (by rw [bS_size]; exact hp1) rfl (fun _ => rfl) ?_)
 refine os 1 ?_
 refine nq ?_
 refine cf ?_
 refine SW_exit (x_then (x_then (x_in (n_then ?_))))
 refine SW_seq ?_
 have hall_ : ∀ c ∈ X, okR (c.toNat : Int) = true := by rw [show n = X.length from by omega, List.take_length] at hi1; exact hi1
 have hscan_ : scanP X = scanE (X.length + 1) X 0 [] := by unfold scanP; rw [if_neg (by omega), badAt_none hall_]
 have hX : X.length ≤ 1048576 := by omega
 clear hi0 hi1
 refine SW_region ?_
 refine os 1 ?_
 refine oV (.agg #[.string (bS X), .int .i64 0, .slice none 0 0]) ?_
 refine L (nw 50 3 [.string (bS X), .int .i64 0, .slice none 0 0] ?_)
 intro b5
 refine os 1 ?_
 refine kp [7, 15, 14, 0, 13] ?_
 refine nt ?_
 refine SW_block ?_
 refine SW_sig ((b5, .cells 50 3 [.string (bS X), .int .i64 ((0 : Nat) : Int), Gs.val Gs.nil (([] : List Tok).length)]) :: ((Gs.ent 46 4 Gs.nil (([] : List Tok).flatMap Tok.cells)) ++ ((b2, .it (bS X) n) :: ([])))) rfl ?_
 refine SW_loop (α := Nat × Nat × Gs × List Tok) (fun z_ ρ_ σ_ => Fits ρ_ σ_ [(0, .string (bS X)), (7, pt b5 0)] ((b5, .cells 50 3 [.string (bS X), .int .i64 (z_.2.1 : Int), Gs.val z_.2.2.1 z_.2.2.2.length]) :: ((Gs.ent 46 4 z_.2.2.1 (z_.2.2.2.flatMap Tok.cells)) ++ ((b2, .it (bS X) n) :: ([])))) ∧ z_.2.1 ≤ X.length ∧ X.length - z_.2.1 < z_.1 ∧ z_.2.2.2.length ≤ z_.2.1 ∧ Gs.ok 4 z_.2.2.2.length z_.2.2.1 (z_.2.2.2.flatMap Tok.cells) ∧ scanE z_.1 X z_.2.1 z_.2.2.2 = scanE (X.length + 1) X 0 []) (fun z_ => X.length - z_.2.1) ((X.length + 1), 0, Gs.nil, ([] : List Tok)) ⟨⟨fun _ => rfl, ow⟩, Nat.zero_le _, by simp only []; omega, Nat.zero_le _, ⟨rfl, rfl⟩, rfl⟩ ?_
 rintro ⟨f, n, g, l⟩ ρ_ σ_ ⟨hfit, hi0, hi1, hi2, hi3, hi4⟩
 refine SW_fits hfit ?_
 clear hfit
 simp only [] at hi0 hi1 hi2 hi3 hi4 ⊢
 obtain ⟨f, rfl⟩ : ∃ q_, f = q_ + 1 := ⟨f - 1, by omega⟩
 have hbg_ := blP_ge X n
 have hbl_ := blP_le hi0
 refine SW_block ?_
 refine sr ?_
 refine os 1 ?_
 by_cases hp4 : (blP X n).2 = true
 ·refine L (cl (lex_blanks hL (X := X) (a := n) (l := l) hi3 hX (by omega)) ?_)
  rintro v3 _ hv3
  obtain rfl : v3 = .int .i64 0 := hv3.trans (by rw [if_pos hp4])
  refine un ?_
  refine os 1 ?_
  refine nq ?_
  refine sr ?_
  refine os 1 ?_
  refine oV (.bool true) ?_
  refine os 4 ?_
  refine kp [32, 29, 8, 0, 7] ?_
  refine L (ld ?_)
  refine os 1 ?_
  refine oX (.int .i64 ((bS X).size : Int)) (.int .i64 (X.length : Int)) (congrArg (fun n_ : Nat => Value.int .i64 (n_ : Int)) (bS_size _)) ?_
  refine os 2 ?_
  refine kp [37, 8, 0, 7] ?_
  refine nt ?_
  refine cdp (fun hc6 : ((blP X n).1 : Int) < (X.length : Int) => ?_) (fun hc6 => ?_)
  ·refine SW_region ?_
   refine os 1 ?_
   refine L (cl (lex_next hL (X := X) (a := (blP X n).1) (l := l) hi3 hX (by omega) (by omega)) ?_)
   rintro v4 q7 ⟨hv4, hkq7⟩
   obtain rfl : v4 = .int .i64 ((tokR X ((blP X n).1)).err) := hv4.trans (rfl)
   refine un ?_
   refine os 1 ?_
   refine nsr ?_
   refine os 2 ?_
   refine kp [53, 8, 37, 0, 7] ?_
   refine nt ?_
   refine cd (fun hc8 : (((tokR X ((blP X n).1)).err) != 0) = true => ?_) (fun hc8 => ?_)
   ·simp only [beq_iff_eq, bne_iff_ne, ne_eq, beq_eq_false_iff_ne, bne_eq_false_iff_eq, Classical.not_not] at hc8
    refine SW_seq ?_
    refine SW_draw [(b5, 1, .int .i64 ((tokR X ((blP X n).1)).past ((blP X n).1) : Int))] [0, 1, 2, 4, 5] (by kernel_rfl) (rd_cons (Cell.own mem_z rfl) rd_nil) ?_
    refine aS 0 ?_
    refine aS 1 ?_
    refine aF 2 ?_
    refine aL 3 ?_
    refine aS 4 ?_
    refine aS 5 ?_
    refine aS 6 ?_
    refine aS 7 ?_
    refine SA_done (by kernel_rfl) (n_then ?_)
    refine SW_ret (r_in (r_then (r_in ?_)))
    refine body_end (.tuple #[.slice none 0 0, .int .i64 ((tokR X ((blP X n).1)).past ((blP X n).1) : Int), .int .i64 ((tokR X ((blP X n).1)).err)]) (fun _ => rfl) ?_
    have hne_ : (tokR X (blP X n).1).err ≠ 0 := by simpa using hc8
    rw [scanE_bad hp4 (by omega) hne_] at hi4
    have hr_ := hscan_.trans hi4.symm
    rw [(tok_err (by omega) hne_).1]
    rw [hr_]
    exact ⟨Gs.nil, (ow (S := [])), rfl, rfl, rfl⟩
   simp only [beq_iff_eq, bne_iff_ne, ne_eq, beq_eq_false_iff_ne, bne_eq_false_iff_eq, Classical.not_not] at hc8
   refine SW_skip (n_in (n_then ?_))
   have hok_ : (tokR X (blP X n).1).err = 0 := by simpa using hc8
   obtain ⟨ht1_, ht2_, ht3_⟩ := tok_good (by omega) hok_
   have ht4_ := ht3_ l
   rw [scanE_tok hp4 (by omega) hok_] at hi4
   exact ⟨(f, (tokR X (blP X n).1).past (blP X n).1, q7, (tokR X (blP X n).1).toks (blP X n).1 l), by simp only []; omega, ⟨fun _ => rfl, ow⟩, by simp only []; omega, by simp only []; omega, by simp only []; omega, hkq7, hi4⟩
  refine sr ?_
  refine os 1 ?_
  refine oV (.bool true) ?_
  refine nt ?_
  refine ct ?_
  refine sr ?_
  refine os 4 ?_
  refine L (ld ?_)
  refine L (cl (lex_putZ (X := X) (T := []) (a := ((blP X n).1)) (num := 0) (too := ((blP X n).1)) (z := ((blP X n).1 : Int)) (kind := 0) (l := l) (by omega) hi3 (by omega)) ?_)
  rintro _ q9 ⟨rfl, hkq9⟩
  refine un ?_
  refine nsr ?_
  refine os 3 ?_
  refine kp [50, 41, 37, 8, 0, 7] ?_
  refine L (ld ?_)
  refine os 3 ?_
  refine nt ?_
  refine SW_ret (r_then (r_in (r_then (r_in ?_))))
  refine body_end (.tuple #[Gs.val q9 ((l ++ [(⟨0, (blP X n).1, [], 0⟩ : Tok)]).length), .int .i64 0, .int .i64 0]) (fun _ => rfl) ?_
  rw [scanE_end hp4 (by omega)] at hi4
  have hr_ := hscan_.trans hi4.symm
  rw [hr_]
  exact ⟨q9, (ow (S := Gs.ent 46 4 q9 ((l ++ [(⟨0, (blP X n).1, [], 0⟩ : Tok)]).flatMap Tok.cells))), rfl, hkq9⟩
 refine L (cl (lex_blanks hL (X := X) (a := n) (l := l) hi3 hX (by omega)) ?_)
 rintro v6 _ hv6
 obtain rfl : v6 = .int .i64 52 := hv6.trans (by rw [if_neg hp4])
 refine un ?_
 refine os 1 ?_
 refine nq ?_
 refine sr ?_
 refine os 1 ?_
 refine oV (.bool false) ?_
 refine os 9 ?_
 refine kp [37, 8, 0, 7] ?_
 refine nt ?_
 refine cf ?_
 refine sr ?_
 refine os 1 ?_
 refine oV (.bool false) ?_
 refine nt ?_
 refine cf ?_
 refine SW_skip (n_then ?_)
 refine sr ?_
 refine os 1 ?_
 refine oV (.bool true) ?_
 refine nt ?_
 refine ct ?_
 refine SW_seq ?_
 refine SW_draw [(b5, 1, .int .i64 ((blP X n).1 : Int))] [0, 1, 2, 4, 5] (by kernel_rfl) (rd_cons (Cell.own mem_z rfl) rd_nil) ?_
 refine aS 0 ?_
 refine aS 1 ?_
 refine aF 2 ?_
 refine aL 3 ?_
 refine aS 4 ?_
 refine aS 5 ?_
 refine aS 6 ?_
 refine aS 7 ?_
 refine SA_done (by kernel_rfl) (n_then ?_)
 refine SW_ret (r_in (r_then (r_in ?_)))
 refine body_end (.tuple #[.slice none 0 0, .int .i64 ((blP X n).1 : Int), .int .i64 52]) (fun _ => rfl) ?_
 rw [scanE_bl (by simpa using hp4)] at hi4
 have hr_ := hscan_.trans hi4.symm
 rw [hr_]
 exact ⟨Gs.nil, (ow (S := [])), rfl, rfl, rfl⟩

end Go.Proofs.YtnhmmjogfkjceaaGreatDoor
