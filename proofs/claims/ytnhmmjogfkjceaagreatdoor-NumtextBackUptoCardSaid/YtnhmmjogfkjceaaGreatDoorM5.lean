/-
  NumtextBack, within the bound on what it reads, and tied to the program's text: it returns true whatever it is given, and leaves its arguments as they were. Conditions: the arguments' bulk is at most 1048576; the listed library variables stand as their text lays them, as the statement says.
-/
import Derived.Test.YtnhmmjogfkjceaaGreatDoorM4
import Derived.KernelRfl
import Derived.Laws.Cover2
import Derived.Test.YtnhmmjogfkjceaaGreatDoorProg
import Derived.Test.YtnhmmjogfkjceaaGreatDoorM1
set_option linter.unusedVariables false
set_option linter.unusedSimpArgs false
set_option linter.unusedSectionVars false
set_option maxRecDepth 100000
set_option maxHeartbeats 4000000
namespace Go.Proofs.YtnhmmjogfkjceaaGreatDoor
open Go.Sl
theorem ten_310 {e : Nat} (h : e ≤ 1025) : ∃ k, k = 310 ∧ 2 ^ e ≤ 10 ^ k := by
 obtain ⟨m, hm⟩ : ∃ m : Nat, m = 5 := ⟨_, rfl⟩
 refine ⟨62 * m, by omega, ?_⟩
 refine Nat.le_trans (Nat.pow_le_pow_right (by decide) (show e ≤ 205 * m by omega)) ?_
 rw [Nat.pow_mul, Nat.pow_mul]
 exact Nat.pow_le_pow_left (by decide) m
theorem ten_330 {e : Nat} (h : e ≤ 1090) : ∃ k, k = 330 ∧ 2 ^ e ≤ 10 ^ k := by
 obtain ⟨m, hm⟩ : ∃ m : Nat, m = 10 := ⟨_, rfl⟩
 refine ⟨33 * m, by omega, ?_⟩
 refine Nat.le_trans (Nat.pow_le_pow_right (by decide) (show e ≤ 109 * m by omega)) ?_
 rw [Nat.pow_mul, Nat.pow_mul]
 exact Nat.pow_le_pow_left (by decide) m
theorem nearD_spec {L : Bytes} {P : Int} {S : Nat} (hS : S = 1074) (hd : ∀ c ∈ L, isDig c = true) (hl : L.length ≤ 801) {c : UInt8} {r : Bytes} (hL : L = c :: r) (hc : 49 ≤ c.toNat) :
   isRN (ofD L * 10 ^ P.toNat * 2 ^ S) (10 ^ (-P).toNat) (nearD L P) := by
 have hlo : 10 ^ r.length ≤ ofD L := by rw [hL]; exact ofD_lead hc
 have hhi := ofD_lt _ L rfl fun x hx => isDig_in (hd x hx)
 have hn : L.length = r.length + 1 := by rw [hL]; rfl
 have hne : L ≠ [] := by rw [hL]; simp
 have q10 : ∀ n : Nat, 0 < 10 ^ n := fun n => Nat.pow_pos (by decide)
 have q2 : ∀ n : Nat, 0 < 2 ^ n := fun n => Nat.two_pow_pos n
 by_cases h1 : (L.length : Int) + P < -330
 · rw [nearD_none (.inr h1)]
   apply isRN_none
   rw [show P.toNat = 0 by omega, Nat.pow_zero, Nat.mul_one]
   obtain ⟨k, hk, hp⟩ := ten_330 (e := S + 1) (by omega)
   have e1 : 2 * (ofD L * 2 ^ S) = ofD L * 2 ^ (S + 1) := by rw [Nat.pow_succ, Nat.mul_left_comm, Nat.mul_comm 2]
   have e2 : ofD L * 2 ^ (S + 1) < 10 ^ L.length * 2 ^ (S + 1) := Nat.mul_lt_mul_of_pos_right hhi (q2 _)
   have e3 : 10 ^ L.length * 2 ^ (S + 1) ≤ 10 ^ L.length * 10 ^ k := Nat.mul_le_mul_left _ hp
   rw [← Nat.pow_add] at e3
   have e4 : (10 : Nat) ^ (L.length + k) ≤ 10 ^ (-P).toNat := Nat.pow_le_pow_right (by decide) (by omega)
   omega
 · by_cases h2 : (L.length : Int) + P > 310
   · rw [nearD_inf hne h1 h2]
     apply isRN_inf (q10 _)
     obtain ⟨k, hk, hv⟩ := valF_inf
     obtain ⟨t, ht, hp⟩ := ten_310 (e := k - S) (by omega)
     rw [hv, show k = (k - S) + S by omega, Nat.pow_add, ← Nat.mul_assoc]
     refine Nat.mul_le_mul_right _ ?_
     refine Nat.le_trans (Nat.mul_le_mul_left _ hp) ?_
     rw [← Nat.pow_add]
     refine Nat.le_trans ?_ (Nat.mul_le_mul_right _ hlo)
     rw [← Nat.pow_add]
     exact Nat.pow_le_pow_right (by decide) (by omega)
   · rw [nearD_some hne h1 h2, Nat.one_mul]
     have hdl : ∀ x ∈ L, 48 ≤ x.toNat ∧ x.toNat ≤ 57 := fun x hx => isDig_in (hd x hx)
     have k1 := ofD_tensK (K := L.length) (n := P.toNat) hdl (Nat.le_refl _)
     have hpos : 0 < ofD L := Nat.lt_of_lt_of_le (q10 _) hlo
     exact round_spec (Nat.mul_pos hpos (q10 _)) (q10 _) hS (ten_room (k := L.length + P.toNat) (by omega) k1) (ten_room (k := (-P).toNat) (by omega) (Nat.le_refl _))
theorem nearest_spec {A B : Bytes} {z : Int} {S : Nat} (hS : S = 1074) (hd : ∀ c ∈ A ++ B, isDig c = true) (hl : (A ++ B).length ≤ 800) :
   isRN (ofD (A ++ B) * 10 ^ (z - (B.length : Int)).toNat * 2 ^ S) (10 ^ (-(z - (B.length : Int))).toNat) (nearestP ⟨A, B, z⟩) := by
 unfold nearestP
 simp only []
 have hll : ((A ++ B).dropWhile (· == 48)).length ≤ (A ++ B).length := (List.dropWhile_sublist _).length_le
 rw [cutD_no (by omega)]
 simp only []
 by_cases h : (A ++ B).dropWhile (· == 48) = []
 · have hz : ofD (A ++ B) = 0 := by rw [← ofD_zeros, h]; rfl
   rw [hz, h, nearD_none (.inl rfl)]
   apply isRN_none
   simp only [Nat.zero_mul, Nat.mul_zero]
   exact Nat.pow_pos (by decide)
 · obtain ⟨c, r, e⟩ : ∃ c r, (A ++ B).dropWhile (· == 48) = c :: r := by
     cases hq : (A ++ B).dropWhile (· == 48) with
     | nil => exact absurd hq h
     | cons c r => exact ⟨c, r, rfl⟩
   have hsub : ∀ x ∈ (A ++ B).dropWhile (· == 48), isDig x = true := fun x hx => hd x ((List.dropWhile_sublist _).subset hx)
   have hc : 49 ≤ c.toNat := by
     have h4 := List.head?_dropWhile_not (· == 48) (A ++ B)
     rw [e] at h4
     have hc := isDig_in (hsub c (by rw [e]; exact List.mem_cons_self ..))
     rcases Nat.lt_or_ge 48 c.toNat with q | q
     · exact q
     · have : c = 48 := by apply UInt8.toNat_inj.1; show c.toNat = 48; omega
       rw [this] at h4; simp at h4
   have := nearD_spec (P := z - (B.length : Int)) hS hsub (by omega) e hc
   rw [ofD_zeros] at this
   exact this
theorem back_near {a S : Nat} {D : Bytes} {p : Int} {i j k M d : Nat} {Q : Bytes} (hS : S = 1074) (h : Short a S D p i j k M d Q) {A B : Bytes} {z : Int} {t : Nat}
   (hd : ∀ c ∈ A ++ B, isDig c = true) (hl : (A ++ B).length ≤ 800) (hv : ofD (A ++ B) = ofD D * 10 ^ t) (hz : z - (B.length : Int) + t = p - ((k + 1 : Nat) : Int)) : nearestP ⟨A, B, z⟩ = a := by
 have q10 : ∀ n : Nat, 0 < 10 ^ n := fun n => Nat.pow_pos (by decide)
 refine isRN_uniq (q10 _) (nearest_spec hS hd hl) (isRN_scale (q10 _) (q10 _) ?_ h.near)
 have hp := h.pow
 rw [hv]
 rw [Nat.mul_right_comm _ (2 ^ S), Nat.mul_right_comm _ (2 ^ S)]
 congr 1
 rw [Nat.mul_assoc, Nat.mul_assoc, Nat.mul_assoc, ← Nat.pow_add, ← Nat.pow_add, ← Nat.pow_add]
 congr 2
 omega
def okC (x : UInt8) : Prop := isDig x = true ∨ x = 46 ∨ x = 101 ∨ x = 43 ∨ x = 45
theorem okC.bl {x : UInt8} (h : okC x) : isBl x = false := by
 rcases h with q | q | q | q | q
 · exact isDig_bl q
 all_goals (subst q; rfl)
theorem okC.ne {x : UInt8} (h : okC x) : x ≠ 120 ∧ x ≠ 88 ∧ x ≠ 73 := by
 rcases h with q | q | q | q | q
 · have := isDig_ne q; exact ⟨this.2.2.2.2.2.2.1, this.2.2.2.2.2.2.2, this.2.2.2.2.2.1⟩
 all_goals (subst q; decide)
theorem dropWhile_none {p : UInt8 → Bool} : ∀ {X : Bytes}, (∀ c ∈ X, p c = false) → X.dropWhile p = X
 | [], _ => rfl
 | c :: r, h => by rw [List.dropWhile_cons, if_neg (by rw [h c (List.mem_cons_self ..)]; decide)]
theorem trim_none {s : Bytes} (h : ∀ x ∈ s, isBl x = false) : Lib.trimS s [9, 10, 32] = s := by
 unfold Lib.trimS Lib.trimLeftS Lib.trimRightS
 have e1 : s.reverse.dropWhile ([9, 10, 32].contains ·) = s.reverse := dropWhile_none fun c hc => h c (List.mem_reverse.1 hc)
 rw [e1, List.reverse_reverse]
 exact dropWhile_none h
theorem pre_none {s : Bytes} {y : UInt8} (h : ∀ x ∈ s, x ≠ y) (l : UInt8) : Lib.hasPrefix s [l, y] = false := by
 rcases hp : Lib.hasPrefix s [l, y] with _ | _
 · rfl
 · obtain ⟨r, hr⟩ := List.isPrefixOf_iff_prefix.1 hp
   exact absurd rfl (h y (by rw [← hr]; simp))
theorem read_plain {s : Bytes} {c : UInt8} {r : Bytes} {n : DecP} (hs : s = c :: r) (hc : isDig c = true) (h : ∀ x ∈ s, okC x) (hd : decP s = (n, true)) : readP s = nearestP n := by
 have hw : wayR s = (0, s) := by rw [hs]; exact wayR_else (isDig_ne hc).1 (isDig_ne hc).2.1
 have hx : ¬ (Lib.hasPrefix s [48, 120] = true ∨ Lib.hasPrefix s [48, 88] = true) := by
   rw [pre_none (fun x hx => (h x hx).ne.1), pre_none (fun x hx => (h x hx).ne.2.1)]; decide
 rw [readP_dec (trim_none fun x hx => (h x hx).bl) (by rw [hs]; simp) hx (by rw [hw, hs]; exact no_inf (isDig_ne hc).2.2.2.2.2.1), hw]
 simp only []
 rw [hd, if_pos rfl, Nat.zero_add]
theorem read_neg {s : Bytes} {n : DecP} (h : ∀ x ∈ s, okC x) (hd : decP s = (n, true)) : readP ([45] ++ s) = 9223372036854775808 + nearestP n := by
 have h' : ∀ x ∈ [45] ++ s, okC x := by
   intro x hx
   rcases List.mem_append.1 hx with q | q
   · rw [List.mem_singleton.1 q]; exact .inr (.inr (.inr (.inr rfl)))
   · exact h x q
 have hx : ¬ (Lib.hasPrefix ([45] ++ s) [48, 120] = true ∨ Lib.hasPrefix ([45] ++ s) [48, 88] = true) := by
   rw [pre_none (fun x hx => (h' x hx).ne.1), pre_none (fun x hx => (h' x hx).ne.2.1)]; decide
 have hi : ¬ s = [73, 110, 102, 105, 110, 105, 116, 121] := by
   intro q
   exact absurd rfl (h 73 (by rw [q]; simp)).ne.2.2
 rw [readP_dec (trim_none fun x hx => (h' x hx).bl) (by simp) hx (by rw [show [45] ++ s = 45 :: s from rfl, wayR_45]; exact hi), show [45] ++ s = 45 :: s from rfl, wayR_45]
 simp only []
 rw [hd, if_pos rfl]
theorem lit_neg (s : Bytes) : litP ([45] ++ s) = (0, false) := by
 refine litP_bad ?_ (.inl ?_)
 · rcases hp : Lib.hasPrefix ([45] ++ s) [48, 120] with _ | _
   · rfl
   · obtain ⟨r, hr⟩ := List.isPrefixOf_iff_prefix.1 hp
     have := congrArg List.head? hr; simp at this
 · have e1 : (45 :: s).takeWhile isDig = [] := by rw [List.takeWhile_cons, if_neg (by decide)]
   have e2 : (45 :: s).dropWhile isDig = 45 :: s := by rw [List.dropWhile_cons, if_neg (by decide)]
   have e3 : fracP (45 :: s) = ([], 45 :: s) := fracP_no (by
     rcases h : Lib.hasPrefix (45 :: s) [46] with _ | _
     · rfl
     · obtain ⟨q, hq⟩ := pre_dot h
       have := congrArg List.head? hq; simp at this)
   show (decP (45 :: s)).2 = false
   rw [decP_none e1 (by rw [e2, e3]) ⟨rfl, rfl⟩]
theorem lit_plain {s : Bytes} {A B : Bytes} {z : Int} (h : ∀ x ∈ s, okC x) (hd : decP s = (⟨A, B, z⟩, true)) (hA : A ≠ []) (hB : 46 ∈ s → B ≠ []) (h0 : A.length > 1 → A.head? ≠ some 48) : litP s = (nearestP ⟨A, B, z⟩, true) := by
 rw [litP_good (pre_none (fun x hx => (h x hx).ne.1) _), hd]
 unfold litBad
 rw [hd]
 rintro (q | q | q | q)
 · cases q
 · exact hA q
 · exact hB q.1 q.2
 · exact h0 q.1 q.2
def Tail (T : Bytes) (z : Int) : Prop := (T = [] ∧ z = 0) ∨ ∃ r, T = 101 :: r ∧ powN 0 ((wayP r).2.takeWhile isDig) * (wayP r).1 = z ∧ (wayP r).2.takeWhile isDig ≠ [] ∧ (wayP r).2.dropWhile isDig = [] ∧ ∀ x ∈ r, okC x ∧ x ≠ 46
theorem Tail.ok {T : Bytes} {z : Int} (h : Tail T z) : ∀ x ∈ T, okC x := by
 rcases h with ⟨h, _⟩ | ⟨r, h, _, _, _, hr⟩
 · rw [h]; intro x hx; cases hx
 · rw [h]; intro x hx
   rcases List.mem_cons.1 hx with q | q
   · exact .inr (.inr (.inl q))
   · exact (hr x q).1
theorem Tail.no46 {T : Bytes} {z : Int} (h : Tail T z) : 46 ∉ T := by
 rcases h with ⟨h, _⟩ | ⟨r, h, _, _, _, hr⟩
 · rw [h]; simp
 · rw [h]; intro hx
   rcases List.mem_cons.1 hx with q | q
   · exact absurd q (by decide)
   · exact (hr 46 q).2 rfl
theorem tail_itoa {z : Int} (h1 : -1099511627776 ≤ z) (h2 : z ≤ 1099511627776) : Tail ([101] ++ Lib.itoa z) z := by
 obtain ⟨p1, p2, p3⟩ := pow_itoa h1 h2
 refine .inr ⟨Lib.itoa z, rfl, p1, p2, p3, fun x hx => ?_⟩
 unfold Lib.itoa at hx
 split at hx
 · rcases List.mem_cons.1 hx with q | q
   · exact ⟨.inr (.inr (.inr (.inr q))), by rw [q]; decide⟩
   · exact ⟨.inl (decDigits_dig _ x q), (isDig_ne (decDigits_dig _ x q)).2.2.1⟩
 · exact ⟨.inl (decDigits_dig _ x hx), (isDig_ne (decDigits_dig _ x hx)).2.2.1⟩
theorem tail_plus {z : Int} (h1 : 0 ≤ z) (h2 : z ≤ 1099511627776) : Tail ([101, 43] ++ Lib.itoa z) z := by
 have e : Lib.itoa z = Lib.decDigits z.toNat := by unfold Lib.itoa; rw [if_neg (by omega)]
 have t := takeWhile_full (decDigits_dig z.toNat)
 rw [e]
 refine .inr ⟨43 :: Lib.decDigits z.toNat, rfl, ?_⟩
 rw [wayP_at (.inl rfl)]
 simp only []
 rw [t.1, t.2, powN_decDigits _ (by omega)]
 refine ⟨?_, decDigits_ne _, rfl, fun x hx => ?_⟩
 · show (z.toNat : Int) * (44 - 43) = z; omega
 · rcases List.mem_cons.1 hx with q | q
   · exact ⟨.inr (.inr (.inr (.inl q))), by rw [q]; decide⟩
   · exact ⟨.inl (decDigits_dig _ x q), (isDig_ne (decDigits_dig _ x q)).2.2.1⟩
theorem decP_tail {A T : Bytes} {z : Int} (hA : ∀ c ∈ A, isDig c = true) (hn : A ≠ []) (hT : Tail T z) : decP (A ++ T) = (⟨A, [], z⟩, true) := by
 rcases hT with ⟨h, hz⟩ | ⟨r, h, p1, p2, p3, _⟩
 · subst h; subst hz
   rw [List.append_nil]
   have t := takeWhile_full hA
   exact decP_end (A := A) (B := []) (R := []) t.1 (by rw [t.2]; rfl) (by rw [t.2]; rfl) (fun q => hn q.1) rfl
 · subst h
   have ta := takeWhile_stop (p := isDig) (X := A) (c := 101) (Y := r) hA (by decide)
   have hf : fracP ((A ++ 101 :: r).dropWhile isDig) = ([], 101 :: r) := by
     rw [ta.2]
     refine fracP_no ?_
     rcases h : Lib.hasPrefix (101 :: r) [46] with _ | _
     · rfl
     · obtain ⟨q, hq⟩ := pre_dot h
       have := congrArg List.head? hq; simp at this
   rw [decP_pow (A := A) (B := []) (R := 101 :: r) (c := 101) (r := r) ta.1 (by rw [hf]) (by rw [hf]) (fun q => hn q.1) rfl (.inl rfl), p1, p3]
   simp [p2]
theorem decP_tailp {A B T : Bytes} {z : Int} (hA : ∀ c ∈ A, isDig c = true) (hB : ∀ c ∈ B, isDig c = true) (hn : ¬ (A = [] ∧ B = [])) (hT : Tail T z) : decP (A ++ 46 :: (B ++ T)) = (⟨A, B, z⟩, true) := by
 have ta := takeWhile_stop (p := isDig) (X := A) (c := 46) (Y := B ++ T) hA (by decide)
 rcases hT with ⟨h, hz⟩ | ⟨r, h, p1, p2, p3, _⟩
 · subst h; subst hz
   have t := takeWhile_full hB
   rw [List.append_nil] at ta ⊢
   have hf : fracP ((A ++ 46 :: B).dropWhile isDig) = (B, []) := by rw [ta.2, fracP_dot, t.1, t.2]
   exact decP_end (A := A) (B := B) (R := []) ta.1 (by rw [hf]) (by rw [hf]) hn rfl
 · subst h
   have tb := takeWhile_stop (p := isDig) (X := B) (c := 101) (Y := r) hB (by decide)
   have hf : fracP ((A ++ 46 :: (B ++ 101 :: r)).dropWhile isDig) = (B, 101 :: r) := by rw [ta.2, fracP_dot, tb.1, tb.2]
   rw [decP_pow (A := A) (B := B) (R := 101 :: r) (c := 101) (r := r) ta.1 (by rw [hf]) (by rw [hf]) hn rfl (.inl rfl), p1, p3]
   simp [p2]
section
variable {a S : Nat} {D : Bytes} {p : Int} {i j k M d : Nat} {Q : Bytes} (hS : S = 1074) (h0 : 0 < a) (ha : a < 9218868437227405312) (h : Short a S D p i j k M d Q)
include h
theorem Short.length : D.length = k + 1 := by rw [h.cut, List.length_append, h.len]; rfl
theorem Short.first : ∃ c r, D = c :: r ∧ 49 ≤ c.toNat ∧ isDig c = true := by
  have hd := h.digs
  have hc := h.cut
  cases hQ : Q with
  | nil =>
    rw [hQ] at hc
    have := digC_dig (d := d) (by have := h.last; omega)
    exact ⟨digC d, [], by rw [hc]; rfl, by rw [this.2]; have := h.last; omega, this.1⟩
  | cons c r =>
    rw [hQ, List.cons_append] at hc
    have hcd : isDig c = true := hd c (by rw [hc]; exact List.mem_cons_self ..)
    have hl := h.len
    have hw := h.worth
    rw [hQ] at hl hw
    have hk : k = r.length + 1 := hl.symm
    have hlead := h.lead (by omega)
    rw [← hw, hk, Nat.add_sub_cancel, ofD_cons] at hlead
    have hlt := ofD_lt _ r rfl fun x hx => isDig_in (hd x (by rw [hc]; exact List.mem_cons_of_mem _ (List.mem_append.2 (.inl hx))))
    refine ⟨c, _, hc, ?_, hcd⟩
    have hc2 := isDig_in hcd
    rcases Nat.lt_or_ge 48 c.toNat with q | q
    · exact q
    · rw [show c.toNat - 48 = 0 by omega, Nat.zero_mul, Nat.zero_add] at hlead
      omega
include hS h0 ha
theorem Short.range : -400 ≤ p ∧ p ≤ 400 := by
 obtain ⟨c, r, hD, hc, -⟩ := h.first
 have hlen := h.length
 have hr : r.length = k := by rw [hD] at hlen; simpa using hlen
 have hlo : 10 ^ k ≤ ofD D := by rw [hD, ← hr]; exact ofD_lead hc
 have hhi := ofD_lt _ D rfl fun x hx => isDig_in (h.digs x hx)
 rw [hlen] at hhi
 have hp := h.pow
 have q10 : ∀ n : Nat, 0 < 10 ^ n := fun n => Nat.pow_pos (by decide)
 have q2 : ∀ n : Nat, 0 < 2 ^ n := fun n => Nat.two_pow_pos n
 apply Classical.byContradiction
 intro hn
 rcases Int.lt_or_le 400 p with hb | hb
 · have : isRN (ofD D * 10 ^ i * 2 ^ S) (10 ^ (j + k + 1)) 9218868437227405312 := by
     apply isRN_inf (q10 _)
     obtain ⟨n, hn, hv⟩ := valF_inf
     obtain ⟨t, ht, hp2⟩ := ten_310 (e := n - S) (by omega)
     rw [hv, show n = (n - S) + S by omega, Nat.pow_add 2, ← Nat.mul_assoc]
     refine Nat.mul_le_mul_right _ ?_
     refine Nat.le_trans (Nat.mul_le_mul_left _ hp2) ?_
     rw [← Nat.pow_add]
     refine Nat.le_trans ?_ (Nat.mul_le_mul_right _ hlo)
     rw [← Nat.pow_add]
     exact Nat.pow_le_pow_right (by decide) (by omega)
   have := isRN_uniq (q10 _) h.near this
   omega
 · have : isRN (ofD D * 10 ^ i * 2 ^ S) (10 ^ (j + k + 1)) 0 := by
     apply isRN_none
     obtain ⟨t, ht, hp2⟩ := ten_330 (e := S + 1) (by omega)
     have e1 : 2 * (ofD D * 10 ^ i * 2 ^ S) = ofD D * 10 ^ i * 2 ^ (S + 1) := by rw [Nat.pow_succ, Nat.mul_left_comm, Nat.mul_comm 2]
     have e2 : ofD D * 10 ^ i * 2 ^ (S + 1) < 10 ^ (k + 1) * 10 ^ i * 2 ^ (S + 1) := Nat.mul_lt_mul_of_pos_right (Nat.mul_lt_mul_of_pos_right hhi (q10 _)) (q2 _)
     have e3 : 10 ^ (k + 1) * 10 ^ i * 2 ^ (S + 1) ≤ 10 ^ (k + 1) * 10 ^ i * 10 ^ t := Nat.mul_le_mul_left _ hp2
     rw [← Nat.pow_add, ← Nat.pow_add] at e3
     have e4 : (10 : Nat) ^ (k + 1 + i + t) ≤ 10 ^ (j + k + 1) := Nat.pow_le_pow_right (by decide) (by omega)
     rw [← Nat.pow_add] at e2
     omega
   have := isRN_uniq (q10 _) h.near this
   omega
theorem form_back : ∃ A B z, decP (formP D p) = (⟨A, B, z⟩, true) ∧ nearestP ⟨A, B, z⟩ = a ∧ A ≠ [] ∧ (46 ∈ formP D p → B ≠ []) ∧ (A.length > 1 → A.head? ≠ some 48) ∧ (∀ x ∈ formP D p, okC x) ∧ ∃ c r, formP D p = c :: r ∧ isDig c = true := by
 obtain ⟨c, r, hD, hc, hcd⟩ := h.first
 have hlen := h.length
 have hr := h.range hS h0 ha
 have hdg := h.digs
 have hne : D ≠ [] := by rw [hD]; simp
 have hfew := h.few
 have hc48 : c ≠ 48 := by rintro rfl; exact absurd hc (by decide)
 have hz : ∀ n, ∀ x ∈ Lib.repeatL [48] n, x = 48 := fun n x hx => by
   rw [show [(48 : UInt8)] = List.replicate 1 48 from rfl, Lib.repeatL_replicate] at hx
   exact (List.mem_replicate.1 hx).2
 have hzl : ∀ n, (Lib.repeatL [48] n).length = n := fun n => by rw [Lib.repeatL_length]; simp
 have hzd : ∀ n, ∀ x ∈ Lib.repeatL [48] n, isDig x = true := fun n x hx => by rw [hz n x hx]; rfl
 have hz0 : ∀ n, ofD (Lib.repeatL [48] n) = 0 := fun n => by
   rw [← ofD_zeros, show (Lib.repeatL [48] n).dropWhile (· == 48) = [] from by rw [dropWhile_nil_iff, List.all_eq_true]; intro x hx; rw [hz n x hx]; rfl]; rfl
 by_cases f1 : p ≥ (D.length : Int) ∧ p ≤ 21
 · -- whole
   rw [form_a f1.1 f1.2]
   obtain ⟨n, hn⟩ : ∃ n, (p - (D.length : Int)).toNat = n := ⟨_, rfl⟩
   rw [hn]
   have hall : ∀ x ∈ D ++ Lib.repeatL [48] n, isDig x = true := fun x hx => (List.mem_append.1 hx).elim (hdg x) (hzd n x)
   have hdp := decP_tail (A := D ++ Lib.repeatL [48] n) (T := []) (z := 0) hall (by simp [hne]) (.inl ⟨rfl, rfl⟩)
   rw [List.append_nil] at hdp
   refine ⟨_, _, _, hdp, ?_, by simp [hne], ?_, ?_, fun x hx => .inl (hall x hx), ⟨c, _, by rw [hD]; rfl, hcd⟩⟩
   · refine back_near hS h (t := n) (by rw [List.append_nil]; exact hall) (by rw [List.append_nil, List.length_append, hzl]; omega) (by rw [List.append_nil, ofD_append, hz0, hzl, Nat.add_zero]) (by simp only [List.length_nil]; omega)
   · intro q; exact absurd (hall 46 q) (by decide)
   · intro _; rw [hD]; simp; exact hc48
 · by_cases f2 : p > 0 ∧ p ≤ 21
   · rw [form_b f1 f2.1 f2.2]
     have hA : ∀ x ∈ D.take p.toNat, isDig x = true := fun x hx => hdg x (List.mem_of_mem_take hx)
     have hB : ∀ x ∈ D.drop p.toNat, isDig x = true := fun x hx => hdg x (List.mem_of_mem_drop hx)
     have hdl : (D.drop p.toNat).length = D.length - p.toNat := List.length_drop ..
     have hBn : D.drop p.toNat ≠ [] := by intro q; rw [q, List.length_nil] at hdl; omega
     have hAt : D.take p.toNat = c :: r.take (p.toNat - 1) := by rw [hD, show p.toNat = (p.toNat - 1) + 1 by omega, List.take_succ_cons, Nat.add_sub_cancel]
     have hdp := decP_tailp (A := D.take p.toNat) (B := D.drop p.toNat) (T := []) (z := 0) hA hB (fun q => hBn q.2) (.inl ⟨rfl, rfl⟩)
     rw [List.append_nil] at hdp
     rw [show (D.take p.toNat ++ [46]) ++ D.drop p.toNat = D.take p.toNat ++ 46 :: D.drop p.toNat by simp]
     refine ⟨_, _, _, hdp, ?_, by rw [hAt]; simp, fun _ => hBn, ?_, ?_, ⟨c, _, by rw [hAt]; rfl, hcd⟩⟩
     · exact back_near hS h (t := 0) (by rw [List.take_append_drop]; exact hdg) (by rw [List.take_append_drop]; omega) (by rw [List.take_append_drop]; simp) (by rw [hdl]; omega)
     · intro _; rw [hAt]; simp; exact hc48
     · intro x hx
       rcases List.mem_append.1 hx with q | q
       · exact .inl (hA x q)
       · rcases List.mem_cons.1 q with w | w
         · exact .inr (.inl w)
         · exact .inl (hB x w)
   · by_cases f3 : p > -6 ∧ p ≤ 0
     · rw [form_c f1 f3.1 f3.2]
       obtain ⟨n, hn⟩ : ∃ n, (-p).toNat = n := ⟨_, rfl⟩
       rw [hn]
       have hB : ∀ x ∈ Lib.repeatL [48] n ++ D, isDig x = true := fun x hx => (List.mem_append.1 hx).elim (hzd n x) (hdg x)
       have hA : ∀ x ∈ ([48] : Bytes), isDig x = true := by decide
       have hdp := decP_tailp (A := [48]) (B := Lib.repeatL [48] n ++ D) (T := []) (z := 0) hA hB (by simp) (.inl ⟨rfl, rfl⟩)
       rw [List.append_nil] at hdp
       rw [show ([48, 46] ++ Lib.repeatL [48] n) ++ D = [48] ++ 46 :: (Lib.repeatL [48] n ++ D) by simp]
       refine ⟨_, _, _, hdp, ?_, by simp, fun _ => by simp [hne], by simp, ?_, ⟨48, _, rfl, rfl⟩⟩
       · refine back_near hS h (t := 0) (fun x hx => (List.mem_append.1 hx).elim (hA x) (hB x)) (by simp only [List.length_append, hzl]; simp; omega) ?_ (by rw [List.length_append, hzl]; omega)
         rw [ofD_append, ofD_append, hz0, show ofD [48] = 0 from rfl]; simp
       · intro x hx
         rcases List.mem_append.1 hx with q | q
         · exact .inl (hA x q)
         · rcases List.mem_cons.1 q with w | w
           · exact .inr (.inl w)
           · exact .inl (hB x w)
     · -- with a power
       obtain ⟨T, hT, hTe⟩ : ∃ T, Tail T (p - 1) ∧ formP D p = expo D ++ T := by
         by_cases f4 : p > 0
         · exact ⟨_, tail_plus (by omega) (by omega), by rw [form_d f1 f2 f3 f4, List.append_assoc]⟩
         · exact ⟨_, tail_itoa (by omega) (by omega), by rw [form_e f1 f2 f3 f4, List.append_assoc]⟩
       rw [hTe]
       by_cases f5 : (D.length : Int) > 1
       · rw [expo_t f5]
         have hA : ∀ x ∈ D.take 1, isDig x = true := fun x hx => hdg x (List.mem_of_mem_take hx)
         have hB : ∀ x ∈ D.drop 1, isDig x = true := fun x hx => hdg x (List.mem_of_mem_drop hx)
         have hdl : (D.drop 1).length = D.length - 1 := List.length_drop ..
         have hBn : D.drop 1 ≠ [] := by intro q; rw [q, List.length_nil] at hdl; omega
         have hAt : D.take 1 = [c] := by rw [hD]; rfl
         have hdp := decP_tailp (A := D.take 1) (B := D.drop 1) (T := T) (z := p - 1) hA hB (fun q => hBn q.2) hT
         rw [show ((D.take 1 ++ [46]) ++ D.drop 1) ++ T = D.take 1 ++ 46 :: (D.drop 1 ++ T) by simp]
         refine ⟨_, _, _, hdp, ?_, by rw [hAt]; simp, fun _ => hBn, by rw [hAt]; simp, ?_, ⟨c, _, by rw [hAt]; rfl, hcd⟩⟩
         · exact back_near hS h (t := 0) (by rw [List.take_append_drop]; exact hdg) (by rw [List.take_append_drop]; omega) (by rw [List.take_append_drop]; simp) (by rw [hdl]; omega)
         · intro x hx
           rcases List.mem_append.1 hx with q | q
           · exact .inl (hA x q)
           · rcases List.mem_cons.1 q with w | w
             · exact .inr (.inl w)
             · rcases List.mem_append.1 w with v | v
               · exact .inl (hB x v)
               · exact hT.ok x v
       · rw [expo_f f5]
         have hdp := decP_tail (A := D) (T := T) (z := p - 1) hdg hne hT
         refine ⟨_, _, _, hdp, ?_, hne, ?_, fun q => by omega, ?_, ⟨c, _, by rw [hD]; rfl, hcd⟩⟩
         · exact back_near hS h (t := 0) (by rw [List.append_nil]; exact hdg) (by rw [List.append_nil]; omega) (by rw [List.append_nil]; simp) (by simp only [List.length_nil]; omega)
         · intro q
           rcases List.mem_append.1 q with w | w
           · exact absurd (hdg 46 w) (by decide)
           · exact absurd w hT.no46
         · intro x hx
           rcases List.mem_append.1 hx with w | w
           · exact .inl (hdg x w)
           · exact hT.ok x w
end
end Go.Proofs.YtnhmmjogfkjceaaGreatDoor
namespace Go.Proofs.YtnhmmjogfkjceaaGreatDoor
open Go.Sl
def wantP (a : Nat) : Nat := if a % 9223372036854775808 > 9218868437227405312 then 9221120237041090560 else if a % 9223372036854775808 = 0 then 0 else a
theorem readP_nan : readP [78, 97, 78] = 9221120237041090560 := by kernel_rfl
theorem readP_0 : readP [48] = 0 := by kernel_rfl
theorem readP_inf8 : readP [73, 110, 102, 105, 110, 105, 116, 121] = 9218868437227405312 := by kernel_rfl
theorem readP_ninf : readP [45, 73, 110, 102, 105, 110, 105, 116, 121] = 18442240474082181120 := by kernel_rfl
theorem litP_nan : litP [78, 97, 78] = (0, false) := by kernel_rfl
theorem litP_0 : litP [48] = (0, true) := by kernel_rfl
theorem litP_inf8 : litP [73, 110, 102, 105, 110, 105, 116, 121] = (0, false) := by kernel_rfl
theorem print_form {a : Nat} (h0 : 0 < a) (ha : a < 9218868437227405312) : printP0 a = formP (shortP a).1 (shortP a).2 := by
 unfold printP0
 rw [if_neg (by omega), if_neg (by omega), if_neg (by omega)]
theorem read_print {a : Nat} (ha : a < 18446744073709551616) : readP (printP a) = wantP a := by
 unfold printP wantP
 by_cases h1 : a % 9223372036854775808 > 9218868437227405312
 · rw [if_pos h1, if_pos h1]; exact readP_nan
 rw [if_neg h1, if_neg h1]
 by_cases h2 : a % 9223372036854775808 = 0
 · rw [if_pos h2, if_pos h2]; exact readP_0
 rw [if_neg h2, if_neg h2]
 by_cases h3 : a ≥ 9223372036854775808
 · rw [if_pos h3]
   by_cases h4 : a - 9223372036854775808 = 9218868437227405312
   · rw [h4, show printP0 9218868437227405312 = [73, 110, 102, 105, 110, 105, 116, 121] from rfl]
     refine Eq.trans (show readP ([45] ++ [73, 110, 102, 105, 110, 105, 116, 121]) = 18442240474082181120 from readP_ninf) ?_
     omega
   · have b0 : 0 < a - 9223372036854775808 := by omega
     have b1 : a - 9223372036854775808 < 9218868437227405312 := by omega
     obtain ⟨S, hS⟩ : ∃ S : Nat, S = 1074 := ⟨_, rfl⟩
     obtain ⟨i, j, k, M, d, Q, hs⟩ := short_spec b0 b1 hS
     obtain ⟨A, B, z, q1, q2, -, -, -, q6, -⟩ := form_back hS b0 b1 hs
     rw [print_form b0 b1, read_neg q6 q1, q2]
     omega
 · rw [if_neg h3]
   by_cases h4 : a = 9218868437227405312
   · rw [h4, show printP0 9218868437227405312 = [73, 110, 102, 105, 110, 105, 116, 121] from rfl]; exact readP_inf8
   · have b0 : 0 < a := by omega
     have b1 : a < 9218868437227405312 := by omega
     obtain ⟨S, hS⟩ : ∃ S : Nat, S = 1074 := ⟨_, rfl⟩
     obtain ⟨i, j, k, M, d, Q, hs⟩ := short_spec b0 b1 hS
     obtain ⟨A, B, z, q1, q2, -, -, -, q6, c, r, q7, q8⟩ := form_back hS b0 b1 hs
     rw [print_form b0 b1, read_plain q7 q8 q6 q1, q2]
theorem lit_print {a : Nat} (ha : a < 18446744073709551616) : litP (printP a) = if a % 9223372036854775808 = 0 then (0, true) else if a < 9218868437227405312 then (a, true) else (0, false) := by
 unfold printP
 by_cases h1 : a % 9223372036854775808 > 9218868437227405312
 · rw [if_pos h1, if_neg (by omega), if_neg (by omega)]; exact litP_nan
 rw [if_neg h1]
 by_cases h2 : a % 9223372036854775808 = 0
 · rw [if_pos h2, if_pos h2]; exact litP_0
 rw [if_neg h2, if_neg h2]
 by_cases h3 : a ≥ 9223372036854775808
 · rw [if_pos h3, if_neg (by omega)]; exact lit_neg _
 · rw [if_neg h3]
   by_cases h4 : a = 9218868437227405312
   · rw [if_neg (by omega), h4, show printP0 9218868437227405312 = [73, 110, 102, 105, 110, 105, 116, 121] from rfl]; exact litP_inf8
   · have b0 : 0 < a := by omega
     have b1 : a < 9218868437227405312 := by omega
     obtain ⟨S, hS⟩ : ∃ S : Nat, S = 1074 := ⟨_, rfl⟩
     obtain ⟨i, j, k, M, d, Q, hs⟩ := short_spec b0 b1 hS
     obtain ⟨A, B, z, q1, q2, q3, q4, q5, q6, -⟩ := form_back hS b0 b1 hs
     rw [if_pos b1, print_form b0 b1, lit_plain q6 q1 q3 q4 q5, q2]
def mag (a : Nat) : Nat := a % 9223372036854775808
theorem read64 (a : Nat) (ha : a < 18446744073709551616) : Ieee.double.read a =
   if mag a < 4503599627370496 then .number (decide (9223372036854775808 ≤ a)) (mag a) (-1074)
   else if mag a < 9218868437227405312 then .number (decide (9223372036854775808 ≤ a)) (4503599627370496 + mag a % 4503599627370496) (-1074 + (mag a / 4503599627370496 - 1 : Nat))
   else if mag a = 9218868437227405312 then .infinity (decide (9223372036854775808 ≤ a)) else .nan (decide (9223372036854775808 ≤ a)) (mag a - 9218868437227405312) := by
 have hs : (a / 9223372036854775808 % 2 == 1) = decide (9223372036854775808 ≤ a) := by
   rw [Bool.eq_iff_iff]; simp; omega
 unfold Ieee.Format.read
 rw [show Ieee.double.signWeight = 9223372036854775808 from rfl, show Ieee.double.binade = 4503599627370496 from rfl, show Ieee.double.infRung = 9218868437227405312 from rfl, show Ieee.double.leastPlace = -1074 from rfl]
 simp only [hs]
 rfl
theorem read_fin {a : Nat} (ha : a < 18446744073709551616) (h : mag a < 9218868437227405312) : ∃ m k : Nat, Ieee.double.read a = .number (decide (9223372036854775808 ≤ a)) m ((k : Int) - 1074) ∧ valF (mag a) = m * 2 ^ k ∧ m < 9007199254740992 ∧ k ≤ 2045 := by
 rw [read64 a ha]
 by_cases h1 : mag a < 4503599627370496
 · rw [if_pos h1]
   exact ⟨mag a, 0, rfl, by unfold valF; rw [if_pos h1]; simp, by omega, by omega⟩
 · rw [if_neg h1, if_pos h]
   refine ⟨4503599627370496 + mag a % 4503599627370496, mag a / 4503599627370496 - 1, ?_, by unfold valF; rw [if_neg h1, Nat.add_comm], by omega, by omega⟩
   congr 1 <;> omega
theorem valF_pos {a : Nat} (h : 0 < a) : 0 < valF a := by have := valF_mono_lt h; rw [valF_zero] at this; exact this
theorem valF_eq0 {a : Nat} : valF a = 0 ↔ a = 0 := ⟨fun h => by rcases Nat.eq_zero_or_pos a with z | z; exact z; have := valF_pos z; omega, fun h => by rw [h]; rfl⟩
def valZ (a : Nat) : Int := if 9223372036854775808 ≤ a then -(valF (mag a) : Int) else (valF (mag a) : Int)
theorem signed_val {s : Bool} {m k n b : Nat} (hb : b ≤ k) : Ieee.signed s m (k - b) * 2 ^ b = if s = true then -((m * 2 ^ k : Nat) : Int) else ((m * 2 ^ k : Nat) : Int) := by
 have e : ((m <<< (k - b) : Nat) : Int) * 2 ^ b = ((m * 2 ^ k : Nat) : Int) := by
   rw [Nat.shiftLeft_eq, show (2 : Int) ^ b = ((2 ^ b : Nat) : Int) by simp, ← Int.natCast_mul, Nat.mul_assoc, ← Nat.pow_add, show k - b + b = k by omega]
 unfold Ieee.signed
 split
 · rw [Int.neg_mul, e]
 · exact e
theorem order_fin {a b : Nat} (ha : a < 18446744073709551616) (hb : b < 18446744073709551616) (h1 : mag a < 9218868437227405312) (h2 : mag b < 9218868437227405312) : Ieee.double.order a b = some (compare (valZ a) (valZ b)) := by
 obtain ⟨m, k, r1, v1, -, -⟩ := read_fin ha h1
 obtain ⟨n, l, r2, v2, -, -⟩ := read_fin hb h2
 unfold Ieee.Format.order
 rw [r1, r2]
 show some (compare (Ieee.signed _ m (((k : Int) - 1074) - min ((k : Int) - 1074) ((l : Int) - 1074)).toNat) (Ieee.signed _ n (((l : Int) - 1074) - min ((k : Int) - 1074) ((l : Int) - 1074)).toNat)) = _
 obtain ⟨c, hc⟩ : ∃ c : Nat, c = min k l := ⟨_, rfl⟩
 rw [show (((k : Int) - 1074) - min ((k : Int) - 1074) ((l : Int) - 1074)).toNat = k - c by omega, show (((l : Int) - 1074) - min ((k : Int) - 1074) ((l : Int) - 1074)).toNat = l - c by omega]
 have e1 := signed_val (s := decide (9223372036854775808 ≤ a)) (m := m) (k := k) (n := n) (b := c) (by omega)
 have e2 := signed_val (s := decide (9223372036854775808 ≤ b)) (m := n) (k := l) (n := n) (b := c) (by omega)
 have z1 : valZ a = Ieee.signed (decide (9223372036854775808 ≤ a)) m (k - c) * 2 ^ c := by rw [e1]; unfold valZ; rw [v1]; simp only [decide_eq_true_eq]
 have z2 : valZ b = Ieee.signed (decide (9223372036854775808 ≤ b)) n (l - c) * 2 ^ c := by rw [e2]; unfold valZ; rw [v2]; simp only [decide_eq_true_eq]
 rw [z1, z2]
 generalize Ieee.signed (decide (9223372036854775808 ≤ a)) m (k - c) = x
 generalize Ieee.signed (decide (9223372036854775808 ≤ b)) n (l - c) = y
 have hp : (0 : Int) < 2 ^ c := by have := Int.pow_pos (n := 2) (m := c) (by decide); exact this
 congr 1
 have lt : x * 2 ^ c < y * 2 ^ c ↔ x < y := Int.mul_lt_mul_right hp
 have eq : x * 2 ^ c = y * 2 ^ c ↔ x = y := ⟨fun h => Int.eq_of_mul_eq_mul_right (by omega) h, fun h => by rw [h]⟩
 show compareOfLessAndEq x y = compareOfLessAndEq (x * 2 ^ c) (y * 2 ^ c)
 unfold compareOfLessAndEq
 simp only [lt, eq]
theorem order_nan {a b : Nat} (ha : a < 18446744073709551616) (h : mag a > 9218868437227405312) : Ieee.double.order a b = none ∧ Ieee.double.order b a = none := by
 have hr : ∃ s f, Ieee.double.read a = .nan s f := by
   rw [read64 a ha, if_neg (by omega), if_neg (by omega), if_neg (by omega)]
   exact ⟨_, _, rfl⟩
 obtain ⟨s, f, hr⟩ := hr
 unfold Ieee.Format.order
 rw [hr]
 refine ⟨rfl, ?_⟩
 cases Ieee.double.read b <;> rfl
theorem order_inf {a b : Nat} (ha : a < 18446744073709551616) (hb : b < 18446744073709551616) (h : mag a = 9218868437227405312) (h2 : mag b < 9218868437227405312) : Ieee.double.order a b = some (if 9223372036854775808 ≤ a then .lt else .gt) := by
 obtain ⟨m, k, r1, -⟩ := read_fin hb h2
 unfold Ieee.Format.order
 rw [r1, read64 a ha, if_neg (by omega), if_neg (by omega), if_pos h]
 show some (if decide (9223372036854775808 ≤ a) = true then Ordering.lt else .gt) = _
 simp only [decide_eq_true_eq]
theorem order_self {a : Nat} (ha : a < 18446744073709551616) : Ieee.double.order a a = if mag a > 9218868437227405312 then none else some .eq := by
 by_cases h : mag a > 9218868437227405312
 · rw [if_pos h]; exact (order_nan ha h).1
 · rw [if_neg h]
   by_cases h1 : mag a = 9218868437227405312
   · unfold Ieee.Format.order
     rw [read64 a ha, if_neg (by omega), if_neg (by omega), if_pos h1]
     show some (compare _ _) = some .eq
     cases decide (9223372036854775808 ≤ a) <;> rfl
   · rw [order_fin ha ha (by omega) (by omega)]
     congr 1
     show compareOfLessAndEq (valZ a) (valZ a) = .eq
     unfold compareOfLessAndEq
     rw [if_neg (by omega), if_pos rfl]
theorem cmp_eq_iff (x y : Int) : (some (compare x y) == some Ordering.eq) = decide (x = y) ∧ (some (compare x y) == some Ordering.lt) = decide (x < y) ∧ (some (compare x y) == some Ordering.gt) = decide (y < x) := by
 show (some (compareOfLessAndEq x y) == _) = _ ∧ (some (compareOfLessAndEq x y) == _) = _ ∧ (some (compareOfLessAndEq x y) == _) = _
 unfold compareOfLessAndEq
 by_cases h1 : x < y
 · rw [if_pos h1, decide_eq_false (show ¬ x = y by omega), decide_eq_true h1, decide_eq_false (show ¬ y < x by omega)]
   exact ⟨rfl, rfl, rfl⟩
 · rw [if_neg h1]
   by_cases h2 : x = y
   · rw [if_pos h2, decide_eq_true h2, decide_eq_false h1, decide_eq_false (show ¬ y < x by omega)]
     exact ⟨rfl, rfl, rfl⟩
   · rw [if_neg h2, decide_eq_false h2, decide_eq_false h1, decide_eq_true (show y < x by omega)]
     exact ⟨rfl, rfl, rfl⟩
theorem valZ_0 : valZ 0 = 0 := rfl
theorem f_nan {a : Nat} (ha : a < 18446744073709551616) : (Ieee.double.order a a != some .eq) = decide (mag a > 9218868437227405312) := by
 rw [order_self ha]
 by_cases h : mag a > 9218868437227405312
 · rw [if_pos h, decide_eq_true h]; rfl
 · rw [if_neg h, decide_eq_false h]; rfl
theorem f_eq0 {a : Nat} (ha : a < 18446744073709551616) : (Ieee.double.order a 0 == some .eq) = decide (mag a = 0) := by
 rcases Nat.lt_trichotomy (mag a) 9218868437227405312 with h | h | h
 · rw [order_fin ha (by decide) h (by decide), (cmp_eq_iff _ _).1, valZ_0]
   apply decide_eq_decide.2
   rw [← valF_eq0]
   unfold valZ
   split <;> omega
 · rw [order_inf ha (by decide) h (by decide), decide_eq_false (by omega)]
   split <;> rfl
 · rw [(order_nan ha h).1, decide_eq_false (by omega)]; rfl
theorem f_ge0 {a : Nat} (ha : a < 18446744073709551616) : (Ieee.double.order a 0 == some .gt || Ieee.double.order a 0 == some .eq) = decide (mag a ≤ 9218868437227405312 ∧ (a < 9223372036854775808 ∨ mag a = 0)) := by
 rcases Nat.lt_trichotomy (mag a) 9218868437227405312 with h | h | h
 · rw [order_fin ha (by decide) h (by decide), (cmp_eq_iff _ _).1, (cmp_eq_iff _ _).2.2, valZ_0, ← Bool.decide_or]
   apply decide_eq_decide.2
   have := valF_eq0 (a := mag a)
   unfold valZ
   split <;> omega
 · rw [order_inf ha (by decide) h (by decide)]
   by_cases h2 : 9223372036854775808 ≤ a
   · rw [if_pos h2, decide_eq_false (by omega)]; rfl
   · rw [if_neg h2, decide_eq_true (by omega)]; rfl
 · rw [(order_nan ha h).1, decide_eq_false (by omega)]; rfl
theorem f_leMax {a : Nat} (ha : a < 18446744073709551616) (hs : a < 9223372036854775808 ∨ mag a = 0) : (Ieee.double.order a 9218868437227405311 == some .lt || Ieee.double.order a 9218868437227405311 == some .eq) = decide (mag a < 9218868437227405312) := by
 rcases Nat.lt_trichotomy (mag a) 9218868437227405312 with h | h | h
 · rw [order_fin ha (by decide) h (by decide), (cmp_eq_iff _ _).1, (cmp_eq_iff _ _).2.1, ← Bool.decide_or]
   apply decide_eq_decide.2
   have h1 := valF_mono (a := mag a) (b := 9218868437227405311) (by omega)
   have h2 : valZ 9218868437227405311 = (valF 9218868437227405311 : Int) := by unfold valZ; rw [if_neg (by decide)]; rfl
   rw [h2]
   unfold valZ
   split <;> omega
 · rw [order_inf ha (by decide) h (by decide), decide_eq_false (by omega), if_neg (by unfold mag at h hs; omega)]; rfl
 · rw [(order_nan ha h).1, decide_eq_false (by omega)]; rfl
end Go.Proofs.YtnhmmjogfkjceaaGreatDoor
namespace Go.Proofs.YtnhmmjogfkjceaaGreatDoor
open Go Go.Sl
section
variable {P : Program} {ρ : Fr} {δ : Nat → Value} {w : World} {dst : Option Tmp} {t t2 ty : TypeId} {x y : Operand} {pos : String} {after : Array Edge} {gd : Option (Nat × Bool)} {a b : Nat} {r : Bool}
theorem run_feq (h : (Ieee.double.order a b == some .eq) = r) (hx : ev δ ρ x = .float .f64 a) (hy : ev δ ρ y = .float .f64 b) : (execOp (ev δ ρ) ⟨dst, .binOp .eql t x y t2, ty, pos, after, gd⟩).run P w = .ok (.value (.bool r)) w := by
 simp only [execOp, hx, hy, Sem.run_bind]
 rw [← h]
 rfl
theorem run_fne (h : (Ieee.double.order a b != some .eq) = r) (hx : ev δ ρ x = .float .f64 a) (hy : ev δ ρ y = .float .f64 b) : (execOp (ev δ ρ) ⟨dst, .binOp .neq t x y t2, ty, pos, after, gd⟩).run P w = .ok (.value (.bool r)) w := by
 simp only [execOp, hx, hy, Sem.run_bind]
 rw [← h]
 rfl
theorem run_fge (h : (Ieee.double.order a b == some .gt || Ieee.double.order a b == some .eq) = r) (hx : ev δ ρ x = .float .f64 a) (hy : ev δ ρ y = .float .f64 b) : (execOp (ev δ ρ) ⟨dst, .binOp .geq t x y t2, ty, pos, after, gd⟩).run P w = .ok (.value (.bool r)) w := by
 simp only [execOp, hx, hy, Sem.run_bind]
 rw [← h]
 rfl
theorem run_fle (h : (Ieee.double.order a b == some .lt || Ieee.double.order a b == some .eq) = r) (hx : ev δ ρ x = .float .f64 a) (hy : ev δ ρ y = .float .f64 b) : (execOp (ev δ ρ) ⟨dst, .binOp .leq t x y t2, ty, pos, after, gd⟩).run P w = .ok (.value (.bool r)) w := by
 simp only [execOp, hx, hy, Sem.run_bind]
 rw [← h]
 rfl
end
end Go.Proofs.YtnhmmjogfkjceaaGreatDoor
namespace Go.Proofs.YtnhmmjogfkjceaaGreatDoor
open Go.Sl
end Go.Proofs.YtnhmmjogfkjceaaGreatDoor
namespace Go.Proofs.YtnhmmjogfkjceaaGreatDoor
open Go.Sl

theorem r1_Val {W0 : World} {a : Nat} : SC Tryz.prog W0 12 #[.int .u64 (a : Int)] [] (Ret (fun _ : Unit => []) (fun v _ => v = .float .f64 a)) := by
 refine SC_body (fn := Tryz.f12) (n := 5) Tryz.func12 rfl (by kernel_rfl) (ρ := [(0, .int .u64 (a : Int))]) rfl ?_
 refine sr ?_
 refine os 1 ?_
 refine nsr ?_
 refine os 1 ?_
 refine oV (.float .f64 a) ?_
 refine os 1 ?_
 refine nt ?_
 refine SW_ret ?_
 refine body_end (.float .f64 a) (fun _ => rfl) ?_
 exact ⟨(), ow, rfl⟩

def ofP (a : Nat) : Nat := if mag a > 9218868437227405312 then 9221120237041090560 else a
theorem r1_Of {W0 : World} {a : Nat} (ha : a < 18446744073709551616) : SC Tryz.prog W0 13 #[.float .f64 a] [] (Ret (fun _ : Unit => []) (fun v _ => v = .int .u64 (ofP a : Int))) := by
 refine SC_body (fn := Tryz.f13) (n := 8) Tryz.func13 rfl (by kernel_rfl) (ρ := [(0, .float .f64 a)]) rfl ?_
 refine sr ?_
 refine os 1 ?_
 refine nq ?_
 refine sr ?_
 refine os 2 ?_
 refine oV (.bool (decide (mag a > 9218868437227405312))) ?_ (hs := (fun δ w_ => run_fne (f_nan ha) rfl rfl))
 refine nt ?_
 refine cdp (fun hc1 : mag a > 9218868437227405312 => ?_) (fun hc1 => ?_)
 ·refine sr ?_
  refine os 1 ?_
  refine nt ?_
  refine SW_ret (r_then ?_)
  refine body_end (.int .u64 9221120237041090560) (fun _ => rfl) ?_
  exact ⟨(), ow, by unfold ofP; rw [if_pos hc1]; rfl⟩
 refine SW_skip (n_then ?_)
 refine sr ?_
 refine os 1 ?_
 refine oV (.int .u64 (a : Int)) ?_
 refine os 1 ?_
 refine kp [2, 5, 0] ?_
 refine nt ?_
 refine SW_ret ?_
 refine body_end (.int .u64 (a : Int)) (fun _ => rfl) ?_
 exact ⟨(), ow, by unfold ofP; rw [if_neg hc1]⟩

theorem want_0 {a : Nat} (h : mag a = 0) : wantP a = 0 := by unfold wantP mag at *; rw [if_neg (by omega), if_pos h]
theorem want_of {a : Nat} (h : ¬ mag a = 0) : wantP a = ofP a := by
 unfold wantP ofP mag at *
 by_cases h1 : a % 9223372036854775808 > 9218868437227405312
 · rw [if_pos h1, if_pos h1]
 · rw [if_neg h1, if_neg h1, if_neg h]
theorem lit_ok {a : Nat} (ha : a < 18446744073709551616) {b : Bool} (h : b = (litP (printP a)).2) : b = decide (mag a = 0 ∨ a < 9218868437227405312) := by
 rw [h, lit_print ha]
 unfold mag
 by_cases h1 : a % 9223372036854775808 = 0
 · rw [if_pos h1, decide_eq_true (.inl h1)]
 · rw [if_neg h1]
   by_cases h2 : a < 9218868437227405312
   · rw [if_pos h2, decide_eq_true (.inr h2)]
   · rw [if_neg h2, decide_eq_false (by omega)]
theorem lit_val {a x : Nat} (ha : a < 18446744073709551616) {b : Bool} (h1 : x = (litP (printP a)).1) (h2 : b = (litP (printP a)).2) : b = true → x = wantP a := by
 rw [lit_print ha] at h1 h2
 intro hb
 subst h1
 rw [h2] at hb
 unfold wantP
 by_cases h1 : a % 9223372036854775808 = 0
 · rw [if_pos h1, if_neg (by omega), if_pos h1]
 · rw [if_neg h1] at hb ⊢
   by_cases h2 : a < 9218868437227405312
   · rw [if_pos h2, if_neg (by omega), if_neg h1]
   · rw [if_neg h2] at hb; cases hb

theorem law_NumtextBack {W0 : World} (hL : LaidN W0) {a : Nat} (ha : a < 18446744073709551616) : SC Tryz.prog W0 4 #[.int .u64 (a : Int)] [] (Ret (fun _ : Unit => []) (fun v _ => v = .bool true)) := by
 refine SC_body (fn := Tryz.f4) (n := 49) Tryz.func4 rfl (by kernel_rfl) (ρ := [(0, .int .u64 (a : Int))]) rfl ?_
 refine sr ?_
 refine os 1 ?_
 refine nsr ?_
 refine os 1 ?_
 refine L (cl (r1_Val (a := a)) ?_)
 rintro _ _ rfl
 refine un ?_
 refine os 1 ?_
 refine nsr ?_
 refine os 1 ?_
 refine L (cl (r1_Of (a := a) (by omega)) ?_)
 rintro _ _ rfl
 refine un ?_
 refine os 1 ?_
 refine kp [4, 3, 2, 0] ?_
 refine nq ?_
 refine sr ?_
 refine os 1 ?_
 refine oV (.bool (decide (mag a = 0))) ?_ (hs := (fun δ w_ => run_feq (f_eq0 ha) rfl rfl))
 refine nt ?_
 refine cdp (fun hc1 : mag a = 0 => ?_) (fun hc1 => ?_)
 ·refine SW_region ?_
  refine os 1 ?_
  refine nsr ?_
  refine os 1 ?_
  refine L (cl (num_Print (W0 := W0) hL (a := a) ha) ?_)
  rintro _ _ ⟨rfl, hpl_⟩
  refine un ?_
  refine os 1 ?_
  refine kp [5, 4, 14, 3, 2, 0] ?_
  refine nsr ?_
  refine os 1 ?_
  have hli_ := num_Literal (W0 := W0) (X := printP a) (by omega)
  obtain ⟨L1, hL1_⟩ : ∃ q, q = (litP (printP a)).1 := ⟨_, rfl⟩
  obtain ⟨L2, hL2_⟩ : ∃ q, q = (litP (printP a)).2 := ⟨_, rfl⟩
  rw [← hL1_, ← hL2_] at hli_
  have hl2_ := lit_ok ha hL2_
  have hl1_ := lit_val ha hL1_ hL2_
  refine L (cl (hli_) ?_)
  rintro _ _ rfl
  refine un ?_
  refine os 5 ?_
  refine kp [7, 6, 5, 4, 14, 3, 2, 0] ?_
  refine nsr ?_
  refine os 1 ?_
  refine oV (.bool (decide (mag a ≤ 9218868437227405312 ∧ (a < 9223372036854775808 ∨ mag a = 0)))) ?_ (hs := (fun δ w_ => run_fge (f_ge0 ha) rfl rfl))
  refine os 1 ?_
  refine tbp 24 (fun hg2 => ?_) (fun hg2 => ?_)
  ·replace hg2 : mag a ≤ 9218868437227405312 ∧ (a < 9223372036854775808 ∨ mag a = 0) := hg2
   refine os 1 ?_
   refine oV (.bool (decide (mag a < 9218868437227405312))) ?_ (hs := (fun δ w_ => run_fle (f_leMax ha hg2.2) rfl rfl))
   refine os 2 ?_
   refine kp [8, 7, 6, 5, 4, 14, 3, 2, 0] ?_
   refine nsr ?_
   refine L (cl (law_alive2 hL) ?_)
   rintro _ _ rfl
   refine un ?_
   refine os 2 ?_
   refine L (cl (num_Read (X := printP a) (by first | omega | (simp; omega))) ?_)
   rintro _ _ rfl
   refine un ?_
   refine os 4 ?_
   refine kp [35, 8, 7, 6, 5, 4, 14, 3, 2, 0] ?_
   refine pn 35 (show ((readP (printP a) : Int) == 0) = true from (beq_iff_eq.2 (by rw [read_print ha]; first | (rw [want_0 (by assumption)]; rfl) | rw [want_of (by assumption)]))) ?_
   refine os 5 ?_
   refine pn 40 (show (L2 == (decide (mag a < 9218868437227405312))) = true from (by rw [hl2_]; simp only [beq_iff_eq]; apply decide_eq_decide.2; unfold mag at *; omega)) ?_
   refine os 3 ?_
   refine kp [43, 40, 8, 7, 6, 5, 4, 14, 3, 2, 0] ?_
   refine tb 43 (fun hg5 => ?_) (fun hg5 => ?_)
   ·replace hg5 : (!L2) = true := hg5
    replace hg5 := bnot_t hg5
    refine os 6 ?_
    refine kp [2, 8, 7, 6, 5, 4, 14, 3, 0] ?_
    refine nt ?_
    refine SW_ret ?_
    refine body_end (.bool true) (fun _ => rfl) ?_
    exact ⟨(), ow, rfl⟩
   replace hg5 : (!L2) = false := hg5
   replace hg5 := bnot_f hg5
   refine os 6 ?_
   refine kp [2, 8, 7, 6, 5, 4, 14, 3, 0] ?_
   refine nt ?_
   refine SW_ret ?_
   refine body_end (.bool ((L1 : Int) == 0)) (fun _ => rfl) ?_
   exact ⟨(), ow, congrArg Value.bool (beq_iff_eq.2 (by rw [hl1_ (by assumption)]; first | (rw [want_0 (by assumption)]; rfl) | rw [want_of (by assumption)]))⟩
  replace hg2 : ¬ (mag a ≤ 9218868437227405312 ∧ (a < 9223372036854775808 ∨ mag a = 0)) := hg2
  refine os 4 ?_
  refine kp [8, 7, 6, 5, 4, 14, 3, 2, 0] ?_
  refine nsr ?_
  refine L (cl (law_alive2 hL) ?_)
  rintro _ _ rfl
  refine un ?_
  refine os 2 ?_
  refine L (cl (num_Read (X := printP a) (by first | omega | (simp; omega))) ?_)
  rintro _ _ rfl
  refine un ?_
  refine os 4 ?_
  refine kp [35, 8, 7, 6, 5, 4, 14, 3, 2, 0] ?_
  refine pn 35 (show ((readP (printP a) : Int) == 0) = true from (beq_iff_eq.2 (by rw [read_print ha]; first | (rw [want_0 (by assumption)]; rfl) | rw [want_of (by assumption)]))) ?_
  refine os 5 ?_
  refine pn 40 (show (L2 == false) = true from (by rw [hl2_]; simp only [beq_iff_eq]; apply decide_eq_false; unfold mag at *; omega)) ?_
  refine os 3 ?_
  refine kp [43, 40, 8, 7, 6, 5, 4, 14, 3, 2, 0] ?_
  refine tb 43 (fun hg8 => ?_) (fun hg8 => ?_)
  ·replace hg8 : (!L2) = true := hg8
   replace hg8 := bnot_t hg8
   refine os 6 ?_
   refine kp [2, 8, 7, 6, 5, 4, 14, 3, 0] ?_
   refine nt ?_
   refine SW_ret ?_
   refine body_end (.bool true) (fun _ => rfl) ?_
   exact ⟨(), ow, rfl⟩
  replace hg8 : (!L2) = false := hg8
  replace hg8 := bnot_f hg8
  refine os 6 ?_
  refine kp [2, 8, 7, 6, 5, 4, 14, 3, 0] ?_
  refine nt ?_
  refine SW_ret ?_
  refine body_end (.bool ((L1 : Int) == 0)) (fun _ => rfl) ?_
  exact ⟨(), ow, congrArg Value.bool (beq_iff_eq.2 (by rw [hl1_ (by assumption)]; first | (rw [want_0 (by assumption)]; rfl) | rw [want_of (by assumption)]))⟩
 refine SW_skip (n_then ?_)
 refine sr ?_
 refine os 1 ?_
 refine L (cl (num_Print (W0 := W0) hL (a := a) ha) ?_)
 rintro _ _ ⟨rfl, hpl_⟩
 refine un ?_
 refine os 1 ?_
 refine kp [5, 14, 4, 3, 2, 0] ?_
 refine nsr ?_
 refine os 1 ?_
 have hli_ := num_Literal (W0 := W0) (X := printP a) (by omega)
 obtain ⟨L1, hL1_⟩ : ∃ q, q = (litP (printP a)).1 := ⟨_, rfl⟩
 obtain ⟨L2, hL2_⟩ : ∃ q, q = (litP (printP a)).2 := ⟨_, rfl⟩
 rw [← hL1_, ← hL2_] at hli_
 have hl2_ := lit_ok ha hL2_
 have hl1_ := lit_val ha hL1_ hL2_
 refine L (cl (hli_) ?_)
 rintro _ _ rfl
 refine un ?_
 refine os 5 ?_
 refine kp [7, 6, 5, 14, 4, 3, 2, 0] ?_
 refine nsr ?_
 refine os 1 ?_
 refine oV (.bool (decide (mag a ≤ 9218868437227405312 ∧ (a < 9223372036854775808 ∨ mag a = 0)))) ?_ (hs := (fun δ w_ => run_fge (f_ge0 ha) rfl rfl))
 refine os 1 ?_
 refine tbp 24 (fun hg9 => ?_) (fun hg9 => ?_)
 ·replace hg9 : mag a ≤ 9218868437227405312 ∧ (a < 9223372036854775808 ∨ mag a = 0) := hg9
  refine os 1 ?_
  refine oV (.bool (decide (mag a < 9218868437227405312))) ?_ (hs := (fun δ w_ => run_fle (f_leMax ha hg9.2) rfl rfl))
  refine os 2 ?_
  refine kp [8, 7, 6, 5, 14, 4, 3, 2, 0] ?_
  refine nsr ?_
  refine L (cl (law_alive2 hL) ?_)
  rintro _ _ rfl
  refine un ?_
  refine os 2 ?_
  refine L (cl (num_Read (X := printP a) (by first | omega | (simp; omega))) ?_)
  rintro _ _ rfl
  refine un ?_
  refine os 4 ?_
  refine kp [35, 8, 7, 6, 5, 14, 4, 3, 2, 0] ?_
  refine pn 35 (show ((readP (printP a) : Int) == (ofP a : Int)) = true from (beq_iff_eq.2 (by rw [read_print ha]; first | (rw [want_0 (by assumption)]; rfl) | rw [want_of (by assumption)]))) ?_
  refine os 5 ?_
  refine pn 40 (show (L2 == (decide (mag a < 9218868437227405312))) = true from (by rw [hl2_]; simp only [beq_iff_eq]; apply decide_eq_decide.2; unfold mag at *; omega)) ?_
  refine os 3 ?_
  refine kp [43, 40, 8, 7, 6, 5, 14, 4, 3, 2, 0] ?_
  refine tb 43 (fun hg12 => ?_) (fun hg12 => ?_)
  ·replace hg12 : (!L2) = true := hg12
   replace hg12 := bnot_t hg12
   refine os 6 ?_
   refine kp [2, 8, 7, 6, 5, 14, 4, 3, 0] ?_
   refine nt ?_
   refine SW_ret ?_
   refine body_end (.bool true) (fun _ => rfl) ?_
   exact ⟨(), ow, rfl⟩
  replace hg12 : (!L2) = false := hg12
  replace hg12 := bnot_f hg12
  refine os 6 ?_
  refine kp [2, 8, 7, 6, 5, 14, 4, 3, 0] ?_
  refine nt ?_
  refine SW_ret ?_
  refine body_end (.bool ((L1 : Int) == (ofP a : Int))) (fun _ => rfl) ?_
  exact ⟨(), ow, congrArg Value.bool (beq_iff_eq.2 (by rw [hl1_ (by assumption)]; first | (rw [want_0 (by assumption)]; rfl) | rw [want_of (by assumption)]))⟩
 replace hg9 : ¬ (mag a ≤ 9218868437227405312 ∧ (a < 9223372036854775808 ∨ mag a = 0)) := hg9
 refine os 4 ?_
 refine kp [8, 7, 6, 5, 14, 4, 3, 2, 0] ?_
 refine nsr ?_
 refine L (cl (law_alive2 hL) ?_)
 rintro _ _ rfl
 refine un ?_
 refine os 2 ?_
 refine L (cl (num_Read (X := printP a) (by first | omega | (simp; omega))) ?_)
 rintro _ _ rfl
 refine un ?_
 refine os 4 ?_
 refine kp [35, 8, 7, 6, 5, 14, 4, 3, 2, 0] ?_
 refine pn 35 (show ((readP (printP a) : Int) == (ofP a : Int)) = true from (beq_iff_eq.2 (by rw [read_print ha]; first | (rw [want_0 (by assumption)]; rfl) | rw [want_of (by assumption)]))) ?_
 refine os 5 ?_
 refine pn 40 (show (L2 == false) = true from (by rw [hl2_]; simp only [beq_iff_eq]; apply decide_eq_false; unfold mag at *; omega)) ?_
 refine os 3 ?_
 refine kp [43, 40, 8, 7, 6, 5, 14, 4, 3, 2, 0] ?_
 refine tb 43 (fun hg15 => ?_) (fun hg15 => ?_)
 ·replace hg15 : (!L2) = true := hg15
  replace hg15 := bnot_t hg15
  refine os 6 ?_
  refine kp [2, 8, 7, 6, 5, 14, 4, 3, 0] ?_
  refine nt ?_
  refine SW_ret ?_
  refine body_end (.bool true) (fun _ => rfl) ?_
  exact ⟨(), ow, rfl⟩
 replace hg15 : (!L2) = false := hg15
 replace hg15 := bnot_f hg15
 refine os 6 ?_
 refine kp [2, 8, 7, 6, 5, 14, 4, 3, 0] ?_
 refine nt ?_
 refine SW_ret ?_
 refine body_end (.bool ((L1 : Int) == (ofP a : Int))) (fun _ => rfl) ?_
 exact ⟨(), ow, congrArg Value.bool (beq_iff_eq.2 (by rw [hl1_ (by assumption)]; first | (rw [want_0 (by assumption)]; rfl) | rw [want_of (by assumption)]))⟩

theorem wf_u64 {n : Int} (h : (Lit.int .u64 n).wf = true) : 0 ≤ n ∧ n < 18446744073709551616 := by
 simp [Lit.wf, IntKind.min, IntKind.max, IntKind.bits, IntKind.signed] at h
 omega
theorem law_NumtextBackZ {W0 : World} (hL : LaidN W0) {n : Int} (h0 : (Lit.int .u64 n).wf = true) : SC Tryz.prog W0 4 #[.int .u64 n] [] (Ret (fun _ : Unit => []) (fun v _ => v = .bool true)) := by
 have w0 := wf_u64 h0
 obtain ⟨k, rfl⟩ := Int.eq_ofNat_of_zero_le w0.1
 exact law_NumtextBack hL (by omega)

end Go.Proofs.YtnhmmjogfkjceaaGreatDoor
namespace Go.Proofs.YtnhmmjogfkjceaaGreatDoor
open Go.Sl Go.ChangeShapes Go.WideShapes Go.ChangeAt Go.RowKit

theorem NumtextBack_contract (H : Type) (enc : TypeId × Value → H) (W : World) (base : Nat) (args : Array Value) (ds gs : List (DataW H)) (before : List MemPlace)
   (hval : ∀ (j : Nat) t v, Tryz.f4.params[j]? = some t → args[j]? = some v → Value.okWide Tryz.prog W .any base t v)
   (hW : DataW.Whole enc Tryz.prog Tryz.f4.params.toList Rows.numtextBackSpec.vars false W args.toList ds gs before) (hk : Rows.uptoSmall H (ds ++ gs) = true) (hLd : laidMetH Tryz.prog Rows.numtextBackUptoRow.laid W) (hsh : W.ShapedOpen Tryz.prog) :
   Calls Tryz.prog 4 args W fun e W' => ∃ v, e = .returned v ∧ Rows.numtextBackSpec.post enc Tryz.prog Tryz.f4 false true false false W args v W' := by
 have hL := laid_num hLd hsh
 have hW' := hW
 obtain ⟨p, q, hA0, hV, rfl, hfz, hnd⟩ := hW
 have hA : DataW.TrodAll enc Tryz.prog W 0 (fun _ => true) true Tryz.f4.params.toList args.toList ds p := hA0
 rw [Tryz.params4] at hA hval
 obtain ⟨v0, vs0, d0, ds0, p0, q0, hargs, rfl, rfl, h0, r0⟩ := trodAll_cons hA
 obtain ⟨rfl, rfl, rfl⟩ := trodAll_nil r0
 obtain rfl : args = #[v0] := by cases args; simp_all
 obtain ⟨rfl, rfl⟩ := trodVars_none hV
 obtain ⟨a0, rfl, rfl, rfl, w0⟩ := open_int Tryz.underlying29 (hval 0 29 v0 rfl rfl) h0
 refine (calls_law (law_NumtextBackZ hL w0)).mono fun e W' ⟨he, hb⟩ => ?_
 subst he
 exact ⟨_, rfl, post_law (tb := 4) hW' (by rw [Tryz.params4]; decide) rfl rfl rfl rfl rfl Tryz.underlying4 hb⟩

theorem NumtextBack_reads (os : Os) {H : Type} (enc : TypeId × Value → H) : ∃ places, DataW.whole enc Tryz.prog ((laidWorldN os).forCall (fun _ _ => 0) ⟨#[], #[.int .u64 0], []⟩).memory Tryz.f4.params.toList Rows.numtextBackSpec.vars false #[.int .u64 0].toList 8 = some ([.lit (.int .u64 0)], [], places) :=
 ⟨[], by kernel_rfl⟩
theorem NumtextBack_lifted (os : Os) (started : os.Started) (H : Type) (enc : TypeId × Value → H) (F : Stop.Interp) :
   ReturnsInHanded {} Tryz.checked os 4 .any ((Rows.OpenSpec.upto Rows.numtextBackSpec).preRow enc Tryz.prog Tryz.f4 Rows.numtextBackUptoRow.domain false Rows.numtextBackUptoRow.laid) (((Rows.OpenSpec.upto Rows.numtextBackSpec).at F).post enc Tryz.prog Tryz.f4 false true false false) := by
 obtain ⟨places, hx⟩ := NumtextBack_reads os enc
 refine returnsInHanded_of_row (C := Tryz.checked) (s := Rows.OpenSpec.upto Rows.numtextBackSpec) rown started (by kernel_rfl) Tryz.func4
   (witness_row_atRef (enc := enc) (C := Tryz.checked) false (laidWorldN os) #[.int .u64 0] rfl (by kernel_rfl) (by kernel_rfl) (by kernel_rfl)
     (OpenSpec.preRow_of_cond 8 hx (by kernel_rfl) (fun k hk => by cases hk; kernel_rfl) (by kernel_rfl) (laid_metN os _))) ?_
 intro W base args ds gs before hval hW _ hcond _ hL hsh _
 exact NumtextBack_contract H enc W base args ds gs before hval hW (hcond _ rfl) hL hsh

theorem NumtextBack_row : Rows.NumtextBackUptoSaid :=
 OpenClaim.holds_of_cond 4 Tryz.f4 rfl rfl rfl rfl rfl rfl rfl ⟨rfl, rfl, rfl, rfl, rfl⟩ rfl rfl rfl rfl rfl (by kernel_rfl) Tryz.func4 (by kernel_rfl)
   (of_decide_eq_true (by kernel_rfl)) (by unfold Func.isWrapper; first | (rw [if_pos (by decide +kernel)]; kernel_rfl) | (rw [if_neg (by decide +kernel)]; exact ⟨rfl, rfl⟩))
   (fun os started H enc _ F => by rw [OpenClaim.pre_eq_preRow]; exact NumtextBack_lifted os started H enc F)
theorem NumtextBack_plain (f : FuncId) (fn : Func) (hf : Tryz.pinned.checked.prog.funcNamed "brazier/brazierlaw02.NumtextBack" = some f) (hfn : Tryz.pinned.checked.prog.funcs[f]? = some fn) :
   true = Tryz.pinned.checked.prog.looks [] ∧ ∀ (j : Nat) t, fn.params[j]? = some t → Tryz.pinned.checked.prog.wantsStandIn t = false := by
 obtain rfl : f = 4 := Option.some.inj ((show Tryz.prog.funcNamed "brazier/brazierlaw02.NumtextBack" = some 4 by kernel_rfl).symm.trans hf) |>.symm
 obtain rfl : fn = Tryz.f4 := (Option.some.inj (Tryz.func4.symm.trans hfn)).symm
 refine ⟨by kernel_rfl, fun j t ht => ?_⟩
 rw [Tryz.params4] at ht
 have hm : t = 29 := by simpa using Array.mem_of_getElem? ht
 rcases hm with rfl
 · exact (show Tryz.prog.wantsStandIn 29 = false by kernel_rfl)
theorem NumtextBack_proved : Rows.NumtextBackUptoCardSaid :=
 Claim7.holds_tied_plain_at .later [] _ _ _ _ NumtextBack_row (fun _ h => by cases h) (by kernel_rfl) (fun _ h => by cases h) numtextBackUpto_row_tie rfl ⟨rfl, rfl⟩ (by kernel_rfl) rfl NumtextBack_plain (by kernel_rfl)
end Go.Proofs.YtnhmmjogfkjceaaGreatDoor
