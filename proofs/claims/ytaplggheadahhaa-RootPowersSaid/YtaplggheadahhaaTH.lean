/- The references of the product and of the power are those of plain numbers. -/
import Derived.Test.YtaplggheadahhaaRH
import Derived.Test.YtaplggheadahhaaTJ
import Derived.Test.YtaplggheadahhaaTC
namespace Go.Proofs.Ytaplggheadahhaa.R
open Go.RowKit Go.Proofs.YtaplggheadahhaaW.PrintWords
set_option linter.unusedVariables false
set_option linter.unusedSimpArgs false

theorem zero4_eq (n : Bool) : tabardref4_zero.f n = some (if n = true then 9223372036854775808 else 0) := by
  unfold tabardref4_zero.f
  cases n <;> rfl
theorem mul4_head (k : Nat) (x y ka kb : Int) (s t nan : Bool) (h1 : tabardref3_Kind.f k x = some ka) (h2 : tabardref3_Kind.f k y = some kb) (hs : tabardref3_Is.f x = some s) (ht : tabardref3_Is.f y = some t)
    (hn : (decide (ka = 4) || decide (kb = 4) || (decide (ka = 3) && decide (kb = 0)) || (decide (ka = 0) && decide (kb = 3))) = nan) : tabardref4_Mul.f k x y = tabardref4_Mul.j0 k x y ka kb (s != t) nan := by
  unfold tabardref4_Mul.f
  rw [h1, h2, hs, ht]
  simp only [Option.bind_some]
  subst hn
  by_cases c1 : ka = 4
  · rw [if_pos c1, decide_eq_true c1]; rfl
  rw [if_neg c1, decide_eq_false c1]
  by_cases c2 : kb = 4
  · rw [if_pos c2, decide_eq_true c2]; rfl
  rw [if_neg c2, decide_eq_false c2]
  by_cases c3 : ka = 3
  · rw [if_pos c3, decide_eq_true c3]
    by_cases c4 : kb = 0
    · rw [if_pos c4, decide_eq_true c4]; rfl
    · rw [if_neg c4, if_neg (show ¬ ka = 0 by omega), decide_eq_false c4, decide_eq_false (show ¬ ka = 0 by omega)]; rfl
  · rw [if_neg c3, decide_eq_false c3]
    by_cases c4 : ka = 0
    · rw [if_pos c4, decide_eq_true c4]; rfl
    · rw [if_neg c4, decide_eq_false c4]; rfl
theorem mul4_a (k : Nat) (x y ka kb r : Int) (n : Bool) (h : (if ka = 3 then ((tabardref4_zero.f n).bind fun t459 => (some (IntKind.u64.wrap (t459 + 9218868437227405312)))) else (if kb = 3 then ((tabardref4_zero.f n).bind fun t460 => (some (IntKind.u64.wrap (t460 + 9218868437227405312)))) else ((tabardref3_Split.f k x).bind fun bt461 => ((tabardref3_Split.f k y).bind fun bt464 => ((tabardref3_Nat.f k bt461.2.1).bind fun t467 => ((tabardref3_Nat.f k bt464.2.1).bind fun t470 => ((tabardref1_Times.f k t467 t470).bind fun t473 => ((tabardref3_Round.f k n t473 (wrap64 (bt461.2.2 + bt464.2.2)) false).bind fun t476 => (some t476))))))))) = some r) : tabardref4_Mul.j0 (k + 1) x y ka kb n false = some r := by
  rw [tabardref4_Mul.j0, if_neg (by decide)]
  exact h
theorem mul4_b (k : Nat) (x y ka kb r : Int) (n : Bool) (c3 : ¬ ka = 3) (c4 : ¬ kb = 3)  (h : ((tabardref3_Split.f k x).bind fun bt461 => ((tabardref3_Split.f k y).bind fun bt464 => ((tabardref3_Nat.f k bt461.2.1).bind fun t467 => ((tabardref3_Nat.f k bt464.2.1).bind fun t470 => ((tabardref1_Times.f k t467 t470).bind fun t473 => ((tabardref3_Round.f k n t473 (wrap64 (bt461.2.2 + bt464.2.2)) false).bind fun t476 => (some t476))))))) = some r) : tabardref4_Mul.j0 (k + 1) x y ka kb n false = some r := by
  refine mul4_a k x y ka kb r n ?_
  rw [if_neg c3, if_neg c4]
  exact h
theorem mul4_c (k : Nat) (x y E F M N r G : Int) (n pa pb : Bool) (l1 l2 t : List Int) (s1 : tabardref3_Split.f k x = some (pa, M, E)) (s2 : tabardref3_Split.f k y = some (pb, N, F))
    (n1 : tabardref3_Nat.f k M = some l1) (n2 : tabardref3_Nat.f k N = some l2) (t1 : tabardref1_Times.f k l1 l2 = some t) (hG : wrap64 (E + F) = G) (r1 : tabardref3_Round.f k n t G false = some r) : ((tabardref3_Split.f k x).bind fun bt461 => ((tabardref3_Split.f k y).bind fun bt464 => ((tabardref3_Nat.f k bt461.2.1).bind fun t467 => ((tabardref3_Nat.f k bt464.2.1).bind fun t470 => ((tabardref1_Times.f k t467 t470).bind fun t473 => ((tabardref3_Round.f k n t473 (wrap64 (bt461.2.2 + bt464.2.2)) false).bind fun t476 => (some t476))))))) = some r := by
  rw [s1, Option.bind_some, s2, Option.bind_some]
  dsimp only
  rw [n1, Option.bind_some, n2, Option.bind_some, t1, Option.bind_some, hG, r1, Option.bind_some]
theorem mul4_join_ (k : Nat) (x y ka kb E F M N r G : Int) (n pa pb : Bool) (l1 l2 t : List Int) (c3 : ¬ ka = 3) (c4 : ¬ kb = 3) (s1 : tabardref3_Split.f k x = some (pa, M, E)) (s2 : tabardref3_Split.f k y = some (pb, N, F))
    (n1 : tabardref3_Nat.f k M = some l1) (n2 : tabardref3_Nat.f k N = some l2) (t1 : tabardref1_Times.f k l1 l2 = some t) (hG : wrap64 (E + F) = G) (r1 : tabardref3_Round.f k n t G false = some r) : tabardref4_Mul.j0 (k + 1) x y ka kb n false = some r := by
  exact mul4_b k x y ka kb r n c3 c4 (mul4_c k x y E F M N r G n pa pb l1 l2 t s1 s2 n1 n2 t1 hG r1)
theorem prod_ev (neg : Bool) (m n : Nat) (E : Int) (hm : m < 9007199254740992) (hn : n < 9007199254740992) (hE : -5000 ≤ E) (hE2 : E ≤ 5000) :
    Ev fun k => tabardref1_Times.f k (lst m) (lst n) = some (lst (m * n)) ∧ tabardref3_Round.f k neg (lst (m * n)) E false = some ((Fl.pk neg (Fl.rnd (m * n) E false) : Nat) : Int) := by
  have l1 := len2c (n := m) (by omega)
  have l2 := len2c (n := n) (by omega)
  have t1 := times_ev (lst m) (lst n) (lm_lst _) (lm_lst _) (by omega) (by omega)
  rw [val_lst, val_lst] at t1
  have hN : m * n < 2 ^ (32 * 4) := Nat.lt_of_lt_of_le (Nat.mul_lt_mul'' hm hn) (by decide)
  generalize m * n = N at *
  have l3 : (lst N).length ≤ 4 := length_lst hN
  have hb : Fl.bl N ≤ 128 := Fl.bl_le_of_lt hN
  have t3 := round_ev neg (lst N) (lm_lst _) (by omega) E (by omega) (by omega) false (fun _ => by rw [val_lst]; unfold Fl.un; omega)
  rw [val_lst] at t3
  exact t1.and t3
theorem kdi (x n : Nat) : decide (((Fl.kd x : Nat) : Int) = (n : Int)) = decide (Fl.kd x = n) := by
  by_cases h : Fl.kd x = n
  · rw [decide_eq_true h]; exact decide_eq_true (by omega)
  · rw [decide_eq_false h]; exact decide_eq_false (by omega)
theorem mul4_ev (a b : Nat) (ha : a < 18446744073709551616) (hb : b < 18446744073709551616) : Ev fun k => tabardref4_Mul.f k (a : Int) (b : Int) = some ((Fl.mulN a b : Nat) : Int) := by
  have T := (kind_ev a).and (kind_ev b)
  have la := Fl.kd_le a
  have lb := Fl.kd_le b
  have head := fun k (h : tabardref3_Kind.f k (a : Int) = some ((Fl.kd a : Nat) : Int) ∧ tabardref3_Kind.f k (b : Int) = some ((Fl.kd b : Nat) : Int)) (nan : Bool) (hn : (decide (Fl.kd a = 4) || decide (Fl.kd b = 4) || (decide (Fl.kd a = 3) && decide (Fl.kd b = 0)) || (decide (Fl.kd a = 0) && decide (Fl.kd b = 3))) = nan) =>
    mul4_head k (a : Int) (b : Int) _ _ _ _ nan h.1 h.2 (is3_eq a) (is3_eq b) (by rw [← hn, ← kdi a 4, ← kdi b 4, ← kdi a 3, ← kdi b 3, ← kdi a 0, ← kdi b 0]; rfl)
  unfold Fl.mulN
  by_cases c1 : Fl.kd a = 4 ∨ Fl.kd b = 4 ∨ (Fl.kd a = 3 ∧ Fl.kd b = 0) ∨ (Fl.kd a = 0 ∧ Fl.kd b = 3)
  · rw [if_pos c1]
    have ⟨K, h⟩ := T
    refine ⟨K + 1, fun k hk => ?_⟩
    obtain ⟨j, rfl⟩ : ∃ j, k = j + 1 := ⟨k - 1, by omega⟩
    rw [head _ (h (j + 1) (by omega)) true (by rcases c1 with c | c | ⟨c, d⟩ | ⟨c, d⟩ <;> simp [c] <;> simp [d]), tabardref4_Mul.j0, if_pos rfl]
    rfl
  rw [if_neg c1]
  have hnan : (decide (Fl.kd a = 4) || decide (Fl.kd b = 4) || (decide (Fl.kd a = 3) && decide (Fl.kd b = 0)) || (decide (Fl.kd a = 0) && decide (Fl.kd b = 3))) = false := by
    rw [← Bool.not_eq_true]; simp only [Bool.or_eq_true, Bool.and_eq_true, decide_eq_true_eq]; omega
  by_cases c2 : Fl.kd a = 3 ∨ Fl.kd b = 3
  · rw [if_pos c2]
    have ⟨K, h⟩ := T
    refine ⟨K + 1, fun k hk => ?_⟩
    obtain ⟨j, rfl⟩ : ∃ j, k = j + 1 := ⟨k - 1, by omega⟩
    rw [head _ (h (j + 1) (by omega)) false hnan, tabardref4_Mul.j0, if_neg (by decide), zero4_eq]
    simp only [Option.bind_some]
    have fin : some (IntKind.u64.wrap ((if (Fl.ng a != Fl.ng b) = true then 9223372036854775808 else 0) + 9218868437227405312)) = some ((Fl.pk (Fl.ng a != Fl.ng b) Fl.INF : Nat) : Int) := by
      generalize (Fl.ng a != Fl.ng b) = n
      cases n
      · decide
      · decide
    by_cases c3 : ((Fl.kd a : Nat) : Int) = 3
    · rw [if_pos c3]; exact fin
    · rw [if_neg c3, if_pos (by omega)]; exact fin
  rw [if_neg c2]
  have ka : Fl.kd a < 3 := by omega
  have kb : Fl.kd b < 3 := by omega
  have fa := Fl.kd_fin ka
  have fb := Fl.kd_fin kb
  have sa : Fl.sh (Fl.ab a) ≤ 2045 := by unfold Fl.sh Fl.INF at *; omega
  have sb : Fl.sh (Fl.ab b) ≤ 2045 := by unfold Fl.sh Fl.INF at *; omega
  have ma := Fl.mant_lt (Fl.ab a)
  have mb := Fl.mant_lt (Fl.ab b)
  have t1 := (split_ev a ha ka).and (split_ev b hb kb)
  have t2 := (nat_ev (Fl.mant (Fl.ab a)) (by omega)).and (nat_ev (Fl.mant (Fl.ab b)) (by omega))
  have t3 := prod_ev (Fl.ng a != Fl.ng b) (Fl.mant (Fl.ab a)) (Fl.mant (Fl.ab b)) ((Fl.sh (Fl.ab a) : Int) + Fl.sh (Fl.ab b) - 2148) ma mb (by omega) (by omega)
  have ⟨K, h⟩ := (T.and t1).and (t2.and t3)
  refine ⟨K + 1, fun k hk => ?_⟩
  obtain ⟨j, rfl⟩ : ∃ j, k = j + 1 := ⟨k - 1, by omega⟩
  obtain ⟨⟨H0, s1, s2⟩, ⟨n1, n2⟩, hp, hr⟩ := h j (by omega)
  rw [head _ ((h (j + 1) (by omega)).1.1) false hnan]
  have hw : wrap64 ((((Fl.sh (Fl.ab a) : Nat) : Int) - 1074) + (((Fl.sh (Fl.ab b) : Nat) : Int) - 1074)) = (Fl.sh (Fl.ab a) : Int) + Fl.sh (Fl.ab b) - 2148 := by
    rw [w64 (by omega) (by omega)]; omega
  exact mul4_join_ j _ _ _ _ _ _ _ _ _ _ _ _ _ _ _ _ (by omega) (by omega) s1 s2 n1 n2 hp hw hr
theorem mulN_lt4 (a b : Nat) : Fl.mulN a b < 18446744073709551616 := by
  unfold Fl.mulN
  split
  · decide
  · split
    · exact Fl.pk_lt (Nat.le_refl _)
    · exact Fl.pk_lt (Fl.rnd_le_INF _ _ _)

/-- one round of the power -/
theorem pow5_odd_ (k : Nat) (a n u p x q s x' r : Int) (h0 : x ≥ 0) (hx : IntKind.u64.wrap x = q) (hq : 0 ≤ q) (m1 : tabardref4_Mul.f k p p = some s) (hb : Int.tmod (shr .u64 u q) 2 = 1) (t : Int) (m2 : tabardref4_Mul.f k s a = some t) (hx' : wrap64 (x - 1) = x')
    (h : tabardref5_Power.l0 k a n u t x' = some r) : tabardref5_Power.l0 (k + 1) a n u p x = some r := by
  rw [tabardref5_Power.l0, if_pos h0, m1]
  simp only [Option.bind_some]
  rw [hx, if_pos hq, if_pos hb, m2]
  simp only [Option.bind_some]
  rw [hx']; exact h
theorem pow5_even_ (k : Nat) (a n u p x q s x' r : Int) (h0 : x ≥ 0) (hx : IntKind.u64.wrap x = q) (hq : 0 ≤ q) (m1 : tabardref4_Mul.f k p p = some s) (hb : ¬ Int.tmod (shr .u64 u q) 2 = 1) (hx' : wrap64 (x - 1) = x')
    (h : tabardref5_Power.l0 k a n u s x' = some r) : tabardref5_Power.l0 (k + 1) a n u p x = some r := by
  rw [tabardref5_Power.l0, if_pos h0, m1]
  simp only [Option.bind_some]
  rw [hx, if_pos hq, if_neg hb, hx']; exact h
theorem pows_lt (a : Nat) : ∀ d u, Fl.pows a d u < 18446744073709551616 := by
  intro d u
  cases d with
  | zero => unfold Fl.pows; decide
  | succ d =>
    unfold Fl.pows
    dsimp only
    split <;> exact mulN_lt4 _ _
theorem pow5_l0 (a u : Nat) (ha : a < 18446744073709551616) (n r : Int) (end_ : Ev fun k => tabardref5_Power.l0 k (a : Int) n (u : Int) ((Fl.pows a 64 u : Nat) : Int) (-1) = some r) :
    ∀ i d : Nat, d + i = 64 → Ev fun k => tabardref5_Power.l0 k (a : Int) n (u : Int) ((Fl.pows a d (u / 2 ^ i) : Nat) : Int) ((i : Int) - 1) = some r := by
  intro i
  induction i with
  | zero =>
    intro d hd
    have hd : d = 64 := by omega
    subst hd
    rw [Nat.pow_zero, Nat.div_one]
    exact end_
  | succ i ih =>
    intro d hd
    have hq : u / 2 ^ (i + 1) = u / 2 ^ i / 2 := div_pow_succ u i
    have hs : Fl.pows a (d + 1) (u / 2 ^ i) = (if u / 2 ^ i % 2 = 1 then Fl.mulN (Fl.mulN (Fl.pows a d (u / 2 ^ (i + 1))) (Fl.pows a d (u / 2 ^ (i + 1)))) a else Fl.mulN (Fl.pows a d (u / 2 ^ (i + 1))) (Fl.pows a d (u / 2 ^ (i + 1)))) := by
      rw [hq]; rfl
    have I := ih (d + 1) (by omega)
    have hsh := shr64 u i (by omega)
    rw [hs] at I
    have hlt := pows_lt a d (u / 2 ^ (i + 1))
    generalize Fl.pows a d (u / 2 ^ (i + 1)) = p at *
    generalize u / 2 ^ i = z at *
    have m1 := mul4_ev p p hlt hlt
    have m2 := mul4_ev (Fl.mulN p p) a (mulN_lt4 _ _) ha
    rw [show ((i + 1 : Nat) : Int) - 1 = (i : Int) by omega]
    have ⟨K, h⟩ := (m1.and m2).and I
    refine ⟨K + 1, fun k hk => ?_⟩
    obtain ⟨k, rfl⟩ : ∃ j, k = j + 1 := ⟨k - 1, by omega⟩
    obtain ⟨⟨h1, h2⟩, h3⟩ := h k (by omega)
    by_cases c : z % 2 = 1
    · rw [if_pos c] at h3
      exact pow5_odd_ k _ _ _ _ _ (i : Int) _ ((i : Int) - 1) _ (by omega) (u64 (by omega) (by omega)) (by omega) h1 (by rw [hsh, Int.tmod_eq_emod_of_nonneg (by omega)]; omega) _ h2 (w64 (by omega) (by omega)) h3
    · rw [if_neg c] at h3
      exact pow5_even_ k _ _ _ _ _ (i : Int) _ ((i : Int) - 1) _ (by omega) (u64 (by omega) (by omega)) (by omega) h1 (by rw [hsh, Int.tmod_eq_emod_of_nonneg (by omega)]; omega) (w64 (by omega) (by omega)) h3
theorem pow5_start_ (k : Nat) (a n u r : Int) (h : tabardref5_Power.l0 k a n u 4607182418800017408 63 = some r) : tabardref5_Power.j0 (k + 1) a n u = some r := by
  rw [tabardref5_Power.j0]; exact h
theorem pow5_pos_ (k : Nat) (a n u p : Int) (h : ¬ n < 0) : tabardref5_Power.l0 (k + 1) a n u p (-1) = some p := by
  rw [tabardref5_Power.l0, if_neg (by decide), if_neg h]
theorem pow5_neg_ (k : Nat) (a n u p r : Int) (h : n < 0) (hd : tabardref5_Div.f k 4607182418800017408 p = some r) : tabardref5_Power.l0 (k + 1) a n u p (-1) = some r := by
  rw [tabardref5_Power.l0, if_neg (by decide), if_pos h, hd]
  rfl
theorem pow5_run (a u : Nat) (ha : a < 18446744073709551616) (hu : u < 18446744073709551616) (n r : Int) (end_ : Ev fun k => tabardref5_Power.l0 k (a : Int) n (u : Int) ((Fl.pows a 64 u : Nat) : Int) (-1) = some r) :
    Ev fun k => tabardref5_Power.j0 k (a : Int) n (u : Int) = some r := by
  have h := pow5_l0 a u ha n r end_ 64 0 rfl
  rw [Nat.div_eq_of_lt (Nat.lt_of_lt_of_le hu (by decide))] at h
  exact h.step fun k h => pow5_start_ k _ _ _ _ h
theorem pow5_ev (a : Nat) (n : Int) (ha : a < 18446744073709551616) (hn : -9223372036854775808 ≤ n) (hn2 : n ≤ 9223372036854775807) : Ev fun k => tabardref5_Power.f k (a : Int) n = some ((Fl.powN a n : Nat) : Int) := by
  have T := none5_ev a
  unfold Fl.powN
  by_cases c1 : Fl.kd a = 4
  · rw [if_pos c1]
    rw [decide_eq_true c1] at T
    refine T.imp fun k h => ?_
    unfold tabardref5_Power.f
    rw [h]
    simp only [Option.bind_some]
    rw [if_pos trivial]
    rfl
  rw [if_neg c1]
  rw [decide_eq_false c1] at T
  by_cases c2 : n < 0
  · rw [if_pos c2]
    have hu : IntKind.u64.wrap (-(IntKind.u64.wrap n)) = ((n.natAbs : Nat) : Int) := by unfold IntKind.wrap; simp [IntKind.bits, IntKind.signed]; omega
    have e := div5_ev 4607182418800017408 (Fl.pows a 64 n.natAbs) (by decide) (pows_lt _ _ _)
    have t := pow5_run a n.natAbs ha (by omega) n _ (e.step fun k h => pow5_neg_ k _ _ _ _ _ c2 h)
    refine (T.and t).imp fun k ⟨h, h2⟩ => ?_
    unfold tabardref5_Power.f
    rw [h]
    simp only [Option.bind_some]
    rw [if_neg (by decide), if_pos c2, hu]
    exact h2
  · rw [if_neg c2]
    have hu : IntKind.u64.wrap n = ((n.natAbs : Nat) : Int) := by rw [u64 (by omega) (by omega)]; omega
    have t := pow5_run a n.natAbs ha (by omega) n _ ((Ev.of (p := fun _ => True) fun _ => trivial).step fun k _ => pow5_pos_ k (a : Int) n _ _ c2)
    refine (T.and t).imp fun k ⟨h, h2⟩ => ?_
    unfold tabardref5_Power.f
    rw [h]
    simp only [Option.bind_some]
    rw [if_neg (by decide), if_neg c2, hu]
    exact h2
end Go.Proofs.Ytaplggheadahhaa.R
