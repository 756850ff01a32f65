/- The reference of the quotient is the quotient of plain numbers. -/
import Derived.Test.YtaplggheadahhaaRE
import Derived.Test.YtaplggheadahhaaTI
namespace Go.Proofs.Ytaplggheadahhaa.R
open Go.RowKit Go.Proofs.YtaplggheadahhaaW.PrintWords
set_option linter.unusedVariables false
set_option linter.unusedSimpArgs false

/-- the work of the quotient -/
theorem div5_join_ (k : Nat) (x y K E F M N r : Int) (n pa pb rem : Bool) (l1 l2 u q rr : List Int) (i3 : tabardref5_endless.f (k + 1) x = some false) (z3 : tabardref5_zero.f (k + 1) y = some false) (z4 : tabardref5_zero.f k x = some false) (i4 : tabardref5_endless.f k y = some false)
    (s1 : tabardref3_Split.f k x = some (pa, M, E)) (s2 : tabardref3_Split.f k y = some (pb, N, F)) (n1 : tabardref3_Nat.f k M = some l1) (u1 : tabardref3_Up.f k l1 128 = some u) (n2 : tabardref3_Nat.f k N = some l2) (p1 : tabardref1_Parts.f k u l2 = some (q, rr))
    (hw : wrap64 ((wrap64 (E - F)) - 128) = K) (hr : decide ((rr.length : Int) > 0) = rem) (r1 : tabardref3_Round.f k n q K rem = some r) : tabardref5_Div.j0 (k + 2) x y n false = some r := by
  show tabardref5_Div.j0 (k + 1 + 1) x y n false = some r
  rw [tabardref5_Div.j0, if_neg (by decide), i3]
  simp only [Option.bind_some]
  rw [if_neg (by decide), z3]
  simp only [Option.bind_some]
  rw [tabardref5_Div.j1, if_neg (by decide), z4]
  simp only [Option.bind_some]
  rw [if_neg (by decide), i4]
  simp only [Option.bind_some]
  rw [if_neg (by decide), s1]
  simp only [Option.bind_some]
  rw [s2]
  simp only [Option.bind_some]
  rw [n1]
  simp only [Option.bind_some]
  rw [u1]
  simp only [Option.bind_some]
  rw [n2]
  simp only [Option.bind_some]
  rw [p1]
  simp only [Option.bind_some]
  rw [hw, hr, r1]
  simp only [Option.bind_some]
/-- the head of the quotient: is it no number? -/
theorem div5_head (k : Nat) (x y : Int) (na nb ia ib za zb s t nan : Bool) (hs : tabardref3_Is.f x = some s) (ht : tabardref3_Is.f y = some t) (h1 : tabardref5_none.f k x = some na) (h2 : tabardref5_none.f k y = some nb) (h3 : tabardref5_endless.f k x = some ia) (h4 : tabardref5_endless.f k y = some ib) (h5 : tabardref5_zero.f k x = some za) (h6 : tabardref5_zero.f k y = some zb)
    (hn : (na || nb || (ia && ib) || (za && zb)) = nan) : tabardref5_Div.f k x y = tabardref5_Div.j0 k x y (s != t) nan := by
  unfold tabardref5_Div.f
  rw [hs, ht, h1, h2, h3, h4, h5, h6]
  simp only [Option.bind_some]
  subst hn
  cases na <;> cases nb <;> cases ia <;> cases ib <;> cases za <;> cases zb <;> rfl

theorem dq_ev (neg : Bool) (m n : Nat) (E : Int) (hm : m < 9007199254740992) (hn : 0 < n) (hn2 : n < 9007199254740992) (hE : -5000 ≤ E) (hE2 : E ≤ 5000) :
    Ev fun k => ∃ u : List Int, tabardref3_Up.f k (lst m) 128 = some u ∧ tabardref1_Parts.f k u (lst n) = some (lst (m * Fl.p2 128 / n), lst (m * Fl.p2 128 % n)) ∧ tabardref3_Round.f k neg (lst (m * Fl.p2 128 / n)) E (decide (m * Fl.p2 128 % n ≠ 0)) = some ((Fl.pk neg (Fl.dq (m * Fl.p2 128) n E) : Nat) : Int) := by
  have l1 := len2c (n := m) (by omega)
  have l2 := len2c (n := n) (by omega)
  have t1 := up_ev (lst m) (lm_lst _) 128 (by omega) (by omega)
  rw [val_lst] at t1
  have hN : m * Fl.p2 128 < 2 ^ (32 * 6) := by
    rw [Fl.p2_eq]
    have := Nat.mul_lt_mul_of_pos_right hm (show 0 < 2 ^ 128 by decide)
    exact Nat.lt_of_lt_of_le this (by decide)
  rw [← Fl.p2_eq] at t1
  generalize m * Fl.p2 128 = N at *
  have l3 : (lst N).length ≤ 6 := length_lst hN
  have t2 := parts_ev (lst N) (lst n) (lm_lst _) (lm_lst _) (by omega) (by omega) (by rw [val_lst]; exact hn)
  rw [val_lst, val_lst] at t2
  have hq : N / n < 2 ^ (32 * 6) := Nat.lt_of_le_of_lt (Nat.div_le_self _ _) hN
  have l4 : (lst (N / n)).length ≤ 6 := length_lst hq
  have hb : Fl.bl (N / n) ≤ 192 := Fl.bl_le_of_lt hq
  have t3 := round_ev neg (lst (N / n)) (lm_lst _) (by omega) E (by omega) (by omega) (decide (N % n ≠ 0)) (fun _ => by rw [val_lst]; unfold Fl.un; omega)
  rw [val_lst] at t3
  exact ((t1.and t2).and t3).imp fun k ⟨⟨h1, h2⟩, h3⟩ => ⟨_, h1, h2, h3⟩

theorem div5_ev (a b : Nat) (ha : a < 18446744073709551616) (hb : b < 18446744073709551616) : Ev fun k => tabardref5_Div.f k (a : Int) (b : Int) = some ((Fl.divN a b : Nat) : Int) := by
  have tn := (none5_ev a).and (none5_ev b)
  have ti := (inf5_ev a).and (inf5_ev b)
  have tz := (zero5_ev a).and (zero5_ev b)
  have T := (tn.and ti).and tz
  have la := Fl.kd_le a
  have lb := Fl.kd_le b
  have wI := with5_eq (Fl.ng a != Fl.ng b) 9218868437227405312 (by decide)
  have w0 := with5_eq (Fl.ng a != Fl.ng b) 0 (by decide)
  have head := fun k (h : ((tabardref5_none.f k (a : Int) = some (decide (Fl.kd a = 4)) ∧ tabardref5_none.f k (b : Int) = some (decide (Fl.kd b = 4))) ∧ tabardref5_endless.f k (a : Int) = some (decide (Fl.kd a = 3)) ∧ tabardref5_endless.f k (b : Int) = some (decide (Fl.kd b = 3))) ∧ tabardref5_zero.f k (a : Int) = some (decide (Fl.kd a = 0)) ∧ tabardref5_zero.f k (b : Int) = some (decide (Fl.kd b = 0))) (nan : Bool) (hn : (decide (Fl.kd a = 4) || decide (Fl.kd b = 4) || (decide (Fl.kd a = 3) && decide (Fl.kd b = 3)) || (decide (Fl.kd a = 0) && decide (Fl.kd b = 0))) = nan) =>
    div5_head k (a : Int) (b : Int) _ _ _ _ _ _ _ _ nan (is3_eq a) (is3_eq b) h.1.1.1 h.1.1.2 h.1.2.1 h.1.2.2 h.2.1 h.2.2 hn
  unfold Fl.divN
  by_cases c1 : Fl.kd a = 4 ∨ Fl.kd b = 4 ∨ (Fl.kd a = 3 ∧ Fl.kd b = 3) ∨ (Fl.kd a = 0 ∧ Fl.kd b = 0)
  · rw [if_pos c1]
    have ⟨K, h⟩ := T
    refine ⟨K + 1, fun k hk => ?_⟩
    obtain ⟨j, rfl⟩ : ∃ j, k = j + 1 := ⟨k - 1, by omega⟩
    rw [head _ (h (j + 1) (by omega)) true (by rcases c1 with c | c | ⟨c, d⟩ | ⟨c, d⟩ <;> simp [c] <;> simp [d]), tabardref5_Div.j0, if_pos rfl]
    rfl
  rw [if_neg c1]
  have hnan : (decide (Fl.kd a = 4) || decide (Fl.kd b = 4) || (decide (Fl.kd a = 3) && decide (Fl.kd b = 3)) || (decide (Fl.kd a = 0) && decide (Fl.kd b = 0))) = false := by
    rw [← Bool.not_eq_true]; simp only [Bool.or_eq_true, Bool.and_eq_true, decide_eq_true_eq]; omega
  by_cases c2 : Fl.kd a = 3 ∨ Fl.kd b = 0
  · rw [if_pos c2]
    have ⟨K, h⟩ := T
    refine ⟨K + 2, fun k hk => ?_⟩
    obtain ⟨j, rfl⟩ : ∃ j, k = j + 1 + 1 := ⟨k - 2, by omega⟩
    have h1 := h (j + 1) (by omega)
    rw [head _ (h (j + 1 + 1) (by omega)) false hnan, tabardref5_Div.j0, if_neg (by decide), h1.1.2.1]
    simp only [Option.bind_some]
    by_cases c3 : Fl.kd a = 3
    · rw [decide_eq_true c3, if_pos rfl, tabardref5_Div.j1, if_pos rfl]
      exact congrArg (fun o : Option Int => o.bind fun t => some t) wI
    · rw [decide_eq_false c3, if_neg (by decide), h1.2.2]
      simp only [Option.bind_some]
      rw [decide_eq_true (c2.resolve_left c3), tabardref5_Div.j1, if_pos rfl]
      exact congrArg (fun o : Option Int => o.bind fun t => some t) wI
  rw [if_neg c2]
  by_cases c4 : Fl.kd a = 0 ∨ Fl.kd b = 3
  · rw [if_pos c4]
    have ⟨K, h⟩ := T
    refine ⟨K + 2, fun k hk => ?_⟩
    obtain ⟨j, rfl⟩ : ∃ j, k = j + 1 + 1 := ⟨k - 2, by omega⟩
    have h1 := h (j + 1) (by omega)
    have h0 := h j (by omega)
    rw [head _ (h (j + 1 + 1) (by omega)) false hnan, tabardref5_Div.j0, if_neg (by decide), h1.1.2.1, decide_eq_false (show ¬ Fl.kd a = 3 by omega)]
    simp only [Option.bind_some]
    rw [if_neg (by decide), h1.2.2, decide_eq_false (show ¬ Fl.kd b = 0 by omega)]
    simp only [Option.bind_some]
    rw [tabardref5_Div.j1, if_neg (by decide), h0.2.1]
    simp only [Option.bind_some]
    by_cases c5 : Fl.kd a = 0
    · rw [decide_eq_true c5, if_pos rfl]
      exact congrArg (fun o : Option Int => o.bind fun t => some t) w0
    · rw [decide_eq_false c5, if_neg (by decide), h0.1.2.2, decide_eq_true (c4.resolve_left c5)]
      simp only [Option.bind_some]
      rw [if_pos trivial]
      exact congrArg (fun o : Option Int => o.bind fun t => some t) w0
  rw [if_neg c4]
  have ka : Fl.kd a < 3 := by omega
  have kb : Fl.kd b < 3 := by omega
  have fa := Fl.kd_fin ka
  have fb := Fl.kd_fin kb
  have sa : Fl.sh (Fl.ab a) ≤ 2045 := by unfold Fl.sh Fl.INF at *; omega
  have sb : Fl.sh (Fl.ab b) ≤ 2045 := by unfold Fl.sh Fl.INF at *; omega
  have pb : 0 < Fl.ab b := by rcases Nat.eq_zero_or_pos (Fl.ab b) with h | h; (· exact absurd (Fl.kd_zero.2 h) (by omega)); exact h
  have ma := Fl.mant_lt (Fl.ab a)
  have mb := Fl.mant_lt (Fl.ab b)
  have t1 := (split_ev a ha ka).and (split_ev b hb kb)
  have t2 := (nat_ev (Fl.mant (Fl.ab a)) (by omega)).and (nat_ev (Fl.mant (Fl.ab b)) (by omega))
  have t3 := dq_ev (Fl.ng a != Fl.ng b) (Fl.mant (Fl.ab a)) (Fl.mant (Fl.ab b)) ((Fl.sh (Fl.ab a) : Int) - Fl.sh (Fl.ab b) - 128) ma (Fl.mant_pos pb) mb (by omega) (by omega)
  have ⟨K, h⟩ := (T.and t1).and (t2.and t3)
  refine ⟨K + 2, fun k hk => ?_⟩
  obtain ⟨j, rfl⟩ : ∃ j, k = j + 2 := ⟨k - 2, by omega⟩
  have H1 := (h (j + 1) (by omega)).1.1
  obtain ⟨⟨H0, s1, s2⟩, ⟨n1, n2⟩, u, hu, hp, hr⟩ := h j (by omega)
  have hd1 : decide (Fl.kd a = 3) = false := decide_eq_false (by omega)
  have hd2 : decide (Fl.kd b = 0) = false := decide_eq_false (by omega)
  have hd3 : decide (Fl.kd a = 0) = false := decide_eq_false (by omega)
  have hd4 : decide (Fl.kd b = 3) = false := decide_eq_false (by omega)
  rw [hd1, hd2, hd3, hd4] at H0 H1
  rw [head _ ((h (j + 2) (by omega)).1.1) false hnan]
  have hw : wrap64 ((wrap64 ((((Fl.sh (Fl.ab a) : Nat) : Int) - 1074) - (((Fl.sh (Fl.ab b) : Nat) : Int) - 1074))) - 128) = (Fl.sh (Fl.ab a) : Int) - Fl.sh (Fl.ab b) - 128 := by
    rw [w64 (n := (((Fl.sh (Fl.ab a) : Nat) : Int) - 1074) - (((Fl.sh (Fl.ab b) : Nat) : Int) - 1074)) (by omega) (by omega), w64 (by omega) (by omega)]; omega
  exact div5_join_ j _ _ _ _ _ _ _ _ _ _ _ _ _ _ _ _ _ H1.1.2.1 H1.2.2 H0.2.1 H0.1.2.2 s1 s2 n1 hu n2 hp hw (len_pos _) hr
end Go.Proofs.Ytaplggheadahhaa.R
