/- The reference of the root, rounded, is the root of plain numbers. -/
import Derived.Test.YtaplggheadahhaaTK
import Derived.Test.YtaplggheadahhaaNA
namespace Go.Proofs.Ytaplggheadahhaa.R
open Go.RowKit Go.Proofs.YtaplggheadahhaaW.PrintWords
set_option linter.unusedVariables false
set_option linter.unusedSimpArgs false

theorem sqrt5_j1_a (k : Nat) (m e K : Int) : tabardref5_Sqrt.j1 (k + 1) m e K = ((tabardref3_Nat.f k m).bind fun t410 => ((tabardref3_Up.f k t410 K).bind fun t413 => ((tabardref5_root.f k t413 100).bind fun t416 => ((tabardref1_Times.f k t416 t416).bind fun t419 => ((tabardref1_Cmp.f k t419 t413).bind fun t422 => ((tabardref3_Round.f k false t416 (wrap64 (Int.tdiv (wrap64 (e - K)) 2)) (decide (t422 < 0))).bind fun t423 => (some t423))))))) := by
  rw [tabardref5_Sqrt.j1]
theorem sqrt5_j1_b (f5 : List Int → Option (List Int)) (f1 : Option (List Int)) (f2 : List Int → Option (List Int)) (f3 : List Int → Option (List Int)) (f4 : List Int → List Int → Option Int) (f6 : List Int → Bool → Option Int) (g r : Int) (l1 u l t : List Int) (more : Bool) (h1 : f1 = some l1) (h2 : f2 l1 = some u) (h3 : f3 u = some l) (h4 : f5 l = some t) (h5 : f4 t u = some g)
    (hg : decide (g < 0) = more) (h6 : f6 l more = some r) : (f1.bind fun t410 => ((f2 t410).bind fun t413 => ((f3 t413).bind fun t416 => ((f5 t416).bind fun t419 => ((f4 t419 t413).bind fun t422 => ((f6 t416 (decide (t422 < 0))).bind fun t423 => (some t423))))))) = some r := by
  subst h1
  rw [Option.bind_some, h2, Option.bind_some, h3, Option.bind_some, h4, Option.bind_some, h5, Option.bind_some, hg, h6, Option.bind_some]
theorem sqrt5_j1_ (k : Nat) (m e K E g r : Int) (l1 u l t : List Int) (more : Bool) (h1 : tabardref3_Nat.f k m = some l1) (h2 : tabardref3_Up.f k l1 K = some u) (h3 : tabardref5_root.f k u 100 = some l) (h4 : tabardref1_Times.f k l l = some t) (h5 : tabardref1_Cmp.f k t u = some g)
    (hE : wrap64 (Int.tdiv (wrap64 (e - K)) 2) = E) (hg : decide (g < 0) = more) (h6 : tabardref3_Round.f k false l E more = some r) : tabardref5_Sqrt.j1 (k + 1) m e K = some r := by
  have e1 := sqrt5_j1_a k m e K
  rw [hE] at e1
  exact e1.trans (sqrt5_j1_b (fun x => tabardref1_Times.f k x x) (tabardref3_Nat.f k m) (fun x => tabardref3_Up.f k x K) (fun x => tabardref5_root.f k x 100) (fun x y => tabardref1_Cmp.f k x y) (fun x y => tabardref3_Round.f k false x E y) g r l1 u l t more h1 h2 h3 h4 h5 hg h6)
theorem sgn_lt (a b : Nat) : decide (sgn a b < 0) = decide (a < b) := by
  have : sgn a b < 0 ↔ a < b := by
    unfold sgn; split
    · constructor <;> intro h <;> omega
    · split <;> constructor <;> intro h <;> omega
  by_cases h : a < b
  · rw [decide_eq_true h, decide_eq_true (this.2 h)]
  · rw [decide_eq_false h, decide_eq_false (fun g => h (this.1 g))]
theorem half_even {n E : Int} (h : n = 2 * E) (h1 : -100000 ≤ n) (h2 : n ≤ 100000) : wrap64 (Int.tdiv (wrap64 n) 2) = E := by
  rw [w64 (n := n) (by omega) (by omega), h, Int.mul_tdiv_cancel_left _ (by decide), w64 (by omega) (by omega)]
theorem sqrt5_j1 (m K : Nat) (e E : Int) (hm : m < 9007199254740992) (hK : K ≤ 130) (he : e - K = 2 * E) (he1 : -5000 ≤ e) (he2 : e ≤ 5000) :
    Ev fun k => tabardref5_Sqrt.j1 k (m : Int) e (K : Int) = some ((Fl.pk false (Fl.sq (m * Fl.p2 K) (Fl.rt (m * Fl.p2 K)) E) : Nat) : Int) := by
  have t1 := nat_ev m (by omega)
  have l1 := len2c (n := m) (by omega)
  have t2 := up_ev (lst m) (lm_lst _) K (by omega) (by omega)
  rw [val_lst, ← Fl.p2_eq] at t2
  have hN : m * Fl.p2 K < 2 ^ 200 := by
    rw [Fl.p2_eq]
    have h1 : m * 2 ^ K < 2 ^ 53 * 2 ^ K := Nat.mul_lt_mul_of_pos_right (Nat.lt_of_lt_of_le hm (by decide)) (Nat.pow_pos (by decide))
    rw [← Nat.pow_add] at h1
    exact Nat.lt_of_lt_of_le h1 (Nat.pow_le_pow_right (by decide) (by omega))
  generalize m * Fl.p2 K = N at *
  have l3 : (lst N).length ≤ 7 := length_lst (Nat.lt_of_lt_of_le hN (Nat.pow_le_pow_right (by decide) (by decide)))
  obtain ⟨l, ⟨p1, p2, p3⟩, t3⟩ := root_ev (lst N) N (lm_lst _) (by omega) (val_lst _) hN
  have hr : Fl.rt N = val l := (Fl.rt_is N).eq p3
  rw [hr]
  have t4 := times_ev l l p1 p1 (by omega) (by omega)
  have hl := val_lt p1
  have hb : Fl.bl (val l) ≤ 128 := Fl.bl_le_of_lt (Nat.lt_of_lt_of_le hl (Nat.pow_le_pow_right (by decide) (by omega)))
  have l4 : (lst (val l * val l)).length ≤ 7 := length_lst (Nat.lt_of_le_of_lt p3.1 (Nat.lt_of_lt_of_le hN (Nat.pow_le_pow_right (by decide) (by decide))))
  have t5 := cmp_ev (lst (val l * val l)) (lst N) (lm_lst _) (lm_lst _) (by omega) (by omega)
  rw [val_lst, val_lst] at t5
  have t6 := round_ev false l p1 (by omega) E (by omega) (by omega) (decide (val l * val l < N)) (fun _ => by unfold Fl.un; omega)
  have ⟨J, h⟩ := ((t1.and t2).and (t3.and t4)).and (t5.and t6)
  refine ⟨J + 1, fun k hk => ?_⟩
  obtain ⟨k, rfl⟩ : ∃ j, k = j + 1 := ⟨k - 1, by omega⟩
  have ⟨⟨⟨a1, a2⟩, a3, a4⟩, a5, a6⟩ := h k (by omega)
  exact sqrt5_j1_ k _ e _ E _ _ _ _ l _ _ a1 a2 a3 a4 a5 (half_even he (by omega) (by omega)) (sgn_lt _ _) a6
theorem sqrt5_j0_ (k : Nat) (x M E r K : Int) (n : Bool) (z : tabardref5_zero.f k x = some false) (i : tabardref5_endless.f k x = some false) (s : tabardref3_Split.f k x = some (n, M, E))
    (h : (Int.tmod E 2 = 0 ∧ tabardref5_Sqrt.j1 k M E 128 = some r) ∨ (¬ Int.tmod E 2 = 0 ∧ tabardref5_Sqrt.j1 k M E 129 = some r)) : tabardref5_Sqrt.j0 (k + 1) x false = some r := by
  rw [tabardref5_Sqrt.j0, if_neg (by decide), z]
  simp only [Option.bind_some]
  rw [if_neg (by decide), i]
  simp only [Option.bind_some]
  rw [if_neg (by decide), s]
  simp only [Option.bind_some]
  rcases h with ⟨h, h'⟩ | ⟨h, h'⟩
  · rw [if_pos h]; exact h'
  · rw [if_neg h]; exact h'
theorem sqrt5_fin (k : Nat) (x M r : Int) (s : Nat) (n : Bool) (z : tabardref5_zero.f k x = some false) (i : tabardref5_endless.f k x = some false) (sp : tabardref3_Split.f k x = some (n, M, (s : Int) - 1074))
    (b4 : tabardref5_Sqrt.j1 k M ((s : Int) - 1074) ((128 + s % 2 : Nat) : Int) = some r) : tabardref5_Sqrt.j0 (k + 1) x false = some r := by
  have hq := Int.mul_tdiv_add_tmod ((s : Int) - 1074) 2
  rcases Nat.mod_two_eq_zero_or_one s with p | p
  · have htm : Int.tmod ((s : Int) - 1074) 2 = 0 := by
      rw [show (s : Int) - 1074 = 2 * (((s / 2 : Nat) : Int) - 537) by omega, Int.mul_tmod_right]
    rw [show ((128 + s % 2 : Nat) : Int) = 128 by omega] at b4
    exact sqrt5_j0_ k x M _ r 0 n z i sp (.inl ⟨htm, b4⟩)
  · have htm : ¬ Int.tmod ((s : Int) - 1074) 2 = 0 := fun hh => by rw [hh] at hq; omega
    rw [show ((128 + s % 2 : Nat) : Int) = 129 by omega] at b4
    exact sqrt5_j0_ k x M _ r 0 n z i sp (.inr ⟨htm, b4⟩)
theorem pk_ff (x : Nat) : Fl.pk false x = x := by unfold Fl.pk; rw [if_neg (by decide)]
theorem sg_dec (a : Nat) : decide ((a : Int) > 9223372036854775808) = decide (Fl.SG < a) := by
  by_cases c : Fl.SG < a
  · rw [decide_eq_true c]; exact decide_eq_true (by unfold Fl.SG at c; omega)
  · rw [decide_eq_false c]; exact decide_eq_false (by unfold Fl.SG at c; omega)
theorem sqrt5_ev (a : Nat) (ha : a < 18446744073709551616) : Ev fun k => tabardref5_Sqrt.f k (a : Int) = some ((Fl.sqrtN a : Nat) : Int) := by
  have T := (none5_ev a).and ((inf5_ev a).and (zero5_ev a))
  have la := Fl.kd_le a
  unfold Fl.sqrtN
  by_cases c1 : Fl.kd a = 4
  · rw [if_pos (.inl c1)]
    have ⟨K, h⟩ := T
    refine ⟨K + 1, fun k hk => ?_⟩
    obtain ⟨k, rfl⟩ : ∃ j, k = j + 1 := ⟨k - 1, by omega⟩
    unfold tabardref5_Sqrt.f
    rw [(h (k + 1) (by omega)).1, decide_eq_true c1]
    simp only [Option.bind_some]
    rw [if_pos trivial, tabardref5_Sqrt.j0, if_pos rfl]
    rfl
  have head : ∀ k, tabardref5_none.f k (a : Int) = some (decide (Fl.kd a = 4)) → tabardref5_Sqrt.f k (a : Int) = tabardref5_Sqrt.j0 k (a : Int) (decide (Fl.SG < a)) := fun k h => by
    unfold tabardref5_Sqrt.f
    rw [h, decide_eq_false c1]
    simp only [Option.bind_some]
    rw [if_neg (by decide)]
    exact congrArg (tabardref5_Sqrt.j0 k (a : Int)) (sg_dec a)
  by_cases c2 : Fl.SG < a
  · rw [if_pos (.inr c2)]
    have ⟨K, h⟩ := T
    refine ⟨K + 1, fun k hk => ?_⟩
    obtain ⟨k, rfl⟩ : ∃ j, k = j + 1 := ⟨k - 1, by omega⟩
    rw [head _ (h (k + 1) (by omega)).1, decide_eq_true c2, tabardref5_Sqrt.j0, if_pos rfl]
    rfl
  rw [if_neg (by omega)]
  by_cases c3 : Fl.kd a = 0 ∨ Fl.kd a = 3
  · rw [if_pos c3]
    have ⟨K, h⟩ := T
    refine ⟨K + 1, fun k hk => ?_⟩
    obtain ⟨k, rfl⟩ : ∃ j, k = j + 1 := ⟨k - 1, by omega⟩
    have h1 := h k (by omega)
    rw [head _ (h (k + 1) (by omega)).1, decide_eq_false c2, tabardref5_Sqrt.j0, if_neg (by decide), h1.2.2]
    simp only [Option.bind_some]
    by_cases c4 : Fl.kd a = 0
    · rw [decide_eq_true c4, if_pos rfl]
    · rw [decide_eq_false c4, if_neg (by decide), h1.2.1, decide_eq_true (c3.resolve_left c4)]
      simp only [Option.bind_some]
      rw [if_pos trivial]
  rw [if_neg c3]
  have ka : Fl.kd a < 3 := by omega
  have fa := Fl.kd_fin ka
  have sa : Fl.sh (Fl.ab a) ≤ 2045 := by unfold Fl.sh Fl.INF at *; omega
  have ma := Fl.mant_lt (Fl.ab a)
  have ts := split_ev a ha ka
  have hd1 : decide (Fl.kd a = 0) = false := decide_eq_false (by omega)
  have hd2 : decide (Fl.kd a = 3) = false := decide_eq_false (by omega)
  have hq := Int.mul_tdiv_add_tmod (((Fl.sh (Fl.ab a) : Nat) : Int) - 1074) 2
  generalize Fl.mant (Fl.ab a) = m at *
  generalize Fl.sh (Fl.ab a) = s at *
  have hrk : Fl.rk s = 128 + s % 2 := by unfold Fl.rk; split <;> omega
  rw [hrk]
  obtain ⟨E, hE⟩ : ∃ E : Int, (s : Int) - 1074 - ((128 + s % 2 : Nat) : Int) = 2 * E := ⟨((s : Int) - 1074 - ((128 + s % 2 : Nat) : Int)) / 2, by omega⟩
  have t := sqrt5_j1 m (128 + s % 2) ((s : Int) - 1074) E ma (by omega) hE (by omega) (by omega)
  rw [show ((s : Int) - 1074 - ((128 + s % 2 : Nat) : Int)) / 2 = E by omega]
  rw [pk_ff] at t
  have ⟨K, h⟩ := (T.and ts).and t
  refine ⟨K + 1, fun k hk => ?_⟩
  obtain ⟨k, rfl⟩ : ∃ j, k = j + 1 := ⟨k - 1, by omega⟩
  obtain ⟨⟨⟨_, b1, b2⟩, b3⟩, b4⟩ := h k (by omega)
  rw [hd1] at b2
  rw [hd2] at b1
  rw [head _ (h (k + 1) (by omega)).1.1.1, decide_eq_false c2]
  exact sqrt5_fin k _ _ _ s _ b2 b1 b3 b4
end Go.Proofs.Ytaplggheadahhaa.R
