/- The reference of the rest is the rest of plain numbers. -/
import Derived.Test.YtaplggheadahhaaRG
import Derived.Test.YtaplggheadahhaaTI
namespace Go.Proofs.Ytaplggheadahhaa.R
open Go.RowKit Go.Proofs.YtaplggheadahhaaW.PrintWords
set_option linter.unusedVariables false
set_option linter.unusedSimpArgs false

theorem mod5_head (k : Nat) (x y : Int) (na nb ia zb nan : Bool) (h1 : tabardref5_none.f k x = some na) (h2 : tabardref5_none.f k y = some nb) (h3 : tabardref5_endless.f k x = some ia) (h6 : tabardref5_zero.f k y = some zb)
    (hn : (na || nb || ia || zb) = nan) : tabardref5_Mod.f k x y = tabardref5_Mod.j0 k x y nan := by
  unfold tabardref5_Mod.f
  rw [h1, h2, h3, h6]
  simp only [Option.bind_some]
  subst hn
  cases na <;> cases nb <;> cases ia <;> cases zb <;> rfl
theorem mod5_round (neg : Bool) (r : Nat) (hr : r < 9007199254740992) (F : Int) (hF : -5000 ≤ F) (hF2 : F ≤ 5000) :
    Ev fun k => tabardref3_Round.f k neg (lst r) F false = some ((Fl.pk neg (Fl.rnd r F false) : Nat) : Int) := by
  have l4 := len2c (n := r) (by omega)
  have hb : Fl.bl r ≤ 53 := Fl.bl_le_of_lt (Nat.lt_of_lt_of_le hr (by decide))
  have t3 := round_ev neg (lst r) (lm_lst _) (by omega) F (by omega) (by omega) false (fun _ => by rw [val_lst]; unfold Fl.un; omega)
  rw [val_lst] at t3
  exact t3
theorem mod5_loop (neg : Bool) (E F : Int) (n : Nat) (hn : 0 < n) (hn2 : n < 9007199254740992) (hE : -5000 ≤ E) (hE2 : E ≤ 5000) (hF : -5000 ≤ F) (hF2 : F ≤ 5000) :
    ∀ (d r : Nat) (i : Int), r < n → 0 ≤ i → i + d = E - F → Ev fun k => tabardref5_Mod.l0 k neg E (n : Int) F (r : Int) i = some ((Fl.pk neg (Fl.rnd (r * 2 ^ d % n) F false) : Nat) : Int) := by
  intro d
  induction d with
  | zero =>
    intro r i hr hi hd
    have ⟨K, h⟩ := (nat_ev r (by omega)).and (mod5_round neg r (by omega) F hF hF2)
    refine ⟨K + 1, fun k hk => ?_⟩
    obtain ⟨j, rfl⟩ : ∃ j, k = j + 1 := ⟨k - 1, by omega⟩
    have ⟨h1, h2⟩ := h j (by omega)
    rw [tabardref5_Mod.l0, w64 (by omega) (by omega), if_neg (by omega), h1]
    simp only [Option.bind_some]
    rw [h2, Nat.pow_zero, Nat.mul_one, Nat.mod_eq_of_lt hr]
    rfl
  | succ d ih =>
    intro r i hr hi hd
    have ⟨K, h⟩ := ih (r * 2 % n) (i + 1) (Nat.mod_lt _ hn) (by omega) (by omega)
    refine ⟨K + 1, fun k hk => ?_⟩
    obtain ⟨j, rfl⟩ : ∃ j, k = j + 1 := ⟨k - 1, by omega⟩
    have h1 := h j (by omega)
    have n2 : Int.tmod (IntKind.u64.wrap (2 * (r : Int))) (n : Int) = ((r * 2 % n : Nat) : Int) := by
      rw [u64 (by omega) (by omega), show 2 * (r : Int) = ((r * 2 : Nat) : Int) by omega, Int.tmod_eq_emod_of_nonneg (by omega), ← Int.natCast_emod]
    rw [tabardref5_Mod.l0, w64 (n := E - F) (by omega) (by omega), if_pos (by omega), if_neg (by omega), n2, w64 (by omega) (by omega), h1, Nat.mod_mul_mod, Nat.mul_assoc, ← Nat.pow_succ']

theorem mod5_lo (neg : Bool) (m n d : Nat) (hm : m < 9007199254740992) (hn : 0 < n) (hn2 : n < 9007199254740992) (hd : d < 5000) (E : Int) (hE : -5000 ≤ E) (hE2 : E ≤ 5000) :
    Ev fun k => ∃ u : List Int, tabardref3_Up.f k (lst n) (d : Int) = some u ∧ ∃ c, tabardref1_Cmp.f k (lst m) u = some c ∧
      ((c ≥ 0 ∧ ∃ q rr, tabardref1_Parts.f k (lst m) u = some (q, rr) ∧ tabardref3_Round.f k neg rr E false = some ((Fl.pk neg (Fl.rnd (m % (n * 2 ^ d)) E false) : Nat) : Int)) ∨
       (¬ c ≥ 0 ∧ tabardref3_Round.f k neg (lst m) E false = some ((Fl.pk neg (Fl.rnd (m % (n * 2 ^ d)) E false) : Nat) : Int))) := by
  have l1 := len2c (n := m) (by omega)
  have l2 := len2c (n := n) (by omega)
  have t1 := up_ev (lst n) (lm_lst _) d (by omega) (by omega)
  rw [val_lst] at t1
  have hp : 0 < n * 2 ^ d := Nat.mul_pos hn (Nat.pow_pos (by decide))
  obtain ⟨L, hL⟩ : ∃ L, L = 200 := ⟨_, rfl⟩
  have hN : n * 2 ^ d < 2 ^ (32 * L) := by
    have h1 : n * 2 ^ d < 2 ^ 53 * 2 ^ d := Nat.mul_lt_mul_of_pos_right (Nat.lt_of_lt_of_le hn2 (by decide)) (Nat.pow_pos (by decide))
    rw [← Nat.pow_add] at h1
    exact Nat.lt_of_lt_of_le h1 (Nat.pow_le_pow_right (by decide) (by omega))
  generalize n * 2 ^ d = N at *
  have l3 : (lst N).length ≤ L := length_lst hN
  have t2 := cmp_ev (lst m) (lst N) (lm_lst _) (lm_lst _) (by omega) (by omega)
  rw [val_lst, val_lst] at t2
  have t3 := parts_ev (lst m) (lst N) (lm_lst _) (lm_lst _) (by omega) (by omega) (by rw [val_lst]; exact hp)
  rw [val_lst, val_lst] at t3
  have t4 := mod5_round neg (m % N) (Nat.lt_of_le_of_lt (Nat.mod_le _ _) hm) E hE hE2
  refine ((t1.and t2).and (t3.and t4)).imp fun k ⟨⟨h1, h2⟩, h3, h4⟩ => ⟨_, h1, _, h2, ?_⟩
  by_cases hc : sgn m N ≥ 0
  · exact .inl ⟨hc, _, _, h3, h4⟩
  · refine .inr ⟨hc, ?_⟩
    have : m < N := by unfold sgn at hc; split at hc <;> omega
    rw [Nat.mod_eq_of_lt this] at *
    exact h4
theorem V_lo {x y : Nat} (hs : Fl.sh x ≤ Fl.sh y) : Fl.V x % Fl.V y = Fl.mant x % (Fl.mant y * 2 ^ (Fl.sh y - Fl.sh x)) * Fl.p2 (Fl.sh x) := by
  rw [Fl.p2_eq]
  unfold Fl.V
  rw [← Nat.mul_mod_mul_right, Nat.mul_assoc (Fl.mant y), ← Nat.pow_add, show Fl.sh y - Fl.sh x + Fl.sh x = Fl.sh y by omega]
theorem V_hi {x y : Nat} (hs : Fl.sh y ≤ Fl.sh x) : Fl.V x % Fl.V y = Fl.mant x * 2 ^ (Fl.sh x - Fl.sh y) % Fl.mant y * Fl.p2 (Fl.sh y) := by
  rw [Fl.p2_eq]
  unfold Fl.V
  rw [← Nat.mul_mod_mul_right, Nat.mul_assoc, ← Nat.pow_add, show Fl.sh x - Fl.sh y + Fl.sh y = Fl.sh x by omega]

theorem mod5_join_lo (k : Nat) (x y E F M N d c r : Int) (pa pb : Bool) (l1 l2 u : List Int) (z3 : tabardref5_zero.f k x = some false) (i4 : tabardref5_endless.f k y = some false)
    (s1 : tabardref3_Split.f k x = some (pa, M, E)) (s2 : tabardref3_Split.f k y = some (pb, N, F)) (hl : E < F) (n1 : tabardref3_Nat.f k N = some l1) (hw : wrap64 (F - E) = d) (u1 : tabardref3_Up.f k l1 d = some u) (n2 : tabardref3_Nat.f k M = some l2)
    (hc : tabardref1_Cmp.f k l2 u = some c) (h : (c ≥ 0 ∧ ∃ q rr, tabardref1_Parts.f k l2 u = some (q, rr) ∧ tabardref3_Round.f k pa rr E false = some r) ∨ (¬ c ≥ 0 ∧ tabardref3_Round.f k pa l2 E false = some r)) : tabardref5_Mod.j0 (k + 1) x y false = some r := by
  rw [tabardref5_Mod.j0, if_neg (by decide), z3]
  simp only [Option.bind_some]
  rw [if_neg (by decide), i4]
  simp only [Option.bind_some]
  rw [if_neg (by decide), s1]
  simp only [Option.bind_some]
  rw [s2]
  simp only [Option.bind_some]
  rw [if_pos hl, n1]
  simp only [Option.bind_some]
  rw [hw, u1]
  simp only [Option.bind_some]
  rw [n2]
  simp only [Option.bind_some]
  rw [hc]
  simp only [Option.bind_some]
  rcases h with ⟨h, q, rr, h1, h2⟩ | ⟨h, h2⟩
  · rw [if_pos h, h1]
    simp only [Option.bind_some]
    rw [h2]
    rfl
  · rw [if_neg h, h2]
    rfl
theorem mod5_join_hi (k : Nat) (x y E F M N r t : Int) (pa pb : Bool) (z3 : tabardref5_zero.f k x = some false) (i4 : tabardref5_endless.f k y = some false)
    (s1 : tabardref3_Split.f k x = some (pa, M, E)) (s2 : tabardref3_Split.f k y = some (pb, N, F)) (hl : ¬ E < F) (hN : ¬ N = 0) (ht : Int.tmod M N = t) (h : tabardref5_Mod.l0 k pa E N F t 0 = some r) : tabardref5_Mod.j0 (k + 1) x y false = some r := by
  rw [tabardref5_Mod.j0, if_neg (by decide), z3]
  simp only [Option.bind_some]
  rw [if_neg (by decide), i4]
  simp only [Option.bind_some]
  rw [if_neg (by decide), s1]
  simp only [Option.bind_some]
  rw [s2]
  simp only [Option.bind_some]
  rw [if_neg hl, if_neg hN, ht, h]

theorem mod5_ev (a b : Nat) (ha : a < 18446744073709551616) (hb : b < 18446744073709551616) : Ev fun k => tabardref5_Mod.f k (a : Int) (b : Int) = some ((Fl.modN a b : Nat) : Int) := by
  have T := ((none5_ev a).and (none5_ev b)).and (((inf5_ev a).and (inf5_ev b)).and ((zero5_ev a).and (zero5_ev b)))
  have la := Fl.kd_le a
  have lb := Fl.kd_le b
  have head := fun k (h : (tabardref5_none.f k (a : Int) = some (decide (Fl.kd a = 4)) ∧ tabardref5_none.f k (b : Int) = some (decide (Fl.kd b = 4))) ∧ ((tabardref5_endless.f k (a : Int) = some (decide (Fl.kd a = 3)) ∧ tabardref5_endless.f k (b : Int) = some (decide (Fl.kd b = 3))) ∧ (tabardref5_zero.f k (a : Int) = some (decide (Fl.kd a = 0)) ∧ tabardref5_zero.f k (b : Int) = some (decide (Fl.kd b = 0))))) (nan : Bool) (hn : (decide (Fl.kd a = 4) || decide (Fl.kd b = 4) || decide (Fl.kd a = 3) || decide (Fl.kd b = 0)) = nan) =>
    mod5_head k (a : Int) (b : Int) _ _ _ _ nan h.1.1 h.1.2 h.2.1.1 h.2.2.2 hn
  unfold Fl.modN
  by_cases c1 : Fl.kd a = 4 ∨ Fl.kd b = 4 ∨ Fl.kd a = 3 ∨ Fl.kd b = 0
  · rw [if_pos c1]
    have ⟨K, h⟩ := T
    refine ⟨K + 1, fun k hk => ?_⟩
    obtain ⟨j, rfl⟩ : ∃ j, k = j + 1 := ⟨k - 1, by omega⟩
    rw [head _ (h (j + 1) (by omega)) true (by rcases c1 with c | c | c | c <;> simp [c]), tabardref5_Mod.j0, if_pos rfl]
    rfl
  rw [if_neg c1]
  have hnan : (decide (Fl.kd a = 4) || decide (Fl.kd b = 4) || decide (Fl.kd a = 3) || decide (Fl.kd b = 0)) = false := by
    rw [← Bool.not_eq_true]; simp only [Bool.or_eq_true, decide_eq_true_eq]; omega
  by_cases c4 : Fl.kd a = 0 ∨ Fl.kd b = 3
  · rw [if_pos c4]
    have ⟨K, h⟩ := T
    refine ⟨K + 1, fun k hk => ?_⟩
    obtain ⟨j, rfl⟩ : ∃ j, k = j + 1 := ⟨k - 1, by omega⟩
    have h1 := h j (by omega)
    rw [head _ (h (j + 1) (by omega)) false hnan, tabardref5_Mod.j0, if_neg (by decide), h1.2.2.1]
    simp only [Option.bind_some]
    by_cases c5 : Fl.kd a = 0
    · rw [decide_eq_true c5, if_pos rfl]
    · rw [decide_eq_false c5, if_neg (by decide), h1.2.1.2, decide_eq_true (c4.resolve_left c5)]
      simp only [Option.bind_some]
      rw [if_pos trivial]
  rw [if_neg c4]
  have ka : Fl.kd a < 3 := by omega
  have kb : Fl.kd b < 3 := by omega
  have fa := Fl.kd_fin ka
  have fb := Fl.kd_fin kb
  have sa : Fl.sh (Fl.ab a) ≤ 2045 := by unfold Fl.sh Fl.INF at *; omega
  have sb : Fl.sh (Fl.ab b) ≤ 2045 := by unfold Fl.sh Fl.INF at *; omega
  have pb : 0 < Fl.ab b := by rcases Nat.eq_zero_or_pos (Fl.ab b) with h | h; (· exact absurd (Fl.kd_zero.2 h) (by omega)); exact h
  have ma := Fl.mant_lt (Fl.ab a)
  have mb := Fl.mant_lt (Fl.ab b)
  have mp := Fl.mant_pos pb
  have t1 := (split_ev a ha ka).and (split_ev b hb kb)
  have hd4 : decide (Fl.kd b = 3) = false := decide_eq_false (by omega)
  have hd3 : decide (Fl.kd a = 0) = false := decide_eq_false (by omega)
  by_cases hs : Fl.sh (Fl.ab a) < Fl.sh (Fl.ab b)
  · have t2 := (nat_ev (Fl.mant (Fl.ab b)) (by omega)).and (nat_ev (Fl.mant (Fl.ab a)) (by omega))
    have t3 := mod5_lo (Fl.ng a) (Fl.mant (Fl.ab a)) (Fl.mant (Fl.ab b)) (Fl.sh (Fl.ab b) - Fl.sh (Fl.ab a)) ma mp mb (by omega) ((Fl.sh (Fl.ab a) : Int) - 1074) (by omega) (by omega)
    rw [V_lo (Nat.le_of_lt hs), show (-1074 : Int) = ((Fl.sh (Fl.ab a) : Int) - 1074) - (Fl.sh (Fl.ab a) : Nat) by omega, Fl.p2_eq, Fl.rnd_scale]
    have ⟨K, h⟩ := (T.and t1).and (t2.and t3)
    refine ⟨K + 1, fun k hk => ?_⟩
    obtain ⟨j, rfl⟩ : ∃ j, k = j + 1 := ⟨k - 1, by omega⟩
    obtain ⟨⟨H0, s1, s2⟩, ⟨n1, n2⟩, u, hu, c, hc, hr⟩ := h j (by omega)
    rw [hd3, hd4] at H0
    rw [head _ ((h (j + 1) (by omega)).1.1) false hnan]
    exact mod5_join_lo j _ _ _ _ _ _ _ c _ _ _ _ _ u H0.2.2.1 H0.2.1.2 s1 s2 (by omega) n1 (by rw [w64 (by omega) (by omega)]; omega) hu n2 hc hr
  · have t3 := mod5_loop (Fl.ng a) ((Fl.sh (Fl.ab a) : Int) - 1074) ((Fl.sh (Fl.ab b) : Int) - 1074) (Fl.mant (Fl.ab b)) mp mb (by omega) (by omega) (by omega) (by omega) (Fl.sh (Fl.ab a) - Fl.sh (Fl.ab b)) (Fl.mant (Fl.ab a) % Fl.mant (Fl.ab b)) 0 (Nat.mod_lt _ mp) (by omega) (by omega)
    rw [V_hi (by omega), show (-1074 : Int) = ((Fl.sh (Fl.ab b) : Int) - 1074) - (Fl.sh (Fl.ab b) : Nat) by omega, Fl.p2_eq, Fl.rnd_scale]
    rw [Nat.mod_mul_mod] at t3
    have ⟨K, h⟩ := (T.and t1).and t3
    refine ⟨K + 1, fun k hk => ?_⟩
    obtain ⟨j, rfl⟩ : ∃ j, k = j + 1 := ⟨k - 1, by omega⟩
    obtain ⟨⟨H0, s1, s2⟩, hl⟩ := h j (by omega)
    rw [hd3, hd4] at H0
    rw [head _ ((h (j + 1) (by omega)).1.1) false hnan]
    exact mod5_join_hi j _ _ _ _ _ _ _ _ _ _ H0.2.2.1 H0.2.1.2 s1 s2 (by omega) (by omega) (by rw [Int.tmod_eq_emod_of_nonneg (by omega), ← Int.natCast_emod]) hl
end Go.Proofs.Ytaplggheadahhaa.R
