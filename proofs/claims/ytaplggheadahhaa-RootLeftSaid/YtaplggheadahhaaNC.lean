/- Plain facts on squares and their roots, and on powers of two. -/
import Derived.Test.YtaplggheadahhaaNB
namespace Go.Proofs.Ytaplggheadahhaa.Fl
set_option linter.unusedVariables false
set_option linter.unusedSimpArgs false

theorem rnd_j (n j : Nat) (e f : Int) (h : e + j = f) : rnd (n * 2 ^ j) e false = rnd n f false := by
  have := rnd_scale n f j
  rw [show f - (j : Int) = e by omega] at this
  exact this
theorem TOP_eq {T : Nat} (h : T = 2098) : TOP = 2 ^ T := by rw [h]; rfl
theorem pow_lt_TOP {a b c : Nat} (h : a < 2 ^ b) (hb : b + c ≤ 2098) : a * 2 ^ c < TOP := by
  obtain ⟨T, hT⟩ : ∃ T, T = 2098 := ⟨_, rfl⟩
  rw [TOP_eq hT]
  rw [← hT] at hb
  have h1 : a * 2 ^ c < 2 ^ b * 2 ^ c := Nat.mul_lt_mul_of_pos_right h (Nat.pow_pos (by decide))
  rw [← Nat.pow_add] at h1
  exact Nat.lt_of_lt_of_le h1 (Nat.pow_le_pow_right (by decide) hb)
theorem pk_f (m : Nat) : pk false m = m := rfl
theorem bne_ff : (false != false) = false := rfl
/-- a number and its square: V x = M * 2^(s+27) -/
theorem square_V {x M s : Nat} (hx : x < INF) (hV : V x = M * 2 ^ (27 + s)) (hM : M < 67108864) (hs1 : 600 ≤ s) (hs2 : s ≤ 1450) :
    mulN x x < INF ∧ V (mulN x x) = M * M * 2 ^ (2 * s - 1020) := by
  have hk := kd_of_lt hx
  have hl : x < 9223372036854775808 := by unfold INF at hx; omega
  rw [mulN_fin hk hk, ng_of_lt hl, ab_of_lt hl, hV]
  have hMM : M * M < 4503599627370496 := by
    have := Nat.mul_le_mul (show M ≤ 67108863 by omega) (show M ≤ 67108863 by omega)
    omega
  obtain ⟨K, hK⟩ : ∃ K, K = 1074 := ⟨_, rfl⟩
  have e : M * 2 ^ (27 + s) * (M * 2 ^ (27 + s)) = M * M * 2 ^ (2 * s - 1020) * 2 ^ K := by
    rw [Nat.mul_mul_mul_comm, ← Nat.pow_add, Nat.mul_assoc (M * M), ← Nat.pow_add, show 27 + s + (27 + s) = 2 * s - 1020 + K by omega]
  rw [e, bne_ff, pk_f, rnd_j _ K (-2148) (-1074) (by omega)]
  exact rnd_rep (by omega) (pow_lt_TOP (b := 52) hMM (by omega))
theorem square_sh {y M J : Nat} (hV : V y = M * M * 2 ^ J) (hM : M < 67108864) : sh y ≤ J ∧ mant y = M * M * 2 ^ (J - sh y) := by
  have hMM : M * M < 4503599627370496 := by
    have := Nat.mul_le_mul (show M ≤ 67108863 by omega) (show M ≤ 67108863 by omega)
    omega
  have hle : sh y ≤ J := by
    rcases Nat.eq_zero_or_pos (sh y) with h | h
    · omega
    have hg := mant_ge h
    rcases Nat.lt_or_ge J (sh y) with c | c
    · exfalso
      have h1 : 2 ^ J * 2 ^ (sh y - J) = 2 ^ sh y := by rw [← Nat.pow_add]; congr 1; omega
      have h2 : V y = mant y * 2 ^ (sh y - J) * 2 ^ J := by unfold V; rw [← h1, Nat.mul_comm (2 ^ J), Nat.mul_assoc]
      rw [h2] at hV
      have h3 := Nat.eq_of_mul_eq_mul_right (Nat.pow_pos (by decide)) hV
      have h4 : mant y * 1 ≤ mant y * 2 ^ (sh y - J) := Nat.mul_le_mul_left _ (Nat.pow_pos (by decide))
      omega
    · exact c
  refine ⟨hle, ?_⟩
  have h1 : 2 ^ (J - sh y) * 2 ^ sh y = 2 ^ J := by rw [← Nat.pow_add]; congr 1; omega
  unfold V at hV
  rw [← h1, ← Nat.mul_assoc] at hV
  exact Nat.eq_of_mul_eq_mul_right (Nat.pow_pos (by decide)) hV
theorem self_M {x M s : Nat} (hx : x < INF) (hV : V x = M * 2 ^ (27 + s)) : rnd M ((s : Int) - 1047) false = x := by
  have := rnd_self hx
  rw [hV, rnd_j _ _ _ ((s : Int) - 1047) (by omega)] at this
  exact this
theorem square_root {x y M s : Nat} (hx : x < INF) (hV : V x = M * 2 ^ (27 + s)) (hM : M < 67108864) (h0 : 0 < M) (hs1 : 600 ≤ s) (hs2 : s ≤ 1450) (hy : y < INF) (hW : V y = M * M * 2 ^ (2 * s - 1020)) : sqrtN y = x := by
  obtain ⟨h1, h2⟩ := square_sh hW hM
  have hl : y < 9223372036854775808 := by unfold INF at hy; omega
  have ky := kd_of_lt hy
  have zy : kd y ≠ 0 := fun h => by
    have hp : 0 < M * M * 2 ^ (2 * s - 1020) := Nat.mul_pos (Nat.mul_pos h0 h0) (Nat.pow_pos (by decide))
    have h := kd_zero.1 h
    rw [ab_of_lt hl] at h
    rw [h, V_zero] at hW
    omega
  unfold sqrtN
  rw [if_neg (by unfold SG; omega), if_neg (by omega), ab_of_lt hl]
  have hrk : rk (sh y) = 128 + sh y % 2 := by unfold rk; split <;> omega
  rw [hrk]
  generalize hr : 128 + sh y % 2 = r at *
  obtain ⟨d, hd⟩ : ∃ d, 2 * s - 1020 - sh y + r = d + d := ⟨(2 * s - 1020 - sh y + r) / 2, by omega⟩
  have hN : mant y * p2 r = M * 2 ^ d * (M * 2 ^ d) := by
    rw [h2, p2_eq, Nat.mul_mul_mul_comm, ← Nat.pow_add, Nat.mul_assoc, ← Nat.pow_add, hd]
  rw [hN]
  have hrt : rt (M * 2 ^ d * (M * 2 ^ d)) = M * 2 ^ d := by
    refine (rt_is _).eq ⟨Nat.le_refl _, ?_⟩
    exact Nat.mul_self_lt_mul_self (Nat.lt_succ_self _)
  rw [hrt]
  unfold sq
  rw [decide_eq_false (Nat.lt_irrefl _), rnd_j _ _ _ ((s : Int) - 1047) (by omega)]
  exact self_M hx hV
theorem square_div {x y M s : Nat} (hx : x < INF) (hV : V x = M * 2 ^ (27 + s)) (hm : mant x = M * 2 ^ 27) (hsh : sh x = s) (hM : M < 67108864) (h0 : 0 < M) (hs1 : 600 ≤ s) (hs2 : s ≤ 1450) (hy : y < INF) (hW : V y = M * M * 2 ^ (2 * s - 1020)) : divN y x = x := by
  obtain ⟨h1, h2⟩ := square_sh hW hM
  have hl : y < 9223372036854775808 := by unfold INF at hy; omega
  have hlx : x < 9223372036854775808 := by unfold INF at hx; omega
  have ky := kd_of_lt hy
  have kx := kd_of_lt hx
  have zy : kd y ≠ 0 := fun h => by
    have hp : 0 < M * M * 2 ^ (2 * s - 1020) := Nat.mul_pos (Nat.mul_pos h0 h0) (Nat.pow_pos (by decide))
    have h := kd_zero.1 h
    rw [ab_of_lt hl] at h
    rw [h, V_zero] at hW
    omega
  have zx : kd x ≠ 0 := fun h => by
    have hp : 0 < M * 2 ^ (27 + s) := Nat.mul_pos h0 (Nat.pow_pos (by decide))
    have h := kd_zero.1 h
    rw [ab_of_lt hlx] at h
    rw [h, V_zero] at hV
    omega
  unfold divN
  rw [if_neg (by omega), if_neg (by omega), if_neg (by omega), ng_of_lt hl, ng_of_lt hlx, ab_of_lt hl, ab_of_lt hlx, hsh, hm]
  unfold dq
  have hp : 0 < M * 2 ^ 27 := Nat.mul_pos h0 (Nat.pow_pos (by decide))
  have hN : mant y * p2 128 = M * 2 ^ (2 * s - 1020 - sh y + 101) * (M * 2 ^ 27) := by
    rw [h2, p2_eq, Nat.mul_mul_mul_comm, ← Nat.pow_add, Nat.mul_assoc, ← Nat.pow_add]
  rw [hN, Nat.mul_div_cancel _ hp, Nat.mul_mod_left, bne_ff, pk_f, show decide ((0 : Nat) ≠ 0) = false from rfl]
  rw [rnd_j _ _ _ ((s : Int) - 1047) (by omega)]
  exact self_M hx hV

/-- two to the power e - 1023 -/
def P (e : Nat) : Nat := e * 4503599627370496
theorem P_facts {e : Nat} (h : 1 ≤ e) (h2 : e ≤ 2046) : P e < INF ∧ mant (P e) = 2 ^ 52 ∧ sh (P e) = e - 1 ∧ V (P e) = 2 ^ (51 + e) := by
  have a1 : P e / 4503599627370496 = e := Nat.mul_div_cancel _ (by decide)
  have a2 : P e % 4503599627370496 = 0 := Nat.mul_mod_left _ _
  have m : mant (P e) = 2 ^ 52 := by unfold mant; rw [a1, a2, if_neg (by omega)]
  have s : sh (P e) = e - 1 := by unfold sh; rw [a1]
  refine ⟨by unfold P INF; omega, m, s, ?_⟩
  unfold V
  rw [m, s, ← Nat.pow_add]
  congr 1
  omega
theorem P_self {e : Nat} (h : 1 ≤ e) (h2 : e ≤ 2046) : rnd 1 ((e : Int) - 1023) false = P e := by
  obtain ⟨h1, _, _, hV⟩ := P_facts h h2
  have := rnd_self h1
  rw [hV, ← Nat.one_mul (2 ^ (51 + e)), rnd_j _ _ _ ((e : Int) - 1023) (by omega)] at this
  exact this
theorem P_lt {e : Nat} (h : 1 ≤ e) (h2 : e ≤ 2046) : P e < 9223372036854775808 := by unfold P; omega
theorem P_mul {e f g : Nat} (h : 1 ≤ e) (h2 : e ≤ 2046) (hf : 1 ≤ f) (hf2 : f ≤ 2046) (hg : 1 ≤ g) (hg2 : g ≤ 2046) (hs : e + f = g + 1023) : mulN (P e) (P f) = P g := by
  obtain ⟨h1, _, _, hV⟩ := P_facts h h2
  obtain ⟨h3, _, _, hW⟩ := P_facts hf hf2
  rw [mulN_fin (kd_of_lt h1) (kd_of_lt h3), ng_of_lt (P_lt h h2), ng_of_lt (P_lt hf hf2), ab_of_lt (P_lt h h2), ab_of_lt (P_lt hf hf2), hV, hW, ← Nat.pow_add, ← Nat.one_mul (2 ^ (51 + e + (51 + f)))]
  rw [bne_ff, pk_f, rnd_j _ _ _ ((g : Int) - 1023) (by omega)]
  exact P_self hg hg2
theorem P_div {e f g : Nat} (h : 1 ≤ e) (h2 : e ≤ 2046) (hf : 1 ≤ f) (hf2 : f ≤ 2046) (hg : 1 ≤ g) (hg2 : g ≤ 2046) (hs : e + 1023 = g + f) : divN (P e) (P f) = P g := by
  obtain ⟨h1, m1, s1, hV⟩ := P_facts h h2
  obtain ⟨h3, m3, s3, hW⟩ := P_facts hf hf2
  have k1 := kd_of_lt h1
  have k3 := kd_of_lt h3
  have z1 : kd (P e) ≠ 0 := fun c => by have := kd_zero.1 c; rw [ab_of_lt (P_lt h h2)] at this; unfold P at this; omega
  have z3 : kd (P f) ≠ 0 := fun c => by have := kd_zero.1 c; rw [ab_of_lt (P_lt hf hf2)] at this; unfold P at this; omega
  unfold divN
  rw [if_neg (by omega), if_neg (by omega), if_neg (by omega), ng_of_lt (P_lt h h2), ng_of_lt (P_lt hf hf2), ab_of_lt (P_lt h h2), ab_of_lt (P_lt hf hf2), m3, s1, s3]
  rw [bne_ff, pk_f, dq_one (A := P e) (k := 128) (j := 76) (l := 52) (by omega), m1, ← Nat.one_mul (2 ^ 52), rnd_j _ _ _ ((g : Int) - 1023) (by omega)]
  exact P_self hg hg2
theorem P_pows : ∀ k u : Nat, u < 2 ^ k → u ≤ 1000 → pows 4611686018427387904 k u = P (1023 + u)
  | 0, u, h, _ => by
    have : u = 0 := by omega
    subst this
    rfl
  | k + 1, u, h, hu => by
    have e : pows 4611686018427387904 (k + 1) u = if u % 2 = 1 then mulN (mulN (pows 4611686018427387904 k (u / 2)) (pows 4611686018427387904 k (u / 2))) 4611686018427387904 else mulN (pows 4611686018427387904 k (u / 2)) (pows 4611686018427387904 k (u / 2)) := rfl
    rw [Nat.pow_succ] at h
    rw [e, P_pows k (u / 2) (by omega) (by omega), P_mul (g := 1023 + (u / 2 + u / 2)) (by omega) (by omega) (by omega) (by omega) (by omega) (by omega) (by omega)]
    split
    · rw [show (4611686018427387904 : Nat) = P 1024 from rfl, P_mul (g := 1023 + u) (by omega) (by omega) (by omega) (by omega) (by omega) (by omega) (by omega)]
    · congr 1; omega
theorem two_kd : kd 4611686018427387904 = 2 := by decide
theorem P_pow (n : Int) (h : -1000 ≤ n) (h2 : n ≤ 1000) : powN 4611686018427387904 n = P (1023 + n).toNat := by
  unfold powN
  have hb : n.natAbs < 2 ^ 64 := by rw [show (2:Nat) ^ 64 = 18446744073709551616 from rfl]; omega
  rw [two_kd, if_neg (by decide), P_pows 64 _ hb (by omega)]
  split
  · rw [show (4607182418800017408 : Nat) = P 1023 from rfl, P_div (g := (1023 + n).toNat) (by omega) (by omega) (by omega) (by omega) (by omega) (by omega) (by omega)]
  · congr 1; omega

/-- the law's number -/
theorem squares (f e : Nat) (hf : f < 33554432) (h1 : 624 ≤ e) (h2 : e ≤ 1422) :
    let x := e * 4503599627370496 + f * 134217728
    x < 18446744073709551616 ∧ mulN x x < 18446744073709551616 ∧ sqrtN (mulN x x) = x ∧ divN (mulN x x) x = x := by
  intro x
  have hx : x < INF := by show e * 4503599627370496 + f * 134217728 < INF; unfold INF; omega
  have a1 : x / 4503599627370496 = e := by show (e * 4503599627370496 + f * 134217728) / 4503599627370496 = e; omega
  have a2 : x % 4503599627370496 = f * 134217728 := by show (e * 4503599627370496 + f * 134217728) % 4503599627370496 = _; omega
  have m : mant x = (33554432 + f) * 2 ^ 27 := by unfold mant; rw [a1, a2, if_neg (by omega)]; omega
  have s : sh x = e - 1 := by unfold sh; rw [a1]
  have hV : V x = (33554432 + f) * 2 ^ (27 + (e - 1)) := by unfold V; rw [m, s, Nat.mul_assoc, ← Nat.pow_add]
  clear_value x
  obtain ⟨b1, b2⟩ := square_V hx hV (by omega) (by omega) (by omega)
  refine ⟨by unfold INF at hx; omega, by unfold INF at b1; omega, square_root hx hV (by omega) (by omega) (by omega) (by omega) b1 b2, square_div hx hV m s (by omega) (by omega) (by omega) (by omega) b1 b2⟩
theorem squares2 (k : Int) (h : -399 ≤ k) (h2 : k ≤ 399) : powN 4611686018427387904 (2 * k) < 18446744073709551616 ∧ sqrtN (powN 4611686018427387904 (2 * k)) = powN 4611686018427387904 k := by
  have h3 := squares 0 (1023 + k).toNat (by omega) (by omega) (by omega)
  rw [P_pow _ (by omega) (by omega), P_pow _ (by omega) (by omega)]
  have e : mulN (P (1023 + k).toNat) (P (1023 + k).toNat) = P (1023 + 2 * k).toNat := P_mul (by omega) (by omega) (by omega) (by omega) (by omega) (by omega) (by omega)
  rw [show (1023 + k).toNat * 4503599627370496 + 0 * 134217728 = P (1023 + k).toNat by rw [Nat.zero_mul, Nat.add_zero]; rfl] at h3
  dsimp only at h3
  rw [e] at h3
  exact ⟨h3.2.1, h3.2.2.1⟩
end Go.Proofs.Ytaplggheadahhaa.Fl
