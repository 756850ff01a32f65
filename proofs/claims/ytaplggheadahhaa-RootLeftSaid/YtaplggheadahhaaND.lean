/- Plain facts on what a product leaves out. -/
import Derived.Test.YtaplggheadahhaaNC
namespace Go.Proofs.Ytaplggheadahhaa.Fl
set_option linter.unusedVariables false
set_option linter.unusedSimpArgs false

/-- a rounded quotient is near -/
theorem rq_near (n k : Nat) : rq n (k + 1) false * 2 ^ (k + 1) ≤ n + 2 ^ k ∧ n ≤ rq n (k + 1) false * 2 ^ (k + 1) + 2 ^ k := by
  have hp : 0 < 2 ^ k := Nat.pow_pos (by decide)
  have e1 : 2 ^ (k + 1) = 2 ^ k * 2 := Nat.pow_succ 2 k
  have d1 : n / 2 ^ (k + 1) = n / 2 ^ k / 2 := by rw [e1, Nat.div_div_eq_div_mul]
  have d2 := Nat.div_add_mod n (2 ^ k)
  have d3 := Nat.mod_lt n hp
  unfold rq
  rw [show k + 1 - 1 = k by omega, d1, e1]
  generalize 2 ^ k = B at *
  generalize hq : n / B = q at *
  have hc : B * q = q * B := Nat.mul_comm B q
  rw [hc] at d2
  rcases Nat.mod_two_eq_zero_or_one q with h | h
  · obtain ⟨c, rfl⟩ : ∃ c, q = 2 * c := ⟨q / 2, by omega⟩
    rw [if_neg (by omega), show 2 * c / 2 = c by omega]
    have g : c * (B * 2) = 2 * c * B := by rw [Nat.mul_comm B 2, ← Nat.mul_assoc, Nat.mul_comm c 2]
    rw [g]
    omega
  · obtain ⟨c, rfl⟩ : ∃ c, q = 2 * c + 1 := ⟨q / 2, by omega⟩
    rw [show (2 * c + 1) / 2 = c by omega]
    have g : c * (B * 2) = 2 * c * B := by rw [Nat.mul_comm B 2, ← Nat.mul_assoc, Nat.mul_comm c 2]
    have g2 : (2 * c + 1) * B = 2 * c * B + B := by rw [Nat.add_mul, Nat.one_mul]
    rw [g2] at d2
    split
    · rw [Nat.add_mul, g, Nat.one_mul]; omega
    · rename_i hh
      rw [g]
      simp only [h, true_and] at hh
      have : n % B = 0 := by
        rcases Nat.eq_zero_or_pos (n % B) with z | z
        · exact z
        · exact absurd (Or.inl (by omega)) hh
      omega
/-- the number that has the parts u, q -/
theorem V_parts {u q : Nat} (h : 4503599627370496 ≤ q) (h2 : q ≤ 9007199254740992) : V (u * 4503599627370496 + q) = q * 2 ^ u := by
  rcases Nat.lt_or_ge q 9007199254740992 with c | c
  · have a1 : (u * 4503599627370496 + q) / 4503599627370496 = u + 1 := by omega
    have a2 : (u * 4503599627370496 + q) % 4503599627370496 = q - 4503599627370496 := by omega
    unfold V mant sh
    rw [a1, a2, if_neg (by omega), show 4503599627370496 + (q - 4503599627370496) = q by omega, show u + 1 - 1 = u by omega]
  · obtain rfl : q = 9007199254740992 := by omega
    have a1 : (u * 4503599627370496 + 9007199254740992) / 4503599627370496 = u + 2 := by omega
    have a2 : (u * 4503599627370496 + 9007199254740992) % 4503599627370496 = 0 := by omega
    unfold V mant sh
    rw [a1, a2, if_neg (by omega), show u + 2 - 1 = u + 1 by omega, Nat.pow_succ, Nat.mul_comm (2 ^ u) 2, ← Nat.mul_assoc]
/-- a product of two fractions, rounded: W in units of 2^-104 -/
theorem left_round {W J : Nat} (hJ : J = 970) (h : 2 ^ 104 ≤ W) (h2 : W < 2 ^ 106) : ∃ Y, rnd W (-104) false < INF ∧ 0 < rnd W (-104) false ∧ V (rnd W (-104) false) = Y * 2 ^ J ∧ Y ≤ W + 2 ^ 52 ∧ W ≤ Y + 2 ^ 52 := by
  have h0 : 0 < W := Nat.lt_of_lt_of_le (by decide) h
  obtain ⟨k, hk, hb⟩ : ∃ k, (k = 51 ∨ k = 52) ∧ bl W = k + 54 := by
    have l1 := lt_bl_of_le h
    have l2 := bl_le_of_lt h2
    exact ⟨bl W - 54, by omega, by omega⟩
  have hu : un W (-104) = (k : Int) - 103 := by unfold un; rw [hb]; omega
  have r := rnd_eq h0 (-104) false
  have q1 := sg_le h0 (-104) false
  have q2 := sg_ge h0 (-104) false (by rw [hu]; omega)
  have hsg : sg W (-104) false = rq W (k + 1) false := by
    unfold sg
    rw [hu, if_neg (by omega), show ((k : Int) - 103 - -104).toNat = k + 1 by omega]
  rw [hsg] at r q1 q2
  rw [hu, show ((k : Int) - 103 + 1074).toNat = k + 971 by omega] at r
  obtain ⟨n1, n2⟩ := rq_near W k
  generalize rq W (k + 1) false = q at *
  have hr : rnd W (-104) false = (k + 971) * 4503599627370496 + q := by rw [r]; exact Nat.min_eq_right (by unfold INF; omega)
  have hp : 2 ^ k ≤ 2 ^ 52 := Nat.pow_le_pow_right (by decide) (by omega)
  refine ⟨q * 2 ^ (k + 1), ?_, ?_, ?_, by omega, by omega⟩
  · rw [hr]; unfold INF; omega
  · rw [hr]; omega
  · rw [hr, V_parts q2 q1, Nat.mul_assoc, ← Nat.pow_add, show k + 1 + J = k + 971 by omega]

theorem frac_facts {f : Nat} (h : f < 4503599627370496) : 4607182418800017408 + f < INF ∧ mant (4607182418800017408 + f) = 4503599627370496 + f ∧ sh (4607182418800017408 + f) = 1022 := by
  have a1 : (4607182418800017408 + f) / 4503599627370496 = 1023 := by omega
  have a2 : (4607182418800017408 + f) % 4503599627370496 = f := by omega
  refine ⟨by unfold INF; omega, ?_, ?_⟩
  · unfold mant; rw [a1, a2, if_neg (by decide)]
  · unfold sh; rw [a1]
/-- what is left of a product -/
structure Left (x y p l : Nat) : Prop where
  hp : p < INF
  hm : mulN x y = p
  hl : l < 18446744073709551616
  kl : kd l < 3
  fm : fmaN x y (p + 9223372036854775808) = l
  ad : addN p l = p
  ab : ab l ≤ 4372995238176751616
theorem sV_pk (n : Bool) {L : Nat} (h : L < INF) : sV (pk n L) = sgi n (V L) := by
  unfold sV sgi
  rw [ng_pk (Nat.le_of_lt h), ab_pk (Nat.le_of_lt h)]
theorem kd_pk_lt (n : Bool) {L : Nat} (h : L < INF) : kd (pk n L) < 3 := by rw [kd_fin_iff, ab_pk (Nat.le_of_lt h)]; exact h
theorem left_add {p l W J : Nat} (hp : p < INF) (h0 : 0 < p) (kl : kd l < 3) (hs : sV p + sV l = ((W * 2 ^ J : Nat) : Int)) (hW : 0 < W) (hr : rnd (W * 2 ^ J) (-1074) false = p) : addN p l = p := by
  have kp := kd_of_lt hp
  have zp : kd p ≠ 0 := fun c => by have := kd_zero.1 c; rw [ab_of_lt (by unfold INF at hp; omega)] at this; omega
  unfold addN
  have hq : 0 < W * 2 ^ J := Nat.mul_pos hW (Nat.pow_pos (by decide))
  rw [if_neg (by omega), if_neg (by omega), if_neg (by omega), if_neg (by omega), if_neg (by omega), hs]
  generalize W * 2 ^ J = Z at *
  rw [if_neg (by omega), decide_eq_false (by omega), Int.natAbs_natCast, hr, pk_f]
theorem left_zero {x y p W Y J T : Nat} (kx : kd x < 3) (ky : kd y < 3) (zx : kd x ≠ 0) (zy : kd y ≠ 0) (hp : p < INF) (h0 : 0 < p) (hm : mulN x y = p) (hV : V p = Y * 2 ^ J) (hr : rnd (W * 2 ^ J) (-1074) false = p) (hW : 0 < W)
    (hf : fsum x y (p + 9223372036854775808) = ((W : Int) - Y) * ((2 ^ T : Nat) : Int)) (he : W = Y) : Left x y p 0 := by
  obtain ⟨n1, n2, n3, n4⟩ := neg_facts hp
  refine ⟨hp, hm, by decide, by decide, ?_, ?_, by decide⟩
  · unfold fmaN
    rw [hf, he, Int.sub_self, Int.zero_mul, if_neg (by omega), if_neg (by omega), if_neg (by omega), if_pos rfl, if_neg (by omega)]
  · refine left_add hp h0 (by decide) ?_ hW hr
    rw [sV_of_lt (show p < 9223372036854775808 by unfold INF at hp; omega), sV_zero (show kd 0 = 0 by decide), hV, he, Int.add_zero]
theorem left_some {x y p W Y J T D : Nat} (n : Bool) (kx : kd x < 3) (ky : kd y < 3) (zx : kd x ≠ 0) (zy : kd y ≠ 0) (hp : p < INF) (h0 : 0 < p) (hm : mulN x y = p) (hV : V p = Y * 2 ^ J) (hr : rnd (W * 2 ^ J) (-1074) false = p) (hW : 0 < W)
    (hJ : J = 970) (hT : T = 2044) (hf : fsum x y (p + 9223372036854775808) = ((W : Int) - Y) * ((2 ^ T : Nat) : Int)) (hD : (W : Int) - Y = sgi n D) (hD0 : 0 < D) (hD2 : D ≤ 4503599627370496) : Left x y p (pk n (rnd D (-104) false)) := by
  obtain ⟨n1, n2, n3, n4⟩ := neg_facts hp
  have e1 : rnd (D * 2 ^ J) (-1074) false = rnd D (-104) false := rnd_j D J (-1074) (-104) (by omega)
  have e2 : rnd (D * 2 ^ T) (-2148) false = rnd D (-104) false := rnd_j D T (-2148) (-104) (by omega)
  obtain ⟨L1, L2⟩ := rnd_rep (show D < 9007199254740992 by omega) (show D * 2 ^ J < TOP from pow_lt_TOP (b := 53) (by omega) (by omega))
  rw [e1] at L1 L2
  refine ⟨hp, hm, pk_lt (Nat.le_of_lt L1), kd_pk_lt n L1, ?_, ?_, ?_⟩
  · have hq : 0 < D * 2 ^ T := Nat.mul_pos hD0 (Nat.pow_pos (by decide))
    have hs : sgi n D * ((2 ^ T : Nat) : Int) = sgi n (D * 2 ^ T) := by
      cases n
      · show (D : Int) * _ = ((D * 2 ^ T : Nat) : Int); rw [Int.natCast_mul]
      · show -(D : Int) * _ = -((D * 2 ^ T : Nat) : Int); rw [Int.natCast_mul, Int.neg_mul]
    have := fin_of (s := fsum x y (p + 9223372036854775808)) (n := n) (Z := D * 2 ^ T) (by rw [hf, hD, hs]) hq
    rw [e2] at this
    rw [← this]
    unfold fmaN
    rw [if_neg (by omega), if_neg (by omega), if_neg (by omega)]
    split
    · rw [if_neg (by omega)]
    · rfl
  · refine left_add (W := W) (J := J) hp h0 (kd_pk_lt n L1) ?_ hW hr
    rw [sV_of_lt (show p < 9223372036854775808 by unfold INF at hp; omega), sV_pk n L1, hV, L2]
    have hs : sgi n (D * 2 ^ J) = ((W : Int) - Y) * ((2 ^ J : Nat) : Int) := by
      rw [hD]
      cases n
      · show ((D * 2 ^ J : Nat) : Int) = (D : Int) * _; rw [Int.natCast_mul]
      · show -((D * 2 ^ J : Nat) : Int) = -(D : Int) * _; rw [Int.natCast_mul, Int.neg_mul]
    rw [hs, Int.natCast_mul, Int.natCast_mul, Int.sub_mul]
    omega
  · rw [ab_pk (Nat.le_of_lt L1)]
    refine Nat.le_trans (rnd_mono hD2 (-104)) ?_
    rw [show (4503599627370496 : Nat) = 1 * 2 ^ 52 from rfl, rnd_j 1 52 (-104) (((971 : Nat) : Int) - 1023) (by omega), P_self (by omega) (by omega)]
    exact Nat.le_refl _
theorem lefts (f g : Nat) (hf : f < 4503599627370496) (hg : g < 4503599627370496) : ∃ p l, Left (4607182418800017408 + f) (4607182418800017408 + g) p l := by
  obtain ⟨x1, x2, x3⟩ := frac_facts hf
  obtain ⟨y1, y2, y3⟩ := frac_facts hg
  generalize 4607182418800017408 + f = x at *
  generalize 4607182418800017408 + g = y at *
  have lx : x < 9223372036854775808 := by unfold INF at x1; omega
  have ly : y < 9223372036854775808 := by unfold INF at y1; omega
  have kx := kd_of_lt x1
  have ky := kd_of_lt y1
  have zx : kd x ≠ 0 := fun c => by have := kd_zero.1 c; rw [ab_of_lt lx] at this; subst this; exact absurd x3 (by decide)
  have zy : kd y ≠ 0 := fun c => by have := kd_zero.1 c; rw [ab_of_lt ly] at this; subst this; exact absurd y3 (by decide)
  have hW1 : 2 ^ 104 ≤ mant x * mant y := by
    rw [x2, y2]
    have := Nat.mul_le_mul (show 4503599627370496 ≤ 4503599627370496 + f by omega) (show 4503599627370496 ≤ 4503599627370496 + g by omega)
    exact this
  have hW2 : mant x * mant y < 2 ^ 106 := by
    rw [x2, y2]
    have := Nat.mul_le_mul (show 4503599627370496 + f ≤ 9007199254740991 by omega) (show 4503599627370496 + g ≤ 9007199254740991 by omega)
    exact Nat.lt_of_le_of_lt this (by decide)
  obtain ⟨J, hJ⟩ : ∃ J, J = 970 := ⟨_, rfl⟩
  obtain ⟨T, hT⟩ : ∃ T, T = 2044 := ⟨_, rfl⟩
  obtain ⟨Y, r1, r2, r3, r4, r5⟩ := left_round hJ hW1 hW2
  have hm : mulN x y = rnd (mant x * mant y) (-104) false := by
    unfold mulN
    rw [if_neg (by omega), if_neg (by omega), ng_of_lt lx, ng_of_lt ly, ab_of_lt lx, ab_of_lt ly, x3, y3, bne_ff, pk_f]
    rfl
  have hr : rnd (mant x * mant y * 2 ^ J) (-1074) false = rnd (mant x * mant y) (-104) false := rnd_j _ J (-1074) (-104) (by omega)
  have hf : fsum x y (rnd (mant x * mant y) (-104) false + 9223372036854775808) = (((mant x * mant y : Nat) : Int) - Y) * ((2 ^ T : Nat) : Int) := by
    obtain ⟨n1, n2, n3, n4⟩ := neg_facts r1
    unfold fsum
    rw [n3, r3, sV_of_lt lx, sV_of_lt ly, ← Int.natCast_mul]
    have e1 : V x * V y = mant x * mant y * 2 ^ T := by
      obtain ⟨s, hs⟩ : ∃ s, s = 1022 := ⟨_, rfl⟩
      unfold V
      rw [x3, y3, ← hs, Nat.mul_mul_mul_comm, ← Nat.pow_add, show s + s = T by omega]
    have e2 : ∀ K, K = 1074 → Y * 2 ^ J * p2 K = Y * 2 ^ T := fun K hK => by rw [p2_eq, Nat.mul_assoc, ← Nat.pow_add, show J + K = T by omega]
    rw [e1, Int.neg_mul, ← Int.natCast_mul, e2 1074 rfl, Int.sub_mul, Int.natCast_mul, Int.natCast_mul Y]
    omega
  have hW : 0 < mant x * mant y := Nat.lt_of_lt_of_le (by decide) hW1
  have b52 : (2:Nat) ^ 52 = 4503599627370496 := rfl
  rw [b52] at r4 r5
  rcases Nat.lt_trichotomy (mant x * mant y) Y with c | c | c
  · exact ⟨_, _, left_some (D := Y - mant x * mant y) true kx ky zx zy r1 r2 hm r3 hr hW hJ hT hf (by show _ = -((Y - mant x * mant y : Nat) : Int); omega) (by omega) (by omega)⟩
  · exact ⟨_, _, left_zero kx ky zx zy r1 r2 hm r3 hr hW hf c⟩
  · exact ⟨_, _, left_some (D := mant x * mant y - Y) false kx ky zx zy r1 r2 hm r3 hr hW hJ hT hf (by show _ = ((mant x * mant y - Y : Nat) : Int); omega) (by omega) (by omega)⟩
end Go.Proofs.Ytaplggheadahhaa.Fl
