/- arith.sum: what it tells is the number nearest to the exact sum. -/
import Derived.Test.YtaplggheadahhaaC3
import Derived.Test.YtaplggheadahhaaC4
import Derived.Test.YtaplggheadahhaaN2
namespace Go.Proofs.Ytaplggheadahhaa
open Go.RowKit
set_option linter.unusedVariables false
set_option linter.unusedSimpArgs false

theorem wshl0 (m u : Nat) (hm : m < 18446744073709551616) (hu : u ≤ 1000000000000) (w : World) :
    Calls Try.prog 91 #[.agg #[.int .u64 0, .int .u64 (m : Int)], .int .i64 (u : Int)] w fun e w' => e = .returned (.agg #[.int .u64 ((Fl.hi (m * 2 ^ u) : Nat) : Int), .int .u64 ((Fl.lo (m * 2 ^ u) : Nat) : Int)]) ∧ Below w.heap.size w w' := by
  have := wshl_any 0 m u hm (by omega) (by omega) w
  rw [Int.toNat_natCast, show 0 * 18446744073709551616 + m = m by omega] at this
  exact this
theorem wshr0 (m n : Nat) (hm : m < 18446744073709551616) (hu : n ≤ 1000000000000) (w : World) :
    Calls Try.prog 106 #[.agg #[.int .u64 0, .int .u64 (m : Int)], .int .i64 (n : Int)] w fun e w' => e = .returned (.tuple #[.agg #[.int .u64 ((Fl.hi (m / 2 ^ n) : Nat) : Int), .int .u64 ((Fl.lo (m / 2 ^ n) : Nat) : Int)], .bool (decide (m % 2 ^ n ≠ 0))]) ∧ Below w.heap.size w w' := by
  have := wshr_any 0 m n (by omega) hm (by omega) (by omega) w
  rw [Int.toNat_natCast, show 0 * 18446744073709551616 + m = m by omega] at this
  exact this
theorem wadd' (N M : Nat) (h : N + M < 340282366920938463463374607431768211456) (w : World) :
    Calls Try.prog 107 #[.agg #[.int .u64 ((Fl.hi N : Nat) : Int), .int .u64 ((Fl.lo N : Nat) : Int)], .agg #[.int .u64 ((Fl.hi M : Nat) : Int), .int .u64 ((Fl.lo M : Nat) : Int)]] w fun e w' =>
      e = .returned (.tuple #[.agg #[.int .u64 ((Fl.hi (N + M) : Nat) : Int), .int .u64 ((Fl.lo (N + M) : Nat) : Int)], .bool false]) ∧ Below w.heap.size w w' := by
  have := wadd_any (Fl.hi N) (Fl.lo N) (Fl.hi M) (Fl.lo M) (Fl.hi_lt _) (Fl.lo_lt _) (Fl.hi_lt _) (Fl.lo_lt _) w
  rw [Fl.jn_hi (by omega), Fl.jn_hi (by omega), decide_eq_false (by omega)] at this
  exact this
theorem wsub' (N M : Nat) (h : N < 340282366920938463463374607431768211456) (h' : M ≤ N) (w : World) :
    Calls Try.prog 108 #[.agg #[.int .u64 ((Fl.hi N : Nat) : Int), .int .u64 ((Fl.lo N : Nat) : Int)], .agg #[.int .u64 ((Fl.hi M : Nat) : Int), .int .u64 ((Fl.lo M : Nat) : Int)]] w fun e w' =>
      e = .returned (.tuple #[.agg #[.int .u64 ((Fl.hi (N - M) : Nat) : Int), .int .u64 ((Fl.lo (N - M) : Nat) : Int)], .bool false]) ∧ Below w.heap.size w w' := by
  have := wsub_any (Fl.hi N) (Fl.lo N) (Fl.hi M) (Fl.lo M) (Fl.hi_lt _) (Fl.lo_lt _) (Fl.hi_lt _) (Fl.lo_lt _) w
  rw [Fl.jn_hi (by omega), Fl.jn_hi (by omega), decide_eq_false (by omega)] at this
  rw [show Fl.hi (N + 340282366920938463463374607431768211456 - M) = Fl.hi (N - M) by unfold Fl.hi; omega, show Fl.lo (N + 340282366920938463463374607431768211456 - M) = Fl.lo (N - M) by unfold Fl.lo; omega] at this
  exact this
theorem wsub'' (N M : Nat) (h : M < 340282366920938463463374607431768211456) (h' : N < M) (w : World) :
    Calls Try.prog 108 #[.agg #[.int .u64 ((Fl.hi N : Nat) : Int), .int .u64 ((Fl.lo N : Nat) : Int)], .agg #[.int .u64 ((Fl.hi M : Nat) : Int), .int .u64 ((Fl.lo M : Nat) : Int)]] w fun e w' =>
      e = .returned (.tuple #[.agg #[.int .u64 ((Fl.hi (N + 340282366920938463463374607431768211456 - M) : Nat) : Int), .int .u64 ((Fl.lo (N + 340282366920938463463374607431768211456 - M) : Nat) : Int)], .bool true]) ∧ Below w.heap.size w w' := by
  have := wsub_any (Fl.hi N) (Fl.lo N) (Fl.hi M) (Fl.lo M) (Fl.hi_lt _) (Fl.lo_lt _) (Fl.hi_lt _) (Fl.lo_lt _) w
  rw [Fl.jn_hi (by omega), Fl.jn_hi (by omega), decide_eq_true (by omega)] at this
  exact this
/-- float.Join of a number below 2^128 -/
theorem join' (neg more : Bool) (N : Nat) (e : Int) (h : N < 340282366920938463463374607431768211456) (h1 : -100000000000 ≤ e) (h2 : e ≤ 100000000000) (w : World) :
    Calls Try.prog 62 #[.bool neg, .agg #[.int .u64 ((Fl.hi N : Nat) : Int), .int .u64 ((Fl.lo N : Nat) : Int)], .int .i64 e, .bool more] w fun e' w' =>
      e' = .returned (.int .u64 ((Fl.pk neg (Fl.rnd N e more) : Nat) : Int)) ∧ Below w.heap.size w w' := by
  have := join_any neg more (Fl.hi N) (Fl.lo N) e (Fl.hi_lt _) (Fl.lo_lt _) h1 h2 w
  rw [Fl.jn_hi h] at this
  exact this
theorem lo_eq0 {n : Nat} (h : n ≠ 0) (h' : n < 340282366920938463463374607431768211456) (h0 : Fl.hi n = 0) : ((((Fl.lo n : Nat) : Int)) == 0) = false := by
  have := Fl.jn_hi h'; rw [h0] at this; simp; omega
theorem hi_ne0 {n : Nat} (h : Fl.hi n ≠ 0) : ((((Fl.hi n : Nat) : Int)) == 0) = false := by simp; omega
theorem hi_big {n : Nat} (h : 18446744073709551616 ≤ n) (h' : n < 340282366920938463463374607431768211456) : Fl.hi n ≠ 0 := by unfold Fl.hi; omega

theorem sumR_same {S : Int} {n : Bool} {T : Nat} (h : S = if n = true then -(T : Int) else T) (h0 : 0 < T) : Fl.sumR S = Fl.pk n (Fl.rnd T (-1074) false) := by
  unfold Fl.sumR
  cases n
  · simp only [Bool.false_eq_true, if_false] at h
    rw [h, if_neg (by omega), decide_eq_false (by omega)]; simp
  · simp only [if_true] at h
    rw [h, if_neg (by omega), decide_eq_true (by omega)]; simp
theorem sgn_add {S1 S2 : Int} {n : Bool} {T1 T2 : Nat} (h1 : S1 = if n = true then -(T1 : Int) else T1) (h2 : S2 = if n = true then -(T2 : Int) else T2) : S1 + S2 = if n = true then -((T1 + T2 : Nat) : Int) else ((T1 + T2 : Nat) : Int) := by
  rw [h1, h2]; cases n <;> simp <;> omega
theorem sgn_sub {S1 S2 : Int} {n1 n2 : Bool} {T1 T2 : Nat} (h1 : S1 = if n1 = true then -(T1 : Int) else T1) (h2 : S2 = if n2 = true then -(T2 : Int) else T2) (hn : n1 ≠ n2) (h : T2 ≤ T1) : S1 + S2 = if n1 = true then -((T1 - T2 : Nat) : Int) else ((T1 - T2 : Nat) : Int) := by
  rw [h1, h2]; cases n1 <;> cases n2 <;> simp at hn ⊢ <;> omega
theorem sgn_sub' {S1 S2 : Int} {n1 n2 : Bool} {T1 T2 : Nat} (h1 : S1 = if n1 = true then -(T1 : Int) else T1) (h2 : S2 = if n2 = true then -(T2 : Int) else T2) (hn : n1 ≠ n2) (h : T1 ≤ T2) : S1 + S2 = if n2 = true then -((T2 - T1 : Nat) : Int) else ((T2 - T1 : Nat) : Int) := by
  rw [h1, h2]; cases n1 <;> cases n2 <;> simp at hn ⊢ <;> omega
theorem sgn_zero {S1 S2 : Int} {n1 n2 : Bool} {T1 : Nat} (h1 : S1 = if n1 = true then -(T1 : Int) else T1) (h2 : S2 = if n2 = true then -(T1 : Int) else T1) (hn : n1 ≠ n2) : S1 + S2 = 0 := by
  rw [h1, h2]; cases n1 <;> cases n2 <;> simp at hn ⊢ <;> omega
theorem sh_le {x : Nat} (h : Fl.kd x < 3) : Fl.sh (Fl.ab x) ≤ 2045 := by have := Fl.kd_fin h; unfold Fl.sh Fl.INF at *; omega
theorem sV_if (x : Nat) : Fl.sV x = if Fl.ng x = true then -(Fl.V (Fl.ab x) : Int) else Fl.V (Fl.ab x) := rfl


theorem sum_ns (a b : Nat) (ha : a < 18446744073709551616) (hb : b < 18446744073709551616) (ka : Fl.kd a < 3) (kb : Fl.kd b < 3) (h0 : ¬ (Fl.kd a = 0 ∧ Fl.kd b = 0)) (hs : Fl.sh (Fl.ab b) ≤ Fl.sh (Fl.ab a)) (w : World) :
    Calls Try.prog 59 #[.int .u64 (a : Int), .int .u64 (b : Int)] w fun e w' => e = .returned (.int .u64 ((Fl.sumR (Fl.sV a + Fl.sV b) : Nat) : Int)) ∧ Below w.heap.size w w' := by
  have h1 := split_fin a ha ka
  have h2 := split_fin b hb kb
  have hT : 0 < Fl.V (Fl.ab a) + Fl.V (Fl.ab b) := by
    rcases Nat.eq_zero_or_pos (Fl.ab a) with e1 | e1
    · rcases Nat.eq_zero_or_pos (Fl.ab b) with e2 | e2
      · exact absurd ⟨Fl.kd_zero.2 (by assumption), Fl.kd_zero.2 (by assumption)⟩ h0
      · have := Fl.V_pos e2; omega
    · have := Fl.V_pos e1; omega
  have la := sh_le ka
  have lb := sh_le kb
  have sa := sV_if a
  have sb := sV_if b
  obtain ⟨u, k, hu, hk, hX, hV1, hV2, hY, hr, hXg⟩ := Fl.sum_room (Fl.mant_lt (Fl.ab a)) (Fl.mant_lt (Fl.ab b)) (s1 := Fl.sh (Fl.ab a)) (s2 := Fl.sh (Fl.ab b)) (by omega) Fl.mant_ge la
  have m1 := Fl.mant_lt (Fl.ab a)
  have m2 := Fl.mant_lt (Fl.ab b)
  rw [show Fl.V (Fl.ab a) = Fl.mant (Fl.ab a) * 2 ^ Fl.sh (Fl.ab a) from rfl] at hT sa
  rw [show Fl.V (Fl.ab b) = Fl.mant (Fl.ab b) * 2 ^ Fl.sh (Fl.ab b) from rfl] at hT sb
  rw [hV1, hV2] at hT
  rw [hV1] at sa
  rw [hV2] at sb
  have h3 := wshl0 (Fl.mant (Fl.ab a)) u (by omega) (by omega)
  have h4 := wshr0 (Fl.mant (Fl.ab b)) k (by omega) (by omega)
  have ek : (k : Int) = (Fl.sh (Fl.ab a) : Int) - 1074 - u - ((Fl.sh (Fl.ab b) : Int) - 1074) := by omega
  have ee : (Fl.sh (Fl.ab b) : Int) + k - 1074 = (Fl.sh (Fl.ab a) : Int) - 1074 - u := by omega
  rw [ek] at h4
  have hU : min ((Fl.sh (Fl.ab a) : Int) - 1074 - ((Fl.sh (Fl.ab b) : Int) - 1074)) 64 = (u : Int) := by omega
  have p1 := Fl.sum_same (X := Fl.mant (Fl.ab a) * 2 ^ u) (Y := Fl.mant (Fl.ab b) / 2 ^ k) (s2 := Fl.sh (Fl.ab b)) hr hXg
  have p2 := fun h => Fl.sum_more (X := Fl.mant (Fl.ab a) * 2 ^ u) (s2 := Fl.sh (Fl.ab b)) hr h hY hXg
  have p3 := @Fl.sum_none (Fl.mant (Fl.ab a) * 2 ^ u) (Fl.mant (Fl.ab b) / 2 ^ k) k (Fl.sh (Fl.ab b))
  have p4 := @Fl.sum_none (Fl.mant (Fl.ab b) / 2 ^ k) (Fl.mant (Fl.ab a) * 2 ^ u) k (Fl.sh (Fl.ab b))
  have q1 := @Fl.mul2_lt (Fl.mant (Fl.ab a) * 2 ^ u) (Fl.mant (Fl.ab b) / 2 ^ k) k (Fl.sh (Fl.ab b))
  have q2 := @Fl.mul2_lt (Fl.mant (Fl.ab b) / 2 ^ k) (Fl.mant (Fl.ab a) * 2 ^ u) k (Fl.sh (Fl.ab b))
  rw [ee] at p1 p2 p3 p4
  have b1 : (-1074 : Int) ≤ (Fl.sh (Fl.ab a) : Int) - 1074 := by omega
  have b2 : (Fl.sh (Fl.ab a) : Int) - 1074 ≤ 1000 := by omega
  have b3 : (-1074 : Int) ≤ (Fl.sh (Fl.ab b) : Int) - 1074 := by omega
  have b4 : (Fl.sh (Fl.ab b) : Int) - 1074 ≤ 1000 := by omega
  have b5 : ¬ ((Fl.sh (Fl.ab a) : Int) - 1074 < (Fl.sh (Fl.ab b) : Int) - 1074) := by omega
  have b6 : -100000000000 ≤ (Fl.sh (Fl.ab a) : Int) - 1074 - (u : Int) := by omega
  have b7 : (Fl.sh (Fl.ab a) : Int) - 1074 - (u : Int) ≤ 100000000000 := by omega
  have b8 : (0 : Int) ≤ (u : Int) := by omega
  have b9 : (u : Int) ≤ 64 := by omega
  clear hV1 hV2 hu hk ek ee hs la lb
  generalize Fl.mant (Fl.ab a) * 2 ^ u = X at *
  generalize Fl.mant (Fl.ab b) / 2 ^ k = Y at *
  generalize Fl.mant (Fl.ab b) % 2 ^ k = r at *
  generalize (Fl.sh (Fl.ab a) : Int) - 1074 = ea at *
  generalize (Fl.sh (Fl.ab b) : Int) - 1074 = eb at *
  generalize (u : Int) = U at *
  generalize Fl.sh (Fl.ab b) = s at *
  generalize Fl.ng a = n1 at *
  generalize Fl.ng b = n2 at *
  generalize Fl.sV a = S1 at *
  generalize Fl.sV b = S2 at *
  by_cases hn : n1 = n2
  · subst hn
    rw [sumR_same (T := X * 2 ^ k * 2 ^ s + (Y * 2 ^ k + r) * 2 ^ s) (n := n1) (sgn_add sa sb) hT, ← p1]
    exact sum_S_ns a b _ _ _ _ _ _ _ _ _ n1 n1 false _ ea eb U h1 h2 b1 b2 b3 b4 b5 hU b8 b9 h3 h4 (by simp) (wadd' X Y (by omega)) (join' n1 _ (X + Y) _ (by omega) b6 b7) w
  · have hnb : (n1 == n2) = false := by simpa using hn
    by_cases h0r : r = 0
    · subst h0r
      rw [decide_eq_false (by simp)] at h4
      simp only [Nat.add_zero] at sa sb hT
      rcases Nat.lt_trichotomy X Y with hlt | heq | hgt
      · rw [sumR_same (T := Y * 2 ^ k * 2 ^ s - X * 2 ^ k * 2 ^ s) (n := n2) (sgn_sub' sa sb hn (Nat.le_of_lt (q1.2 hlt))) (by have := q1.2 hlt; omega), ← p4]
        exact sum_B_ns a b _ _ _ _ _ _ _ _ _ _ _ n1 n2 false ea eb U h1 h2 b1 b2 b3 b4 b5 hU b8 b9 h3 h4 hnb (wsub'' X Y (by omega) hlt) (wsub' Y X (by omega) (by omega)) (join' n2 false (Y - X) _ (by omega) b6 b7) w
      · subst heq
        rw [show Fl.sumR (S1 + S2) = 0 by unfold Fl.sumR; rw [if_pos (sgn_zero sa sb hn)]]
        have hz := wsub' X X (by omega) (by omega)
        rw [Nat.sub_self] at hz
        exact sum_Z_ns a b _ _ _ _ _ _ n1 n2 ea eb U h1 h2 b1 b2 b3 b4 b5 hU b8 b9 h3 h4 hnb hz w
      · rw [sumR_same (T := X * 2 ^ k * 2 ^ s - Y * 2 ^ k * 2 ^ s) (n := n1) (sgn_sub sa sb hn (Nat.le_of_lt (q2.2 hgt))) (by have := q2.2 hgt; omega), ← p3]
        have hz := wsub' X Y (by omega) (by omega)
        have hj := join' n1 false (X - Y) (ea - U) (by omega) b6 b7
        by_cases hh : Fl.hi (X - Y) = 0
        · have hd := lo_eq0 (n := X - Y) (by omega) (by omega) hh
          rw [hh] at hz hj
          exact sum_D2_ns a b _ _ _ _ _ _ _ _ n1 n2 ea eb U h1 h2 b1 b2 b3 b4 b5 hU b8 b9 h3 h4 hnb hz hd hj w
        · exact sum_D1_ns a b _ _ _ _ _ _ _ _ _ n1 n2 ea eb U h1 h2 b1 b2 b3 b4 b5 hU b8 b9 h3 h4 hnb hz (hi_ne0 hh) hj w
    · rw [decide_eq_true h0r] at h4
      obtain ⟨p5, p6, p7⟩ := p2 h0r
      rw [sumR_same (T := X * 2 ^ k * 2 ^ s - (Y * 2 ^ k + r) * 2 ^ s) (n := n1) (sgn_sub sa sb hn (Nat.le_of_lt p6)) (by omega), ← p5]
      have hy := wadd' Y 1 (by omega)
      exact sum_M_ns a b _ _ _ _ _ _ _ _ _ _ _ n1 n2 false ea eb U h1 h2 b1 b2 b3 b4 b5 hU b8 b9 h3 h4 hnb hy (wsub' X (Y + 1) (by omega) (by omega)) (hi_ne0 (hi_big (by omega) (by omega))) (join' n1 true (X - (Y + 1)) _ (by omega) b6 b7) w


theorem sum_sw (a b : Nat) (ha : a < 18446744073709551616) (hb : b < 18446744073709551616) (ka : Fl.kd a < 3) (kb : Fl.kd b < 3) (h0 : ¬ (Fl.kd a = 0 ∧ Fl.kd b = 0)) (hs : Fl.sh (Fl.ab a) < Fl.sh (Fl.ab b)) (w : World) :
    Calls Try.prog 59 #[.int .u64 (a : Int), .int .u64 (b : Int)] w fun e w' => e = .returned (.int .u64 ((Fl.sumR (Fl.sV b + Fl.sV a) : Nat) : Int)) ∧ Below w.heap.size w w' := by
  have h1 := split_fin a ha ka
  have h2 := split_fin b hb kb
  have hT : 0 < Fl.V (Fl.ab b) + Fl.V (Fl.ab a) := by
    rcases Nat.eq_zero_or_pos (Fl.ab b) with e1 | e1
    · rcases Nat.eq_zero_or_pos (Fl.ab a) with e2 | e2
      · exact absurd ⟨Fl.kd_zero.2 (by assumption), Fl.kd_zero.2 (by assumption)⟩ h0
      · have := Fl.V_pos e2; omega
    · have := Fl.V_pos e1; omega
  have la := sh_le kb
  have lb := sh_le ka
  have sa := sV_if b
  have sb := sV_if a
  obtain ⟨u, k, hu, hk, hX, hV1, hV2, hY, hr, hXg⟩ := Fl.sum_room (Fl.mant_lt (Fl.ab b)) (Fl.mant_lt (Fl.ab a)) (s1 := Fl.sh (Fl.ab b)) (s2 := Fl.sh (Fl.ab a)) (by omega) Fl.mant_ge la
  have m1 := Fl.mant_lt (Fl.ab b)
  have m2 := Fl.mant_lt (Fl.ab a)
  rw [show Fl.V (Fl.ab b) = Fl.mant (Fl.ab b) * 2 ^ Fl.sh (Fl.ab b) from rfl] at hT sa
  rw [show Fl.V (Fl.ab a) = Fl.mant (Fl.ab a) * 2 ^ Fl.sh (Fl.ab a) from rfl] at hT sb
  rw [hV1, hV2] at hT
  rw [hV1] at sa
  rw [hV2] at sb
  have h3 := wshl0 (Fl.mant (Fl.ab b)) u (by omega) (by omega)
  have h4 := wshr0 (Fl.mant (Fl.ab a)) k (by omega) (by omega)
  have ek : (k : Int) = (Fl.sh (Fl.ab b) : Int) - 1074 - u - ((Fl.sh (Fl.ab a) : Int) - 1074) := by omega
  have ee : (Fl.sh (Fl.ab a) : Int) + k - 1074 = (Fl.sh (Fl.ab b) : Int) - 1074 - u := by omega
  rw [ek] at h4
  have hU : min ((Fl.sh (Fl.ab b) : Int) - 1074 - ((Fl.sh (Fl.ab a) : Int) - 1074)) 64 = (u : Int) := by omega
  have p1 := Fl.sum_same (X := Fl.mant (Fl.ab b) * 2 ^ u) (Y := Fl.mant (Fl.ab a) / 2 ^ k) (s2 := Fl.sh (Fl.ab a)) hr hXg
  have p2 := fun h => Fl.sum_more (X := Fl.mant (Fl.ab b) * 2 ^ u) (s2 := Fl.sh (Fl.ab a)) hr h hY hXg
  have p3 := @Fl.sum_none (Fl.mant (Fl.ab b) * 2 ^ u) (Fl.mant (Fl.ab a) / 2 ^ k) k (Fl.sh (Fl.ab a))
  have p4 := @Fl.sum_none (Fl.mant (Fl.ab a) / 2 ^ k) (Fl.mant (Fl.ab b) * 2 ^ u) k (Fl.sh (Fl.ab a))
  have q1 := @Fl.mul2_lt (Fl.mant (Fl.ab b) * 2 ^ u) (Fl.mant (Fl.ab a) / 2 ^ k) k (Fl.sh (Fl.ab a))
  have q2 := @Fl.mul2_lt (Fl.mant (Fl.ab a) / 2 ^ k) (Fl.mant (Fl.ab b) * 2 ^ u) k (Fl.sh (Fl.ab a))
  rw [ee] at p1 p2 p3 p4
  have b1 : (-1074 : Int) ≤ (Fl.sh (Fl.ab b) : Int) - 1074 := by omega
  have b2 : (Fl.sh (Fl.ab b) : Int) - 1074 ≤ 1000 := by omega
  have b3 : (-1074 : Int) ≤ (Fl.sh (Fl.ab a) : Int) - 1074 := by omega
  have b4 : (Fl.sh (Fl.ab a) : Int) - 1074 ≤ 1000 := by omega
  have b5 : (Fl.sh (Fl.ab a) : Int) - 1074 < (Fl.sh (Fl.ab b) : Int) - 1074 := by omega
  have b6 : -100000000000 ≤ (Fl.sh (Fl.ab b) : Int) - 1074 - (u : Int) := by omega
  have b7 : (Fl.sh (Fl.ab b) : Int) - 1074 - (u : Int) ≤ 100000000000 := by omega
  have b8 : (0 : Int) ≤ (u : Int) := by omega
  have b9 : (u : Int) ≤ 64 := by omega
  clear hV1 hV2 hu hk ek ee hs la lb
  generalize Fl.mant (Fl.ab b) * 2 ^ u = X at *
  generalize Fl.mant (Fl.ab a) / 2 ^ k = Y at *
  generalize Fl.mant (Fl.ab a) % 2 ^ k = r at *
  generalize (Fl.sh (Fl.ab b) : Int) - 1074 = ea at *
  generalize (Fl.sh (Fl.ab a) : Int) - 1074 = eb at *
  generalize (u : Int) = U at *
  generalize Fl.sh (Fl.ab a) = s at *
  generalize Fl.ng b = n1 at *
  generalize Fl.ng a = n2 at *
  generalize Fl.sV b = S1 at *
  generalize Fl.sV a = S2 at *
  by_cases hn : n1 = n2
  · subst hn
    rw [sumR_same (T := X * 2 ^ k * 2 ^ s + (Y * 2 ^ k + r) * 2 ^ s) (n := n1) (sgn_add sa sb) hT, ← p1]
    exact sum_S_sw a b _ _ _ _ _ _ _ _ _ n1 n1 false _ ea eb U h1 h2 b1 b2 b3 b4 b5 hU b8 b9 h3 h4 (by simp) (wadd' X Y (by omega)) (join' n1 _ (X + Y) _ (by omega) b6 b7) w
  · have hnb : (n1 == n2) = false := by simpa using hn
    by_cases h0r : r = 0
    · subst h0r
      rw [decide_eq_false (by simp)] at h4
      simp only [Nat.add_zero] at sa sb hT
      rcases Nat.lt_trichotomy X Y with hlt | heq | hgt
      · rw [sumR_same (T := Y * 2 ^ k * 2 ^ s - X * 2 ^ k * 2 ^ s) (n := n2) (sgn_sub' sa sb hn (Nat.le_of_lt (q1.2 hlt))) (by have := q1.2 hlt; omega), ← p4]
        exact sum_B_sw a b _ _ _ _ _ _ _ _ _ _ _ n1 n2 false ea eb U h1 h2 b1 b2 b3 b4 b5 hU b8 b9 h3 h4 hnb (wsub'' X Y (by omega) hlt) (wsub' Y X (by omega) (by omega)) (join' n2 false (Y - X) _ (by omega) b6 b7) w
      · subst heq
        rw [show Fl.sumR (S1 + S2) = 0 by unfold Fl.sumR; rw [if_pos (sgn_zero sa sb hn)]]
        have hz := wsub' X X (by omega) (by omega)
        rw [Nat.sub_self] at hz
        exact sum_Z_sw a b _ _ _ _ _ _ n1 n2 ea eb U h1 h2 b1 b2 b3 b4 b5 hU b8 b9 h3 h4 hnb hz w
      · rw [sumR_same (T := X * 2 ^ k * 2 ^ s - Y * 2 ^ k * 2 ^ s) (n := n1) (sgn_sub sa sb hn (Nat.le_of_lt (q2.2 hgt))) (by have := q2.2 hgt; omega), ← p3]
        have hz := wsub' X Y (by omega) (by omega)
        have hj := join' n1 false (X - Y) (ea - U) (by omega) b6 b7
        by_cases hh : Fl.hi (X - Y) = 0
        · have hd := lo_eq0 (n := X - Y) (by omega) (by omega) hh
          rw [hh] at hz hj
          exact sum_D2_sw a b _ _ _ _ _ _ _ _ n1 n2 ea eb U h1 h2 b1 b2 b3 b4 b5 hU b8 b9 h3 h4 hnb hz hd hj w
        · exact sum_D1_sw a b _ _ _ _ _ _ _ _ _ n1 n2 ea eb U h1 h2 b1 b2 b3 b4 b5 hU b8 b9 h3 h4 hnb hz (hi_ne0 hh) hj w
    · rw [decide_eq_true h0r] at h4
      obtain ⟨p5, p6, p7⟩ := p2 h0r
      rw [sumR_same (T := X * 2 ^ k * 2 ^ s - (Y * 2 ^ k + r) * 2 ^ s) (n := n1) (sgn_sub sa sb hn (Nat.le_of_lt p6)) (by omega), ← p5]
      have hy := wadd' Y 1 (by omega)
      exact sum_M_sw a b _ _ _ _ _ _ _ _ _ _ _ n1 n2 false ea eb U h1 h2 b1 b2 b3 b4 b5 hU b8 b9 h3 h4 hnb hy (wsub' X (Y + 1) (by omega) (by omega)) (hi_ne0 (hi_big (by omega) (by omega))) (join' n1 true (X - (Y + 1)) _ (by omega) b6 b7) w


/-- arith.sum of two finite numbers that are not both zeros -/
theorem sum_any (a b : Nat) (ha : a < 18446744073709551616) (hb : b < 18446744073709551616) (ka : Fl.kd a < 3) (kb : Fl.kd b < 3) (h0 : ¬ (Fl.kd a = 0 ∧ Fl.kd b = 0)) (w : World) :
    Calls Try.prog 59 #[.int .u64 (a : Int), .int .u64 (b : Int)] w fun e w' => e = .returned (.int .u64 ((Fl.sumR (Fl.sV a + Fl.sV b) : Nat) : Int)) ∧ Below w.heap.size w w' := by
  rcases Nat.lt_or_ge (Fl.sh (Fl.ab a)) (Fl.sh (Fl.ab b)) with h | h
  · rw [Int.add_comm]; exact sum_sw a b ha hb ka kb h0 h w
  · exact sum_ns a b ha hb ka kb h0 h w
end Go.Proofs.Ytaplggheadahhaa
