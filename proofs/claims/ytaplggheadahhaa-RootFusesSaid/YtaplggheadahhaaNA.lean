/- Quotients and roots, cut off and rounded: the same at any scale. Knuth's division of two words by one: a digit is guessed and put right. What root's functions answer, in plain numbers: quotient, root, fused product, remainder, power. A fused product in plain numbers. Remainders in plain numbers. -/
import Derived.Test.YtaplggheadahhaaN1
namespace Go.Proofs.Ytaplggheadahhaa.Fl
set_option linter.unusedVariables false
set_option linter.unusedSimpArgs false

theorem rq_trunc2 (n K j r : Nat) (hr : r < 2 ^ j) (hK : 0 < K) (more : Bool) : rq (n * 2 ^ j + r) (K + j) more = rq n K (decide (r ≠ 0) || more) := by
  have hj : 0 < 2 ^ j := Nat.pow_pos (by decide)
  have dv : ∀ i, (n * 2 ^ j + r) / 2 ^ (i + j) = n / 2 ^ i := fun i => by
    rw [Nat.add_comm i j, Nat.pow_add, ← Nat.div_div_eq_div_mul, Nat.add_comm, Nat.add_mul_div_right _ _ hj, Nat.div_eq_of_lt hr, Nat.zero_add]
  have e2 : K + j - 1 = (K - 1) + j := by omega
  have md : (n * 2 ^ j + r) % 2 ^ (K + j - 1) = n % 2 ^ (K - 1) * 2 ^ j + r := by
    rw [e2, Nat.add_comm (K - 1) j, Nat.pow_add, Nat.mod_mul, Nat.add_comm (n * 2 ^ j), Nat.add_mul_mod_self_right, Nat.mod_eq_of_lt hr, Nat.add_mul_div_right _ _ hj, Nat.div_eq_of_lt hr, Nat.zero_add, Nat.mul_comm]; omega
  have e5 : (n % 2 ^ (K - 1) * 2 ^ j + r ≠ 0) ↔ (n % 2 ^ (K - 1) ≠ 0 ∨ r ≠ 0) := by
    have : n % 2 ^ (K - 1) * 2 ^ j = 0 ↔ n % 2 ^ (K - 1) = 0 := by simp [Nat.mul_eq_zero]
    omega
  unfold rq
  rw [dv, md]
  rw [e2, dv]
  simp only [e5, Bool.or_eq_true, decide_eq_true_eq, or_assoc]

/-- What is cut off a number of 54 bits and more is told by 'more'. -/
theorem rnd_trunc2 (n : Nat) (e : Int) (j r : Nat) (hr : r < 2 ^ j) (hn : 54 ≤ bl n) (more : Bool) : rnd (n * 2 ^ j + r) (e - j) more = rnd n e (decide (r ≠ 0) || more) := by
  have h0 : 0 < n := by rcases Nat.eq_zero_or_pos n with rfl | h; (· simp [bl_zero] at hn); exact h
  have h1 : 0 < n * 2 ^ j + r := by have := Nat.mul_pos h0 (Nat.pow_pos (n := j) (by decide : 0 < 2)); omega
  have hu : un (n * 2 ^ j + r) (e - j) = un n e := by unfold un; rw [bl_mul_add h0 _ _ hr]; congr 1; omega
  have hue : e < un n e := by unfold un; omega
  rw [rnd_eq h0, rnd_eq h1, hu]
  congr 2
  unfold sg; rw [hu, if_neg (by omega), if_neg (by omega)]
  rw [show (un n e - (e - j)).toNat = (un n e - e).toNat + j by omega, rq_trunc2 _ _ _ _ hr (by omega)]

/-- a quotient, cut off, and rounded -/
def dq (N D : Nat) (e : Int) : Nat := rnd (N / D) e (decide (N % D ≠ 0))
theorem dq_scale (N D c : Nat) (e : Int) (hc : 0 < c) : dq (N * c) (D * c) e = dq N D e := by
  unfold dq
  rw [Nat.mul_div_mul_right _ _ hc, Nat.mul_mod_mul_right]
  congr 1
  have : N % D * c = 0 ↔ N % D = 0 := by simp [Nat.mul_eq_zero]; omega
  by_cases h : N % D = 0
  · rw [decide_eq_false (by omega), decide_eq_false (by omega)]
  · rw [decide_eq_true (by omega), decide_eq_true (by omega)]
theorem dq_up (N D : Nat) (e : Int) (j : Nat) (hD : 0 < D) (hb : 54 ≤ bl (N / D)) : dq (N * 2 ^ j) D (e - j) = dq N D e := by
  have hj : 0 < 2 ^ j := Nat.pow_pos (by decide)
  have h1 := Nat.div_add_mod N D
  have h2 := Nat.mod_lt N hD
  unfold dq
  generalize hq : N / D = q at *
  generalize hr : N % D = r at *
  have e0 : N * 2 ^ j = r * 2 ^ j + D * (q * 2 ^ j) := by rw [← h1, Nat.add_mul, Nat.mul_assoc]; omega
  have e1 : N * 2 ^ j / D = q * 2 ^ j + r * 2 ^ j / D := by rw [e0, Nat.add_mul_div_left _ _ hD, Nat.add_comm]
  have e2 : N * 2 ^ j % D = r * 2 ^ j % D := by rw [e0, Nat.add_mul_mod_self_left]
  have hlt : r * 2 ^ j / D < 2 ^ j := Nat.div_lt_of_lt_mul (Nat.mul_lt_mul_of_pos_right h2 hj)
  rw [e1, e2, rnd_trunc2 _ _ _ _ hlt hb]
  congr 1
  have h3 := Nat.div_add_mod (r * 2 ^ j) D
  have h4 : r * 2 ^ j = 0 ↔ r = 0 := by simp [Nat.mul_eq_zero]
  by_cases h : r = 0
  · subst h; simp
  · rw [decide_eq_true h]
    by_cases h5 : r * 2 ^ j / D = 0
    · rw [h5] at h3
      rw [decide_eq_true (show r * 2 ^ j % D ≠ 0 by omega), Bool.or_true]
    · rw [decide_eq_true h5, Bool.true_or]

/-- what the program divides, and what the reference does -/
theorem dq_two (m n p q K L : Nat) (e : Int) (hm : 4503599627370496 ≤ m * 2 ^ p) (hn : 0 < n) (hn2 : n * 2 ^ q < 9007199254740992) (hp : p + L ≤ K) (hL : 54 ≤ L) :
    dq (m * 2 ^ K) n (e - K) = dq (m * 2 ^ p * 2 ^ L) (n * 2 ^ q) (e - p + q - L) := by
  have hq : 0 < 2 ^ q := Nat.pow_pos (by decide)
  have hD : 0 < n * 2 ^ q := Nat.mul_pos hn hq
  have hb : 54 ≤ bl (m * 2 ^ p * 2 ^ L / (n * 2 ^ q)) := by
    apply lt_bl_of_le
    rw [Nat.le_div_iff_mul_le hD]
    have h1 : 2 ^ 53 * (n * 2 ^ q) ≤ 2 ^ 53 * 9007199254740992 := Nat.mul_le_mul_left _ (Nat.le_of_lt hn2)
    have h2 : 4503599627370496 * 2 ^ L ≤ m * 2 ^ p * 2 ^ L := Nat.mul_le_mul_right _ hm
    have h3 : 2 ^ 53 * 9007199254740992 ≤ 4503599627370496 * 2 ^ 54 := by decide
    have h4 : 4503599627370496 * 2 ^ 54 ≤ 4503599627370496 * 2 ^ L := Nat.mul_le_mul_left _ (Nat.pow_le_pow_right (by decide) hL)
    exact Nat.le_trans h1 (Nat.le_trans h3 (Nat.le_trans h4 h2))
  have h := dq_up (m * 2 ^ p * 2 ^ L) (n * 2 ^ q) (e - p + q - L) (K + q - (L + p)) hD hb
  rw [← h, ← dq_scale (m * 2 ^ K) n (2 ^ q) _ hq]
  have e1 : m * 2 ^ K * 2 ^ q = m * 2 ^ p * 2 ^ L * 2 ^ (K + q - (L + p)) := by
    rw [Nat.mul_assoc, Nat.mul_assoc, Nat.mul_assoc, ← Nat.pow_add, ← Nat.pow_add, ← Nat.pow_add, show p + (L + (K + q - (L + p))) = K + q by omega]
  have e2 : e - (K : Int) = e - p + q - L - ((K + q - (L + p) : Nat) : Int) := by omega
  rw [e1, e2]

/-! ### roots -/
def isq : Nat → Nat → Nat → Nat
  | 0, _, r => r
  | b + 1, n, r => if (r + 2 ^ b) * (r + 2 ^ b) ≤ n then isq b n (r + 2 ^ b) else isq b n r
def IsRt (n r : Nat) : Prop := r * r ≤ n ∧ n < (r + 1) * (r + 1)
theorem isq_rt (b n r : Nat) (h1 : r * r ≤ n) (h2 : n < (r + 2 ^ b) * (r + 2 ^ b)) : IsRt n (isq b n r) := by
  induction b generalizing r with
  | zero => exact ⟨h1, h2⟩
  | succ b ih =>
    unfold isq
    split
    · rename_i h
      refine ih _ h ?_
      rwa [Nat.pow_succ, Nat.mul_two, ← Nat.add_assoc] at h2
    · rename_i h
      exact ih _ h1 (by omega)
theorem IsRt.le {n r s : Nat} (h : IsRt n r) (g : s * s ≤ n) : s ≤ r := by
  rcases Nat.lt_or_ge r s with c | c
  · have := Nat.mul_le_mul (show r + 1 ≤ s from c) (show r + 1 ≤ s from c)
    have := h.2; omega
  · exact c
theorem IsRt.eq {n r s : Nat} (h : IsRt n r) (g : IsRt n s) : r = s := by
  have := h.le g.1; have := g.le h.1; omega
/-- a root at another scale -/
theorem rt_up {X r t d : Nat} (h : IsRt X r) (g : IsRt (X * (2 ^ d * 2 ^ d)) t) : ∃ s, s < 2 ^ d ∧ t = r * 2 ^ d + s ∧ (decide (s ≠ 0) || decide (t * t < X * (2 ^ d * 2 ^ d))) = decide (r * r < X) := by
  have hd : 0 < 2 ^ d := Nat.pow_pos (by decide)
  generalize 2 ^ d = P at *
  have hPP : 0 < P * P := Nat.mul_pos hd hd
  have h1 : (r * P) * (r * P) ≤ X * (P * P) := by rw [Nat.mul_mul_mul_comm]; exact Nat.mul_le_mul_right _ h.1
  have h2 := g.le h1
  have h3 : t < (r + 1) * P := by
    rcases Nat.lt_or_ge t ((r + 1) * P) with c | c
    · exact c
    · have h4 := Nat.mul_le_mul c c
      rw [Nat.mul_mul_mul_comm] at h4
      have h5 : X * (P * P) < (r + 1) * (r + 1) * (P * P) := Nat.mul_lt_mul_of_pos_right h.2 hPP
      have := g.1
      omega
  rw [Nat.add_mul, Nat.one_mul] at h3
  refine ⟨t - r * P, by omega, by omega, ?_⟩
  by_cases c : r * r < X
  · rw [decide_eq_true c]
    by_cases c2 : t - r * P = 0
    · have : t = r * P := by omega
      subst this
      have : (r * P) * (r * P) < X * (P * P) := by rw [Nat.mul_mul_mul_comm]; exact Nat.mul_lt_mul_of_pos_right c hPP
      rw [decide_eq_true this, Bool.or_true]
    · rw [decide_eq_true c2, Bool.true_or]
  · have hX : X = r * r := by have := h.1; omega
    have ht : IsRt (X * (P * P)) (r * P) := by
      rw [hX]
      refine ⟨by rw [Nat.mul_mul_mul_comm]; exact Nat.le_refl _, ?_⟩
      rw [← Nat.mul_mul_mul_comm]
      exact Nat.mul_lt_mul'' (Nat.lt_succ_self _) (Nat.lt_succ_self _)
    have := g.eq ht
    subst this
    rw [decide_eq_false c, decide_eq_false (by omega), decide_eq_false (by rw [Nat.mul_mul_mul_comm, hX]; omega)]; rfl
/-- a root, cut off, and rounded -/
def sq (X : Nat) (r : Nat) (e : Int) : Nat := rnd r e (decide (r * r < X))
theorem sq_up {X r t d : Nat} (e : Int) (h : IsRt X r) (g : IsRt (X * (2 ^ d * 2 ^ d)) t) (hb : 54 ≤ bl r) : sq (X * (2 ^ d * 2 ^ d)) t (e - d) = sq X r e := by
  obtain ⟨s, h1, h2, h3⟩ := rt_up h g
  unfold sq
  rw [← h3]
  generalize decide (t * t < X * (2 ^ d * 2 ^ d)) = mo
  rw [h2, rnd_trunc2 _ _ _ _ h1 hb]
end Go.Proofs.Ytaplggheadahhaa.Fl

namespace Go.Proofs.Ytaplggheadahhaa.Fl
set_option linter.unusedVariables false
set_option linter.unusedSimpArgs false

/-- while a digit q of (u * 2^32 + d) / (y1 * 2^32 + y0) is put right; r: what u leaves -/
def Dg (u y1 y0 d q r : Nat) : Prop := q * y1 + r = u ∧ (u * 4294967296 + d) / (y1 * 4294967296 + y0) ≤ q ∧ q ≤ 4294967297 ∧ r < 4294967296
section
variable {u y1 y0 d q r : Nat}
theorem dg_first (h1 : 2147483648 ≤ y1) (h2 : y1 < 4294967296) (hu : u < y1 * 4294967296 + y0) (hy : y0 < 4294967296) (hd : d < 4294967296) : Dg u y1 y0 d (u / y1) (u % y1) := by
  have hp : 0 < y1 := by omega
  have e := Nat.div_add_mod u y1
  have m := Nat.mod_lt u hp
  refine ⟨by rw [Nat.mul_comm]; exact e, ?_, ?_, by omega⟩
  · apply Nat.le_of_lt_succ
    rw [Nat.div_lt_iff_lt_mul (by omega)]
    have h : u < (u / y1).succ * y1 := by rw [Nat.succ_eq_add_one, Nat.add_mul, Nat.mul_comm (u / y1)]; omega
    generalize (u / y1).succ = q at *
    rw [Nat.mul_add, ← Nat.mul_assoc]
    have := Nat.zero_le (q * y0)
    omega
  · apply Nat.le_of_lt_succ
    rw [Nat.div_lt_iff_lt_mul hp]
    omega
/-- the digit is below 2^32 -/
theorem dg_q (hu : u < y1 * 4294967296 + y0) (hd : d < 4294967296) (hp : 0 < y1) : (u * 4294967296 + d) / (y1 * 4294967296 + y0) < 4294967296 := by
  rw [Nat.div_lt_iff_lt_mul (by omega)]
  omega
theorem dg_over (h : Dg u y1 y0 d q r) (hu : u < y1 * 4294967296 + y0) (hd : d < 4294967296) (hp : 0 < y1) (c : 4294967296 ≤ q ∨ 4294967296 * r + d < q * y0) : (u * 4294967296 + d) / (y1 * 4294967296 + y0) < q := by
  have hq := dg_q hu hd hp
  rcases c with c | c
  · omega
  · rw [Nat.div_lt_iff_lt_mul (by omega), Nat.mul_add, ← Nat.mul_assoc, ← h.1]
    omega
/-- one less, and what is left is still below 2^32 -/
theorem dg_step (h : Dg u y1 y0 d q r) (hu : u < y1 * 4294967296 + y0) (hd : d < 4294967296) (hp : 0 < y1) (c : 4294967296 ≤ q ∨ 4294967296 * r + d < q * y0) (c2 : r + y1 < 4294967296) : Dg u y1 y0 d (q - 1) (r + y1) := by
  have ho := dg_over h hu hd hp c
  have h0 : 0 < q := Nat.lt_of_le_of_lt (Nat.zero_le _) ho
  obtain ⟨h1, h2, h3, h4⟩ := h
  obtain ⟨p, rfl⟩ : ∃ p, q = p + 1 := ⟨q - 1, by omega⟩
  rw [Nat.add_mul, Nat.one_mul] at h1
  refine ⟨?_, by omega, by omega, c2⟩
  rw [Nat.add_sub_cancel]; omega
theorem dg_le (h1 : q * y1 + r = u) (hp : 0 < y1) (hd : d < 4294967296) (c : q * y0 ≤ 4294967296 * r + d) : q ≤ (u * 4294967296 + d) / (y1 * 4294967296 + y0) := by
  rw [Nat.le_div_iff_mul_le (by omega), Nat.mul_add, ← Nat.mul_assoc, ← h1]
  omega
/-- one less, and no more -/
theorem dg_break (h : Dg u y1 y0 d q r) (hu : u < y1 * 4294967296 + y0) (hd : d < 4294967296) (hp : 0 < y1) (hy : y0 < 4294967296) (c : 4294967296 ≤ q ∨ 4294967296 * r + d < q * y0) (c2 : 4294967296 ≤ r + y1) : q - 1 = (u * 4294967296 + d) / (y1 * 4294967296 + y0) := by
  have ho := dg_over h hu hd hp c
  have h0 : 0 < q := Nat.lt_of_le_of_lt (Nat.zero_le _) ho
  obtain ⟨h1, h2, h3, h4⟩ := h
  obtain ⟨p, rfl⟩ : ∃ p, q = p + 1 := ⟨q - 1, by omega⟩
  rw [Nat.add_mul, Nat.one_mul] at h1
  have : p * y0 ≤ 4294967296 * (r + y1) + d := by
    have a := Nat.mul_le_mul (show p ≤ 4294967296 by omega) (show y0 ≤ 4294967296 by omega)
    have b := Nat.mul_le_mul_left 4294967296 c2
    omega
  have := dg_le (q := p) (y0 := y0) (show p * y1 + (r + y1) = u by omega) hp hd this
  omega
theorem dg_end (h : Dg u y1 y0 d q r) (hd : d < 4294967296) (hp : 0 < y1) (c2 : q * y0 ≤ 4294967296 * r + d) : q = (u * 4294967296 + d) / (y1 * 4294967296 + y0) := by
  have := dg_le h.1 hp hd c2
  have := h.2.1
  omega
theorem dg_small (h : Dg u y1 y0 d q r) (hy : y0 < 4294967296) (hd : d < 4294967296) : q * y0 < 18446744073709551616 ∧ 4294967296 * r + d < 18446744073709551616 := by
  obtain ⟨h1, h2, h3, h4⟩ := h
  have a := Nat.mul_le_mul h3 (show y0 ≤ 4294967295 by omega)
  omega
end
/-- two digits -/
theorem two_digits_ (N d0 y B : Nat) (hy : 0 < y) : N / y * B + (N % y * B + d0) / y = (N * B + d0) / y ∧ (N % y * B + d0) % y = (N * B + d0) % y := by
  have e := Nat.div_add_mod N y
  have : N * B + d0 = N % y * B + d0 + y * (N / y * B) := by
    conv => lhs; rw [← e]
    rw [Nat.add_mul, Nat.mul_assoc]; omega
  rw [this, Nat.add_mul_div_left _ _ hy, Nat.add_mul_mod_self_left]
  exact ⟨by omega, rfl⟩
theorem two_digits (u d1 d0 y : Nat) (hy : 0 < y) :
    (u * 4294967296 + d1) / y * 4294967296 + ((u * 4294967296 + d1) % y * 4294967296 + d0) / y = ((u * 4294967296 + d1) * 4294967296 + d0) / y ∧
    ((u * 4294967296 + d1) % y * 4294967296 + d0) % y = ((u * 4294967296 + d1) * 4294967296 + d0) % y := two_digits_ _ d0 y _ hy
/-- what the machine's words leave of a digit -/
theorem dg_rest (u d y : Nat) (hy : y < 18446744073709551616) (hp : 0 < y) : ((((u * 4294967296 + d : Nat) : Int) - (((u * 4294967296 + d) / y * y : Nat) : Int)) : Int) = (((u * 4294967296 + d) % y : Nat) : Int) := by
  have := Nat.div_add_mod (u * 4294967296 + d) y
  generalize (u * 4294967296 + d) / y = q at *
  rw [Nat.mul_comm] at this
  omega
end Go.Proofs.Ytaplggheadahhaa.Fl

namespace Go.Proofs.Ytaplggheadahhaa.Fl
set_option linter.unusedVariables false
set_option linter.unusedSimpArgs false

/-- 2^k, not to be worked out -/
def p2 (k : Nat) : Nat := 2 ^ k
theorem p2_eq (k : Nat) : p2 k = 2 ^ k := rfl
def divN (a b : Nat) : Nat :=
  if kd a = 4 ∨ kd b = 4 ∨ (kd a = 3 ∧ kd b = 3) ∨ (kd a = 0 ∧ kd b = 0) then NAN
  else if kd a = 3 ∨ kd b = 0 then pk (ng a != ng b) INF
  else if kd a = 0 ∨ kd b = 3 then pk (ng a != ng b) 0
  else pk (ng a != ng b) (dq (mant (ab a) * p2 128) (mant (ab b)) ((sh (ab a) : Int) - sh (ab b) - 128))

/-- the whole root -/
def rt (n : Nat) : Nat := isq (bl n) n 0
theorem rt_is (n : Nat) : IsRt n (rt n) := by
  refine isq_rt _ _ _ (by omega) ?_
  rw [Nat.zero_add]
  have h := lt_bl n
  have : 2 ^ bl n * 1 ≤ 2 ^ bl n * 2 ^ bl n := Nat.mul_le_mul_left _ (Nat.pow_pos (by decide))
  omega
/-- the scale at which the root is drawn -/
def rk (s : Nat) : Nat := if s % 2 = 0 then 128 else 129
def sqrtN (a : Nat) : Nat :=
  if kd a = 4 ∨ SG < a then NAN
  else if kd a = 0 ∨ kd a = 3 then a
  else sq (mant (ab a) * p2 (rk (sh (ab a)))) (rt (mant (ab a) * p2 (rk (sh (ab a))))) (((sh (ab a) : Int) - 1074 - (rk (sh (ab a)) : Nat)) / 2)

def modN (a b : Nat) : Nat :=
  if kd a = 4 ∨ kd b = 4 ∨ kd a = 3 ∨ kd b = 0 then NAN
  else if kd a = 0 ∨ kd b = 3 then a
  else pk (ng a) (rnd (V (ab a) % V (ab b)) (-1074) false)

/-- by squaring: the highest bits first -/
def pows (a : Nat) : Nat → Nat → Nat
  | 0, _ => 4607182418800017408
  | k + 1, u => let q := pows a k (u / 2); let s := mulN q q; if u % 2 = 1 then mulN s a else s
def powN (a : Nat) (n : Int) : Nat :=
  if kd a = 4 then NAN else if n < 0 then divN 4607182418800017408 (pows a 64 n.natAbs) else pows a 64 n.natAbs

/-- a sum's number, in units of 2^-2148 -/
def fsum (a b c : Nat) : Int := sV a * sV b + sV c * (p2 1074 : Nat)
def fmaN (a b c : Nat) : Nat :=
  if kd a = 4 ∨ kd b = 4 ∨ kd c = 4 ∨ ((kd a = 3 ∨ kd b = 3) ∧ (kd a = 0 ∨ kd b = 0)) ∨ ((kd a = 3 ∨ kd b = 3) ∧ kd c = 3 ∧ ng c ≠ (ng a != ng b)) then NAN
  else if kd a = 3 ∨ kd b = 3 then pk (ng a != ng b) INF
  else if kd c = 3 then c
  else if fsum a b c = 0 then (if (kd a = 0 ∨ kd b = 0) ∧ kd c = 0 ∧ (ng a != ng b) = true ∧ ng c = true then SG else 0)
  else pk (decide (fsum a b c < 0)) (rnd (fsum a b c).natAbs (-2148) false)
end Go.Proofs.Ytaplggheadahhaa.Fl

namespace Go.Proofs.Ytaplggheadahhaa.Fl
set_option linter.unusedVariables false
set_option linter.unusedSimpArgs false

theorem p2_pos (k : Nat) : 0 < p2 k := Nat.pow_pos (by decide)
theorem VV_eq {a b d t : Nat} (h : sh a + sh b = d + t) : V a * V b = mant a * mant b * 2 ^ d * p2 t := by
  unfold V
  rw [Nat.mul_mul_mul_comm, ← Nat.pow_add, h, Nat.pow_add, p2_eq, ← Nat.mul_assoc]
theorem Vc_eq {c d t K : Nat} (h : sh c + K = d + t) : V c * p2 K = mant c * 2 ^ d * p2 t := by
  unfold V
  rw [p2_eq, p2_eq, Nat.mul_assoc, ← Nat.pow_add, h, Nat.pow_add, Nat.mul_assoc]
def sgi (n : Bool) (x : Nat) : Int := if n = true then -(x : Int) else x
theorem sgi_t (x : Nat) : sgi true x = -(x : Int) := rfl
theorem sgi_f (x : Nat) : sgi false x = (x : Int) := rfl
theorem fsum_eq {a b c d1 d2 t : Nat} (h1 : sh (ab a) + sh (ab b) = d1 + t) (h2 : sh (ab c) + 1074 = d2 + t) :
    fsum a b c = sgi (ng a != ng b) (mant (ab a) * mant (ab b) * 2 ^ d1 * p2 t) + sgi (ng c) (mant (ab c) * 2 ^ d2 * p2 t) := by
  rw [← VV_eq h1, ← Vc_eq h2]
  unfold fsum sV sgi
  generalize V (ab a) = x
  generalize V (ab b) = y
  generalize V (ab c) = z
  generalize p2 1074 = P
  cases ng a <;> cases ng b <;> cases ng c <;> simp [Int.neg_mul, Int.mul_neg]
theorem rnd_t {Z t : Nat} {low : Int} (h : low = (t : Int) - 2148) : rnd (Z * p2 t) (-2148) false = rnd Z low false := by
  have := rnd_scale Z low t
  rw [show low - (t : Int) = -2148 by omega] at this
  exact this
theorem fin_of {s : Int} {n : Bool} {Z : Nat} (h : s = sgi n Z) (hz : 0 < Z) : (if s = 0 then 0 else pk (decide (s < 0)) (rnd s.natAbs (-2148) false)) = pk n (rnd Z (-2148) false) := by
  cases n
  · have h : s = (Z : Int) := h
    rw [if_neg (by omega), decide_eq_false (by omega), show s.natAbs = Z by omega]
  · have h : s = -(Z : Int) := h
    rw [if_neg (by omega), decide_eq_true (by omega), show s.natAbs = Z by omega]
theorem sgi_add (n : Bool) (x y : Nat) : sgi n x + sgi n y = sgi n (x + y) := by
  cases n
  · show (x : Int) + (y : Int) = ((x + y : Nat) : Int); omega
  · show -(x : Int) + -(y : Int) = -((x + y : Nat) : Int); omega
theorem sgi_sub (n : Bool) {x y : Nat} (h : y ≤ x) : sgi n x + sgi (!n) y = sgi n (x - y) := by
  cases n
  · show (x : Int) + -(y : Int) = ((x - y : Nat) : Int); omega
  · show -(x : Int) + (y : Int) = -((x - y : Nat) : Int); omega
theorem sgi_sub' (n : Bool) {x y : Nat} (h : x ≤ y) : sgi (!n) x + sgi n y = sgi n (y - x) := by rw [Int.add_comm]; exact sgi_sub n h
theorem sgi_z (n : Bool) : sgi n 0 = 0 := by cases n <;> rfl
section
variable {a b c d1 d2 t X Y : Nat} {low : Int}
theorem fma_fin (h1 : sh (ab a) + sh (ab b) = d1 + t) (h2 : sh (ab c) + 1074 = d2 + t) (hX : mant (ab a) * mant (ab b) * 2 ^ d1 = X) (hY : mant (ab c) * 2 ^ d2 = Y)
    (ka : kd a < 3) (kb : kd b < 3) (kc : kd c < 3) (za : kd a ≠ 0) (zb : kd b ≠ 0) :
    fmaN a b c = if sgi (ng a != ng b) (X * p2 t) + sgi (ng c) (Y * p2 t) = 0 then 0 else pk (decide (sgi (ng a != ng b) (X * p2 t) + sgi (ng c) (Y * p2 t) < 0)) (rnd (sgi (ng a != ng b) (X * p2 t) + sgi (ng c) (Y * p2 t)).natAbs (-2148) false) := by
  unfold fmaN
  rw [if_neg (by omega), if_neg (by omega), if_neg (by omega), fsum_eq h1 h2, hX, hY]
  split
  · rw [if_neg (by omega)]
  · rfl
theorem fma_same (h1 : sh (ab a) + sh (ab b) = d1 + t) (h2 : sh (ab c) + 1074 = d2 + t) (hX : mant (ab a) * mant (ab b) * 2 ^ d1 = X) (hY : mant (ab c) * 2 ^ d2 = Y) (hl : low = (t : Int) - 2148)
    (ka : kd a < 3) (kb : kd b < 3) (kc : kd c < 3) (za : kd a ≠ 0) (zb : kd b ≠ 0) (h0 : 0 < X) (hs : (ng a != ng b) = ng c) : fmaN a b c = pk (ng a != ng b) (rnd (X + Y) low false) := by
  rw [fma_fin h1 h2 hX hY ka kb kc za zb, ← hs, ← rnd_t hl, Nat.add_mul]
  have hp : 0 < X * p2 t := Nat.mul_pos h0 (p2_pos t)
  generalize X * p2 t = x at *
  generalize Y * p2 t = y at *
  exact fin_of (sgi_add _ x y) (by omega)
theorem fma_zero (h1 : sh (ab a) + sh (ab b) = d1 + t) (h2 : sh (ab c) + 1074 = d2 + t) (hX : mant (ab a) * mant (ab b) * 2 ^ d1 = X) (hY : mant (ab c) * 2 ^ d2 = Y)
    (ka : kd a < 3) (kb : kd b < 3) (kc : kd c < 3) (za : kd a ≠ 0) (zb : kd b ≠ 0) (hs : (ng a != ng b) = !ng c) (he : X = Y) : fmaN a b c = 0 := by
  rw [fma_fin h1 h2 hX hY ka kb kc za zb, hs, he, if_pos]
  rw [sgi_sub' _ (Nat.le_refl _), Nat.sub_self, sgi_z]
theorem fma_gt (h1 : sh (ab a) + sh (ab b) = d1 + t) (h2 : sh (ab c) + 1074 = d2 + t) (hX : mant (ab a) * mant (ab b) * 2 ^ d1 = X) (hY : mant (ab c) * 2 ^ d2 = Y) (hl : low = (t : Int) - 2148)
    (ka : kd a < 3) (kb : kd b < 3) (kc : kd c < 3) (za : kd a ≠ 0) (zb : kd b ≠ 0) (hs : (ng a != ng b) = !ng c) (he : Y < X) : fmaN a b c = pk (ng a != ng b) (rnd (X - Y) low false) := by
  rw [fma_fin h1 h2 hX hY ka kb kc za zb, ← rnd_t hl, Nat.sub_mul]
  have hp : Y * p2 t < X * p2 t := Nat.mul_lt_mul_of_pos_right he (p2_pos t)
  generalize X * p2 t = x at *
  generalize Y * p2 t = y at *
  have hc : ng c = !(ng a != ng b) := by rw [hs, Bool.not_not]
  rw [hc]
  exact fin_of (sgi_sub _ (by omega)) (by omega)
theorem fma_lt (h1 : sh (ab a) + sh (ab b) = d1 + t) (h2 : sh (ab c) + 1074 = d2 + t) (hX : mant (ab a) * mant (ab b) * 2 ^ d1 = X) (hY : mant (ab c) * 2 ^ d2 = Y) (hl : low = (t : Int) - 2148)
    (ka : kd a < 3) (kb : kd b < 3) (kc : kd c < 3) (za : kd a ≠ 0) (zb : kd b ≠ 0) (hs : (ng a != ng b) = !ng c) (he : X < Y) : fmaN a b c = pk (ng c) (rnd (Y - X) low false) := by
  rw [fma_fin h1 h2 hX hY ka kb kc za zb, ← rnd_t hl, Nat.sub_mul, hs]
  have hp : X * p2 t < Y * p2 t := Nat.mul_lt_mul_of_pos_right he (p2_pos t)
  generalize X * p2 t = x at *
  generalize Y * p2 t = y at *
  exact fin_of (sgi_sub' _ (by omega)) (by omega)
end
theorem kd_pk0 (n : Bool) : kd (pk n 0) = 0 := by cases n <;> decide
theorem sV_pk0 (n : Bool) : sV (pk n 0) = 0 := sV_zero (kd_pk0 n)
theorem V_kd0 {x : Nat} (h : kd x = 0) : V (ab x) = 0 := by rw [kd_zero.1 h]; exact V_zero
theorem sV_kd0 {x : Nat} (h : kd x = 0) : sV x = 0 := sV_zero h
theorem ng_pk0 (n : Bool) : ng (pk n 0) = n := ng_pk (Nat.zero_le _)
theorem scale_K {K : Nat} (hK : K = 1074) (n : Nat) : rnd (n * p2 K) (-2148) false = rnd n (-1074) false := by
  have := rnd_scale n (-1074) K
  rw [show (-1074 : Int) - (K : Int) = -2148 by omega] at this
  exact this
theorem scale_1074 (n : Nat) : rnd (n * p2 1074) (-2148) false = rnd n (-1074) false := scale_K rfl n
/-- a product that is a zero -/
theorem fma_add {a b c : Nat} (ka : kd a < 3) (kb : kd b < 3) (kc : kd c < 3) (hz : kd a = 0 ∨ kd b = 0) : fmaN a b c = addN (pk (ng a != ng b) 0) c := by
  have hs : fsum a b c = sV c * (p2 1074 : Nat) := by
    unfold fsum
    rcases hz with h | h
    · rw [sV_kd0 h]; simp
    · rw [sV_kd0 h]; simp
  generalize hn : (ng a != ng b) = n
  have eA : addN (pk n 0) c = if 0 = 0 ∧ kd c = 0 then pk (n && ng c) 0 else if sV c = 0 then 0 else pk (decide (sV c < 0)) (rnd (sV c).natAbs (-1074) false) := by
    unfold addN
    rw [kd_pk0, ng_pk0, sV_pk0, Int.zero_add, if_neg (show ¬ (0 = 4 ∨ kd c = 4) by omega), if_neg (show ¬ (0 = 3 ∧ kd c = 3 ∧ pk n 0 ≠ c) by omega), if_neg (show ¬ 0 = 3 by decide), if_neg (show ¬ kd c = 3 by omega)]
  have eF : fmaN a b c = if sV c * (p2 1074 : Nat) = 0 then (if (kd a = 0 ∨ kd b = 0) ∧ kd c = 0 ∧ n = true ∧ ng c = true then SG else 0) else pk (decide (sV c * (p2 1074 : Nat) < 0)) (rnd (sV c * (p2 1074 : Nat)).natAbs (-2148) false) := by
    unfold fmaN
    rw [hn, hs, if_neg (show ¬ (kd a = 4 ∨ kd b = 4 ∨ kd c = 4 ∨ ((kd a = 3 ∨ kd b = 3) ∧ (kd a = 0 ∨ kd b = 0)) ∨ ((kd a = 3 ∨ kd b = 3) ∧ kd c = 3 ∧ ng c ≠ n)) by omega), if_neg (show ¬ (kd a = 3 ∨ kd b = 3) by omega), if_neg (show ¬ kd c = 3 by omega)]
  rw [eA, eF]
  clear eA eF hs
  by_cases c0 : kd c = 0
  · rw [sV_kd0 c0, Int.zero_mul, if_pos (show (0 : Int) = 0 from rfl), if_pos (show 0 = 0 ∧ kd c = 0 from ⟨rfl, c0⟩)]
    clear hn
    cases n <;> cases ng c <;> simp [hz, c0, pk, SG]
  · rw [if_neg (show ¬ (0 = 0 ∧ kd c = 0) from fun h => c0 h.2)]
    have hn : sV c ≠ 0 := fun h => c0 (sV_eq_zero h)
    have r := scale_1074 (sV c).natAbs
    have hp := p2_pos 1074
    rw [if_neg hn, Int.natAbs_mul, Int.natAbs_natCast, r]
    generalize p2 1074 = P at *
    have hP : (0 : Int) < (P : Int) := by omega
    rw [if_neg (fun h : sV c * (P : Int) = 0 => by rcases Int.mul_eq_zero.1 h with h | h; (· exact hn h); omega)]
    congr 1
    by_cases d : sV c < 0
    · rw [decide_eq_true d, decide_eq_true (Int.mul_neg_of_neg_of_pos d hP)]
    · rw [decide_eq_false d, decide_eq_false (fun h => by have := Int.mul_nonneg (show 0 ≤ sV c by omega) (Int.le_of_lt hP); omega)]
end Go.Proofs.Ytaplggheadahhaa.Fl

namespace Go.Proofs.Ytaplggheadahhaa.Fl
set_option linter.unusedVariables false
set_option linter.unusedSimpArgs false

theorem V_mod2 {x y : Nat} (h : y ≤ x) : V x % V y = mant x * 2 ^ (sh x - sh y) % mant y * 2 ^ sh y := by
  have hs := sh_mono h
  unfold V
  rw [← Nat.mul_mod_mul_right, Nat.mul_assoc, ← Nat.pow_add, show sh x - sh y + sh y = sh x by omega]
/-- what a quotient leaves is a number -/
theorem mod_rep {x y : Nat} (hx : x < INF) (hy : y < INF) (h0 : 0 < y) : ∃ R, R < INF ∧ V R = V x % V y := by
  rcases Nat.lt_or_ge x y with h | h
  · exact ⟨x, hx, (Nat.mod_eq_of_lt (V_lt h)).symm⟩
  · rw [V_mod2 h]
    have hm := Nat.mod_lt (mant x * 2 ^ (sh x - sh y)) (mant_pos h0)
    have hmy := mant_lt y
    refine rep (by omega) ?_
    rw [← V_mod2 h]
    exact Nat.lt_of_le_of_lt (Nat.mod_le _ _) (V_lt_INF hx)
theorem modN_nan {a b : Nat} (h : kd a = 4 ∨ kd b = 4 ∨ kd a = 3 ∨ kd b = 0) : modN a b = NAN := by unfold modN; rw [if_pos h]
theorem modN_inf {a b : Nat} (ka : kd a < 3) (kb : kd b = 3) : modN a b = a := by unfold modN; rw [if_neg (by omega), if_pos (.inr kb)]
/-- between finite numbers -/
theorem modN_fin {a b : Nat} (ha : a < 18446744073709551616) (ka : kd a < 3) (kb : kd b < 3) (zb : kd b ≠ 0) : ∃ R, R < INF ∧ V R = V (ab a) % V (ab b) ∧ modN a b = pk (ng a) R := by
  have pb : 0 < ab b := by rcases Nat.eq_zero_or_pos (ab b) with h | h; (· exact absurd (kd_zero.2 h) zb); exact h
  obtain ⟨R, h1, h2⟩ := mod_rep (kd_fin ka) (kd_fin kb) pb
  refine ⟨R, h1, h2, ?_⟩
  unfold modN
  rw [if_neg (by omega)]
  by_cases za : kd a = 0
  · rw [if_pos (.inl za)]
    have e : ab a = 0 := kd_zero.1 za
    rw [e, V_zero, Nat.zero_mod] at h2
    have : R = 0 := V_inj (by rw [h2, V_zero])
    rw [this, ← e, pk_ab ha]
  · rw [if_neg (by omega), ← h2, rnd_self h1]
structure Smalls (a b r : Nat) : Prop where
  lt : ab r < ab b
  le : ab r ≤ ab a
  sign : ng r = ng a
  self : modN r b = r
  flip : ∀ b2, kd b2 = kd b → ab b2 = ab b → modN a b2 = r
  rlt : r < 18446744073709551616
  nan : r ≠ NAN
theorem smalls {a b : Nat} (ha : a < 18446744073709551616) (ka : kd a < 3) (kb : kd b < 3) (zb : kd b ≠ 0) : Smalls a b (modN a b) := by
  obtain ⟨R, h1, h2, h3⟩ := modN_fin ha ka kb zb
  have pb : 0 < ab b := by rcases Nat.eq_zero_or_pos (ab b) with h | h; (· exact absurd (kd_zero.2 h) zb); exact h
  have e1 : ab (pk (ng a) R) = R := ab_pk (Nat.le_of_lt h1)
  have e2 : ng (pk (ng a) R) = ng a := ng_pk (Nat.le_of_lt h1)
  have hr : pk (ng a) R < 18446744073709551616 := pk_lt (Nat.le_of_lt h1)
  have kr : kd (pk (ng a) R) < 3 := kd_fin_iff.2 (by rw [e1]; exact h1)
  have lt : V R < V (ab b) := by rw [h2]; exact Nat.mod_lt _ (V_pos pb)
  rw [h3]
  refine ⟨by rw [e1]; exact V_lt_iff.1 lt, by rw [e1]; exact V_le_iff.1 (by rw [h2]; exact Nat.mod_le _ _), e2, ?_, ?_, hr, ?_⟩
  · obtain ⟨S, g1, g2, g3⟩ := modN_fin hr kr kb zb
    rw [e1, Nat.mod_eq_of_lt lt] at g2
    rw [g3, e2, V_inj g2]
  · intro b2 k2 a2
    obtain ⟨S, g1, g2, g3⟩ := modN_fin (b := b2) ha ka (by omega) (by omega)
    rw [a2, ← h2] at g2
    rw [g3, V_inj g2]
  · intro h
    have : kd (pk (ng a) R) = 4 := by rw [h]; decide
    omega
end Go.Proofs.Ytaplggheadahhaa.Fl

