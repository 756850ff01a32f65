/- Plain arithmetic of a sum: the greater exponent's number up as far as there is room, the other one down for the rest. No Go in it. -/
import Derived.Test.YtaplggheadahhaaN1
namespace Go.Proofs.Ytaplggheadahhaa.Fl
set_option linter.unusedVariables false
set_option linter.unusedSimpArgs false

/-- the sum's bits, from the exact signed sum -/
def sumR (S : Int) : Nat := if S = 0 then 0 else pk (decide (S < 0)) (rnd S.natAbs (-1074) false)

theorem sum_room {m1 m2 s1 s2 : Nat} (h1 : m1 < 9007199254740992) (h2 : m2 < 9007199254740992) (hs : s2 ≤ s1) (hn : 0 < s1 → 4503599627370496 ≤ m1) (hn2 : s1 ≤ 2045) :
    ∃ u k : Nat, u = min (s1 - s2) 64 ∧ k = s1 - u - s2 ∧ m1 * 2 ^ u < 166153499473114484112975882535043072 ∧
      m1 * 2 ^ s1 = m1 * 2 ^ u * 2 ^ k * 2 ^ s2 ∧ m2 * 2 ^ s2 = (m2 / 2 ^ k * 2 ^ k + m2 % 2 ^ k) * 2 ^ s2 ∧ m2 / 2 ^ k < 9007199254740992 ∧ m2 % 2 ^ k < 2 ^ k ∧
      (0 < k → 83076749736557242056487941267521536 ≤ m1 * 2 ^ u) := by
  refine ⟨min (s1 - s2) 64, s1 - min (s1 - s2) 64 - s2, rfl, rfl, ?_, ?_, ?_, ?_, Nat.mod_lt _ (Nat.pow_pos (by decide)), ?_⟩
  · have e : 2 ^ min (s1 - s2) 64 ≤ 2 ^ 64 := Nat.pow_le_pow_right (by decide) (by omega)
    have := Nat.mul_lt_mul_of_lt_of_le h1 e (Nat.pow_pos (by decide))
    rw [show (2 : Nat) ^ 64 = 18446744073709551616 from rfl] at this
    omega
  · rw [Nat.mul_assoc, Nat.mul_assoc, ← Nat.pow_add, ← Nat.pow_add]; congr 2; omega
  · congr 1
    have := Nat.div_add_mod m2 (2 ^ (s1 - min (s1 - s2) 64 - s2))
    rw [Nat.mul_comm] at this; omega
  · exact Nat.lt_of_le_of_lt (Nat.div_le_self _ _) h2
  · intro hk
    rw [show min (s1 - s2) 64 = 64 by omega, show (2 : Nat) ^ 64 = 18446744073709551616 from rfl]
    have := hn (by omega)
    omega

theorem scale3 (T s2 : Nat) : rnd (T * 2 ^ s2) (-1074) false = rnd T ((s2 : Int) - 1074) false := by
  have := rnd_scale T ((s2 : Int) - 1074) s2
  rw [show (s2 : Int) - 1074 - s2 = -1074 by omega] at this
  exact this

theorem bl_ge54 {n : Nat} (h : 9007199254740992 ≤ n) : 54 ≤ bl n := by
  have := lt_bl_of_le (n := n) (k := 53) (by rw [pow53]; exact h)
  omega

theorem trunc3 (n k r : Nat) (e : Int) (hr : r < 2 ^ k) (hk : 0 < k → 9007199254740992 ≤ n) : rnd (n * 2 ^ k + r) (e - k) false = rnd n e (decide (r ≠ 0)) := by
  rcases Nat.eq_zero_or_pos k with rfl | h
  · obtain rfl : r = 0 := by simpa using hr
    simp
  · exact rnd_trunc n e k r hr (bl_ge54 (hk h))

/-- like signs -/
theorem sum_same {X Y r k s2 : Nat} (hr : r < 2 ^ k) (hk : 0 < k → 83076749736557242056487941267521536 ≤ X) :
    rnd (X + Y) ((s2 : Int) + k - 1074) (decide (r ≠ 0)) = rnd (X * 2 ^ k * 2 ^ s2 + (Y * 2 ^ k + r) * 2 ^ s2) (-1074) false := by
  rw [← Nat.add_mul, scale3, show X * 2 ^ k + (Y * 2 ^ k + r) = (X + Y) * 2 ^ k + r by rw [Nat.add_mul]; omega]
  have := trunc3 (X + Y) k r ((s2 : Int) + k - 1074) hr (fun h => by have := hk h; omega)
  rw [← this]; congr 1; omega
/-- unlike signs, and something cut off -/
theorem sum_more {X Y r k s2 : Nat} (hr : r < 2 ^ k) (h0 : r ≠ 0) (hY : Y < 9007199254740992) (hk : 0 < k → 83076749736557242056487941267521536 ≤ X) :
    rnd (X - (Y + 1)) ((s2 : Int) + k - 1074) true = rnd (X * 2 ^ k * 2 ^ s2 - (Y * 2 ^ k + r) * 2 ^ s2) (-1074) false ∧ (Y * 2 ^ k + r) * 2 ^ s2 < X * 2 ^ k * 2 ^ s2 ∧ 83076749736557242056487941267521536 ≤ X := by
  have hk0 : 0 < k := by rcases Nat.eq_zero_or_pos k with rfl | h; (· simp at hr; omega); exact h
  have hX := hk hk0
  have e1 : X * 2 ^ k = (X - (Y + 1)) * 2 ^ k + (Y + 1) * 2 ^ k := by rw [← Nat.add_mul]; congr 1; omega
  have e2 : (Y + 1) * 2 ^ k = Y * 2 ^ k + 2 ^ k := by rw [Nat.add_mul, Nat.one_mul]
  have e3 : X * 2 ^ k - (Y * 2 ^ k + r) = (X - (Y + 1)) * 2 ^ k + (2 ^ k - r) := by omega
  have e4 : Y * 2 ^ k + r < X * 2 ^ k := by omega
  refine ⟨?_, Nat.mul_lt_mul_of_pos_right e4 (Nat.pow_pos (by decide)), hX⟩
  rw [← Nat.sub_mul, scale3, e3]
  have := trunc3 (X - (Y + 1)) k (2 ^ k - r) ((s2 : Int) + k - 1074) (by omega) (fun _ => by omega)
  rw [decide_eq_true (by omega)] at this
  rw [← this]; congr 1; omega
/-- unlike signs, nothing cut off -/
theorem sum_none {X Y k s2 : Nat} : rnd (X - Y) ((s2 : Int) + k - 1074) false = rnd (X * 2 ^ k * 2 ^ s2 - Y * 2 ^ k * 2 ^ s2) (-1074) false := by
  rw [← Nat.sub_mul, ← Nat.sub_mul, scale3]
  have := rnd_scale (X - Y) ((s2 : Int) + k - 1074) k
  rw [← this]; congr 1; omega
theorem mul2_lt {X Y k s2 : Nat} : X * 2 ^ k * 2 ^ s2 < Y * 2 ^ k * 2 ^ s2 ↔ X < Y := by
  rw [Nat.mul_assoc, Nat.mul_assoc]
  have hp : 0 < 2 ^ k * 2 ^ s2 := Nat.mul_pos (Nat.pow_pos (by decide)) (Nat.pow_pos (by decide))
  exact Nat.mul_lt_mul_right hp
end Go.Proofs.Ytaplggheadahhaa.Fl
