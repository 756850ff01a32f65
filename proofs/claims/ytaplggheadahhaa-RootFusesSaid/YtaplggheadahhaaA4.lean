/- The walks of wide.Shl, Low, Drop, Shr: shifts of numbers of 128 and 192 bits. -/
import Derived.Test.YtaplggheadahhaaA3
import Derived.Deep.RegionHeld3
import Derived.BigRegion
namespace Go.Proofs.Ytaplggheadahhaa
open Go.RowKit
set_option linter.unusedVariables false
set_option linter.unusedSimpArgs false

/-- the two words of a number -/
def Fl.hi (n : Nat) : Nat := n / 18446744073709551616 % 18446744073709551616
def Fl.lo (n : Nat) : Nat := n % 18446744073709551616
theorem Fl.hi_lt (n : Nat) : Fl.hi n < 18446744073709551616 := by unfold Fl.hi; omega
theorem Fl.lo_lt (n : Nat) : Fl.lo n < 18446744073709551616 := by unfold Fl.lo; omega
theorem Fl.hi_jn {a b : Nat} (ha : a < 18446744073709551616) (hb : b < 18446744073709551616) : Fl.hi (a * 18446744073709551616 + b) = a := by unfold Fl.hi; omega
theorem Fl.lo_jn {a b : Nat} (hb : b < 18446744073709551616) : Fl.lo (a * 18446744073709551616 + b) = b := by unfold Fl.lo; omega
theorem Fl.jn_hi {n : Nat} (h : n < 340282366920938463463374607431768211456) : Fl.hi n * 18446744073709551616 + Fl.lo n = n := by unfold Fl.hi Fl.lo; omega

theorem pow64 : (2 : Nat) ^ 64 = 18446744073709551616 := rfl

theorem wrap_u64_nat (n : Nat) : IntKind.u64.wrap (n : Int) = ((n % 18446744073709551616 : Nat) : Int) := by
  simp [IntKind.wrap, IntKind.bits, IntKind.signed]
theorem wrap_shl (x k : Nat) : IntKind.u64.wrap ((x : Int) * 2 ^ k) = ((x * 2 ^ k % 18446744073709551616 : Nat) : Int) := by
  rw [← wrap_u64_nat]; simp
theorem div_pow (x k : Nat) : (x : Int) / 2 ^ k = ((x / 2 ^ k : Nat) : Int) := by simp

/-- the upper word of a number shifted up by less than a word -/
theorem shl_words {hi lo k j : Nat} (hl : lo < 18446744073709551616) (hk : k + j = 64) :
    hi * 2 ^ k % 18446744073709551616 + lo / 2 ^ j = Fl.hi ((hi * 18446744073709551616 + lo) * 2 ^ k) ∧ (hi * 2 ^ k % 18446744073709551616) % 2 ^ k = 0 ∧ lo / 2 ^ j < 2 ^ k := by
  have hp : 2 ^ k * 2 ^ j = 18446744073709551616 := by rw [← Nat.pow_add, hk]
  have hkp : 0 < 2 ^ k := Nat.pow_pos (by decide)
  have hjp : 0 < 2 ^ j := Nat.pow_pos (by decide)
  unfold Fl.hi
  generalize 2 ^ k = A at *
  generalize 2 ^ j = B at *
  have e1 : hi * A % 18446744073709551616 = hi % B * A := by rw [← hp, Nat.mul_comm A B, Nat.mul_mod_mul_right]
  have e2 : (hi * 18446744073709551616 + lo) * A / 18446744073709551616 = hi * A + lo / B := by
    rw [← hp, Nat.add_mul, Nat.mul_right_comm hi, Nat.mul_comm (hi * A), Nat.mul_add_div (by rw [hp]; decide)]
    congr 1
    rw [Nat.mul_comm A B, Nat.mul_div_mul_right _ _ hkp]
  have h3 : lo / B < A := Nat.div_lt_of_lt_mul (by rw [Nat.mul_comm]; omega)
  have h4 : hi % B < B := Nat.mod_lt _ hjp
  have h5 : hi % B * A + A ≤ B * A := by rw [← Nat.succ_mul]; exact Nat.mul_le_mul_right _ h4
  have h6 : B * A = 18446744073709551616 := by rw [Nat.mul_comm]; exact hp
  refine ⟨?_, ?_, h3⟩
  · rw [e2]
    rw [← Nat.mod_add_mod (hi * A)]
    rw [e1]
    exact (Nat.mod_eq_of_lt (by omega)).symm
  · rw [e1, Nat.mul_mod_left]

theorem or_words {a b k : Nat} (ha : a < 18446744073709551616) (hk : k ≤ 64) (h1 : a % 2 ^ k = 0) (h2 : b < 2 ^ k) : Go.bits .or .u64 (a : Int) (b : Int) = ((a + b : Nat) : Int) := by
  have hb : b < 18446744073709551616 := Nat.lt_of_lt_of_le h2 (by rw [← pow64]; exact Nat.pow_le_pow_right (by decide) (by omega))
  have e := Nat.two_pow_add_eq_or_of_lt h2 (a / 2 ^ k)
  have e2 : 2 ^ k * (a / 2 ^ k) = a := by have := Nat.div_add_mod a (2 ^ k); omega
  rw [e2] at e
  rw [e]; exact u64_or_nat a b ha hb

set_option maxHeartbeats 400000 in
set_option maxRecDepth 100000 in
theorem wshl_small (hi lo k : Nat) (hl : lo < 18446744073709551616) (h1 : k < 64) (w : World) :
    Calls Try.prog 91 #[.agg #[.int .u64 (hi : Int), .int .u64 (lo : Int)], .int .i64 (k : Int)] w fun e w' =>
      e = .returned (.agg #[.int .u64 ((Fl.hi ((hi * 18446744073709551616 + lo) * 2 ^ k) : Nat) : Int), .int .u64 ((Fl.lo ((hi * 18446744073709551616 + lo) * 2 ^ k) : Nat) : Int)]) ∧ Below w.heap.size w w' := by
  obtain ⟨j, hj⟩ : ∃ j, k + j = 64 := ⟨64 - k, by omega⟩
  obtain ⟨s1, s2, s3⟩ := shl_words (hi := hi) (lo := lo) hl hj
  have eo := or_words (a := hi * 2 ^ k % 18446744073709551616) (Nat.mod_lt _ (by decide)) (Nat.le_of_lt h1) s2 s3
  rw [s1] at eo
  have ew1 := wrap_shl hi k
  have ew2 := wrap_shl lo k
  have ed := div_pow lo j
  have elo : lo * 2 ^ k % 18446744073709551616 = Fl.lo ((hi * 18446744073709551616 + lo) * 2 ^ k) := by
    unfold Fl.lo; rw [Nat.add_mul, Nat.mul_right_comm, Nat.add_comm, Nat.add_mul_mod_self_right]
  rw [elo] at ew2
  have ej : IntKind.i64.wrap (64 - (k : Int)) = (j : Int) := by rw [IntWalk.i64_in _ (by omega)]; omega
  generalize Fl.hi ((hi * 18446744073709551616 + lo) * 2 ^ k) = RH at *
  generalize Fl.lo ((hi * 18446744073709551616 + lo) * 2 ^ k) = RL at *
  generalize hi * 2 ^ k % 18446744073709551616 = A at *
  generalize lo / 2 ^ j = B at *
  have hj' : j ≤ 64 := by omega
  clear s1 s2 s3 elo hj
  go_enter Try.func91, Try.ntmps91
  go_wp2
  go_region_held3 (fun w' => w'.cell? ⟨w.heap.size, 0, none⟩ = some (.int .u64 hi) ∧ w'.cell? ⟨w.heap.size, 1, none⟩ = some (.int .u64 lo)) (simp [go_sem, World.cell?_alloc_past]) (fail)
  go_wp2
  simp [bodyPost, results, Try.results91, go_sem]
  exact (((Below.refl _ _).alloc (Nat.le_refl _) _).alloc (by simp) _).drew


theorem shl_big_words (hi lo k : Nat) (h1 : 64 ≤ k) :
    IntKind.u64.wrap ((lo : Int) * 2 ^ (min ((k : Int) - 64) 64).toNat) = ((Fl.hi ((hi * 18446744073709551616 + lo) * 2 ^ k) : Nat) : Int) ∧ Fl.lo ((hi * 18446744073709551616 + lo) * 2 ^ k) = 0 := by
  obtain ⟨d, rfl⟩ : ∃ d, k = d + 64 := ⟨k - 64, by omega⟩
  have e0 : (hi * 18446744073709551616 + lo) * 2 ^ (d + 64) = (hi * 18446744073709551616 + lo) * 2 ^ d * 18446744073709551616 := by rw [Nat.pow_add, pow64, Nat.mul_assoc]
  constructor
  · rw [show (min (((d + 64 : Nat) : Int) - 64) 64).toNat = min d 64 by omega, wrap_shl]
    refine congrArg (fun z : Nat => (z : Int)) ?_
    unfold Fl.hi; rw [e0, Nat.mul_div_cancel _ (by decide), Nat.add_mul, Nat.mul_right_comm, Nat.add_comm, Nat.add_mul_mod_self_right]
    rcases Nat.le_total d 64 with h | h
    · rw [Nat.min_eq_left h]
    · rw [Nat.min_eq_right h]
      obtain ⟨c, rfl⟩ : ∃ c, d = c + 64 := ⟨d - 64, by omega⟩
      rw [Nat.pow_add, pow64, ← Nat.mul_assoc, Nat.mul_mod_left, Nat.mul_mod_left]
  · unfold Fl.lo; rw [e0, Nat.mul_mod_left]

set_option maxHeartbeats 400000 in
theorem wshl_big (hi lo k : Nat) (h1 : 64 ≤ k) (h2 : k ≤ 1000000000000) (w : World) :
    Calls Try.prog 91 #[.agg #[.int .u64 (hi : Int), .int .u64 (lo : Int)], .int .i64 (k : Int)] w fun e w' =>
      e = .returned (.agg #[.int .u64 ((Fl.hi ((hi * 18446744073709551616 + lo) * 2 ^ k) : Nat) : Int), .int .u64 ((Fl.lo ((hi * 18446744073709551616 + lo) * 2 ^ k) : Nat) : Int)]) ∧ Below w.heap.size w w' := by
  obtain ⟨ew, e1⟩ := shl_big_words hi lo k h1
  rw [e1]
  generalize Fl.hi ((hi * 18446744073709551616 + lo) * 2 ^ k) = RH at *
  clear e1
  go_enter Try.func91, Try.ntmps91
  go_wp2
  simp [bodyPost, results, Try.results91, go_sem]
  exact ((Below.refl _ _).alloc (Nat.le_refl _) _).alloc (by simp) _

/-- wide.Shl -/
theorem wshl_any (hi lo : Nat) (k : Int) (hl : lo < 18446744073709551616) (h1 : 0 ≤ k) (h2 : k ≤ 1000000000000) (w : World) :
    Calls Try.prog 91 #[.agg #[.int .u64 (hi : Int), .int .u64 (lo : Int)], .int .i64 k] w fun e w' =>
      e = .returned (.agg #[.int .u64 ((Fl.hi ((hi * 18446744073709551616 + lo) * 2 ^ k.toNat) : Nat) : Int), .int .u64 ((Fl.lo ((hi * 18446744073709551616 + lo) * 2 ^ k.toNat) : Nat) : Int)]) ∧ Below w.heap.size w w' := by
  obtain ⟨K, rfl⟩ := Int.eq_ofNat_of_zero_le h1
  rw [Int.toNat_natCast]
  rcases Nat.lt_or_ge K 64 with h | h
  · exact wshl_small hi lo K hl h w
  · exact wshl_big hi lo K h (by omega) w

set_option maxHeartbeats 400000 in
theorem wlow_any (a b c : Int) (w : World) :
    Calls Try.prog 139 #[.agg #[.int .u64 a, .int .u64 b, .int .u64 c]] w fun e w' => e = .returned (.agg #[.int .u64 b, .int .u64 c]) ∧ Below w.heap.size w w' := by
  go_enter Try.func139, Try.ntmps139
  go_wp2
  simp [bodyPost, results, Try.results139, go_sem]
  exact ((Below.refl _ _).alloc (Nat.le_refl _) _).alloc (by simp) _

end Go.Proofs.Ytaplggheadahhaa
