/- The walks of float.Kind, float.Split and their kin. -/
import Derived.Test.YtaplggheadahhaaProg
import Derived.Test.YtaplggheadahhaaN1
import Derived.Test.YtaplggheadahhaaS
import Derived.WalkKit
import Derived.WalkSpells
import Derived.WalkLawsBesides
import Derived.Laws.BitsAllLaws
import Derived.Lib.Hide
namespace Go.Proofs.Ytaplggheadahhaa
open Go.RowKit
set_option linter.unusedVariables false
set_option linter.unusedSimpArgs false

theorem and_2047 (x : Nat) (h : x < 18446744073709551616) : Go.bits .and .u64 ((x : Int) / 4503599627370496) 2047 = ((x / 4503599627370496 % 2048 : Nat) : Int) := by
  have := u64_and_nat (x / 4503599627370496) 2047 (by omega) (by omega)
  rw [nat_mask11] at this
  rw [← this]; simp
theorem and_frac (x : Nat) (h : x < 18446744073709551616) : Go.bits .and .u64 (x : Int) 4503599627370495 = ((x % 4503599627370496 : Nat) : Int) := by
  have := u64_and_nat x 4503599627370495 h (by omega)
  rw [show x &&& 4503599627370495 = x % 4503599627370496 from Nat.and_two_pow_sub_one_eq_mod x 52] at this
  rw [← this]; rfl

theorem kd_4 {x : Nat} (h1 : x / 4503599627370496 % 2048 = 2047) (h2 : x % 4503599627370496 ≠ 0) : Fl.kd x = 4 := by unfold Fl.kd; rw [if_pos h1, if_neg h2]
theorem kd_3 {x : Nat} (h1 : x / 4503599627370496 % 2048 = 2047) (h2 : x % 4503599627370496 = 0) : Fl.kd x = 3 := by unfold Fl.kd; rw [if_pos h1, if_pos h2]
theorem kd_2 {x : Nat} (h1 : x / 4503599627370496 % 2048 ≠ 2047) (h2 : x / 4503599627370496 % 2048 ≠ 0) : Fl.kd x = 2 := by unfold Fl.kd; rw [if_neg h1, if_neg h2]
theorem kd_1 {x : Nat} (h1 : x / 4503599627370496 % 2048 = 0) (h2 : x % 4503599627370496 ≠ 0) : Fl.kd x = 1 := by unfold Fl.kd; rw [if_neg (by omega), if_pos h1, if_neg h2]
theorem kd_0 {x : Nat} (h1 : x / 4503599627370496 % 2048 = 0) (h2 : x % 4503599627370496 = 0) : Fl.kd x = 0 := by unfold Fl.kd; rw [if_neg (by omega), if_pos h1, if_pos h2]

theorem ret_nat {k : IntKind} {a b : Nat} (h : a = b) : Ending.returned (.int k (a : Int)) = .returned (.int k (b : Int)) := by rw [h]

set_option maxHeartbeats 400000 in
theorem kind_any (x : Nat) (hx : x < 18446744073709551616) (w : World) :
    Calls Try.prog 58 #[.int .u64 (x : Int)] w fun e w' => e = .returned (.int .i64 ((Fl.kd x : Nat) : Int)) ∧ w = w' := by
  have ea := and_2047 x hx
  have ef := and_frac x hx
  have hbl : x / 4503599627370496 % 2048 ≤ 2047 := by omega
  have k4 := @kd_4 x
  have k3 := @kd_3 x
  have k2 := @kd_2 x
  have k1 := @kd_1 x
  have k0 := @kd_0 x
  generalize x / 4503599627370496 % 2048 = b at *
  generalize x % 4503599627370496 = f at *
  generalize Fl.kd x = K at *
  by_cases c1 : b = 2047
  · by_cases c2 : f = 0
    · obtain rfl := k3 c1 c2
      clear k4 k3 k2 k1 k0; subst c1 c2
      go_enter Try.func58, Try.ntmps58
      go_wp2
      go_ret
      exact ⟨rfl, rfl⟩
    · obtain rfl := k4 c1 c2
      clear k4 k3 k2 k1 k0; subst c1
      go_enter Try.func58, Try.ntmps58
      go_wp2
      go_ret
      exact ⟨rfl, rfl⟩
  · by_cases c3 : b = 0
    · by_cases c2 : f = 0
      · obtain rfl := k0 c3 c2
        clear k4 k3 k2 k1 k0; subst c2 c3
        go_enter Try.func58, Try.ntmps58
        go_wp2
        go_ret
        exact ⟨rfl, rfl⟩
      · obtain rfl := k1 c3 c2
        have c2' : 0 < f := by omega
        clear k4 k3 k2 k1 k0; subst c3
        go_enter Try.func58, Try.ntmps58
        go_wp2
        go_ret
        exact ⟨rfl, rfl⟩
    · obtain rfl := k2 c1 c3
      have c3' : 0 < b := by omega
      have c1' : b < 2047 := by omega
      clear k4 k3 k2 k1 k0
      go_enter Try.func58, Try.ntmps58
      go_wp2
      go_ret
      exact ⟨rfl, rfl⟩
end Go.Proofs.Ytaplggheadahhaa
