/- The walks of float.pack, far, unit, and wide.Len. -/
import Derived.Test.YtaplggheadahhaaA2
namespace Go.Proofs.Ytaplggheadahhaa
open Go.RowKit
set_option linter.unusedVariables false
set_option linter.unusedSimpArgs false

theorem or_sign (m : Nat) (h : m < 9223372036854775808) : Go.bits .or .u64 (m : Int) 9223372036854775808 = ((Fl.pk true m : Nat) : Int) := by
  have := u64_or_nat m 9223372036854775808 (by omega) (by omega)
  have e := Nat.two_pow_add_eq_or_of_lt (i := 63) (b := m) (by omega) 1
  rw [show 2 ^ 63 * 1 = 9223372036854775808 from rfl] at e
  have e2 : Fl.pk true m = m ||| 9223372036854775808 := by rw [Nat.or_comm, ← e]; unfold Fl.pk; rw [if_pos rfl]; omega
  rw [e2, ← this]; rfl

def packM (m : Nat) (e : Int) : Nat := if m < 4503599627370496 then m else min Fl.INF ((e + 1074).toNat * 4503599627370496 + m)

theorem ret_int {k : IntKind} {a b : Int} (h : a = b) : Ending.returned (.int k a) = .returned (.int k b) := by rw [h]
theorem ret_u64 {a b : Nat} (h : a = b) : Ending.returned (.int .u64 (a : Int)) = .returned (.int .u64 (b : Int)) := by rw [h]

set_option maxHeartbeats 400000 in
/-- pack where nothing overflows and the significand is not carried over -/
theorem pack_low (neg : Bool) (m : Nat) (e : Int) (hm : m < 4503599627370496) (w : World) :
    Calls Try.prog 144 #[.bool neg, .int .u64 (m : Int), .int .i64 e] w fun e' w' => e' = .returned (.int .u64 ((Fl.pk neg m : Nat) : Int)) ∧ w = w' := by
  have eo := or_sign m (by omega)
  cases neg
  · have e1 : Fl.pk false m = m := by unfold Fl.pk; rw [if_neg (by decide)]
    rw [e1]; clear e1 eo
    go_enter Try.func144, Try.ntmps144
    go_wp2
    go_ret
    exact ⟨rfl, rfl⟩
  · generalize Fl.pk true m = R at *
    go_enter Try.func144, Try.ntmps144
    go_wp2
    go_ret
    exact ⟨rfl, rfl⟩

set_option maxHeartbeats 400000 in
theorem pack_mid (neg : Bool) (m E : Nat) (hm : 4503599627370496 ≤ m) (hm2 : m < 9007199254740992) (he2 : E ≤ 2045) (w : World) :
    Calls Try.prog 144 #[.bool neg, .int .u64 (m : Int), .int .i64 ((E : Int) - 1074)] w fun e' w' => e' = .returned (.int .u64 ((Fl.pk neg (E * 4503599627370496 + m) : Nat) : Int)) ∧ w = w' := by
  have eo := or_sign (E * 4503599627370496 + m) (by omega)
  cases neg
  · have e1 : Fl.pk false (E * 4503599627370496 + m) = E * 4503599627370496 + m := by unfold Fl.pk; rw [if_neg (by decide)]
    rw [e1]; clear e1 eo
    go_enter Try.func144, Try.ntmps144
    go_wp2
    go_ret
    exact ⟨ret_int (by omega), rfl⟩
  · rw [show ((E * 4503599627370496 + m : Nat) : Int) = (m : Int) + ((E : Int) - 1074 + 1075 - 1) * 4503599627370496 by omega] at eo
    generalize Fl.pk true (E * 4503599627370496 + m) = R at *
    go_enter Try.func144, Try.ntmps144
    go_wp2
    go_ret
    exact ⟨rfl, rfl⟩


set_option maxHeartbeats 400000 in
theorem pack_inf (neg : Bool) (m : Nat) (e : Int) (hm : 4503599627370496 ≤ m) (hm2 : m < 9007199254740992) (he : 972 ≤ e) (he2 : e ≤ 1000000000000) (w : World) :
    Calls Try.prog 144 #[.bool neg, .int .u64 (m : Int), .int .i64 e] w fun e' w' => e' = .returned (.int .u64 ((Fl.pk neg 9218868437227405312 : Nat) : Int)) ∧ w = w' := by
  have eo := or_sign 9218868437227405312 (by omega)
  rw [show ((9218868437227405312 : Nat) : Int) = 9218868437227405312 from rfl] at eo
  cases neg
  · have e1 : Fl.pk false 9218868437227405312 = 9218868437227405312 := by unfold Fl.pk; rw [if_neg (by decide)]
    rw [e1]; clear e1 eo
    go_enter Try.func144, Try.ntmps144
    go_wp2
    go_ret
    exact ⟨rfl, rfl⟩
  · generalize Fl.pk true 9218868437227405312 = R at *
    go_enter Try.func144, Try.ntmps144
    go_wp2
    go_ret
    exact ⟨rfl, rfl⟩

set_option maxHeartbeats 400000 in
theorem pack_carry (neg : Bool) (E : Nat) (he2 : E ≤ 2044) (w : World) :
    Calls Try.prog 144 #[.bool neg, .int .u64 9007199254740992, .int .i64 ((E : Int) - 1074)] w fun e' w' => e' = .returned (.int .u64 ((Fl.pk neg (E * 4503599627370496 + 9007199254740992) : Nat) : Int)) ∧ w = w' := by
  have eo := or_sign (E * 4503599627370496 + 9007199254740992) (by omega)
  cases neg
  · have e1 : Fl.pk false (E * 4503599627370496 + 9007199254740992) = E * 4503599627370496 + 9007199254740992 := by unfold Fl.pk; rw [if_neg (by decide)]
    rw [e1]; clear e1 eo
    go_enter Try.func144, Try.ntmps144
    go_wp2
    go_ret
    exact ⟨ret_int (by omega), rfl⟩
  · rw [show ((E * 4503599627370496 + 9007199254740992 : Nat) : Int) = 4503599627370496 + ((E : Int) - 1074 + 1 + 1075 - 1) * 4503599627370496 by omega] at eo
    generalize Fl.pk true (E * 4503599627370496 + 9007199254740992) = R at *
    go_enter Try.func144, Try.ntmps144
    go_wp2
    go_ret
    exact ⟨rfl, rfl⟩
set_option maxHeartbeats 400000 in
theorem pack_carry_inf (neg : Bool) (e : Int) (he : 971 ≤ e) (he2 : e ≤ 1000000000000) (w : World) :
    Calls Try.prog 144 #[.bool neg, .int .u64 9007199254740992, .int .i64 e] w fun e' w' => e' = .returned (.int .u64 ((Fl.pk neg 9218868437227405312 : Nat) : Int)) ∧ w = w' := by
  have eo := or_sign 9218868437227405312 (by omega)
  rw [show ((9218868437227405312 : Nat) : Int) = 9218868437227405312 from rfl] at eo
  cases neg
  · have e1 : Fl.pk false 9218868437227405312 = 9218868437227405312 := by unfold Fl.pk; rw [if_neg (by decide)]
    rw [e1]; clear e1 eo
    go_enter Try.func144, Try.ntmps144
    go_wp2
    go_ret
    exact ⟨rfl, rfl⟩
  · generalize Fl.pk true 9218868437227405312 = R at *
    go_enter Try.func144, Try.ntmps144
    go_wp2
    go_ret
    exact ⟨rfl, rfl⟩

/-- pack: the significand, of at most 54 bits, at its place -/
theorem pack_any (neg : Bool) (m : Nat) (e : Int) (hm : m ≤ 9007199254740992) (he : -1074 ≤ e) (he2 : e ≤ 1000000000000) (w : World) :
    Calls Try.prog 144 #[.bool neg, .int .u64 (m : Int), .int .i64 e] w fun e' w' => e' = .returned (.int .u64 ((Fl.pk neg (packM m e) : Nat) : Int)) ∧ w = w' := by
  unfold packM
  by_cases c1 : m < 4503599627370496
  · rw [if_pos c1]; exact pack_low neg m e c1 w
  · rw [if_neg c1]
    obtain ⟨E, rfl⟩ : ∃ E : Nat, e = (E : Int) - 1074 := ⟨(e + 1074).toNat, by omega⟩
    rw [show ((E : Int) - 1074 + 1074).toNat = E by omega]
    by_cases c2 : m = 9007199254740992
    · subst c2
      by_cases c3 : E ≤ 2044
      · rw [show min Fl.INF (E * 4503599627370496 + 9007199254740992) = E * 4503599627370496 + 9007199254740992 by unfold Fl.INF; omega]
        exact pack_carry neg E c3 w
      · rw [show min Fl.INF (E * 4503599627370496 + 9007199254740992) = 9218868437227405312 by unfold Fl.INF; omega]
        exact pack_carry_inf neg _ (by omega) he2 w
    · by_cases c3 : E ≤ 2045
      · rw [show min Fl.INF (E * 4503599627370496 + m) = E * 4503599627370496 + m by unfold Fl.INF; omega]
        exact pack_mid neg m E (by omega) (by omega) c3 w
      · rw [show min Fl.INF (E * 4503599627370496 + m) = 9218868437227405312 by unfold Fl.INF; omega]
        exact pack_inf neg m _ (by omega) (by omega) (by omega) he2 w

theorem unit_any (long e : Int) (h1 : -1000000000000 ≤ e) (h2 : e ≤ 1000000000000) (h3 : 0 ≤ long) (h4 : long ≤ 1000000000000) (w : World) :
    Calls Try.prog 143 #[.int .i64 long, .int .i64 e] w fun e' w' => e' = .returned (.int .i64 (max (e + long - 53) (-1074))) ∧ w = w' := by
  go_enter Try.func143, Try.ntmps143
  go_wp2
  go_ret
  exact ⟨rfl, rfl⟩

set_option maxHeartbeats 400000 in
theorem far_zero (neg : Bool) (long e : Int) (hc : long = 0 ∨ (e < -10000 ∧ e + long < -2000)) (h1 : -1000000000000 ≤ e) (h3 : 0 ≤ long) (h4 : long ≤ 1000000000000) (w : World) :
    Calls Try.prog 142 #[.bool neg, .int .i64 long, .int .i64 e] w fun e' w' => e' = .returned (.tuple #[.int .u64 ((Fl.pk neg 0 : Nat) : Int), .bool true]) ∧ w = w' := by
  have hp : ∀ W, Calls Try.prog 144 #[.bool neg, .int .u64 0, .int .i64 0] W fun e' w' => e' = .returned (.int .u64 ((Fl.pk neg 0 : Nat) : Int)) ∧ W = w' := fun W => pack_low neg 0 0 (by omega) W
  generalize Fl.pk neg 0 = R at *
  by_cases c : long = 0
  · subst c; clear hc
    go_enter Try.func142, Try.ntmps142
    go_wp2_with (go_at_call 144; refine (hp _).mono ?_; rintro e w' ⟨rfl, rfl⟩)
    go_ret2
    exact ⟨rfl, rfl⟩
  · have c1 : 0 < long := by omega
    obtain ⟨c2, c3⟩ := hc.resolve_left c
    clear hc c
    go_enter Try.func142, Try.ntmps142
    go_wp2_with (go_at_call 144; refine (hp _).mono ?_; rintro e w' ⟨rfl, rfl⟩)
    go_ret2
    exact ⟨rfl, rfl⟩

set_option maxHeartbeats 400000 in
theorem far_inf (neg : Bool) (long e : Int) (hc : 2000 < e) (h1 : e ≤ 1000000000000) (h3 : 1 ≤ long) (h4 : long ≤ 1000000000000) (w : World) :
    Calls Try.prog 142 #[.bool neg, .int .i64 long, .int .i64 e] w fun e' w' => e' = .returned (.tuple #[.int .u64 ((Fl.pk neg 9218868437227405312 : Nat) : Int), .bool true]) ∧ w = w' := by
  have hp : ∀ W, Calls Try.prog 144 #[.bool neg, .int .u64 4503599627370496, .int .i64 2047] W fun e' w' => e' = .returned (.int .u64 ((Fl.pk neg 9218868437227405312 : Nat) : Int)) ∧ W = w' := fun W => pack_inf neg 4503599627370496 2047 (by omega) (by omega) (by omega) (by omega) W
  generalize Fl.pk neg 9218868437227405312 = R at *
  go_enter Try.func142, Try.ntmps142
  go_wp2_with (go_at_call 144; refine (hp _).mono ?_; rintro e w' ⟨rfl, rfl⟩)
  go_ret2
  exact ⟨rfl, rfl⟩

set_option maxHeartbeats 400000 in
theorem far_no (neg : Bool) (long e : Int) (hc : -10000 ≤ e ∨ -2000 ≤ e + long) (h0 : e ≤ 2000) (h1 : -1000000000000 ≤ e) (h3 : 1 ≤ long) (h4 : long ≤ 1000000000000) (w : World) :
    Calls Try.prog 142 #[.bool neg, .int .i64 long, .int .i64 e] w fun e' w' => e' = .returned (.tuple #[.int .u64 0, .bool false]) ∧ w = w' := by
  by_cases c : -10000 ≤ e
  · clear hc
    go_enter Try.func142, Try.ntmps142
    go_wp2
    go_ret2
    exact ⟨rfl, rfl⟩
  · have c2 := hc.resolve_left c
    clear hc
    have c3 : e < -10000 := by omega
    have c4 : (long == 0) = false := by simp; omega
    have c5 : decide (e + long < -2000) = false := by simp; omega
    go_enter Try.func142, Try.ntmps142
    go_wp2
    go_ret2
    exact ⟨rfl, rfl⟩

theorem bitLenAux_eq (k n : Nat) (h : n < 2 ^ k) : Lib.bitLenAux k n = Fl.bl n := by
  induction k generalizing n with
  | zero => obtain rfl : n = 0 := by simpa using h
            rfl
  | succ k ih =>
    unfold Lib.bitLenAux
    split
    · subst_vars; rfl
    · rename_i hn
      have hn : n ≠ 0 := by simpa using hn
      rw [ih (n / 2) (by rw [Nat.pow_succ] at h; omega)]
      by_cases h1 : n / 2 = 0
      · obtain rfl : n = 1 := by omega
        rfl
      · have := Fl.bl_mul_add (n := n / 2) (by omega) 1 (n % 2) (by omega)
        rw [show n / 2 * 2 ^ 1 + n % 2 = n by omega] at this
        omega
theorem bitLen_eq (n : Nat) (h : n < 2 ^ 64) : Lib.bitLen n = Fl.bl n := bitLenAux_eq 64 n h

theorem len64_any (x : Nat) (hx : x < 18446744073709551616) (w : World) :
    Calls Try.prog 103 #[.int .u64 (x : Int)] w fun e w' => e = .returned (.int .i64 ((Fl.bl x : Nat) : Int)) ∧ w = w' :=
  (Try.bits_Len64 (x : Int) w (by omega) (by omega)).mono fun e w' ⟨h1, h2⟩ => ⟨by rw [h1, Int.toNat_natCast, bitLen_eq _ hx], h2.symm⟩

theorem bl_jn_pos {hi lo : Nat} (h : 0 < hi) (hl : lo < 18446744073709551616) : Fl.bl (hi * 18446744073709551616 + lo) = 64 + Fl.bl hi := by
  have := Fl.bl_mul_add h 64 lo (by omega)
  rw [show (2 : Nat) ^ 64 = 18446744073709551616 from rfl] at this
  omega

set_option maxHeartbeats 400000 in
theorem wlen_any (hi lo : Nat) (hh : hi < 18446744073709551616) (hl : lo < 18446744073709551616) (w : World) :
    Calls Try.prog 110 #[.agg #[.int .u64 (hi : Int), .int .u64 (lo : Int)]] w fun e w' => e = .returned (.int .i64 ((Fl.bl (hi * 18446744073709551616 + lo) : Nat) : Int)) ∧ Below w.heap.size w w' := by
  have k1 := len64_any hi hh
  have k2 := len64_any lo hl
  have kb : Fl.bl hi ≤ 64 := Fl.bl_le_of_lt (by omega)
  by_cases c : hi = 0
  · subst c
    rw [Nat.zero_mul, Nat.zero_add]
    clear k1
    generalize Fl.bl lo = R at *
    go_enter Try.func110, Try.ntmps110
    go_wp2_with (go_at_call 103; refine (k2 _).mono ?_; rintro e w' ⟨rfl, rfl⟩)
    go_ret
    exact ⟨rfl, (Below.refl _ _).alloc (Nat.le_refl _) _⟩
  · have c' : 0 < hi := by omega
    rw [bl_jn_pos c' hl]
    clear k2
    generalize Fl.bl hi = R at *
    go_enter Try.func110, Try.ntmps110
    go_wp2_with (go_at_call 103; refine (k1 _).mono ?_; rintro e w' ⟨rfl, rfl⟩)
    go_ret
    exact ⟨rfl, (Below.refl _ _).alloc (Nat.le_refl _) _⟩
end Go.Proofs.Ytaplggheadahhaa
