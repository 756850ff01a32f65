/- The walks of float.Split, Neg, Abs. -/
import Derived.Test.YtaplggheadahhaaA1
import Derived.Outline
namespace Go.Proofs.Ytaplggheadahhaa
open Go.RowKit
set_option linter.unusedVariables false
set_option linter.unusedSimpArgs false

theorem or_one (f : Nat) (h : f < 4503599627370496) : Go.bits .or .u64 4503599627370496 (f : Int) = ((4503599627370496 + f : Nat) : Int) := by
  have := u64_or_nat 4503599627370496 f (by omega) (by omega)
  have e := Nat.two_pow_add_eq_or_of_lt (i := 52) (b := f) h 1
  rw [show 2 ^ 52 * 1 = 4503599627370496 from rfl] at e
  rw [e, ← this]; rfl

theorem ng_dec (x : Nat) : decide ((9223372036854775808 : Int) ≤ (x : Int)) = Fl.ng x := by
  unfold Fl.ng; rw [Bool.eq_iff_iff]; simp; omega

/-- the shift of a normal number, as the program reckons it -/
theorem sh_norm {x : Nat} (hx : x < 18446744073709551616) (h : Fl.kd x = 2) : ((x / 4503599627370496 % 2048 : Nat) : Int) - 1075 = (Fl.sh (Fl.ab x) : Int) - 1074 ∧ 4503599627370496 + x % 4503599627370496 = Fl.mant (Fl.ab x) := by
  unfold Fl.kd at h; unfold Fl.sh Fl.mant Fl.ab
  (repeat' split at h) <;> first | omega | (rw [if_neg (by omega)]; omega)
theorem sh_small {x : Nat} (h : Fl.kd x < 2) : (-1074 : Int) = (Fl.sh (Fl.ab x) : Int) - 1074 ∧ x % 4503599627370496 = Fl.mant (Fl.ab x) := by
  unfold Fl.kd at h; unfold Fl.sh Fl.mant Fl.ab
  (repeat' split at h) <;> first | omega | (rw [if_pos (by omega)]; omega)

theorem ret_split {n : Bool} {a b : Nat} {c d : Int} (h : a = b) (h' : c = d) : Ending.returned (.tuple #[.bool n, .int .u64 (a : Int), .int .i64 c]) = .returned (.tuple #[.bool n, .int .u64 (b : Int), .int .i64 d]) := by rw [h, h']

set_option maxHeartbeats 400000 in
theorem split_fin (x : Nat) (hx : x < 18446744073709551616) (hk : Fl.kd x < 3) (w : World) :
    Calls Try.prog 61 #[.int .u64 (x : Int)] w fun e w' => e = .returned (.tuple #[.bool (Fl.ng x), .int .u64 ((Fl.mant (Fl.ab x) : Nat) : Int), .int .i64 ((Fl.sh (Fl.ab x) : Int) - 1074)]) ∧ w = w' := by
  have hK := kind_any x hx
  have ea := and_2047 x hx
  have ef := and_frac x hx
  have eo := or_one (x % 4503599627370496) (by omega)
  have en := ng_dec x
  have hbl : x / 4503599627370496 % 2048 ≤ 2047 := by omega
  have s1 := @sh_small x
  have s2 := @sh_norm x hx
  generalize x / 4503599627370496 % 2048 = b at *
  generalize x % 4503599627370496 = f at *
  generalize Fl.ng x = nn at *
  generalize Fl.mant (Fl.ab x) = M at *
  generalize (Fl.sh (Fl.ab x) : Int) - 1074 = E at *
  generalize Fl.kd x = K at *
  have hc : K = 0 ∨ K = 1 ∨ K = 2 := by omega
  rcases hc with rfl | rfl | rfl
  · obtain ⟨rfl, rfl⟩ := s1 (by omega)
    clear s1 s2
    go_enter Try.func61, Try.ntmps61
    go_wp2_with (go_at_call 58; refine (hK _).mono ?_; rintro e w' ⟨rfl, rfl⟩)
    go_ret3
    exact ⟨rfl, rfl⟩
  · obtain ⟨rfl, rfl⟩ := s1 (by omega)
    clear s1 s2
    go_enter Try.func61, Try.ntmps61
    go_wp2_with (go_at_call 58; refine (hK _).mono ?_; rintro e w' ⟨rfl, rfl⟩)
    go_ret3
    exact ⟨rfl, rfl⟩
  · obtain ⟨rfl, rfl⟩ := s2 rfl
    clear s1 s2
    go_enter Try.func61, Try.ntmps61
    go_wp2_with (go_at_call 58; refine (hK _).mono ?_; rintro e w' ⟨rfl, rfl⟩)
    go_ret3
    exact ⟨rfl, rfl⟩

set_option maxHeartbeats 400000 in
theorem split_big (x : Nat) (hx : x < 18446744073709551616) (hk : 3 ≤ Fl.kd x) (w : World) :
    Calls Try.prog 61 #[.int .u64 (x : Int)] w fun e w' => e = .returned (.tuple #[.bool (Fl.ng x), .int .u64 0, .int .i64 0]) ∧ w = w' := by
  have hK := kind_any x hx
  have en := ng_dec x
  have ef := and_frac x hx
  have hl := Fl.kd_le x
  generalize x % 4503599627370496 = f at *
  generalize Fl.ng x = nn at *
  generalize Fl.kd x = K at *
  have hc : K = 3 ∨ K = 4 := by omega
  clear hk hl
  rcases hc with rfl | rfl
  · go_enter Try.func61, Try.ntmps61
    go_wp2_with (go_at_call 58; refine (hK _).mono ?_; rintro e w' ⟨rfl, rfl⟩)
    go_ret3
    exact ⟨rfl, rfl⟩
  · go_enter Try.func61, Try.ntmps61
    go_wp2_with (go_at_call 58; refine (hK _).mono ?_; rintro e w' ⟨rfl, rfl⟩)
    go_ret3
    exact ⟨rfl, rfl⟩

theorem xor_sign (x : Nat) (hx : x < 18446744073709551616) : Go.bits .xor .u64 (x : Int) 9223372036854775808 = ((Fl.pk (!Fl.ng x) (Fl.ab x) : Nat) : Int) := by
  have h := u64_xor_nat x 9223372036854775808 hx (by omega)
  have e : x ^^^ 9223372036854775808 = Fl.pk (!Fl.ng x) (Fl.ab x) := by
    have e1 : x = x / 2 ^ 63 * 2 ^ 63 + x % 2 ^ 63 := by omega
    have e2 : (x ^^^ 9223372036854775808) / 2 ^ 63 = x / 2 ^ 63 ^^^ 1 := by rw [Nat.xor_div_two_pow]
    have e3 : (x ^^^ 9223372036854775808) % 2 ^ 63 = x % 2 ^ 63 := by rw [Nat.xor_mod_two_pow]; simp
    have hd : x / 2 ^ 63 = 0 ∨ x / 2 ^ 63 = 1 := by omega
    unfold Fl.pk Fl.ng Fl.ab
    rcases hd with hd | hd
    · rw [hd] at e2
      rw [decide_eq_false (by omega), Bool.not_false, if_pos rfl]
      have : (0 ^^^ 1 : Nat) = 1 := rfl
      omega
    · rw [hd] at e2
      rw [decide_eq_true (by omega), Bool.not_true, if_neg (by decide)]
      have : (1 ^^^ 1 : Nat) = 0 := rfl
      omega
  rw [← e, ← h]; rfl
theorem andNot_sign (x : Nat) (hx : x < 18446744073709551616) : Go.bits .andNot .u64 (x : Int) 9223372036854775808 = ((Fl.ab x : Nat) : Int) := by
  have h := u64_andNot_nat x 9223372036854775808 hx (by omega)
  have e : x &&& (18446744073709551615 - 9223372036854775808) = Fl.ab x := by
    rw [show 18446744073709551615 - 9223372036854775808 = 2 ^ 63 - 1 from rfl, Nat.and_two_pow_sub_one_eq_mod]; rfl
  rw [← e, ← h]; rfl

set_option maxHeartbeats 400000 in
theorem neg_any (x : Nat) (hx : x < 18446744073709551616) (w : World) :
    Calls Try.prog 64 #[.int .u64 (x : Int)] w fun e w' => e = .returned (.int .u64 ((Fl.negN x : Nat) : Int)) ∧ w = w' := by
  have hK := kind_any x hx
  have ex := xor_sign x hx
  by_cases h4 : Fl.kd x = 4
  · have e1 : Fl.negN x = 9221120237041090560 := by unfold Fl.negN; rw [if_pos h4]; rfl
    rw [h4] at hK; rw [e1]; clear h4 e1 ex
    go_enter Try.func64, Try.ntmps64
    go_wp2_with (go_at_call 58; refine (hK _).mono ?_; rintro e w' ⟨rfl, rfl⟩)
    go_ret
    exact ⟨rfl, rfl⟩
  · have e1 : Fl.negN x = Fl.pk (!Fl.ng x) (Fl.ab x) := by unfold Fl.negN; rw [if_neg h4]
    rw [e1]; clear e1
    have h5 : ((Fl.kd x : Nat) : Int) < 4 := by have := Fl.kd_le x; omega
    generalize Fl.kd x = K at *
    generalize Fl.pk (!Fl.ng x) (Fl.ab x) = R at *
    clear h4
    go_enter Try.func64, Try.ntmps64
    go_wp2_with (go_at_call 58; refine (hK _).mono ?_; rintro e w' ⟨rfl, rfl⟩)
    go_ret
    exact ⟨rfl, rfl⟩

set_option maxHeartbeats 400000 in
theorem abs_any (x : Nat) (hx : x < 18446744073709551616) (w : World) :
    Calls Try.prog 102 #[.int .u64 (x : Int)] w fun e w' => e = .returned (.int .u64 ((Fl.absN x : Nat) : Int)) ∧ w = w' := by
  have hK := kind_any x hx
  have ex := andNot_sign x hx
  by_cases h4 : Fl.kd x = 4
  · have e1 : Fl.absN x = 9221120237041090560 := by unfold Fl.absN; rw [if_pos h4]; rfl
    rw [h4] at hK; rw [e1]; clear h4 e1 ex
    go_enter Try.func102, Try.ntmps102
    go_wp2_with (go_at_call 58; refine (hK _).mono ?_; rintro e w' ⟨rfl, rfl⟩)
    go_ret
    exact ⟨rfl, rfl⟩
  · have e1 : Fl.absN x = Fl.ab x := by unfold Fl.absN; rw [if_neg h4]
    rw [e1]; clear e1
    have h5 : ((Fl.kd x : Nat) : Int) < 4 := by have := Fl.kd_le x; omega
    generalize Fl.kd x = K at *
    generalize Fl.ab x = R at *
    clear h4
    go_enter Try.func102, Try.ntmps102
    go_wp2_with (go_at_call 58; refine (hK _).mono ?_; rintro e w' ⟨rfl, rfl⟩)
    go_ret
    exact ⟨rfl, rfl⟩
end Go.Proofs.Ytaplggheadahhaa
