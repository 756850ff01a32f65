/- The walks of arith.Sum at the examples' lists, of the reference's Kind, of the law's rank. -/
import Derived.Test.YtaplggheadahhaaC7
namespace Go.Proofs.Ytaplggheadahhaa
open Go.RowKit
set_option linter.unusedVariables false
set_option linter.unusedSimpArgs false

set_option maxHeartbeats 1000000 in
theorem rkind_any (x : Nat) (hx : x < 18446744073709551616) (w : World) :
    Calls Try.prog 21 #[.int .u64 (x : Int)] w fun e w' => e = .returned (.int .i64 ((Fl.kd x : Nat) : Int)) ∧ w = w' := by
  have ea : (x : Int) / 4503599627370496 % 2048 = ((x / 4503599627370496 % 2048 : Nat) : Int) := by omega
  have ef : (x : Int) % 4503599627370496 = ((x % 4503599627370496 : Nat) : Int) := by omega
  have hbl : x / 4503599627370496 % 2048 ≤ 2047 := by omega
  have k4 := @kd_4 x
  have k3 := @kd_3 x
  have k2 := @kd_2 x
  have k1 := @kd_1 x
  have k0 := @kd_0 x
  generalize x / 4503599627370496 % 2048 = b at *
  generalize x % 4503599627370496 = f at *
  generalize Fl.kd x = K at *
  by_cases c1 : b = 2047
  · by_cases c2 : f = 0
    · obtain rfl := k3 c1 c2
      clear k4 k3 k2 k1 k0; subst c1 c2
      go_enter Try.func21, Try.ntmps21
      go_wp2
      go_ret
      exact ⟨rfl, rfl⟩
    · obtain rfl := k4 c1 c2
      clear k4 k3 k2 k1 k0; subst c1
      have c3 : ((f : Int) == 0) = false := by simp; omega
      go_enter Try.func21, Try.ntmps21
      go_wp2
      go_ret
      exact ⟨rfl, rfl⟩
  · by_cases c3 : b = 0
    · by_cases c2 : f = 0
      · obtain rfl := k0 c3 c2
        clear k4 k3 k2 k1 k0; subst c2 c3
        go_enter Try.func21, Try.ntmps21
        go_wp2
        go_ret
        exact ⟨rfl, rfl⟩
      · obtain rfl := k1 c3 c2
        have c2' : ((f : Int) == 0) = false := by simp; omega
        clear k4 k3 k2 k1 k0; subst c3
        go_enter Try.func21, Try.ntmps21
        go_wp2
        go_ret
        exact ⟨rfl, rfl⟩
    · obtain rfl := k2 c1 c3
      have c3' : ((b : Int) == 0) = false := by simp; omega
      have c1' : b < 2047 := by omega
      clear k4 k3 k2 k1 k0
      go_enter Try.func21, Try.ntmps21
      go_wp2
      go_ret
      exact ⟨rfl, rfl⟩

theorem rank_hi {x : Nat} (hx : x < 18446744073709551616) (h : 9223372036854775808 ≤ x) : Fl.rank x = -((x : Int) - 9223372036854775808) := by
  unfold Fl.rank Fl.ng Fl.ab; rw [if_pos (by simpa using h)]; omega
theorem rank_lo {x : Nat} (h : x < 9223372036854775808) : Fl.rank x = (x : Int) := by
  unfold Fl.rank Fl.ng Fl.ab; rw [if_neg (by simp; omega)]; omega

set_option maxHeartbeats 1000000 in
/-- the law's rank -/
theorem rank4_any (x : Nat) (hx : x < 18446744073709551616) (w : World) :
    Calls Try.prog 22 #[.int .u64 (x : Int)] w fun e w' => e = .returned (.int .i64 (Fl.rank x)) ∧ w = w' := by
  rcases Nat.lt_or_ge x 9223372036854775808 with h | h
  · rw [rank_lo h]
    have e1 : decide ((9223372036854775808 : Int) ≤ (x : Int)) = false := by simp; omega
    have e2 : IntKind.i64.wrap (x : Int) = (x : Int) := IntWalk.i64_in _ (by omega)
    clear h hx
    go_enter Try.func22, Try.ntmps22
    go_wp2
    go_ret
    exact ⟨rfl, rfl⟩
  · rw [rank_hi hx h]
    have e1 : decide ((9223372036854775808 : Int) ≤ (x : Int)) = true := by simp; omega
    obtain ⟨y, hy⟩ : ∃ y : Nat, (x : Int) - 9223372036854775808 = (y : Int) := ⟨x - 9223372036854775808, by omega⟩
    have e3 : IntKind.u64.wrap (y : Int) = (y : Int) := by rw [wrap_u64_nat]; omega
    have e4 : IntKind.i64.wrap (y : Int) = (y : Int) := IntWalk.i64_in _ (by omega)
    have e5 : IntKind.i64.wrap (-(y : Int)) = -(y : Int) := IntWalk.i64_in _ (by omega)
    rw [hy]
    clear h hx
    go_enter Try.func22, Try.ntmps22
    go_wp2
    go_ret
    exact ⟨rfl, rfl⟩

theorem add_c {a b c : Nat} (ha : a < 18446744073709551616) (hb : b < 18446744073709551616) (h : Fl.addN a b = c) (w : World) :
    Calls Try.prog 23 #[.int .u64 (a : Int), .int .u64 (b : Int)] w fun e w' => e = .returned (.int .u64 (c : Int)) ∧ Below w.heap.size w w' := by
  rw [← h]; exact add_any a b ha hb w
theorem sub_c {a b c : Nat} (ha : a < 18446744073709551616) (hb : b < 18446744073709551616) (h : Fl.subN a b = c) (w : World) :
    Calls Try.prog 25 #[.int .u64 (a : Int), .int .u64 (b : Int)] w fun e w' => e = .returned (.int .u64 (c : Int)) ∧ Below w.heap.size w w' := by
  rw [← h]; exact sub_any a b ha hb w
theorem mul_c {a b c : Nat} (ha : a < 18446744073709551616) (hb : b < 18446744073709551616) (h : Fl.mulN a b = c) (w : World) :
    Calls Try.prog 24 #[.int .u64 (a : Int), .int .u64 (b : Int)] w fun e w' => e = .returned (.int .u64 (c : Int)) ∧ Below w.heap.size w w' := by
  rw [← h]; exact mul_any a b ha hb w

set_option maxHeartbeats 1000000 in
theorem asum_nil (w : World) : Calls Try.prog 56 #[.slice none 0 0] w fun e w' => e = .returned (.int .u64 0) ∧ w = w' := by
  go_enter Try.func56, Try.ntmps56
  go_wp2
  refine wp_loop_rounds 1 ?_
  rw [rounds_succ]
  go_wp2
  go_ret
  exact ⟨rfl, rfl⟩

set_option maxHeartbeats 1000000 in
theorem asum_1 (b x r : Nat) (h1 : ∀ w, Calls Try.prog 23 #[.int .u64 0, .int .u64 (x : Int)] w fun e w' => e = .returned (.int .u64 (r : Int)) ∧ Below w.heap.size w w')
    (w : World) (B : Blk w b 22 #[.int .u64 (x : Int)]) : Calls Try.prog 56 #[.slice (some ⟨b, 0, none⟩) 1 1] w fun e w' => e = .returned (.int .u64 (r : Int)) ∧ Below w.heap.size w w' := by
  have c0 := B.cell 0 rfl
  clear B
  go_enter Try.func56, Try.ntmps56
  go_wp2
  refine wp_loop_rounds 2 ?_
  rw [rounds_succ]
  go_wp2_with (go_at_call 23; refine (h1 _).mono ?_; rintro e w1 ⟨rfl, hb⟩)
  rw [rounds_succ]
  go_wp2
  go_ret
  exact ⟨rfl, hb⟩

set_option maxHeartbeats 1000000 in
theorem asum_3 (b x y z r1 r2 r3 : Nat) (h1 : ∀ w, Calls Try.prog 23 #[.int .u64 0, .int .u64 (x : Int)] w fun e w' => e = .returned (.int .u64 (r1 : Int)) ∧ Below w.heap.size w w')
    (h2 : ∀ w, Calls Try.prog 23 #[.int .u64 (r1 : Int), .int .u64 (y : Int)] w fun e w' => e = .returned (.int .u64 (r2 : Int)) ∧ Below w.heap.size w w')
    (h3 : ∀ w, Calls Try.prog 23 #[.int .u64 (r2 : Int), .int .u64 (z : Int)] w fun e w' => e = .returned (.int .u64 (r3 : Int)) ∧ Below w.heap.size w w')
    (w : World) (B : Blk w b 22 #[.int .u64 (x : Int), .int .u64 (y : Int), .int .u64 (z : Int)]) : Calls Try.prog 56 #[.slice (some ⟨b, 0, none⟩) 3 3] w fun e w' => e = .returned (.int .u64 (r3 : Int)) ∧ Below w.heap.size w w' := by
  have c0 := B.cell 0 rfl
  go_enter Try.func56, Try.ntmps56
  go_wp2
  refine wp_loop_rounds 4 ?_
  rw [rounds_succ]
  go_wp2_with fail
  refine (h1 _).mono ?_
  rintro e w1 ⟨rfl, hb1⟩
  replace B := B.belowS hb1
  have c1 := B.cell 1 rfl
  clear c0
  go_wp2_with fail
  rw [rounds_succ]
  go_wp2_with fail
  refine (h2 _).mono ?_
  rintro e w2 ⟨rfl, hb2⟩
  replace B := B.belowS hb2
  have c2 := B.cell 2 rfl
  clear c1
  go_wp2_with fail
  rw [rounds_succ]
  go_wp2_with fail
  refine (h3 _).mono ?_
  rintro e w3 ⟨rfl, hb3⟩
  go_wp2_with fail
  rw [rounds_succ]
  go_wp2
  go_ret
  have := hb1.size
  have := hb2.size
  exact ⟨rfl, (hb1.trans (hb2.mono (by omega))).trans (hb3.mono (by omega))⟩
end Go.Proofs.Ytaplggheadahhaa
