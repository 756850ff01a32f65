/- The walk of the law RootSmalls. -/
import Derived.Test.YtaplggheadahhaaKB
import Derived.Test.YtaplggheadahhaaD1
import Derived.Test.YtaplggheadahhaaNA
namespace Go.Proofs.Ytaplggheadahhaa
open Go.RowKit
set_option linter.unusedVariables false
set_option linter.unusedSimpArgs false

set_option maxHeartbeats 1000000 in
set_option maxRecDepth 100000 in
theorem sm_nan (a b ka kb : Nat) (m : ∀ w, Calls Try.prog 51 #[.int .u64 (a : Int), .int .u64 (b : Int)] w fun e w' => e = .returned (.int .u64 9221120237041090560) ∧ Below w.heap.size w w')
    (k1 : ∀ w, Calls Try.prog 21 #[.int .u64 (a : Int)] w fun e w' => e = .returned (.int .i64 (ka : Int)) ∧ w = w') (k2 : ∀ w, Calls Try.prog 21 #[.int .u64 (b : Int)] w fun e w' => e = .returned (.int .i64 (kb : Int)) ∧ w = w')
    (h : 3 ≤ ka ∨ (¬ 3 ≤ ka ∧ kb = 4) ∨ (¬ 3 ≤ ka ∧ kb = 0)) (w : World) :
    Calls Try.prog 17 #[.int .u64 (a : Int), .int .u64 (b : Int)] w fun e w' => e = .returned (.bool true) ∧ Below w.heap.size w w' := by
  rcases h with h | ⟨h, rfl⟩ | ⟨h, rfl⟩
  · have b1 : decide ((3 : Int) ≤ (ka : Int)) = true := decide_eq_true (by omega)
    have b2 : (3 : Int) ≤ (ka : Int) := by omega
    go_enter Try.func17, Try.ntmps17
    go_wp2_with fail
    refine (shown5 _).mono ?_
    rintro e w1 ⟨rfl, hb⟩
    have L := hb
    clear hb
    go_wp2_with fail
    refine (m _).mono ?_
    rintro e w2 ⟨rfl, hb⟩
    replace L := L.trans (hb.mono L.size)
    clear hb
    go_wp2_with fail
    refine (k1 _).mono ?_
    rintro e w' ⟨rfl, rfl⟩
    go_wp2
    go_ret
    exact ⟨rfl, L⟩
  · have b1 : decide ((3 : Int) ≤ (ka : Int)) = false := decide_eq_false (by omega)
    have b2 : ¬ (3 : Int) ≤ (ka : Int) := by omega
    go_enter Try.func17, Try.ntmps17
    go_wp2_with fail
    refine (shown5 _).mono ?_
    rintro e w1 ⟨rfl, hb⟩
    have L := hb
    clear hb
    go_wp2_with fail
    refine (m _).mono ?_
    rintro e w2 ⟨rfl, hb⟩
    replace L := L.trans (hb.mono L.size)
    clear hb
    go_wp2_with fail
    refine (k1 _).mono ?_
    rintro e w' ⟨rfl, rfl⟩
    go_wp2_with fail
    refine (k2 _).mono ?_
    rintro e w' ⟨rfl, rfl⟩
    go_wp2
    go_ret
    exact ⟨rfl, L⟩
  · have b1 : decide ((3 : Int) ≤ (ka : Int)) = false := decide_eq_false (by omega)
    have b2 : ¬ (3 : Int) ≤ (ka : Int) := by omega
    go_enter Try.func17, Try.ntmps17
    go_wp2_with fail
    refine (shown5 _).mono ?_
    rintro e w1 ⟨rfl, hb⟩
    have L := hb
    clear hb
    go_wp2_with fail
    refine (m _).mono ?_
    rintro e w2 ⟨rfl, hb⟩
    replace L := L.trans (hb.mono L.size)
    clear hb
    go_wp2_with fail
    refine (k1 _).mono ?_
    rintro e w' ⟨rfl, rfl⟩
    go_wp2_with fail
    refine (k2 _).mono ?_
    rintro e w' ⟨rfl, rfl⟩
    go_wp2_with fail
    refine (k2 _).mono ?_
    rintro e w' ⟨rfl, rfl⟩
    go_wp2
    go_ret
    exact ⟨rfl, L⟩
set_option maxHeartbeats 1000000 in
set_option maxRecDepth 100000 in
theorem sm_inf (a b : Nat) (hn : (((a : Nat) : Int) == 9221120237041090560) = false) (m : ∀ w, Calls Try.prog 51 #[.int .u64 (a : Int), .int .u64 (b : Int)] w fun e w' => e = .returned (.int .u64 (a : Int)) ∧ Below w.heap.size w w')
    (k2 : ∀ w, Calls Try.prog 21 #[.int .u64 (b : Int)] w fun e w' => e = .returned (.int .i64 3) ∧ w = w') (w : World) :
    Calls Try.prog 17 #[.int .u64 (a : Int), .int .u64 (b : Int)] w fun e w' => e = .returned (.bool true) ∧ Below w.heap.size w w' := by
  go_enter Try.func17, Try.ntmps17
  go_wp2_with fail
  refine (shown5 _).mono ?_
  rintro e w1 ⟨rfl, hb⟩
  have L := hb
  clear hb
  go_wp2_with fail
  refine (m _).mono ?_
  rintro e w2 ⟨rfl, hb⟩
  replace L := L.trans (hb.mono L.size)
  clear hb
  go_wp2_with fail
  refine (k2 _).mono ?_
  rintro e w' ⟨rfl, rfl⟩
  go_wp2
  go_ret
  exact ⟨rfl, L⟩
set_option maxHeartbeats 1000000 in
set_option maxRecDepth 100000 in
theorem sm_fin (a b r b2 kb A B R s : Nat) (hn : (((r : Nat) : Int) == 9221120237041090560) = false) (hk : ((kb : Int) == 3) = false) (m : ∀ w, Calls Try.prog 51 #[.int .u64 (a : Int), .int .u64 (b : Int)] w fun e w' => e = .returned (.int .u64 (r : Int)) ∧ Below w.heap.size w w')
    (k2 : ∀ w, Calls Try.prog 21 #[.int .u64 (b : Int)] w fun e w' => e = .returned (.int .i64 (kb : Int)) ∧ w = w')
    (er : Int.tmod (r : Int) 9223372036854775808 = (R : Int)) (ea : Int.tmod (a : Int) 9223372036854775808 = (A : Int)) (eb : Int.tmod (b : Int) 9223372036854775808 = (B : Int))
    (er' : (r : Int) % 9223372036854775808 = (R : Int)) (ea' : (a : Int) % 9223372036854775808 = (A : Int)) (eb' : (b : Int) % 9223372036854775808 = (B : Int))
    (h1 : decide ((R : Int) < (B : Int)) = true) (h1' : R < B) (h2 : decide ((R : Int) ≤ (A : Int)) = true) (h2' : R ≤ A) (h3 : IntKind.u64.wrap ((r : Int) / 9223372036854775808) = (s : Int)) (h4 : IntKind.u64.wrap ((a : Int) / 9223372036854775808) = (s : Int))
    (m2 : ∀ w, Calls Try.prog 51 #[.int .u64 (r : Int), .int .u64 (b : Int)] w fun e w' => e = .returned (.int .u64 (r : Int)) ∧ Below w.heap.size w w')
    (ex : Go.bits .xor .u64 (b : Int) 9223372036854775808 = (b2 : Int)) (m3 : ∀ w, Calls Try.prog 51 #[.int .u64 (a : Int), .int .u64 (b2 : Int)] w fun e w' => e = .returned (.int .u64 (r : Int)) ∧ Below w.heap.size w w') (w : World) :
    Calls Try.prog 17 #[.int .u64 (a : Int), .int .u64 (b : Int)] w fun e w' => e = .returned (.bool true) ∧ Below w.heap.size w w' := by
  go_enter Try.func17, Try.ntmps17
  go_wp2_with fail
  refine (shown5 _).mono ?_
  rintro e w1 ⟨rfl, hb⟩
  have L := hb
  clear hb
  go_wp2_with fail
  refine (m _).mono ?_
  rintro e w2 ⟨rfl, hb⟩
  replace L := L.trans (hb.mono L.size)
  clear hb
  go_wp2_with fail
  refine (k2 _).mono ?_
  rintro e w' ⟨rfl, rfl⟩
  go_wp2_with fail
  refine (m2 _).mono ?_
  rintro e w3 ⟨rfl, hb⟩
  replace L := L.trans (hb.mono L.size)
  clear hb
  go_wp2_with fail
  refine (m3 _).mono ?_
  rintro e w4 ⟨rfl, hb⟩
  replace L := L.trans (hb.mono L.size)
  clear hb
  go_wp2
  go_ret
  exact ⟨rfl, L⟩

/-- RootSmalls, walked -/
theorem rsmalls_walk (a b : Nat) (ha : a < 18446744073709551616) (hb : b < 18446744073709551616) (w : World) :
    Calls Try.prog 17 #[.int .u64 (a : Int), .int .u64 (b : Int)] w fun e w' => e = .returned (.bool true) ∧ Below w.heap.size w w' := by
  have m := mod_any a b ha hb
  have k1 := rkind_any a ha
  have k2 := rkind_any b hb
  have la := Fl.kd_le a
  have lb := Fl.kd_le b
  by_cases c1 : Fl.kd a = 4 ∨ Fl.kd b = 4 ∨ Fl.kd a = 3 ∨ Fl.kd b = 0
  · rw [Fl.modN_nan c1] at m
    exact sm_nan a b _ _ m k1 k2 (by omega) w
  have ka : Fl.kd a < 3 := by omega
  by_cases c2 : Fl.kd b = 3
  · rw [Fl.modN_inf ka c2] at m
    rw [c2] at k2
    have hn : a ≠ 9221120237041090560 := fun h => by have : Fl.kd a = 4 := by rw [h]; decide
                                                     omega
    exact sm_inf a b (by simp; omega) m k2 w
  have kb : Fl.kd b < 3 := by omega
  obtain ⟨h1, h2, h3, h4, h5, h6, h7⟩ := Fl.smalls ha ka kb (show Fl.kd b ≠ 0 by omega)
  have hb2 : Fl.pk (!Fl.ng b) (Fl.ab b) < 18446744073709551616 := Fl.pk_lt (Nat.le_of_lt (Fl.kd_fin kb))
  have e1 : Fl.ab (Fl.pk (!Fl.ng b) (Fl.ab b)) = Fl.ab b := Fl.ab_pk (Nat.le_of_lt (Fl.kd_fin kb))
  have kk : Fl.kd (Fl.pk (!Fl.ng b) (Fl.ab b)) = Fl.kd b := by
    generalize (!Fl.ng b) = n
    cases n
    · show Fl.kd (b % 9223372036854775808) = Fl.kd b
      unfold Fl.kd
      rw [show b % 9223372036854775808 / 4503599627370496 % 2048 = b / 4503599627370496 % 2048 by omega, show b % 9223372036854775808 % 4503599627370496 = b % 4503599627370496 by omega]
    · show Fl.kd (b % 9223372036854775808 + 9223372036854775808) = Fl.kd b
      unfold Fl.kd
      rw [show (b % 9223372036854775808 + 9223372036854775808) / 4503599627370496 % 2048 = b / 4503599627370496 % 2048 by omega, show (b % 9223372036854775808 + 9223372036854775808) % 4503599627370496 = b % 4503599627370496 by omega]
  have h8 := h5 _ kk e1
  have m3 := mod_any a _ ha hb2
  rw [h8] at m3
  have m2 := mod_any _ b h6 hb
  rw [h4] at m2
  have hN : Fl.NAN = 9221120237041090560 := rfl
  have q1 := ng_div _ h6
  have q2 := ng_div a ha
  have hs : ((Fl.modN a b : Nat) : Int) / 9223372036854775808 = (a : Int) / 9223372036854775808 := by rw [q1, q2, h3]
  unfold Fl.ab at h1 h2
  have hk3 : ¬ Fl.kd b = 3 := c2
  generalize Fl.modN a b = r at *
  refine sm_fin a b r _ (Fl.kd b) (a % 9223372036854775808) (b % 9223372036854775808) (r % 9223372036854775808) (a / 9223372036854775808) (by simp; omega) (by simp; omega) m k2
    (by rw [Int.tmod_eq_emod_of_nonneg (by omega)]; omega) (by rw [Int.tmod_eq_emod_of_nonneg (by omega)]; omega) (by rw [Int.tmod_eq_emod_of_nonneg (by omega)]; omega) (by omega) (by omega) (by omega)
    (decide_eq_true (by omega)) h1 (decide_eq_true (by omega)) h2 (by rw [hs, wrap_emod]; omega) (by rw [wrap_emod]; omega) m2 (xor_sign b hb) m3 w
end Go.Proofs.Ytaplggheadahhaa
