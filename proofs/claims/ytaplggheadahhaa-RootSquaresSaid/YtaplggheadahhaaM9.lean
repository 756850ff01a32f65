/- The walk of the law RootSquares. -/
import Derived.Test.YtaplggheadahhaaKB
import Derived.Test.YtaplggheadahhaaNC
namespace Go.Proofs.Ytaplggheadahhaa
open Go.RowKit
set_option linter.unusedVariables false
set_option linter.unusedSimpArgs false

set_option maxHeartbeats 1000000 in
set_option maxRecDepth 100000 in
theorem rsq_core (a : Nat) (n : Int) (k kk : Int) (e x y p q : Nat)
    (n1 : Int.tmod n 400 = k) (n2 : IntKind.i64.wrap (1023 + k) = (e : Int)) (n3 : IntKind.u64.wrap (e : Int) = (e : Int)) (n4 : IntKind.i64.wrap (2 * k) = kk)
    (x1 : IntKind.u64.wrap ((e : Int) * 4503599627370496) = (e : Int) * 4503599627370496) (x2 : Int.tmod (a : Int) 33554432 = (a : Int) % 33554432) (x3 : IntKind.u64.wrap ((a : Int) % 33554432 * 134217728) = (a : Int) % 33554432 * 134217728)
    (x4 : IntKind.u64.wrap ((e : Int) * 4503599627370496 + (a : Int) % 33554432 * 134217728) = (x : Int))
    (c1 : ∀ w, Calls Try.prog 24 #[.int .u64 (x : Int), .int .u64 (x : Int)] w fun e w' => e = .returned (.int .u64 (y : Int)) ∧ Below w.heap.size w w')
    (c2 : ∀ w, Calls Try.prog 47 #[.int .u64 (y : Int)] w fun e w' => e = .returned (.int .u64 (x : Int)) ∧ Below w.heap.size w w')
    (c3 : ∀ w, Calls Try.prog 45 #[.int .u64 (y : Int), .int .u64 (x : Int)] w fun e w' => e = .returned (.int .u64 (x : Int)) ∧ Below w.heap.size w w')
    (c4 : ∀ w, Calls Try.prog 53 #[.int .u64 4611686018427387904, .int .i64 kk] w fun e w' => e = .returned (.int .u64 (p : Int)) ∧ Below w.heap.size w w')
    (c5 : ∀ w, Calls Try.prog 47 #[.int .u64 (p : Int)] w fun e w' => e = .returned (.int .u64 (q : Int)) ∧ Below w.heap.size w w')
    (c6 : ∀ w, Calls Try.prog 53 #[.int .u64 4611686018427387904, .int .i64 k] w fun e w' => e = .returned (.int .u64 (q : Int)) ∧ Below w.heap.size w w')
    (w : World) : Calls Try.prog 19 #[.int .u64 (a : Int), .int .i64 n] w fun e w' => e = .returned (.bool true) ∧ Below w.heap.size w w' := by
  go_enter Try.func19, Try.ntmps19
  go_wp2_with fail
  refine (shown5 _).mono ?_
  rintro e w1 ⟨rfl, hb⟩
  have L := hb
  clear hb
  go_wp2_with fail
  refine (c1 _).mono ?_
  rintro e w2 ⟨rfl, hb⟩
  replace L := L.trans (hb.mono L.size)
  clear hb
  go_wp2_with fail
  refine (c2 _).mono ?_
  rintro e w3 ⟨rfl, hb⟩
  replace L := L.trans (hb.mono L.size)
  clear hb
  go_wp2_with fail
  refine (c3 _).mono ?_
  rintro e w4 ⟨rfl, hb⟩
  replace L := L.trans (hb.mono L.size)
  clear hb
  go_wp2_with fail
  refine (c4 _).mono ?_
  rintro e w5 ⟨rfl, hb⟩
  replace L := L.trans (hb.mono L.size)
  clear hb
  go_wp2_with fail
  refine (c5 _).mono ?_
  rintro e w6 ⟨rfl, hb⟩
  replace L := L.trans (hb.mono L.size)
  clear hb
  go_wp2_with fail
  refine (c6 _).mono ?_
  rintro e w7 ⟨rfl, hb⟩
  replace L := L.trans (hb.mono L.size)
  clear hb
  go_wp2
  go_ret
  exact ⟨rfl, L⟩
theorem wrap_in {n : Int} (h : 0 ≤ n) (h2 : n < 18446744073709551616) : IntKind.u64.wrap n = n := by
  obtain ⟨m, rfl⟩ : ∃ m : Nat, n = m := ⟨n.toNat, by omega⟩
  exact wrap_small (by omega)
theorem rsquares_walk (a : Nat) (n : Int) (ha : a < 18446744073709551616) (hn : -9223372036854775808 ≤ n ∧ n ≤ 9223372036854775807) (w : World) :
    Calls Try.prog 19 #[.int .u64 (a : Int), .int .i64 n] w fun e w' => e = .returned (.bool true) ∧ Below w.heap.size w w' := by
  obtain ⟨k, hk⟩ : ∃ k, Int.tmod n 400 = k := ⟨_, rfl⟩
  have b1 : -399 ≤ k ∧ k ≤ 399 := by
    rcases Int.lt_or_le n 0 with h | h
    · have : Int.tmod n 400 = -((-n) % 400) := by rw [← Int.tmod_eq_emod_of_nonneg (by omega), Int.neg_tmod, Int.neg_neg]
      omega
    · have : Int.tmod n 400 = n % 400 := Int.tmod_eq_emod_of_nonneg h
      omega
  obtain ⟨s1, s2, s3, s4⟩ := Fl.squares (a % 33554432) (1023 + k).toNat (by omega) (by omega) (by omega)
  obtain ⟨t1, t2⟩ := Fl.squares2 k b1.1 b1.2
  have he : (((1023 + k).toNat : Nat) : Int) = 1023 + k := by omega
  generalize (1023 + k).toNat = e at *
  have c4 := pow_any 4611686018427387904 (2 * k) (by decide) (by omega) (by omega)
  have c6 := pow_any 4611686018427387904 k (by decide) (by omega) (by omega)
  have c5 := sqrt_any _ t1
  rw [t2] at c5
  have c1 := mul_any _ _ s1 s1
  have c2 := sqrt_any _ s2
  rw [s3] at c2
  have c3 := div_any _ _ s2 s1
  rw [s4] at c3
  generalize Fl.powN 4611686018427387904 (2 * k) = p at *
  generalize Fl.powN 4611686018427387904 k = q at *
  generalize hx : e * 4503599627370496 + a % 33554432 * 134217728 = x at *
  generalize Fl.mulN x x = y at *
  exact rsq_core a n k (2 * k) e x y p q hk (by rw [IntWalk.i64_in _ (by omega)]; omega) (wrap_small (by omega)) (IntWalk.i64_in _ (by omega))
    (wrap_in (by omega) (by omega)) (Int.tmod_eq_emod_of_nonneg (by omega)) (wrap_in (by omega) (by omega)) (by rw [wrap_in (by omega) (by omega)]; omega) c1 c2 c3 c4 c5 c6 w
end Go.Proofs.Ytaplggheadahhaa
