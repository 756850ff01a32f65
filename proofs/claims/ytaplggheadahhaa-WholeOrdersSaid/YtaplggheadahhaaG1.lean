/- The walk of the law WholeOrders. -/
import Derived.Test.YtaplggheadahhaaF5
namespace Go.Proofs.Ytaplggheadahhaa
open Go.RowKit
set_option linter.unusedVariables false
set_option linter.unusedSimpArgs false

set_option maxHeartbeats 400000 in
set_option maxRecDepth 100000 in
theorem wo_none (a b c : Nat) (n m k j : Int) (one : Bool) (two : Bool)
    (h1 : ∀ w, Calls Try.prog 27 #[.int .u64 (a : Int), .int .u64 (b : Int)] w fun e w' => e = .returned (.tuple #[.int .i64 n, .bool false]) ∧ w = w') (h2 : ∀ w, Calls Try.prog 27 #[.int .u64 (b : Int), .int .u64 (a : Int)] w fun e w' => e = .returned (.tuple #[.int .i64 m, .bool false]) ∧ w = w') (h3 : ∀ w, Calls Try.prog 27 #[.int .u64 (b : Int), .int .u64 (c : Int)] w fun e w' => e = .returned (.tuple #[.int .i64 k, .bool one]) ∧ w = w') (h4 : ∀ w, Calls Try.prog 27 #[.int .u64 (a : Int), .int .u64 (c : Int)] w fun e w' => e = .returned (.tuple #[.int .i64 j, .bool two]) ∧ w = w')
    (hm : (n != -m) = false) (n1 : -1 ≤ n) (n2 : n ≤ 1) (k1 : -1 ≤ k) (k2 : k ≤ 1) (j1 : -1 ≤ j) (j2 : j ≤ 1) (m3 : -1 ≤ m) (m4 : m ≤ 1) 
    (m1 : ∀ w, Calls Try.prog 33 #[.int .u64 (a : Int), .int .u64 (b : Int)] w fun e w' => e = .returned (.int .u64 9221120237041090560) ∧ w = w') (m2 : ∀ w, Calls Try.prog 35 #[.int .u64 (a : Int), .int .u64 (b : Int)] w fun e w' => e = .returned (.int .u64 9221120237041090560) ∧ w = w')
    (w : World) : Calls Try.prog 8 #[.int .u64 (a : Int), .int .u64 (b : Int), .int .u64 (c : Int)] w fun e w' => e = .returned (.bool true) ∧ Below w.heap.size w w' := by
  go_enter Try.func8, Try.ntmps8
  go_wp2_with fail
  refine (shown6 _).mono ?_
  rintro e w1 ⟨rfl, hb⟩
  go_wp2_with fail
  refine (h1 _).mono ?_
  rintro e w' ⟨rfl, rfl⟩
  go_wp2_with fail
  refine (h2 _).mono ?_
  rintro e w' ⟨rfl, rfl⟩
  go_wp2_with fail
  refine (h3 _).mono ?_
  rintro e w' ⟨rfl, rfl⟩
  go_wp2_with fail
  refine (h4 _).mono ?_
  rintro e w' ⟨rfl, rfl⟩
  go_wp2_with fail
  refine (m1 _).mono ?_
  rintro e w' ⟨rfl, rfl⟩
  go_wp2_with fail
  refine (m2 _).mono ?_
  rintro e w' ⟨rfl, rfl⟩
  go_wp2
  go_ret
  first | exact ⟨rfl, hb⟩ | exact ⟨by simp [n1, n2], hb⟩

set_option maxHeartbeats 400000 in
set_option maxRecDepth 100000 in
theorem wo_ok1 (a b c : Nat) (n m k j : Int) (two : Bool)
    (h1 : ∀ w, Calls Try.prog 27 #[.int .u64 (a : Int), .int .u64 (b : Int)] w fun e w' => e = .returned (.tuple #[.int .i64 n, .bool true]) ∧ w = w') (h2 : ∀ w, Calls Try.prog 27 #[.int .u64 (b : Int), .int .u64 (a : Int)] w fun e w' => e = .returned (.tuple #[.int .i64 m, .bool true]) ∧ w = w') (h3 : ∀ w, Calls Try.prog 27 #[.int .u64 (b : Int), .int .u64 (c : Int)] w fun e w' => e = .returned (.tuple #[.int .i64 k, .bool false]) ∧ w = w') (h4 : ∀ w, Calls Try.prog 27 #[.int .u64 (a : Int), .int .u64 (c : Int)] w fun e w' => e = .returned (.tuple #[.int .i64 j, .bool two]) ∧ w = w')
    (hm : (n != -m) = false) (n1 : -1 ≤ n) (n2 : n ≤ 1) (k1 : -1 ≤ k) (k2 : k ≤ 1) (j1 : -1 ≤ j) (j2 : j ≤ 1) (m3 : -1 ≤ m) (m4 : m ≤ 1) 
    (m1 : ∀ w, Calls Try.prog 33 #[.int .u64 (a : Int), .int .u64 (b : Int)] w fun e w' => e = .returned (.int .u64 (a : Int)) ∧ w = w') (m2 : ∀ w, Calls Try.prog 35 #[.int .u64 (a : Int), .int .u64 (b : Int)] w fun e w' => e = .returned (.int .u64 (b : Int)) ∧ w = w')
    (w : World) : Calls Try.prog 8 #[.int .u64 (a : Int), .int .u64 (b : Int), .int .u64 (c : Int)] w fun e w' => e = .returned (.bool true) ∧ Below w.heap.size w w' := by
  go_enter Try.func8, Try.ntmps8
  go_wp2_with fail
  refine (shown6 _).mono ?_
  rintro e w1 ⟨rfl, hb⟩
  go_wp2_with fail
  refine (h1 _).mono ?_
  rintro e w' ⟨rfl, rfl⟩
  go_wp2_with fail
  refine (h2 _).mono ?_
  rintro e w' ⟨rfl, rfl⟩
  go_wp2_with fail
  refine (h3 _).mono ?_
  rintro e w' ⟨rfl, rfl⟩
  go_wp2_with fail
  refine (h4 _).mono ?_
  rintro e w' ⟨rfl, rfl⟩
  go_wp2_with fail
  refine (m1 _).mono ?_
  rintro e w' ⟨rfl, rfl⟩
  go_wp2_with fail
  refine (m2 _).mono ?_
  rintro e w' ⟨rfl, rfl⟩
  go_wp2
  go_ret
  first | exact ⟨rfl, hb⟩ | exact ⟨by simp [n1, n2], hb⟩

set_option maxHeartbeats 400000 in
set_option maxRecDepth 100000 in
theorem wo_11 (a b c : Nat) (n m k j : Int)
    (h1 : ∀ w, Calls Try.prog 27 #[.int .u64 (a : Int), .int .u64 (b : Int)] w fun e w' => e = .returned (.tuple #[.int .i64 n, .bool true]) ∧ w = w') (h2 : ∀ w, Calls Try.prog 27 #[.int .u64 (b : Int), .int .u64 (a : Int)] w fun e w' => e = .returned (.tuple #[.int .i64 m, .bool true]) ∧ w = w') (h3 : ∀ w, Calls Try.prog 27 #[.int .u64 (b : Int), .int .u64 (c : Int)] w fun e w' => e = .returned (.tuple #[.int .i64 k, .bool true]) ∧ w = w') (h4 : ∀ w, Calls Try.prog 27 #[.int .u64 (a : Int), .int .u64 (c : Int)] w fun e w' => e = .returned (.tuple #[.int .i64 j, .bool true]) ∧ w = w')
    (hm : (n != -m) = false) (n1 : -1 ≤ n) (n2 : n ≤ 1) (k1 : -1 ≤ k) (k2 : k ≤ 1) (j1 : -1 ≤ j) (j2 : j ≤ 1) (m3 : -1 ≤ m) (m4 : m ≤ 1) (g1 : decide (n ≤ 0) = false) (g4 : decide (n < 0) = false)
    (m1 : ∀ w, Calls Try.prog 33 #[.int .u64 (a : Int), .int .u64 (b : Int)] w fun e w' => e = .returned (.int .u64 (a : Int)) ∧ w = w') (m2 : ∀ w, Calls Try.prog 35 #[.int .u64 (a : Int), .int .u64 (b : Int)] w fun e w' => e = .returned (.int .u64 (b : Int)) ∧ w = w')
    (w : World) : Calls Try.prog 8 #[.int .u64 (a : Int), .int .u64 (b : Int), .int .u64 (c : Int)] w fun e w' => e = .returned (.bool true) ∧ Below w.heap.size w w' := by
  go_enter Try.func8, Try.ntmps8
  go_wp2_with fail
  refine (shown6 _).mono ?_
  rintro e w1 ⟨rfl, hb⟩
  go_wp2_with fail
  refine (h1 _).mono ?_
  rintro e w' ⟨rfl, rfl⟩
  go_wp2_with fail
  refine (h2 _).mono ?_
  rintro e w' ⟨rfl, rfl⟩
  go_wp2_with fail
  refine (h3 _).mono ?_
  rintro e w' ⟨rfl, rfl⟩
  go_wp2_with fail
  refine (h4 _).mono ?_
  rintro e w' ⟨rfl, rfl⟩
  go_wp2_with fail
  refine (m1 _).mono ?_
  rintro e w' ⟨rfl, rfl⟩
  go_wp2_with fail
  refine (m2 _).mono ?_
  rintro e w' ⟨rfl, rfl⟩
  go_wp2
  go_ret
  first | exact ⟨rfl, hb⟩ | exact ⟨by simp [n1, n2], hb⟩

set_option maxHeartbeats 400000 in
set_option maxRecDepth 100000 in
theorem wo_21 (a b c : Nat) (n m k j : Int)
    (h1 : ∀ w, Calls Try.prog 27 #[.int .u64 (a : Int), .int .u64 (b : Int)] w fun e w' => e = .returned (.tuple #[.int .i64 n, .bool true]) ∧ w = w') (h2 : ∀ w, Calls Try.prog 27 #[.int .u64 (b : Int), .int .u64 (a : Int)] w fun e w' => e = .returned (.tuple #[.int .i64 m, .bool true]) ∧ w = w') (h3 : ∀ w, Calls Try.prog 27 #[.int .u64 (b : Int), .int .u64 (c : Int)] w fun e w' => e = .returned (.tuple #[.int .i64 k, .bool true]) ∧ w = w') (h4 : ∀ w, Calls Try.prog 27 #[.int .u64 (a : Int), .int .u64 (c : Int)] w fun e w' => e = .returned (.tuple #[.int .i64 j, .bool true]) ∧ w = w')
    (hm : (n != -m) = false) (n1 : -1 ≤ n) (n2 : n ≤ 1) (k1 : -1 ≤ k) (k2 : k ≤ 1) (j1 : -1 ≤ j) (j2 : j ≤ 1) (m3 : -1 ≤ m) (m4 : m ≤ 1) (g1 : decide (n ≤ 0) = true) (g2 : decide (k ≤ 0) = false) (g4 : decide (n < 0) = false)
    (m1 : ∀ w, Calls Try.prog 33 #[.int .u64 (a : Int), .int .u64 (b : Int)] w fun e w' => e = .returned (.int .u64 (a : Int)) ∧ w = w') (m2 : ∀ w, Calls Try.prog 35 #[.int .u64 (a : Int), .int .u64 (b : Int)] w fun e w' => e = .returned (.int .u64 (b : Int)) ∧ w = w')
    (w : World) : Calls Try.prog 8 #[.int .u64 (a : Int), .int .u64 (b : Int), .int .u64 (c : Int)] w fun e w' => e = .returned (.bool true) ∧ Below w.heap.size w w' := by
  go_enter Try.func8, Try.ntmps8
  go_wp2_with fail
  refine (shown6 _).mono ?_
  rintro e w1 ⟨rfl, hb⟩
  go_wp2_with fail
  refine (h1 _).mono ?_
  rintro e w' ⟨rfl, rfl⟩
  go_wp2_with fail
  refine (h2 _).mono ?_
  rintro e w' ⟨rfl, rfl⟩
  go_wp2_with fail
  refine (h3 _).mono ?_
  rintro e w' ⟨rfl, rfl⟩
  go_wp2_with fail
  refine (h4 _).mono ?_
  rintro e w' ⟨rfl, rfl⟩
  go_wp2_with fail
  refine (m1 _).mono ?_
  rintro e w' ⟨rfl, rfl⟩
  go_wp2_with fail
  refine (m2 _).mono ?_
  rintro e w' ⟨rfl, rfl⟩
  go_wp2
  go_ret
  first | exact ⟨rfl, hb⟩ | exact ⟨by simp [n1, n2], hb⟩

set_option maxHeartbeats 400000 in
set_option maxRecDepth 100000 in
theorem wo_51 (a b c : Nat) (n m k j : Int)
    (h1 : ∀ w, Calls Try.prog 27 #[.int .u64 (a : Int), .int .u64 (b : Int)] w fun e w' => e = .returned (.tuple #[.int .i64 n, .bool true]) ∧ w = w') (h2 : ∀ w, Calls Try.prog 27 #[.int .u64 (b : Int), .int .u64 (a : Int)] w fun e w' => e = .returned (.tuple #[.int .i64 m, .bool true]) ∧ w = w') (h3 : ∀ w, Calls Try.prog 27 #[.int .u64 (b : Int), .int .u64 (c : Int)] w fun e w' => e = .returned (.tuple #[.int .i64 k, .bool true]) ∧ w = w') (h4 : ∀ w, Calls Try.prog 27 #[.int .u64 (a : Int), .int .u64 (c : Int)] w fun e w' => e = .returned (.tuple #[.int .i64 j, .bool true]) ∧ w = w')
    (hm : (n != -m) = false) (n1 : -1 ≤ n) (n2 : n ≤ 1) (k1 : -1 ≤ k) (k2 : k ≤ 1) (j1 : -1 ≤ j) (j2 : j ≤ 1) (m3 : -1 ≤ m) (m4 : m ≤ 1) (g1 : decide (n ≤ 0) = true) (g2 : decide (k ≤ 0) = false) (g4 : decide (n < 0) = true)
    (m1 : ∀ w, Calls Try.prog 33 #[.int .u64 (a : Int), .int .u64 (b : Int)] w fun e w' => e = .returned (.int .u64 (a : Int)) ∧ w = w') (m2 : ∀ w, Calls Try.prog 35 #[.int .u64 (a : Int), .int .u64 (b : Int)] w fun e w' => e = .returned (.int .u64 (b : Int)) ∧ w = w')
    (w : World) : Calls Try.prog 8 #[.int .u64 (a : Int), .int .u64 (b : Int), .int .u64 (c : Int)] w fun e w' => e = .returned (.bool true) ∧ Below w.heap.size w w' := by
  go_enter Try.func8, Try.ntmps8
  go_wp2_with fail
  refine (shown6 _).mono ?_
  rintro e w1 ⟨rfl, hb⟩
  go_wp2_with fail
  refine (h1 _).mono ?_
  rintro e w' ⟨rfl, rfl⟩
  go_wp2_with fail
  refine (h2 _).mono ?_
  rintro e w' ⟨rfl, rfl⟩
  go_wp2_with fail
  refine (h3 _).mono ?_
  rintro e w' ⟨rfl, rfl⟩
  go_wp2_with fail
  refine (h4 _).mono ?_
  rintro e w' ⟨rfl, rfl⟩
  go_wp2_with fail
  refine (m1 _).mono ?_
  rintro e w' ⟨rfl, rfl⟩
  go_wp2_with fail
  refine (m2 _).mono ?_
  rintro e w' ⟨rfl, rfl⟩
  go_wp2
  go_ret
  first | exact ⟨rfl, hb⟩ | exact ⟨by simp [n1, n2], hb⟩

set_option maxHeartbeats 400000 in
set_option maxRecDepth 100000 in
theorem wo_31 (a b c : Nat) (n m k j : Int)
    (h1 : ∀ w, Calls Try.prog 27 #[.int .u64 (a : Int), .int .u64 (b : Int)] w fun e w' => e = .returned (.tuple #[.int .i64 n, .bool true]) ∧ w = w') (h2 : ∀ w, Calls Try.prog 27 #[.int .u64 (b : Int), .int .u64 (a : Int)] w fun e w' => e = .returned (.tuple #[.int .i64 m, .bool true]) ∧ w = w') (h3 : ∀ w, Calls Try.prog 27 #[.int .u64 (b : Int), .int .u64 (c : Int)] w fun e w' => e = .returned (.tuple #[.int .i64 k, .bool true]) ∧ w = w') (h4 : ∀ w, Calls Try.prog 27 #[.int .u64 (a : Int), .int .u64 (c : Int)] w fun e w' => e = .returned (.tuple #[.int .i64 j, .bool true]) ∧ w = w')
    (hm : (n != -m) = false) (n1 : -1 ≤ n) (n2 : n ≤ 1) (k1 : -1 ≤ k) (k2 : k ≤ 1) (j1 : -1 ≤ j) (j2 : j ≤ 1) (m3 : -1 ≤ m) (m4 : m ≤ 1) (g1 : decide (n ≤ 0) = true) (g2 : decide (k ≤ 0) = true) (g3 : decide (0 < j) = false) (g4 : decide (n < 0) = false)
    (m1 : ∀ w, Calls Try.prog 33 #[.int .u64 (a : Int), .int .u64 (b : Int)] w fun e w' => e = .returned (.int .u64 (a : Int)) ∧ w = w') (m2 : ∀ w, Calls Try.prog 35 #[.int .u64 (a : Int), .int .u64 (b : Int)] w fun e w' => e = .returned (.int .u64 (b : Int)) ∧ w = w')
    (w : World) : Calls Try.prog 8 #[.int .u64 (a : Int), .int .u64 (b : Int), .int .u64 (c : Int)] w fun e w' => e = .returned (.bool true) ∧ Below w.heap.size w w' := by
  go_enter Try.func8, Try.ntmps8
  go_wp2_with fail
  refine (shown6 _).mono ?_
  rintro e w1 ⟨rfl, hb⟩
  go_wp2_with fail
  refine (h1 _).mono ?_
  rintro e w' ⟨rfl, rfl⟩
  go_wp2_with fail
  refine (h2 _).mono ?_
  rintro e w' ⟨rfl, rfl⟩
  go_wp2_with fail
  refine (h3 _).mono ?_
  rintro e w' ⟨rfl, rfl⟩
  go_wp2_with fail
  refine (h4 _).mono ?_
  rintro e w' ⟨rfl, rfl⟩
  go_wp2_with fail
  refine (m1 _).mono ?_
  rintro e w' ⟨rfl, rfl⟩
  go_wp2_with fail
  refine (m2 _).mono ?_
  rintro e w' ⟨rfl, rfl⟩
  go_wp2
  go_ret
  first | exact ⟨rfl, hb⟩ | exact ⟨by simp [n1, n2], hb⟩

set_option maxHeartbeats 400000 in
set_option maxRecDepth 100000 in
theorem wo_41 (a b c : Nat) (n m k j : Int)
    (h1 : ∀ w, Calls Try.prog 27 #[.int .u64 (a : Int), .int .u64 (b : Int)] w fun e w' => e = .returned (.tuple #[.int .i64 n, .bool true]) ∧ w = w') (h2 : ∀ w, Calls Try.prog 27 #[.int .u64 (b : Int), .int .u64 (a : Int)] w fun e w' => e = .returned (.tuple #[.int .i64 m, .bool true]) ∧ w = w') (h3 : ∀ w, Calls Try.prog 27 #[.int .u64 (b : Int), .int .u64 (c : Int)] w fun e w' => e = .returned (.tuple #[.int .i64 k, .bool true]) ∧ w = w') (h4 : ∀ w, Calls Try.prog 27 #[.int .u64 (a : Int), .int .u64 (c : Int)] w fun e w' => e = .returned (.tuple #[.int .i64 j, .bool true]) ∧ w = w')
    (hm : (n != -m) = false) (n1 : -1 ≤ n) (n2 : n ≤ 1) (k1 : -1 ≤ k) (k2 : k ≤ 1) (j1 : -1 ≤ j) (j2 : j ≤ 1) (m3 : -1 ≤ m) (m4 : m ≤ 1) (g1 : decide (n ≤ 0) = true) (g2 : decide (k ≤ 0) = true) (g3 : decide (0 < j) = false) (g4 : decide (n < 0) = true) (g5 : decide (0 ≤ j) = false)
    (m1 : ∀ w, Calls Try.prog 33 #[.int .u64 (a : Int), .int .u64 (b : Int)] w fun e w' => e = .returned (.int .u64 (a : Int)) ∧ w = w') (m2 : ∀ w, Calls Try.prog 35 #[.int .u64 (a : Int), .int .u64 (b : Int)] w fun e w' => e = .returned (.int .u64 (b : Int)) ∧ w = w')
    (w : World) : Calls Try.prog 8 #[.int .u64 (a : Int), .int .u64 (b : Int), .int .u64 (c : Int)] w fun e w' => e = .returned (.bool true) ∧ Below w.heap.size w w' := by
  go_enter Try.func8, Try.ntmps8
  go_wp2_with fail
  refine (shown6 _).mono ?_
  rintro e w1 ⟨rfl, hb⟩
  go_wp2_with fail
  refine (h1 _).mono ?_
  rintro e w' ⟨rfl, rfl⟩
  go_wp2_with fail
  refine (h2 _).mono ?_
  rintro e w' ⟨rfl, rfl⟩
  go_wp2_with fail
  refine (h3 _).mono ?_
  rintro e w' ⟨rfl, rfl⟩
  go_wp2_with fail
  refine (h4 _).mono ?_
  rintro e w' ⟨rfl, rfl⟩
  go_wp2_with fail
  refine (m1 _).mono ?_
  rintro e w' ⟨rfl, rfl⟩
  go_wp2_with fail
  refine (m2 _).mono ?_
  rintro e w' ⟨rfl, rfl⟩
  go_wp2
  go_ret
  first | exact ⟨rfl, hb⟩ | exact ⟨by simp [n1, n2], hb⟩

set_option maxHeartbeats 400000 in
set_option maxRecDepth 100000 in
theorem wo_ok2 (a b c : Nat) (n m k j : Int) (two : Bool)
    (h1 : ∀ w, Calls Try.prog 27 #[.int .u64 (a : Int), .int .u64 (b : Int)] w fun e w' => e = .returned (.tuple #[.int .i64 n, .bool true]) ∧ w = w') (h2 : ∀ w, Calls Try.prog 27 #[.int .u64 (b : Int), .int .u64 (a : Int)] w fun e w' => e = .returned (.tuple #[.int .i64 m, .bool true]) ∧ w = w') (h3 : ∀ w, Calls Try.prog 27 #[.int .u64 (b : Int), .int .u64 (c : Int)] w fun e w' => e = .returned (.tuple #[.int .i64 k, .bool false]) ∧ w = w') (h4 : ∀ w, Calls Try.prog 27 #[.int .u64 (a : Int), .int .u64 (c : Int)] w fun e w' => e = .returned (.tuple #[.int .i64 j, .bool two]) ∧ w = w')
    (hm : (n != -m) = false) (n1 : -1 ≤ n) (n2 : n ≤ 1) (k1 : -1 ≤ k) (k2 : k ≤ 1) (j1 : -1 ≤ j) (j2 : j ≤ 1) (m3 : -1 ≤ m) (m4 : m ≤ 1) 
    (m1 : ∀ w, Calls Try.prog 33 #[.int .u64 (a : Int), .int .u64 (b : Int)] w fun e w' => e = .returned (.int .u64 (b : Int)) ∧ w = w') (m2 : ∀ w, Calls Try.prog 35 #[.int .u64 (a : Int), .int .u64 (b : Int)] w fun e w' => e = .returned (.int .u64 (a : Int)) ∧ w = w') (hab : ((b : Int) == (a : Int)) = false)
    (w : World) : Calls Try.prog 8 #[.int .u64 (a : Int), .int .u64 (b : Int), .int .u64 (c : Int)] w fun e w' => e = .returned (.bool true) ∧ Below w.heap.size w w' := by
  go_enter Try.func8, Try.ntmps8
  go_wp2_with fail
  refine (shown6 _).mono ?_
  rintro e w1 ⟨rfl, hb⟩
  go_wp2_with fail
  refine (h1 _).mono ?_
  rintro e w' ⟨rfl, rfl⟩
  go_wp2_with fail
  refine (h2 _).mono ?_
  rintro e w' ⟨rfl, rfl⟩
  go_wp2_with fail
  refine (h3 _).mono ?_
  rintro e w' ⟨rfl, rfl⟩
  go_wp2_with fail
  refine (h4 _).mono ?_
  rintro e w' ⟨rfl, rfl⟩
  go_wp2_with fail
  refine (m1 _).mono ?_
  rintro e w' ⟨rfl, rfl⟩
  go_wp2_with fail
  refine (m2 _).mono ?_
  rintro e w' ⟨rfl, rfl⟩
  go_wp2
  go_ret
  first | exact ⟨rfl, hb⟩ | exact ⟨by simp [n1, n2], hb⟩

set_option maxHeartbeats 400000 in
set_option maxRecDepth 100000 in
theorem wo_12 (a b c : Nat) (n m k j : Int)
    (h1 : ∀ w, Calls Try.prog 27 #[.int .u64 (a : Int), .int .u64 (b : Int)] w fun e w' => e = .returned (.tuple #[.int .i64 n, .bool true]) ∧ w = w') (h2 : ∀ w, Calls Try.prog 27 #[.int .u64 (b : Int), .int .u64 (a : Int)] w fun e w' => e = .returned (.tuple #[.int .i64 m, .bool true]) ∧ w = w') (h3 : ∀ w, Calls Try.prog 27 #[.int .u64 (b : Int), .int .u64 (c : Int)] w fun e w' => e = .returned (.tuple #[.int .i64 k, .bool true]) ∧ w = w') (h4 : ∀ w, Calls Try.prog 27 #[.int .u64 (a : Int), .int .u64 (c : Int)] w fun e w' => e = .returned (.tuple #[.int .i64 j, .bool true]) ∧ w = w')
    (hm : (n != -m) = false) (n1 : -1 ≤ n) (n2 : n ≤ 1) (k1 : -1 ≤ k) (k2 : k ≤ 1) (j1 : -1 ≤ j) (j2 : j ≤ 1) (m3 : -1 ≤ m) (m4 : m ≤ 1) (g1 : decide (n ≤ 0) = false) (g4 : decide (n < 0) = false)
    (m1 : ∀ w, Calls Try.prog 33 #[.int .u64 (a : Int), .int .u64 (b : Int)] w fun e w' => e = .returned (.int .u64 (b : Int)) ∧ w = w') (m2 : ∀ w, Calls Try.prog 35 #[.int .u64 (a : Int), .int .u64 (b : Int)] w fun e w' => e = .returned (.int .u64 (a : Int)) ∧ w = w') (hab : ((b : Int) == (a : Int)) = false)
    (w : World) : Calls Try.prog 8 #[.int .u64 (a : Int), .int .u64 (b : Int), .int .u64 (c : Int)] w fun e w' => e = .returned (.bool true) ∧ Below w.heap.size w w' := by
  go_enter Try.func8, Try.ntmps8
  go_wp2_with fail
  refine (shown6 _).mono ?_
  rintro e w1 ⟨rfl, hb⟩
  go_wp2_with fail
  refine (h1 _).mono ?_
  rintro e w' ⟨rfl, rfl⟩
  go_wp2_with fail
  refine (h2 _).mono ?_
  rintro e w' ⟨rfl, rfl⟩
  go_wp2_with fail
  refine (h3 _).mono ?_
  rintro e w' ⟨rfl, rfl⟩
  go_wp2_with fail
  refine (h4 _).mono ?_
  rintro e w' ⟨rfl, rfl⟩
  go_wp2_with fail
  refine (m1 _).mono ?_
  rintro e w' ⟨rfl, rfl⟩
  go_wp2_with fail
  refine (m2 _).mono ?_
  rintro e w' ⟨rfl, rfl⟩
  go_wp2
  go_ret
  first | exact ⟨rfl, hb⟩ | exact ⟨by simp [n1, n2], hb⟩

set_option maxHeartbeats 400000 in
set_option maxRecDepth 100000 in
theorem wo_22 (a b c : Nat) (n m k j : Int)
    (h1 : ∀ w, Calls Try.prog 27 #[.int .u64 (a : Int), .int .u64 (b : Int)] w fun e w' => e = .returned (.tuple #[.int .i64 n, .bool true]) ∧ w = w') (h2 : ∀ w, Calls Try.prog 27 #[.int .u64 (b : Int), .int .u64 (a : Int)] w fun e w' => e = .returned (.tuple #[.int .i64 m, .bool true]) ∧ w = w') (h3 : ∀ w, Calls Try.prog 27 #[.int .u64 (b : Int), .int .u64 (c : Int)] w fun e w' => e = .returned (.tuple #[.int .i64 k, .bool true]) ∧ w = w') (h4 : ∀ w, Calls Try.prog 27 #[.int .u64 (a : Int), .int .u64 (c : Int)] w fun e w' => e = .returned (.tuple #[.int .i64 j, .bool true]) ∧ w = w')
    (hm : (n != -m) = false) (n1 : -1 ≤ n) (n2 : n ≤ 1) (k1 : -1 ≤ k) (k2 : k ≤ 1) (j1 : -1 ≤ j) (j2 : j ≤ 1) (m3 : -1 ≤ m) (m4 : m ≤ 1) (g1 : decide (n ≤ 0) = true) (g2 : decide (k ≤ 0) = false) (g4 : decide (n < 0) = false)
    (m1 : ∀ w, Calls Try.prog 33 #[.int .u64 (a : Int), .int .u64 (b : Int)] w fun e w' => e = .returned (.int .u64 (b : Int)) ∧ w = w') (m2 : ∀ w, Calls Try.prog 35 #[.int .u64 (a : Int), .int .u64 (b : Int)] w fun e w' => e = .returned (.int .u64 (a : Int)) ∧ w = w') (hab : ((b : Int) == (a : Int)) = false)
    (w : World) : Calls Try.prog 8 #[.int .u64 (a : Int), .int .u64 (b : Int), .int .u64 (c : Int)] w fun e w' => e = .returned (.bool true) ∧ Below w.heap.size w w' := by
  go_enter Try.func8, Try.ntmps8
  go_wp2_with fail
  refine (shown6 _).mono ?_
  rintro e w1 ⟨rfl, hb⟩
  go_wp2_with fail
  refine (h1 _).mono ?_
  rintro e w' ⟨rfl, rfl⟩
  go_wp2_with fail
  refine (h2 _).mono ?_
  rintro e w' ⟨rfl, rfl⟩
  go_wp2_with fail
  refine (h3 _).mono ?_
  rintro e w' ⟨rfl, rfl⟩
  go_wp2_with fail
  refine (h4 _).mono ?_
  rintro e w' ⟨rfl, rfl⟩
  go_wp2_with fail
  refine (m1 _).mono ?_
  rintro e w' ⟨rfl, rfl⟩
  go_wp2_with fail
  refine (m2 _).mono ?_
  rintro e w' ⟨rfl, rfl⟩
  go_wp2
  go_ret
  first | exact ⟨rfl, hb⟩ | exact ⟨by simp [n1, n2], hb⟩

set_option maxHeartbeats 400000 in
set_option maxRecDepth 100000 in
theorem wo_52 (a b c : Nat) (n m k j : Int)
    (h1 : ∀ w, Calls Try.prog 27 #[.int .u64 (a : Int), .int .u64 (b : Int)] w fun e w' => e = .returned (.tuple #[.int .i64 n, .bool true]) ∧ w = w') (h2 : ∀ w, Calls Try.prog 27 #[.int .u64 (b : Int), .int .u64 (a : Int)] w fun e w' => e = .returned (.tuple #[.int .i64 m, .bool true]) ∧ w = w') (h3 : ∀ w, Calls Try.prog 27 #[.int .u64 (b : Int), .int .u64 (c : Int)] w fun e w' => e = .returned (.tuple #[.int .i64 k, .bool true]) ∧ w = w') (h4 : ∀ w, Calls Try.prog 27 #[.int .u64 (a : Int), .int .u64 (c : Int)] w fun e w' => e = .returned (.tuple #[.int .i64 j, .bool true]) ∧ w = w')
    (hm : (n != -m) = false) (n1 : -1 ≤ n) (n2 : n ≤ 1) (k1 : -1 ≤ k) (k2 : k ≤ 1) (j1 : -1 ≤ j) (j2 : j ≤ 1) (m3 : -1 ≤ m) (m4 : m ≤ 1) (g1 : decide (n ≤ 0) = true) (g2 : decide (k ≤ 0) = false) (g4 : decide (n < 0) = true)
    (m1 : ∀ w, Calls Try.prog 33 #[.int .u64 (a : Int), .int .u64 (b : Int)] w fun e w' => e = .returned (.int .u64 (b : Int)) ∧ w = w') (m2 : ∀ w, Calls Try.prog 35 #[.int .u64 (a : Int), .int .u64 (b : Int)] w fun e w' => e = .returned (.int .u64 (a : Int)) ∧ w = w') (hab : ((b : Int) == (a : Int)) = false)
    (w : World) : Calls Try.prog 8 #[.int .u64 (a : Int), .int .u64 (b : Int), .int .u64 (c : Int)] w fun e w' => e = .returned (.bool true) ∧ Below w.heap.size w w' := by
  go_enter Try.func8, Try.ntmps8
  go_wp2_with fail
  refine (shown6 _).mono ?_
  rintro e w1 ⟨rfl, hb⟩
  go_wp2_with fail
  refine (h1 _).mono ?_
  rintro e w' ⟨rfl, rfl⟩
  go_wp2_with fail
  refine (h2 _).mono ?_
  rintro e w' ⟨rfl, rfl⟩
  go_wp2_with fail
  refine (h3 _).mono ?_
  rintro e w' ⟨rfl, rfl⟩
  go_wp2_with fail
  refine (h4 _).mono ?_
  rintro e w' ⟨rfl, rfl⟩
  go_wp2_with fail
  refine (m1 _).mono ?_
  rintro e w' ⟨rfl, rfl⟩
  go_wp2_with fail
  refine (m2 _).mono ?_
  rintro e w' ⟨rfl, rfl⟩
  go_wp2
  go_ret
  first | exact ⟨rfl, hb⟩ | exact ⟨by simp [n1, n2], hb⟩

set_option maxHeartbeats 400000 in
set_option maxRecDepth 100000 in
theorem wo_32 (a b c : Nat) (n m k j : Int)
    (h1 : ∀ w, Calls Try.prog 27 #[.int .u64 (a : Int), .int .u64 (b : Int)] w fun e w' => e = .returned (.tuple #[.int .i64 n, .bool true]) ∧ w = w') (h2 : ∀ w, Calls Try.prog 27 #[.int .u64 (b : Int), .int .u64 (a : Int)] w fun e w' => e = .returned (.tuple #[.int .i64 m, .bool true]) ∧ w = w') (h3 : ∀ w, Calls Try.prog 27 #[.int .u64 (b : Int), .int .u64 (c : Int)] w fun e w' => e = .returned (.tuple #[.int .i64 k, .bool true]) ∧ w = w') (h4 : ∀ w, Calls Try.prog 27 #[.int .u64 (a : Int), .int .u64 (c : Int)] w fun e w' => e = .returned (.tuple #[.int .i64 j, .bool true]) ∧ w = w')
    (hm : (n != -m) = false) (n1 : -1 ≤ n) (n2 : n ≤ 1) (k1 : -1 ≤ k) (k2 : k ≤ 1) (j1 : -1 ≤ j) (j2 : j ≤ 1) (m3 : -1 ≤ m) (m4 : m ≤ 1) (g1 : decide (n ≤ 0) = true) (g2 : decide (k ≤ 0) = true) (g3 : decide (0 < j) = false) (g4 : decide (n < 0) = false)
    (m1 : ∀ w, Calls Try.prog 33 #[.int .u64 (a : Int), .int .u64 (b : Int)] w fun e w' => e = .returned (.int .u64 (b : Int)) ∧ w = w') (m2 : ∀ w, Calls Try.prog 35 #[.int .u64 (a : Int), .int .u64 (b : Int)] w fun e w' => e = .returned (.int .u64 (a : Int)) ∧ w = w') (hab : ((b : Int) == (a : Int)) = false)
    (w : World) : Calls Try.prog 8 #[.int .u64 (a : Int), .int .u64 (b : Int), .int .u64 (c : Int)] w fun e w' => e = .returned (.bool true) ∧ Below w.heap.size w w' := by
  go_enter Try.func8, Try.ntmps8
  go_wp2_with fail
  refine (shown6 _).mono ?_
  rintro e w1 ⟨rfl, hb⟩
  go_wp2_with fail
  refine (h1 _).mono ?_
  rintro e w' ⟨rfl, rfl⟩
  go_wp2_with fail
  refine (h2 _).mono ?_
  rintro e w' ⟨rfl, rfl⟩
  go_wp2_with fail
  refine (h3 _).mono ?_
  rintro e w' ⟨rfl, rfl⟩
  go_wp2_with fail
  refine (h4 _).mono ?_
  rintro e w' ⟨rfl, rfl⟩
  go_wp2_with fail
  refine (m1 _).mono ?_
  rintro e w' ⟨rfl, rfl⟩
  go_wp2_with fail
  refine (m2 _).mono ?_
  rintro e w' ⟨rfl, rfl⟩
  go_wp2
  go_ret
  first | exact ⟨rfl, hb⟩ | exact ⟨by simp [n1, n2], hb⟩

set_option maxHeartbeats 400000 in
set_option maxRecDepth 100000 in
theorem wo_42 (a b c : Nat) (n m k j : Int)
    (h1 : ∀ w, Calls Try.prog 27 #[.int .u64 (a : Int), .int .u64 (b : Int)] w fun e w' => e = .returned (.tuple #[.int .i64 n, .bool true]) ∧ w = w') (h2 : ∀ w, Calls Try.prog 27 #[.int .u64 (b : Int), .int .u64 (a : Int)] w fun e w' => e = .returned (.tuple #[.int .i64 m, .bool true]) ∧ w = w') (h3 : ∀ w, Calls Try.prog 27 #[.int .u64 (b : Int), .int .u64 (c : Int)] w fun e w' => e = .returned (.tuple #[.int .i64 k, .bool true]) ∧ w = w') (h4 : ∀ w, Calls Try.prog 27 #[.int .u64 (a : Int), .int .u64 (c : Int)] w fun e w' => e = .returned (.tuple #[.int .i64 j, .bool true]) ∧ w = w')
    (hm : (n != -m) = false) (n1 : -1 ≤ n) (n2 : n ≤ 1) (k1 : -1 ≤ k) (k2 : k ≤ 1) (j1 : -1 ≤ j) (j2 : j ≤ 1) (m3 : -1 ≤ m) (m4 : m ≤ 1) (g1 : decide (n ≤ 0) = true) (g2 : decide (k ≤ 0) = true) (g3 : decide (0 < j) = false) (g4 : decide (n < 0) = true) (g5 : decide (0 ≤ j) = false)
    (m1 : ∀ w, Calls Try.prog 33 #[.int .u64 (a : Int), .int .u64 (b : Int)] w fun e w' => e = .returned (.int .u64 (b : Int)) ∧ w = w') (m2 : ∀ w, Calls Try.prog 35 #[.int .u64 (a : Int), .int .u64 (b : Int)] w fun e w' => e = .returned (.int .u64 (a : Int)) ∧ w = w') (hab : ((b : Int) == (a : Int)) = false)
    (w : World) : Calls Try.prog 8 #[.int .u64 (a : Int), .int .u64 (b : Int), .int .u64 (c : Int)] w fun e w' => e = .returned (.bool true) ∧ Below w.heap.size w w' := by
  go_enter Try.func8, Try.ntmps8
  go_wp2_with fail
  refine (shown6 _).mono ?_
  rintro e w1 ⟨rfl, hb⟩
  go_wp2_with fail
  refine (h1 _).mono ?_
  rintro e w' ⟨rfl, rfl⟩
  go_wp2_with fail
  refine (h2 _).mono ?_
  rintro e w' ⟨rfl, rfl⟩
  go_wp2_with fail
  refine (h3 _).mono ?_
  rintro e w' ⟨rfl, rfl⟩
  go_wp2_with fail
  refine (h4 _).mono ?_
  rintro e w' ⟨rfl, rfl⟩
  go_wp2_with fail
  refine (m1 _).mono ?_
  rintro e w' ⟨rfl, rfl⟩
  go_wp2_with fail
  refine (m2 _).mono ?_
  rintro e w' ⟨rfl, rfl⟩
  go_wp2
  go_ret
  first | exact ⟨rfl, hb⟩ | exact ⟨by simp [n1, n2], hb⟩

theorem cmpI_neg (x y : Int) : cmpI y x = -cmpI x y := by unfold cmpI; (repeat' split) <;> omega
theorem cmpN_neg (a b : Nat) : cmpN b a = -cmpN a b := by
  unfold cmpN
  by_cases h : Fl.kd a = 4 ∨ Fl.kd b = 4
  · rw [if_pos h, if_pos (by omega)]; rfl
  · rw [if_neg h, if_neg (by omega), cmpI_neg]
theorem cmpB_comm (a b : Nat) : cmpB b a = cmpB a b := by unfold cmpB; rw [decide_eq_decide]; omega
theorem cmpN_bd (a b : Nat) : -1 ≤ cmpN a b ∧ cmpN a b ≤ 1 := by
  unfold cmpN; split
  · omega
  · unfold cmpI; (repeat' split) <;> omega
theorem minmax (a b : Nat) (h : cmpB a b = true) : (minN a b = a ∧ maxN a b = b) ∨ (minN a b = b ∧ maxN a b = a) := by
  unfold minN maxN; rw [h]
  simp only [Bool.true_eq_false, if_false]
  cases hn : Fl.ng a <;> by_cases h1 : cmpN a b < 0 <;> by_cases h2 : cmpN a b = 0 <;> by_cases h3 : 0 < cmpN a b <;> simp [h1, h2, h3] <;> omega

/-- WholeOrders, walked -/
theorem worders_walk (a b c : Nat) (ha : a < 18446744073709551616) (hb : b < 18446744073709551616) (hc : c < 18446744073709551616) (w : World) :
    Calls Try.prog 8 #[.int .u64 (a : Int), .int .u64 (b : Int), .int .u64 (c : Int)] w fun e w' => e = .returned (.bool true) ∧ Below w.heap.size w w' := by
  have h1 := cmp_any a b ha hb
  have h2 := cmp_any b a hb ha
  rw [cmpN_neg a b, cmpB_comm a b] at h2
  have h3 := cmp_any b c hb hc
  have h4 := cmp_any a c ha hc
  have m1 := min_any a b ha hb
  have m2 := max_any a b ha hb
  obtain ⟨n1, n2⟩ := cmpN_bd a b
  obtain ⟨m3, m4⟩ : -1 ≤ -cmpN a b ∧ -cmpN a b ≤ 1 := ⟨by omega, by omega⟩
  have hm : (cmpN a b != -(-cmpN a b)) = false := by simp
  obtain ⟨k1, k2⟩ := cmpN_bd b c
  obtain ⟨j1, j2⟩ := cmpN_bd a c
  cases hok : cmpB a b
  · rw [hok] at h1 h2
    have e1 : minN a b = Fl.NAN := by unfold minN; rw [if_pos hok]
    have e2 : maxN a b = Fl.NAN := by unfold maxN; rw [if_pos hok]
    rw [e1] at m1
    rw [e2] at m2
    exact wo_none a b c _ _ _ _ _ _ h1 h2 h3 h4 hm n1 n2 k1 k2 j1 j2 m3 m4 m1 m2 w
  rw [hok] at h1 h2
  have hs : (minN a b = a ∧ maxN a b = b) ∨ (minN a b = b ∧ maxN a b = a ∧ (((b : Nat) : Int) == (a : Int)) = false) := by
    rcases minmax a b hok with h | h
    · exact .inl h
    · by_cases e : a = b
      · subst e; exact .inl h
      · exact .inr ⟨h.1, h.2, by simp; omega⟩
  cases hone : cmpB b c
  · rw [hone] at h3
    rcases hs with ⟨e1, e2⟩ | ⟨e1, e2, e3⟩
    · rw [e1] at m1; rw [e2] at m2
      exact wo_ok1 a b c _ _ _ _ _ h1 h2 h3 h4 hm n1 n2 k1 k2 j1 j2 m3 m4 m1 m2 w
    · rw [e1] at m1; rw [e2] at m2
      exact wo_ok2 a b c _ _ _ _ _ h1 h2 h3 h4 hm n1 n2 k1 k2 j1 j2 m3 m4 m1 m2 e3 w
  rw [hone] at h3
  have htwo : cmpB a c = true := by unfold cmpB at *; simp at *; omega
  rw [htwo] at h4
  have ga : ¬ (Fl.kd a = 4 ∨ Fl.kd b = 4) := by unfold cmpB at hok; simpa using hok
  have gb : ¬ (Fl.kd b = 4 ∨ Fl.kd c = 4) := by unfold cmpB at hone; simpa using hone
  have gc : ¬ (Fl.kd a = 4 ∨ Fl.kd c = 4) := by unfold cmpB at htwo; simpa using htwo
  have t : (cmpN a b ≤ 0 → cmpN b c ≤ 0 → cmpN a c ≤ 0) ∧ (cmpN a b < 0 → cmpN b c ≤ 0 → cmpN a c < 0) := by
    unfold cmpN; rw [if_neg ga, if_neg gb, if_neg gc]; unfold cmpI
    constructor <;> ((repeat' split) <;> omega)
  generalize cmpN a b = n at *
  generalize cmpN b c = k at *
  generalize cmpN a c = j at *
  rcases hs with ⟨e1, e2⟩ | ⟨e1, e2, e3⟩
  · rw [e1] at m1; rw [e2] at m2
    by_cases f1 : 0 < n
    · exact wo_11 a b c _ _ _ _ h1 h2 h3 h4 hm n1 n2 k1 k2 j1 j2 m3 m4 (by simp; omega) (by simp; omega) m1 m2 w
    by_cases f3 : n < 0
    · by_cases f2 : 0 < k
      · exact wo_51 a b c _ _ _ _ h1 h2 h3 h4 hm n1 n2 k1 k2 j1 j2 m3 m4 (by simp; omega) (by simp; omega) (by simp; omega) m1 m2 w
      · have := t.2 f3 (by omega)
        exact wo_41 a b c _ _ _ _ h1 h2 h3 h4 hm n1 n2 k1 k2 j1 j2 m3 m4 (by simp; omega) (by simp; omega) (by simp; omega) (by simp; omega) (by simp; omega) m1 m2 w
    · by_cases f2 : 0 < k
      · exact wo_21 a b c _ _ _ _ h1 h2 h3 h4 hm n1 n2 k1 k2 j1 j2 m3 m4 (by simp; omega) (by simp; omega) (by simp; omega) m1 m2 w
      · have := t.1 (by omega) (by omega)
        exact wo_31 a b c _ _ _ _ h1 h2 h3 h4 hm n1 n2 k1 k2 j1 j2 m3 m4 (by simp; omega) (by simp; omega) (by simp; omega) (by simp; omega) m1 m2 w
  · rw [e1] at m1; rw [e2] at m2
    by_cases f1 : 0 < n
    · exact wo_12 a b c _ _ _ _ h1 h2 h3 h4 hm n1 n2 k1 k2 j1 j2 m3 m4 (by simp; omega) (by simp; omega) m1 m2 e3 w
    by_cases f3 : n < 0
    · by_cases f2 : 0 < k
      · exact wo_52 a b c _ _ _ _ h1 h2 h3 h4 hm n1 n2 k1 k2 j1 j2 m3 m4 (by simp; omega) (by simp; omega) (by simp; omega) m1 m2 e3 w
      · have := t.2 f3 (by omega)
        exact wo_42 a b c _ _ _ _ h1 h2 h3 h4 hm n1 n2 k1 k2 j1 j2 m3 m4 (by simp; omega) (by simp; omega) (by simp; omega) (by simp; omega) (by simp; omega) m1 m2 e3 w
    · by_cases f2 : 0 < k
      · exact wo_22 a b c _ _ _ _ h1 h2 h3 h4 hm n1 n2 k1 k2 j1 j2 m3 m4 (by simp; omega) (by simp; omega) (by simp; omega) m1 m2 e3 w
      · have := t.1 (by omega) (by omega)
        exact wo_32 a b c _ _ _ _ h1 h2 h3 h4 hm n1 n2 k1 k2 j1 j2 m3 m4 (by simp; omega) (by simp; omega) (by simp; omega) (by simp; omega) m1 m2 e3 w
end Go.Proofs.Ytaplggheadahhaa
