/- The walk of the law ArithExact. -/
import Derived.Test.YtaplggheadahhaaD2
namespace Go.Proofs.Ytaplggheadahhaa
open Go.RowKit
set_option linter.unusedVariables false
set_option linter.unusedSimpArgs false

set_option maxHeartbeats 4000000 in
set_option maxRecDepth 100000 in
theorem exact_ns1 (a b A B k : Nat)
    (e1 : (a : Int) % 9223372036854775808 = (A : Int)) (e2 : (b : Int) % 9223372036854775808 = (B : Int))
    (hs : ¬ B < A)
    (k1 : ∀ w, Calls Try.prog 21 #[.int .u64 (B : Int)] w fun e w' => e = .returned (.int .i64 (k : Int)) ∧ w = w')
    (hk : (3 : Int) ≤ (k : Int)) (hk2 : decide (3 ≤ k) = true)
    (w : World) : Calls Try.prog 4 #[.int .u64 (a : Int), .int .u64 (b : Int)] w fun e w' => e = .returned (.bool true) ∧ Below w.heap.size w w' := by
  go_enter Try.func4, Try.ntmps4
  go_wp2_with fail
  refine (shown4 _).mono ?_
  rintro e w1 ⟨rfl, hb⟩
  have L := hb
  clear hb
  go_wp2_with fail
  refine (k1 _).mono ?_
  rintro e w' ⟨rfl, rfl⟩
  go_wp2
  go_ret
  exact ⟨rfl, L⟩

set_option maxHeartbeats 4000000 in
set_option maxRecDepth 100000 in
theorem exact_ns2 (a b A B k X : Nat)
    (e1 : (a : Int) % 9223372036854775808 = (A : Int)) (e2 : (b : Int) % 9223372036854775808 = (B : Int))
    (hs : ¬ B < A)
    (k1 : ∀ w, Calls Try.prog 21 #[.int .u64 (B : Int)] w fun e w' => e = .returned (.int .i64 (k : Int)) ∧ w = w')
    (hk : ¬ (3 : Int) ≤ (k : Int)) (hk2 : decide (3 ≤ k) = false) (a1 : ∀ w, Calls Try.prog 23 #[.int .u64 (A : Int), .int .u64 (A : Int)] w fun e w' => e = .returned (.int .u64 (X : Int)) ∧ Below w.heap.size w w')
    (hx : (X : Int) < (B : Int)) (hx2 : decide (X < B) = true)
    (w : World) : Calls Try.prog 4 #[.int .u64 (a : Int), .int .u64 (b : Int)] w fun e w' => e = .returned (.bool true) ∧ Below w.heap.size w w' := by
  go_enter Try.func4, Try.ntmps4
  go_wp2_with fail
  refine (shown4 _).mono ?_
  rintro e w1 ⟨rfl, hb⟩
  have L := hb
  clear hb
  go_wp2_with fail
  refine (k1 _).mono ?_
  rintro e w' ⟨rfl, rfl⟩
  go_wp2_with fail
  refine (a1 _).mono ?_
  rintro e w2 ⟨rfl, hb⟩
  replace L := L.trans (hb.mono L.size)
  clear hb
  go_wp2
  go_ret
  exact ⟨rfl, L⟩

set_option maxHeartbeats 4000000 in
set_option maxRecDepth 100000 in
theorem exact_ns3 (a b A B k X D : Nat)
    (e1 : (a : Int) % 9223372036854775808 = (A : Int)) (e2 : (b : Int) % 9223372036854775808 = (B : Int))
    (hs : ¬ B < A)
    (k1 : ∀ w, Calls Try.prog 21 #[.int .u64 (B : Int)] w fun e w' => e = .returned (.int .i64 (k : Int)) ∧ w = w')
    (hk : ¬ (3 : Int) ≤ (k : Int)) (hk2 : decide (3 ≤ k) = false) (a1 : ∀ w, Calls Try.prog 23 #[.int .u64 (A : Int), .int .u64 (A : Int)] w fun e w' => e = .returned (.int .u64 (X : Int)) ∧ Below w.heap.size w w')
    (hx : ¬ (X : Int) < (B : Int)) (hx2 : decide (X < B) = false) (a2 : ∀ w, Calls Try.prog 25 #[.int .u64 (B : Int), .int .u64 (A : Int)] w fun e w' => e = .returned (.int .u64 (D : Int)) ∧ Below w.heap.size w w') (a3 : ∀ w, Calls Try.prog 23 #[.int .u64 (A : Int), .int .u64 (D : Int)] w fun e w' => e = .returned (.int .u64 (B : Int)) ∧ Below w.heap.size w w') (a4 : ∀ w, Calls Try.prog 25 #[.int .u64 (B : Int), .int .u64 (D : Int)] w fun e w' => e = .returned (.int .u64 (A : Int)) ∧ Below w.heap.size w w') (hd : (D : Int) ≤ (A : Int))
    (w : World) : Calls Try.prog 4 #[.int .u64 (a : Int), .int .u64 (b : Int)] w fun e w' => e = .returned (.bool true) ∧ Below w.heap.size w w' := by
  go_enter Try.func4, Try.ntmps4
  go_wp2_with fail
  refine (shown4 _).mono ?_
  rintro e w1 ⟨rfl, hb⟩
  have L := hb
  clear hb
  go_wp2_with fail
  refine (k1 _).mono ?_
  rintro e w' ⟨rfl, rfl⟩
  go_wp2_with fail
  refine (a1 _).mono ?_
  rintro e w2 ⟨rfl, hb⟩
  replace L := L.trans (hb.mono L.size)
  clear hb
  go_wp2_with fail
  refine (a2 _).mono ?_
  rintro e w3 ⟨rfl, hb⟩
  replace L := L.trans (hb.mono L.size)
  clear hb
  go_wp2_with fail
  refine (a3 _).mono ?_
  rintro e w4 ⟨rfl, hb⟩
  replace L := L.trans (hb.mono L.size)
  clear hb
  go_wp2_with fail
  refine (a4 _).mono ?_
  rintro e w5 ⟨rfl, hb⟩
  replace L := L.trans (hb.mono L.size)
  clear hb
  go_wp2
  go_ret
  exact ⟨by simp [hd], L⟩

set_option maxHeartbeats 4000000 in
set_option maxRecDepth 100000 in
theorem exact_sw1 (a b A B k : Nat)
    (e1 : (a : Int) % 9223372036854775808 = (B : Int)) (e2 : (b : Int) % 9223372036854775808 = (A : Int))
    (hs : A < B)
    (k1 : ∀ w, Calls Try.prog 21 #[.int .u64 (B : Int)] w fun e w' => e = .returned (.int .i64 (k : Int)) ∧ w = w')
    (hk : (3 : Int) ≤ (k : Int)) (hk2 : decide (3 ≤ k) = true)
    (w : World) : Calls Try.prog 4 #[.int .u64 (a : Int), .int .u64 (b : Int)] w fun e w' => e = .returned (.bool true) ∧ Below w.heap.size w w' := by
  go_enter Try.func4, Try.ntmps4
  go_wp2_with fail
  refine (shown4 _).mono ?_
  rintro e w1 ⟨rfl, hb⟩
  have L := hb
  clear hb
  go_wp2_with fail
  refine (k1 _).mono ?_
  rintro e w' ⟨rfl, rfl⟩
  go_wp2
  go_ret
  exact ⟨rfl, L⟩

set_option maxHeartbeats 4000000 in
set_option maxRecDepth 100000 in
theorem exact_sw2 (a b A B k X : Nat)
    (e1 : (a : Int) % 9223372036854775808 = (B : Int)) (e2 : (b : Int) % 9223372036854775808 = (A : Int))
    (hs : A < B)
    (k1 : ∀ w, Calls Try.prog 21 #[.int .u64 (B : Int)] w fun e w' => e = .returned (.int .i64 (k : Int)) ∧ w = w')
    (hk : ¬ (3 : Int) ≤ (k : Int)) (hk2 : decide (3 ≤ k) = false) (a1 : ∀ w, Calls Try.prog 23 #[.int .u64 (A : Int), .int .u64 (A : Int)] w fun e w' => e = .returned (.int .u64 (X : Int)) ∧ Below w.heap.size w w')
    (hx : (X : Int) < (B : Int)) (hx2 : decide (X < B) = true)
    (w : World) : Calls Try.prog 4 #[.int .u64 (a : Int), .int .u64 (b : Int)] w fun e w' => e = .returned (.bool true) ∧ Below w.heap.size w w' := by
  go_enter Try.func4, Try.ntmps4
  go_wp2_with fail
  refine (shown4 _).mono ?_
  rintro e w1 ⟨rfl, hb⟩
  have L := hb
  clear hb
  go_wp2_with fail
  refine (k1 _).mono ?_
  rintro e w' ⟨rfl, rfl⟩
  go_wp2_with fail
  refine (a1 _).mono ?_
  rintro e w2 ⟨rfl, hb⟩
  replace L := L.trans (hb.mono L.size)
  clear hb
  go_wp2
  go_ret
  exact ⟨rfl, L⟩

set_option maxHeartbeats 4000000 in
set_option maxRecDepth 100000 in
theorem exact_sw3 (a b A B k X D : Nat)
    (e1 : (a : Int) % 9223372036854775808 = (B : Int)) (e2 : (b : Int) % 9223372036854775808 = (A : Int))
    (hs : A < B)
    (k1 : ∀ w, Calls Try.prog 21 #[.int .u64 (B : Int)] w fun e w' => e = .returned (.int .i64 (k : Int)) ∧ w = w')
    (hk : ¬ (3 : Int) ≤ (k : Int)) (hk2 : decide (3 ≤ k) = false) (a1 : ∀ w, Calls Try.prog 23 #[.int .u64 (A : Int), .int .u64 (A : Int)] w fun e w' => e = .returned (.int .u64 (X : Int)) ∧ Below w.heap.size w w')
    (hx : ¬ (X : Int) < (B : Int)) (hx2 : decide (X < B) = false) (a2 : ∀ w, Calls Try.prog 25 #[.int .u64 (B : Int), .int .u64 (A : Int)] w fun e w' => e = .returned (.int .u64 (D : Int)) ∧ Below w.heap.size w w') (a3 : ∀ w, Calls Try.prog 23 #[.int .u64 (A : Int), .int .u64 (D : Int)] w fun e w' => e = .returned (.int .u64 (B : Int)) ∧ Below w.heap.size w w') (a4 : ∀ w, Calls Try.prog 25 #[.int .u64 (B : Int), .int .u64 (D : Int)] w fun e w' => e = .returned (.int .u64 (A : Int)) ∧ Below w.heap.size w w') (hd : (D : Int) ≤ (A : Int))
    (w : World) : Calls Try.prog 4 #[.int .u64 (a : Int), .int .u64 (b : Int)] w fun e w' => e = .returned (.bool true) ∧ Below w.heap.size w w' := by
  go_enter Try.func4, Try.ntmps4
  go_wp2_with fail
  refine (shown4 _).mono ?_
  rintro e w1 ⟨rfl, hb⟩
  have L := hb
  clear hb
  go_wp2_with fail
  refine (k1 _).mono ?_
  rintro e w' ⟨rfl, rfl⟩
  go_wp2_with fail
  refine (a1 _).mono ?_
  rintro e w2 ⟨rfl, hb⟩
  replace L := L.trans (hb.mono L.size)
  clear hb
  go_wp2_with fail
  refine (a2 _).mono ?_
  rintro e w3 ⟨rfl, hb⟩
  replace L := L.trans (hb.mono L.size)
  clear hb
  go_wp2_with fail
  refine (a3 _).mono ?_
  rintro e w4 ⟨rfl, hb⟩
  replace L := L.trans (hb.mono L.size)
  clear hb
  go_wp2_with fail
  refine (a4 _).mono ?_
  rintro e w5 ⟨rfl, hb⟩
  replace L := L.trans (hb.mono L.size)
  clear hb
  go_wp2
  go_ret
  exact ⟨by simp [hd], L⟩

theorem exact_of {A B : Nat} (hA : A < 9223372036854775808) (hB : B < 9223372036854775808) (hAB : A ≤ B) (hk : ¬ 3 ≤ Fl.kd B) (hx : ¬ Fl.addN A A < B) :
    Fl.addN A (Fl.subN B A) = B ∧ Fl.subN B (Fl.subN B A) = A ∧ Fl.subN B A ≤ A := by
  have hB' : B < Fl.INF := by have := Fl.kd_fin (x := B) (by omega); rwa [Fl.ab_of_lt hB] at this
  exact Fl.exact_law hAB hB' (by omega)
/-- ArithExact, walked -/
theorem exact_walk (a b : Nat) (ha : a < 18446744073709551616) (hb : b < 18446744073709551616) (w : World) :
    Calls Try.prog 4 #[.int .u64 (a : Int), .int .u64 (b : Int)] w fun e w' => e = .returned (.bool true) ∧ Below w.heap.size w w' := by
  have hA : Fl.ab a < 9223372036854775808 := Nat.mod_lt _ (by decide)
  have hB : Fl.ab b < 9223372036854775808 := Nat.mod_lt _ (by decide)
  have e1 : (a : Int) % 9223372036854775808 = ((Fl.ab a : Nat) : Int) := by unfold Fl.ab; omega
  have e2 : (b : Int) % 9223372036854775808 = ((Fl.ab b : Nat) : Int) := by unfold Fl.ab; omega
  generalize Fl.ab a = A at *
  generalize Fl.ab b = B at *
  by_cases hs : B < A
  rotate_left
  · have k1 := rkind_any B (by omega)
    have a1 := add_any A A (by omega) (by omega)
    by_cases hk : 3 ≤ Fl.kd B
    · exact exact_ns1 a b A B _ e1 e2 hs k1 (by omega) (decide_eq_true hk) w
    by_cases hx : Fl.addN A A < B
    · exact exact_ns2 a b A B _ _ e1 e2 hs k1 (by omega) (decide_eq_false hk) a1 (by omega) (decide_eq_true hx) w
    obtain ⟨p1, p2, p3⟩ := exact_of hA hB (by omega) hk hx
    have a2 := sub_any B A (by omega) (by omega)
    have a3 := add_any A (Fl.subN B A) (by omega) (by omega)
    have a4 := sub_any B (Fl.subN B A) (by omega) (by omega)
    rw [p1] at a3
    rw [p2] at a4
    exact exact_ns3 a b A B _ _ _ e1 e2 hs k1 (by omega) (decide_eq_false hk) a1 (by omega) (decide_eq_false hx) a2 a3 a4 (by omega) w
  · have k1 := rkind_any A (by omega)
    have a1 := add_any B B (by omega) (by omega)
    by_cases hk : 3 ≤ Fl.kd A
    · exact exact_sw1 a b B A _ e1 e2 hs k1 (by omega) (decide_eq_true hk) w
    by_cases hx : Fl.addN B B < A
    · exact exact_sw2 a b B A _ _ e1 e2 hs k1 (by omega) (decide_eq_false hk) a1 (by omega) (decide_eq_true hx) w
    obtain ⟨p1, p2, p3⟩ := exact_of hB hA (by omega) hk hx
    have a2 := sub_any A B (by omega) (by omega)
    have a3 := add_any B (Fl.subN A B) (by omega) (by omega)
    have a4 := sub_any A (Fl.subN A B) (by omega) (by omega)
    rw [p1] at a3
    rw [p2] at a4
    exact exact_sw3 a b B A _ _ _ e1 e2 hs k1 (by omega) (decide_eq_false hk) a1 (by omega) (decide_eq_false hx) a2 a3 a4 (by omega) w
end Go.Proofs.Ytaplggheadahhaa
