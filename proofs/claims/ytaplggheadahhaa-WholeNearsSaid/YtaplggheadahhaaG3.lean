/- The walk of the law WholeNears. -/
import Derived.Test.YtaplggheadahhaaF5
import Derived.Test.YtaplggheadahhaaN4
import Derived.Test.YtaplggheadahhaaD1
namespace Go.Proofs.Ytaplggheadahhaa
open Go.RowKit
set_option linter.unusedVariables false
set_option linter.unusedSimpArgs false

def rightN (x : Nat) : Nat := if Fl.kd x = 4 then Fl.NAN else x
set_option maxHeartbeats 400000 in
theorem right_any (x : Nat) (hx : x < 18446744073709551616) (w : World) :
    Calls Try.prog 43 #[.int .u64 (x : Int)] w fun e w' => e = .returned (.int .u64 ((rightN x : Nat) : Int)) ∧ w = w' := by
  have k := rkind_any x hx
  unfold rightN
  by_cases h : Fl.kd x = 4
  · rw [if_pos h, show ((Fl.NAN : Nat) : Int) = 9221120237041090560 from rfl]; rw [h] at k; clear h
    go_enter Try.func43, Try.ntmps43
    go_wp2_with (go_at_call 21; refine (k _).mono ?_; rintro e w' ⟨rfl, rfl⟩)
    go_ret
    exact ⟨rfl, rfl⟩
  · rw [if_neg h]
    have h2 : (((Fl.kd x : Nat) : Int) == 4) = false := by simp; omega
    generalize Fl.kd x = K at *
    clear h
    go_enter Try.func43, Try.ntmps43
    go_wp2_with (go_at_call 21; refine (k _).mono ?_; rintro e w' ⟨rfl, rfl⟩)
    go_ret
    exact ⟨rfl, rfl⟩

set_option maxHeartbeats 400000 in
set_option maxRecDepth 100000 in
theorem wn_none (x y K : Nat) (hK : (3 : Int) ≤ (K : Int)) (k : ∀ w, Calls Try.prog 21 #[.int .u64 (x : Int)] w fun e w' => e = .returned (.int .i64 (K : Int)) ∧ w = w') (h1 : ∀ w, Calls Try.prog 37 #[.int .u64 (x : Int), .int .i64 0] w fun e w' => e = .returned (.tuple #[.int .u64 (y : Int), .int .i64 0]) ∧ Below w.heap.size w w')
    (h2 : ∀ w, Calls Try.prog 43 #[.int .u64 (x : Int)] w fun e w' => e = .returned (.int .u64 (y : Int)) ∧ w = w') (h3 : ∀ w, Calls Try.prog 31 #[.int .u64 (x : Int)] w fun e w' => e = .returned (.bool false) ∧ Below w.heap.size w w') (w : World) :
    Calls Try.prog 10 #[.int .u64 (x : Int)] w fun e w' => e = .returned (.bool true) ∧ Below w.heap.size w w' := by
  go_enter Try.func10, Try.ntmps10
  go_wp2_with fail
  refine (shown6 _).mono ?_
  rintro e w1 ⟨rfl, hb⟩
  have L := hb
  clear hb
  go_wp2_with fail
  refine (k _).mono ?_
  rintro e w' ⟨rfl, rfl⟩
  go_wp2_with fail
  refine (h1 _).mono ?_
  rintro e w2 ⟨rfl, hb⟩
  replace L := L.trans (hb.mono L.size)
  clear hb
  go_wp2_with fail
  refine (h2 _).mono ?_
  rintro e w' ⟨rfl, rfl⟩
  go_wp2_with fail
  refine (h3 _).mono ?_
  rintro e w3 ⟨rfl, hb⟩
  replace L := L.trans (hb.mono L.size)
  clear hb
  go_wp2
  go_ret
  exact ⟨rfl, L⟩

set_option maxHeartbeats 1000000 in
set_option maxRecDepth 100000 in
theorem wn_A (x xf K : Nat) (Y : Nat → Nat) (n m : Int)
    (hK : ¬ (3 : Int) ≤ (K : Int)) (k : ∀ w, Calls Try.prog 21 #[.int .u64 (x : Int)] w fun e w' => e = .returned (.int .i64 (K : Int)) ∧ w = w') (h1 : ∀ w, Calls Try.prog 37 #[.int .u64 (x : Int), .int .i64 4] w fun e w' => e = .returned (.tuple #[.int .u64 (x : Int), .int .i64 0]) ∧ Below w.heap.size w w') (h2 : ∀ w, Calls Try.prog 37 #[.int .u64 (x : Int), .int .i64 5] w fun e w' => e = .returned (.tuple #[.int .u64 (x : Int), .int .i64 0]) ∧ Below w.heap.size w w') (h3 : ∀ w, Calls Try.prog 31 #[.int .u64 (x : Int)] w fun e w' => e = .returned (.bool true) ∧ Below w.heap.size w w')
    (g1 : ∀ i : Nat, i < 6 → ∀ w, Calls Try.prog 37 #[.int .u64 (x : Int), .int .i64 (i : Int)] w fun e w' => e = .returned (.tuple #[.int .u64 ((Y i : Nat) : Int), .int .i64 0]) ∧ Below w.heap.size w w')
    (g2 : ∀ i : Nat, i < 6 → ∀ w, Calls Try.prog 37 #[.int .u64 ((Y i : Nat) : Int), .int .i64 (5 - (i : Int))] w fun e w' => e = .returned (.tuple #[.int .u64 ((Y i : Nat) : Int), .int .i64 0]) ∧ Below w.heap.size w w')
    (g3 : ∀ i : Nat, i < 6 → ∀ w, Calls Try.prog 31 #[.int .u64 ((Y i : Nat) : Int)] w fun e w' => e = .returned (.bool true) ∧ Below w.heap.size w w')
    (g4 : ∀ i : Nat, i < 6 → Y i = x ∨ Y i = x)
    (g5 : ∀ i : Nat, i < 6 → (IntKind.u64.wrap (((Y i : Nat) : Int) / 9223372036854775808) != IntKind.u64.wrap ((x : Int) / 9223372036854775808)) = false)
    (c1 : ∀ w, Calls Try.prog 27 #[.int .u64 (x : Int), .int .u64 (x : Int)] w fun e w' => e = .returned (.tuple #[.int .i64 n, .bool true]) ∧ w = w') (c2 : ∀ w, Calls Try.prog 27 #[.int .u64 (x : Int), .int .u64 (x : Int)] w fun e w' => e = .returned (.tuple #[.int .i64 m, .bool true]) ∧ w = w') (n1 : decide (0 < n) = false) (m1 : decide (0 < m) = false)
    (e1 : Go.bits .xor .u64 (x : Int) 9223372036854775808 = (xf : Int)) (h4 : ∀ w, Calls Try.prog 37 #[.int .u64 (xf : Int), .int .i64 4] w fun e w' => e = .returned (.tuple #[.int .u64 (xf : Int), .int .i64 0]) ∧ Below w.heap.size w w')
    (w : World) : Calls Try.prog 10 #[.int .u64 (x : Int)] w fun e w' => e = .returned (.bool true) ∧ Below w.heap.size w w' := by
  have q3 : ∀ i : Nat, i < 6 → ((((Y i : Nat) : Int)) != (x : Int)) = false := fun i hi => by
    rcases g4 i hi with h | h <;> (rw [h]; simp)
  have G1 := Lib.hid g1; clear g1
  have G2 := Lib.hid g2; clear g2
  have G3 := Lib.hid g3; clear g3
  have G5 := Lib.hid g5; clear g5
  have Q3 := Lib.hid q3; clear q3 g4
  go_enter Try.func10, Try.ntmps10
  go_wp2_with fail
  refine (shown6 _).mono ?_
  rintro e w1 ⟨rfl, hb⟩
  have L := hb
  clear hb
  go_wp2_with fail
  refine (k _).mono ?_
  rintro e w' ⟨rfl, rfl⟩
  go_wp2_with fail
  refine (h1 _).mono ?_
  rintro e w2 ⟨rfl, hb⟩
  replace L := L.trans (hb.mono L.size)
  clear hb
  go_wp2_with fail
  refine (h2 _).mono ?_
  rintro e w3 ⟨rfl, hb⟩
  replace L := L.trans (hb.mono L.size)
  clear hb
  go_wp2_with fail
  refine (h3 _).mono ?_
  rintro e w4 ⟨rfl, hb⟩
  replace L := L.trans (hb.mono L.size)
  clear hb
  go_wp2_with fail
  go_loopw [10] (fun v wr => ∃ k : Nat, k ≤ 6 ∧ v = .int .i64 (k : Int) ∧ Below w.heap.size w wr) (fun v _ => 6 - (intOf v).toNat)
  case atStart => exact ⟨0, by omega, rfl, L⟩
  case round =>
    obtain ⟨j, hj, rfl, LR⟩ := hrel
    by_cases hlt : j < 6
    · have r1 := G1.out j hlt
      have r2 := G2.out j hlt
      have r3 := G3.out j hlt
      have r5 := G5.out j hlt
      have r4 := Q3.out j hlt
      generalize Y j = y at *
      all_goals
        go_wp2_with fail
        refine (r1 _).mono ?_
        rintro e v1 ⟨rfl, hb⟩
        replace LR := LR.trans (hb.mono LR.size)
        clear hb
        go_wp2_with fail
        refine (r2 _).mono ?_
        rintro e v2 ⟨rfl, hb⟩
        replace LR := LR.trans (hb.mono LR.size)
        clear hb
        go_wp2_with fail
        refine (r3 _).mono ?_
        rintro e v3 ⟨rfl, hb⟩
        replace LR := LR.trans (hb.mono LR.size)
        clear hb
        go_wp2
        exact ⟨⟨j + 1, by omega, by go_num, LR⟩, by simp [intOf]; omega⟩
    · have hj6 : (6 : Int) ≤ (j : Int) := by omega
      go_wp2_with fail
      refine (c1 _).mono ?_
      rintro e w' ⟨rfl, rfl⟩
      go_wp2_with fail
      refine (c2 _).mono ?_
      rintro e w' ⟨rfl, rfl⟩
      go_wp2_with fail
      refine (h3 _).mono ?_
      rintro e w5 ⟨rfl, hb⟩
      replace LR := LR.trans (hb.mono LR.size)
      clear hb
      go_wp2_with fail
      refine (h4 _).mono ?_
      rintro e w7 ⟨rfl, hb⟩
      replace LR := LR.trans (hb.mono LR.size)
      clear hb
      go_wp2
      go_ret
      exact ⟨rfl, LR⟩

set_option maxHeartbeats 1000000 in
set_option maxRecDepth 100000 in
theorem wn_B1 (x xf hf K lo hi : Nat) (Y : Nat → Nat) (n m : Int)
    (hK : ¬ (3 : Int) ≤ (K : Int)) (k : ∀ w, Calls Try.prog 21 #[.int .u64 (x : Int)] w fun e w' => e = .returned (.int .i64 (K : Int)) ∧ w = w') (h1 : ∀ w, Calls Try.prog 37 #[.int .u64 (x : Int), .int .i64 4] w fun e w' => e = .returned (.tuple #[.int .u64 (lo : Int), .int .i64 0]) ∧ Below w.heap.size w w') (h2 : ∀ w, Calls Try.prog 37 #[.int .u64 (x : Int), .int .i64 5] w fun e w' => e = .returned (.tuple #[.int .u64 (hi : Int), .int .i64 0]) ∧ Below w.heap.size w w') (h3 : ∀ w, Calls Try.prog 31 #[.int .u64 (x : Int)] w fun e w' => e = .returned (.bool false) ∧ Below w.heap.size w w')
    (q1 : ((lo : Int) == (x : Int)) = false)
    (g1 : ∀ i : Nat, i < 6 → ∀ w, Calls Try.prog 37 #[.int .u64 (x : Int), .int .i64 (i : Int)] w fun e w' => e = .returned (.tuple #[.int .u64 ((Y i : Nat) : Int), .int .i64 0]) ∧ Below w.heap.size w w')
    (g2 : ∀ i : Nat, i < 6 → ∀ w, Calls Try.prog 37 #[.int .u64 ((Y i : Nat) : Int), .int .i64 (5 - (i : Int))] w fun e w' => e = .returned (.tuple #[.int .u64 ((Y i : Nat) : Int), .int .i64 0]) ∧ Below w.heap.size w w')
    (g3 : ∀ i : Nat, i < 6 → ∀ w, Calls Try.prog 31 #[.int .u64 ((Y i : Nat) : Int)] w fun e w' => e = .returned (.bool true) ∧ Below w.heap.size w w')
    (g4 : ∀ i : Nat, i < 6 → Y i = lo ∨ Y i = hi)
    (g5 : ∀ i : Nat, i < 6 → (IntKind.u64.wrap (((Y i : Nat) : Int) / 9223372036854775808) != IntKind.u64.wrap ((x : Int) / 9223372036854775808)) = false)
    (c1 : ∀ w, Calls Try.prog 27 #[.int .u64 (lo : Int), .int .u64 (x : Int)] w fun e w' => e = .returned (.tuple #[.int .i64 n, .bool true]) ∧ w = w') (c2 : ∀ w, Calls Try.prog 27 #[.int .u64 (x : Int), .int .u64 (hi : Int)] w fun e w' => e = .returned (.tuple #[.int .i64 m, .bool true]) ∧ w = w') (n1 : decide (0 < n) = false) (m1 : decide (0 < m) = false)
    (d : ∀ w, Calls Try.prog 25 #[.int .u64 (hi : Int), .int .u64 (lo : Int)] w fun e w' => e = .returned (.int .u64 4607182418800017408) ∧ Below w.heap.size w w')
    (e1 : Go.bits .xor .u64 (x : Int) 9223372036854775808 = (xf : Int)) (e2 : Go.bits .xor .u64 (hi : Int) 9223372036854775808 = (hf : Int)) (h4 : ∀ w, Calls Try.prog 37 #[.int .u64 (xf : Int), .int .i64 4] w fun e w' => e = .returned (.tuple #[.int .u64 (hf : Int), .int .i64 0]) ∧ Below w.heap.size w w')
    (w : World) : Calls Try.prog 10 #[.int .u64 (x : Int)] w fun e w' => e = .returned (.bool true) ∧ Below w.heap.size w w' := by
  have q3 : ∀ i : Nat, i < 6 → ((((Y i : Nat) : Int)) != (lo : Int)) = false ∨ (((((Y i : Nat) : Int)) != (lo : Int)) = true ∧ ((((Y i : Nat) : Int)) != (hi : Int)) = false) := fun i hi => by
    rcases g4 i hi with h | h
    · left; rw [h]; simp
    · by_cases h2 : Y i = lo
      · left; rw [h2]; simp
      · right; exact ⟨by simp; omega, by rw [h]; simp⟩
  have G1 := Lib.hid g1; clear g1
  have G2 := Lib.hid g2; clear g2
  have G3 := Lib.hid g3; clear g3
  have G5 := Lib.hid g5; clear g5
  have Q3 := Lib.hid q3; clear q3 g4
  go_enter Try.func10, Try.ntmps10
  go_wp2_with fail
  refine (shown6 _).mono ?_
  rintro e w1 ⟨rfl, hb⟩
  have L := hb
  clear hb
  go_wp2_with fail
  refine (k _).mono ?_
  rintro e w' ⟨rfl, rfl⟩
  go_wp2_with fail
  refine (h1 _).mono ?_
  rintro e w2 ⟨rfl, hb⟩
  replace L := L.trans (hb.mono L.size)
  clear hb
  go_wp2_with fail
  refine (h2 _).mono ?_
  rintro e w3 ⟨rfl, hb⟩
  replace L := L.trans (hb.mono L.size)
  clear hb
  go_wp2_with fail
  refine (h3 _).mono ?_
  rintro e w4 ⟨rfl, hb⟩
  replace L := L.trans (hb.mono L.size)
  clear hb
  go_wp2_with fail
  go_loopw [10] (fun v wr => ∃ k : Nat, k ≤ 6 ∧ v = .int .i64 (k : Int) ∧ Below w.heap.size w wr) (fun v _ => 6 - (intOf v).toNat)
  case atStart => exact ⟨0, by omega, rfl, L⟩
  case round =>
    obtain ⟨j, hj, rfl, LR⟩ := hrel
    by_cases hlt : j < 6
    · have r1 := G1.out j hlt
      have r2 := G2.out j hlt
      have r3 := G3.out j hlt
      have r5 := G5.out j hlt
      have r4 := Q3.out j hlt
      generalize Y j = y at *
      rcases r4 with p1 | ⟨p1, p2⟩
      all_goals
        go_wp2_with fail
        refine (r1 _).mono ?_
        rintro e v1 ⟨rfl, hb⟩
        replace LR := LR.trans (hb.mono LR.size)
        clear hb
        go_wp2_with fail
        refine (r2 _).mono ?_
        rintro e v2 ⟨rfl, hb⟩
        replace LR := LR.trans (hb.mono LR.size)
        clear hb
        go_wp2_with fail
        refine (r3 _).mono ?_
        rintro e v3 ⟨rfl, hb⟩
        replace LR := LR.trans (hb.mono LR.size)
        clear hb
        go_wp2
        exact ⟨⟨j + 1, by omega, by go_num, LR⟩, by simp [intOf]; omega⟩
    · have hj6 : (6 : Int) ≤ (j : Int) := by omega
      go_wp2_with fail
      refine (c1 _).mono ?_
      rintro e w' ⟨rfl, rfl⟩
      go_wp2_with fail
      refine (c2 _).mono ?_
      rintro e w' ⟨rfl, rfl⟩
      go_wp2_with fail
      refine (h3 _).mono ?_
      rintro e w5 ⟨rfl, hb⟩
      replace LR := LR.trans (hb.mono LR.size)
      clear hb
      go_wp2_with fail
      refine (d _).mono ?_
      rintro e w6 ⟨rfl, hb⟩
      replace LR := LR.trans (hb.mono LR.size)
      clear hb
      go_wp2_with fail
      refine (h4 _).mono ?_
      rintro e w7 ⟨rfl, hb⟩
      replace LR := LR.trans (hb.mono LR.size)
      clear hb
      go_wp2
      go_ret
      exact ⟨rfl, LR⟩

set_option maxHeartbeats 1000000 in
set_option maxRecDepth 100000 in
theorem wn_B2 (x xf hf K lo hi : Nat) (Y : Nat → Nat) (n m : Int)
    (hK : ¬ (3 : Int) ≤ (K : Int)) (k : ∀ w, Calls Try.prog 21 #[.int .u64 (x : Int)] w fun e w' => e = .returned (.int .i64 (K : Int)) ∧ w = w') (h1 : ∀ w, Calls Try.prog 37 #[.int .u64 (x : Int), .int .i64 4] w fun e w' => e = .returned (.tuple #[.int .u64 (lo : Int), .int .i64 0]) ∧ Below w.heap.size w w') (h2 : ∀ w, Calls Try.prog 37 #[.int .u64 (x : Int), .int .i64 5] w fun e w' => e = .returned (.tuple #[.int .u64 (hi : Int), .int .i64 0]) ∧ Below w.heap.size w w') (h3 : ∀ w, Calls Try.prog 31 #[.int .u64 (x : Int)] w fun e w' => e = .returned (.bool false) ∧ Below w.heap.size w w')
    (q1 : ((lo : Int) == (x : Int)) = true) (q2 : ((hi : Int) == (x : Int)) = false)
    (g1 : ∀ i : Nat, i < 6 → ∀ w, Calls Try.prog 37 #[.int .u64 (x : Int), .int .i64 (i : Int)] w fun e w' => e = .returned (.tuple #[.int .u64 ((Y i : Nat) : Int), .int .i64 0]) ∧ Below w.heap.size w w')
    (g2 : ∀ i : Nat, i < 6 → ∀ w, Calls Try.prog 37 #[.int .u64 ((Y i : Nat) : Int), .int .i64 (5 - (i : Int))] w fun e w' => e = .returned (.tuple #[.int .u64 ((Y i : Nat) : Int), .int .i64 0]) ∧ Below w.heap.size w w')
    (g3 : ∀ i : Nat, i < 6 → ∀ w, Calls Try.prog 31 #[.int .u64 ((Y i : Nat) : Int)] w fun e w' => e = .returned (.bool true) ∧ Below w.heap.size w w')
    (g4 : ∀ i : Nat, i < 6 → Y i = lo ∨ Y i = hi)
    (g5 : ∀ i : Nat, i < 6 → (IntKind.u64.wrap (((Y i : Nat) : Int) / 9223372036854775808) != IntKind.u64.wrap ((x : Int) / 9223372036854775808)) = false)
    (c1 : ∀ w, Calls Try.prog 27 #[.int .u64 (lo : Int), .int .u64 (x : Int)] w fun e w' => e = .returned (.tuple #[.int .i64 n, .bool true]) ∧ w = w') (c2 : ∀ w, Calls Try.prog 27 #[.int .u64 (x : Int), .int .u64 (hi : Int)] w fun e w' => e = .returned (.tuple #[.int .i64 m, .bool true]) ∧ w = w') (n1 : decide (0 < n) = false) (m1 : decide (0 < m) = false)
    (d : ∀ w, Calls Try.prog 25 #[.int .u64 (hi : Int), .int .u64 (lo : Int)] w fun e w' => e = .returned (.int .u64 4607182418800017408) ∧ Below w.heap.size w w')
    (e1 : Go.bits .xor .u64 (x : Int) 9223372036854775808 = (xf : Int)) (e2 : Go.bits .xor .u64 (hi : Int) 9223372036854775808 = (hf : Int)) (h4 : ∀ w, Calls Try.prog 37 #[.int .u64 (xf : Int), .int .i64 4] w fun e w' => e = .returned (.tuple #[.int .u64 (hf : Int), .int .i64 0]) ∧ Below w.heap.size w w')
    (w : World) : Calls Try.prog 10 #[.int .u64 (x : Int)] w fun e w' => e = .returned (.bool true) ∧ Below w.heap.size w w' := by
  have q3 : ∀ i : Nat, i < 6 → ((((Y i : Nat) : Int)) != (lo : Int)) = false ∨ (((((Y i : Nat) : Int)) != (lo : Int)) = true ∧ ((((Y i : Nat) : Int)) != (hi : Int)) = false) := fun i hi => by
    rcases g4 i hi with h | h
    · left; rw [h]; simp
    · by_cases h2 : Y i = lo
      · left; rw [h2]; simp
      · right; exact ⟨by simp; omega, by rw [h]; simp⟩
  have G1 := Lib.hid g1; clear g1
  have G2 := Lib.hid g2; clear g2
  have G3 := Lib.hid g3; clear g3
  have G5 := Lib.hid g5; clear g5
  have Q3 := Lib.hid q3; clear q3 g4
  go_enter Try.func10, Try.ntmps10
  go_wp2_with fail
  refine (shown6 _).mono ?_
  rintro e w1 ⟨rfl, hb⟩
  have L := hb
  clear hb
  go_wp2_with fail
  refine (k _).mono ?_
  rintro e w' ⟨rfl, rfl⟩
  go_wp2_with fail
  refine (h1 _).mono ?_
  rintro e w2 ⟨rfl, hb⟩
  replace L := L.trans (hb.mono L.size)
  clear hb
  go_wp2_with fail
  refine (h2 _).mono ?_
  rintro e w3 ⟨rfl, hb⟩
  replace L := L.trans (hb.mono L.size)
  clear hb
  go_wp2_with fail
  refine (h3 _).mono ?_
  rintro e w4 ⟨rfl, hb⟩
  replace L := L.trans (hb.mono L.size)
  clear hb
  go_wp2_with fail
  go_loopw [10] (fun v wr => ∃ k : Nat, k ≤ 6 ∧ v = .int .i64 (k : Int) ∧ Below w.heap.size w wr) (fun v _ => 6 - (intOf v).toNat)
  case atStart => exact ⟨0, by omega, rfl, L⟩
  case round =>
    obtain ⟨j, hj, rfl, LR⟩ := hrel
    by_cases hlt : j < 6
    · have r1 := G1.out j hlt
      have r2 := G2.out j hlt
      have r3 := G3.out j hlt
      have r5 := G5.out j hlt
      have r4 := Q3.out j hlt
      generalize Y j = y at *
      rcases r4 with p1 | ⟨p1, p2⟩
      all_goals
        go_wp2_with fail
        refine (r1 _).mono ?_
        rintro e v1 ⟨rfl, hb⟩
        replace LR := LR.trans (hb.mono LR.size)
        clear hb
        go_wp2_with fail
        refine (r2 _).mono ?_
        rintro e v2 ⟨rfl, hb⟩
        replace LR := LR.trans (hb.mono LR.size)
        clear hb
        go_wp2_with fail
        refine (r3 _).mono ?_
        rintro e v3 ⟨rfl, hb⟩
        replace LR := LR.trans (hb.mono LR.size)
        clear hb
        go_wp2
        exact ⟨⟨j + 1, by omega, by go_num, LR⟩, by simp [intOf]; omega⟩
    · have hj6 : (6 : Int) ≤ (j : Int) := by omega
      go_wp2_with fail
      refine (c1 _).mono ?_
      rintro e w' ⟨rfl, rfl⟩
      go_wp2_with fail
      refine (c2 _).mono ?_
      rintro e w' ⟨rfl, rfl⟩
      go_wp2_with fail
      refine (h3 _).mono ?_
      rintro e w5 ⟨rfl, hb⟩
      replace LR := LR.trans (hb.mono LR.size)
      clear hb
      go_wp2_with fail
      refine (d _).mono ?_
      rintro e w6 ⟨rfl, hb⟩
      replace LR := LR.trans (hb.mono LR.size)
      clear hb
      go_wp2_with fail
      refine (h4 _).mono ?_
      rintro e w7 ⟨rfl, hb⟩
      replace LR := LR.trans (hb.mono LR.size)
      clear hb
      go_wp2
      go_ret
      exact ⟨rfl, LR⟩

/-- WholeNears, walked -/
theorem wnears_walk (x : Nat) (hx : x < 18446744073709551616) (w : World) :
    Calls Try.prog 10 #[.int .u64 (x : Int)] w fun e w' => e = .returned (.bool true) ∧ Below w.heap.size w w' := by
  have k := rkind_any x hx
  have hW := fun (y : Nat) (hy : y < 18446744073709551616) (i : Int) (hi : Way i) => whole_any y i hy
  have hE : ∀ i, Way i → wholeE i = 0 := fun i hi => by unfold wholeE; rw [if_neg (not_bad hi)]
  have h3 := is_any x hx
  have lk := Fl.kd_le x
  by_cases hk : 3 ≤ Fl.kd x
  · have w0 : Way 0 := by unfold Way; omega
    have h1 := hW x hx 0 w0
    have h2 := right_any x hx
    rw [hE 0 w0] at h1
    have e1 : wholeV x 0 = rightN x := by
      unfold wholeV rightN
      rw [if_neg (not_bad w0)]
      by_cases h4 : Fl.kd x = 4
      · rw [if_pos h4, if_pos h4]
      · rw [if_neg h4, if_neg h4, if_pos (by omega)]
    have e2 : isB x = false := by unfold isB; rw [decide_eq_false (by omega)]; rfl
    rw [e1] at h1
    rw [e2] at h3
    exact wn_none x _ _ (by omega) k h1 h2 h3 w
  · have N := nears_fin x hx (by omega)
    have w4 : Way 4 := by unfold Way; omega
    have w5 : Way 5 := by unfold Way; omega
    have wi : ∀ i : Nat, i < 6 → Way (i : Int) := fun i hi => by unfold Way; omega
    have wj : ∀ i : Nat, i < 6 → Way (5 - (i : Int)) := fun i hi => by unfold Way; omega
    have h1 := hW x hx 4 w4
    have h2 := hW x hx 5 w5
    rw [hE 4 w4] at h1
    rw [hE 5 w5] at h2
    have g1 : ∀ i : Nat, i < 6 → ∀ w, Calls Try.prog 37 #[.int .u64 (x : Int), .int .i64 (i : Int)] w fun e w' => e = .returned (.tuple #[.int .u64 ((wholeV x (i : Int) : Nat) : Int), .int .i64 0]) ∧ Below w.heap.size w w' := fun i hi w => by
      have := hW x hx i (wi i hi) w
      rw [hE _ (wi i hi)] at this; exact this
    have g2 : ∀ i : Nat, i < 6 → ∀ w, Calls Try.prog 37 #[.int .u64 ((wholeV x (i : Int) : Nat) : Int), .int .i64 (5 - (i : Int))] w fun e w' => e = .returned (.tuple #[.int .u64 ((wholeV x (i : Int) : Nat) : Int), .int .i64 0]) ∧ Below w.heap.size w w' := fun i hi w => by
      have := hW _ (N.b5 i (wi i hi)) (5 - (i : Int)) (wj i hi) w
      rw [hE _ (wj i hi), N.b1 _ (wi i hi) _ (wj i hi)] at this; exact this
    have g3 : ∀ i : Nat, i < 6 → ∀ w, Calls Try.prog 31 #[.int .u64 ((wholeV x (i : Int) : Nat) : Int)] w fun e w' => e = .returned (.bool true) ∧ Below w.heap.size w w' := fun i hi w => by
      have := is_any _ (N.b5 i (wi i hi)) w
      rw [N.b2 _ (wi i hi)] at this; exact this
    have g5 : ∀ i : Nat, i < 6 → (IntKind.u64.wrap (((wholeV x (i : Int) : Nat) : Int) / 9223372036854775808) != IntKind.u64.wrap ((x : Int) / 9223372036854775808)) = false := fun i hi => by
      rw [ng_div1 _ (N.b5 i (wi i hi)), ng_div1 x hx, N.b4 _ (wi i hi)]; simp
    have kk : ∀ i, Way i → Fl.kd (wholeV x i) ≠ 4 := fun i hi h => by
      have := N.b2 i hi
      unfold isB at this; rw [h] at this; simp at this
    have c1 := cmp_any (wholeV x 4) x (N.b5 4 w4) hx
    have c2 := cmp_any x (wholeV x 5) hx (N.b5 5 w5)
    have b4 := kk 4 w4
    have b5 := kk 5 w5
    rw [show cmpB (wholeV x 4) x = true by unfold cmpB; exact decide_eq_true (by omega)] at c1
    rw [show cmpB x (wholeV x 5) = true by unfold cmpB; exact decide_eq_true (by omega)] at c2
    have n1 : decide (0 < cmpN (wholeV x 4) x) = false := by have := N.c1; simp; omega
    have m1 : decide (0 < cmpN x (wholeV x 5)) = false := by have := N.c2; simp; omega
    have e1 := xor_sign x hx
    have e2 := xor_sign _ (N.b5 5 w5)
    have lf : Fl.pk (!Fl.ng x) (Fl.ab x) < 18446744073709551616 := by unfold Fl.pk Fl.ab; split <;> omega
    have h4 := hW _ lf 4 w4
    rw [hE 4 w4, N.e] at h4
    have a := N.a
    have g4 := fun (i : Nat) (hi : i < 6) => N.b3 i (wi i hi)
    by_cases p1 : wholeV x 4 = x
    · by_cases p2 : wholeV x 5 = x
      · rw [decide_eq_true p1, decide_eq_true p2] at a
        rw [a] at h3
        rw [p1] at h1 c1 n1 g4
        rw [p2] at h2 c2 m1 g4 h4
        exact wn_A x _ _ (fun i => wholeV x (i : Int)) _ _ (by omega) k h1 h2 h3 g1 g2 g3 g4 g5 c1 c2 n1 m1 e1 h4 w
      · rw [decide_eq_true p1, decide_eq_false p2] at a
        rw [a] at h3
        have d := sub_any _ _ (N.b5 5 w5) (N.b5 4 w4)
        rw [N.d a] at d
        exact wn_B2 x _ _ _ _ _ (fun i => wholeV x (i : Int)) _ _ (by omega) k h1 h2 h3 (by rw [p1]; simp) (by simp; omega) g1 g2 g3 g4 g5 c1 c2 n1 m1 d e1 e2 h4 w
    · rw [decide_eq_false p1] at a
      rw [Bool.false_and] at a
      rw [a] at h3
      have d := sub_any _ _ (N.b5 5 w5) (N.b5 4 w4)
      rw [N.d a] at d
      exact wn_B1 x _ _ _ _ _ (fun i => wholeV x (i : Int)) _ _ (by omega) k h1 h2 h3 (by simp; omega) g1 g2 g3 g4 g5 c1 c2 n1 m1 d e1 e2 h4 w
end Go.Proofs.Ytaplggheadahhaa
