/- The walks of whole.size, From, To. -/
import Derived.Test.YtaplggheadahhaaF3
namespace Go.Proofs.Ytaplggheadahhaa
open Go.RowKit
set_option linter.unusedVariables false
set_option linter.unusedSimpArgs false

theorem wrap_u64_neg (n : Nat) (h : n ≤ 9223372036854775808) (h0 : 0 < n) : IntKind.u64.wrap (-(n : Int)) = 18446744073709551616 - (n : Int) := by
  simp [IntKind.wrap, IntKind.bits, IntKind.signed]; omega

set_option maxHeartbeats 1000000 in
theorem size_any (v : Int) (h1 : -9223372036854775808 ≤ v) (h2 : v ≤ 9223372036854775807) (w : World) :
    Calls Try.prog 75 #[.int .i64 v] w fun e w' => e = .returned (.int .u64 ((v.natAbs : Nat) : Int)) ∧ w = w' := by
  by_cases h : v < 0
  · have e1 : IntKind.u64.wrap v = ((18446744073709551616 - v.natAbs : Nat) : Int) := by
      simp [IntKind.wrap, IntKind.bits, IntKind.signed]; omega
    have e2 : IntKind.u64.wrap (-((18446744073709551616 - v.natAbs : Nat) : Int)) = ((v.natAbs : Nat) : Int) := by
      simp [IntKind.wrap, IntKind.bits, IntKind.signed]; omega
    generalize (18446744073709551616 - v.natAbs : Nat) = M at *
    generalize v.natAbs = N at *
    clear h1 h2
    go_enter Try.func75, Try.ntmps75
    go_wp2
    go_ret
    exact ⟨rfl, rfl⟩
  · have e1 : IntKind.u64.wrap v = ((v.natAbs : Nat) : Int) := by
      simp [IntKind.wrap, IntKind.bits, IntKind.signed]; omega
    generalize v.natAbs = N at *
    clear h1 h2
    go_enter Try.func75, Try.ntmps75
    go_wp2
    go_ret
    exact ⟨rfl, rfl⟩

def fromN (v : Int) : Nat := Fl.pk (decide (v < 0)) (Fl.rnd v.natAbs 0 false)

set_option maxHeartbeats 1000000 in
theorem from_core (v : Int) (n R : Nat) (neg : Bool) (hn : decide (v < 0) = neg) (hs : ∀ w, Calls Try.prog 75 #[.int .i64 v] w fun e w' => e = .returned (.int .u64 (n : Int)) ∧ w = w')
    (hj : ∀ w, Calls Try.prog 62 #[.bool neg, .agg #[.int .u64 0, .int .u64 (n : Int)], .int .i64 0, .bool false] w fun e w' => e = .returned (.int .u64 (R : Int)) ∧ Below w.heap.size w w') (w : World) :
    Calls Try.prog 39 #[.int .i64 v] w fun e w' => e = .returned (.int .u64 (R : Int)) ∧ Below w.heap.size w w' := by
  go_enter Try.func39, Try.ntmps39
  go_wp2_with (first | (go_at_call 75; refine (hs _).mono ?_; rintro e w' ⟨rfl, rfl⟩) | (go_at_call 62; refine (hj _).mono ?_; rintro e w1 ⟨rfl, hb⟩))
  go_ret
  exact ⟨rfl, hb⟩
/-- whole.From -/
theorem from_any (v : Int) (h1 : -9223372036854775808 ≤ v) (h2 : v ≤ 9223372036854775807) (w : World) :
    Calls Try.prog 39 #[.int .i64 v] w fun e w' => e = .returned (.int .u64 ((fromN v : Nat) : Int)) ∧ Below w.heap.size w w' := by
  have hj := join_any (decide (v < 0)) false 0 v.natAbs 0 (by decide) (by omega) (by decide) (by decide)
  rw [show 0 * 18446744073709551616 + v.natAbs = v.natAbs by omega] at hj
  exact from_core v _ _ _ rfl (size_any v h1 h2) hj w

/-! ### To -/
def toM (x : Nat) (way : Int) : Nat := if 1074 ≤ Fl.sh (Fl.ab x) then Fl.mant (Fl.ab x) * 2 ^ (Fl.sh (Fl.ab x) - 1074) else wholeR x way
def toF (x : Nat) (way : Int) : Bool := decide (toM x way < 9223372036854775808 ∨ (Fl.ng x = true ∧ toM x way = 9223372036854775808))
def toV (x : Nat) (way : Int) : Int :=
  if way < 0 ∨ 5 < way then 0 else if 3 ≤ Fl.kd x then 0 else if toF x way = true then (if Fl.ng x = true then -(toM x way : Int) else toM x way) else 0
def toE (x : Nat) (way : Int) : Int :=
  if way < 0 ∨ 5 < way then 1 else if 3 ≤ Fl.kd x then 11 else if toF x way = true then 0 else 6

set_option maxHeartbeats 1000000 in
theorem to_arg (x : Int) (way : Int) (h : way < 0 ∨ 5 < way) (w : World) :
    Calls Try.prog 41 #[.int .u64 x, .int .i64 way] w fun e w' => e = .returned (.tuple #[.int .i64 0, .int .i64 1]) ∧ Below w.heap.size w w' := by
  by_cases h1 : way < 0
  · clear h
    go_enter Try.func41, Try.ntmps41
    go_wp2
    go_ret2
    exact ⟨rfl, Below.refl _ _⟩
  · have h2 := h.resolve_left h1
    clear h
    have e1 : decide (way < 0) = false := by simpa using h1
    go_enter Try.func41, Try.ntmps41
    go_wp2
    go_ret2
    exact ⟨rfl, Below.refl _ _⟩
set_option maxHeartbeats 1000000 in
theorem to_none (x : Int) (way : Int) (K : Nat) (h1 : ¬ way < 0) (h2 : ¬ 5 < way) (hK : (3 : Int) ≤ (K : Int)) (k : ∀ w, Calls Try.prog 58 #[.int .u64 x] w fun e w' => e = .returned (.int .i64 (K : Int)) ∧ w = w') (w : World) :
    Calls Try.prog 41 #[.int .u64 x, .int .i64 way] w fun e w' => e = .returned (.tuple #[.int .i64 0, .int .i64 11]) ∧ Below w.heap.size w w' := by
  have e1 : decide (way < 0) = false := by simpa using h1
  have e2 : decide (5 < way) = false := by simpa using h2
  go_enter Try.func41, Try.ntmps41
  go_wp2_with (go_at_call 58; refine (k _).mono ?_; rintro e w' ⟨rfl, rfl⟩)
  go_ret2
  exact ⟨rfl, Below.refl _ _⟩

set_option maxHeartbeats 2000000 in
set_option maxRecDepth 100000 in
theorem to_far (n K : Nat) (neg half rest : Bool) (e : Int) (x : Int) (way : Int) (h1 : ¬ way < 0) (h2 : ¬ 5 < way) (hK : (K : Int) < 3) (k : ∀ w, Calls Try.prog 58 #[.int .u64 x] w fun e w' => e = .returned (.int .i64 (K : Int)) ∧ w = w') (o : ∀ w, Calls Try.prog 68 #[.int .u64 x] w fun e w' => e = .returned (.tuple #[.agg #[.bool neg, .bool half, .bool rest, .int .u64 (n : Int)], .bool false]) ∧ Below w.heap.size w w') (s : ∀ w, Calls Try.prog 61 #[.int .u64 x] w fun e' w' => e' = .returned (.tuple #[.bool neg, .int .u64 (n : Int), .int .i64 e]) ∧ w = w') (he : 11 < e) (w : World) :
    Calls Try.prog 41 #[.int .u64 x, .int .i64 way] w fun e w' => e = .returned (.tuple #[.int .i64 0, .int .i64 6]) ∧ Below w.heap.size w w' := by
  have e1 : decide (way < 0) = false := by simpa using h1
  have e2 : decide (5 < way) = false := by simpa using h2
  go_enter Try.func41, Try.ntmps41
  go_wp2_with fail
  refine (k _).mono ?_
  rintro e w' ⟨rfl, rfl⟩
  go_wp2_with fail
  refine (o _).mono ?_
  rintro e w1 ⟨rfl, hb⟩
  have B1 := Blk.new w1 54 #[.bool neg, .bool half, .bool rest, .int .u64 (n : Int)]
  have L1 := hb.alloc hb.size (.cells #[.bool neg, .bool half, .bool rest, .int .u64 (n : Int)] 54)
  have z := hb.size
  clear hb
  go_wp2_with fail
  refine (s _).mono ?_
  rintro e w' ⟨rfl, rfl⟩
  go_wp2
  go_ret2
  exact ⟨rfl, L1⟩

set_option maxHeartbeats 2000000 in
set_option maxRecDepth 100000 in
theorem to_r_n_i (n K q : Nat) (m : Int) (half rest : Bool) (x : Int) (way : Int) (h1 : ¬ way < 0) (h2 : ¬ 5 < way) (hK : (K : Int) < 3) (k : ∀ w, Calls Try.prog 58 #[.int .u64 x] w fun e w' => e = .returned (.int .i64 (K : Int)) ∧ w = w') (o : ∀ w, Calls Try.prog 68 #[.int .u64 x] w fun e w' => e = .returned (.tuple #[.agg #[.bool true, .bool half, .bool rest, .int .u64 (n : Int)], .bool true]) ∧ Below w.heap.size w w') (r : ∀ w, Calls Try.prog 72 #[.agg #[.bool true, .bool half, .bool rest, .int .u64 (n : Int)], .int .i64 way] w fun e w' => e = .returned (.int .u64 m) ∧ Below w.heap.size w w') (d : decide (m ≤ 9223372036854775808) = true) (c1 : IntKind.u64.wrap (-m) = (q : Int)) (c2 : IntKind.i64.wrap (q : Int) = -m) (w : World) :
    Calls Try.prog 41 #[.int .u64 x, .int .i64 way] w fun e w' => e = .returned (.tuple #[.int .i64 (-m), .int .i64 0]) ∧ Below w.heap.size w w' := by
  have e1 : decide (way < 0) = false := by simpa using h1
  have e2 : decide (5 < way) = false := by simpa using h2
  go_enter Try.func41, Try.ntmps41
  go_wp2_with fail
  refine (k _).mono ?_
  rintro e w' ⟨rfl, rfl⟩
  go_wp2_with fail
  refine (o _).mono ?_
  rintro e w1 ⟨rfl, hb⟩
  have B1 := Blk.new w1 54 #[.bool true, .bool half, .bool rest, .int .u64 (n : Int)]
  have L1 := hb.alloc hb.size (.cells #[.bool true, .bool half, .bool rest, .int .u64 (n : Int)] 54)
  have z := hb.size
  clear hb
  go_wp2_with fail
  refine (r _).mono ?_
  rintro e w2 ⟨rfl, hb2⟩
  have B2 := B1.belowS hb2
  have f3 := B2.frozen 3
  have c30 := B2.cell 3 rfl
  have B3 := B2.set_ 3 (.int .u64 m)
  have d0 := B3.cell 0 (v := .bool true) rfl
  have d3 := B3.cell 3 (v := .int .u64 m) rfl
  have L2 := (L1.trans (hb2.mono (by simp; omega))).setCell (p := ⟨w1.heap.size, 3, none⟩) z (.int .u64 m)
  clear hb2 B1 B2 B3 L1
  go_wp2
  go_ret2
  exact ⟨rfl, L2⟩

set_option maxHeartbeats 2000000 in
set_option maxRecDepth 100000 in
theorem to_r_n_o (n K : Nat) (m : Int) (half rest : Bool) (x : Int) (way : Int) (h1 : ¬ way < 0) (h2 : ¬ 5 < way) (hK : (K : Int) < 3) (k : ∀ w, Calls Try.prog 58 #[.int .u64 x] w fun e w' => e = .returned (.int .i64 (K : Int)) ∧ w = w') (o : ∀ w, Calls Try.prog 68 #[.int .u64 x] w fun e w' => e = .returned (.tuple #[.agg #[.bool true, .bool half, .bool rest, .int .u64 (n : Int)], .bool true]) ∧ Below w.heap.size w w') (r : ∀ w, Calls Try.prog 72 #[.agg #[.bool true, .bool half, .bool rest, .int .u64 (n : Int)], .int .i64 way] w fun e w' => e = .returned (.int .u64 m) ∧ Below w.heap.size w w') (d : decide (m ≤ 9223372036854775808) = false) (w : World) :
    Calls Try.prog 41 #[.int .u64 x, .int .i64 way] w fun e w' => e = .returned (.tuple #[.int .i64 0, .int .i64 6]) ∧ Below w.heap.size w w' := by
  have e1 : decide (way < 0) = false := by simpa using h1
  have e2 : decide (5 < way) = false := by simpa using h2
  go_enter Try.func41, Try.ntmps41
  go_wp2_with fail
  refine (k _).mono ?_
  rintro e w' ⟨rfl, rfl⟩
  go_wp2_with fail
  refine (o _).mono ?_
  rintro e w1 ⟨rfl, hb⟩
  have B1 := Blk.new w1 54 #[.bool true, .bool half, .bool rest, .int .u64 (n : Int)]
  have L1 := hb.alloc hb.size (.cells #[.bool true, .bool half, .bool rest, .int .u64 (n : Int)] 54)
  have z := hb.size
  clear hb
  go_wp2_with fail
  refine (r _).mono ?_
  rintro e w2 ⟨rfl, hb2⟩
  have B2 := B1.belowS hb2
  have f3 := B2.frozen 3
  have c30 := B2.cell 3 rfl
  have B3 := B2.set_ 3 (.int .u64 m)
  have d0 := B3.cell 0 (v := .bool true) rfl
  have d3 := B3.cell 3 (v := .int .u64 m) rfl
  have L2 := (L1.trans (hb2.mono (by simp; omega))).setCell (p := ⟨w1.heap.size, 3, none⟩) z (.int .u64 m)
  clear hb2 B1 B2 B3 L1
  go_wp2
  go_ret2
  exact ⟨rfl, L2⟩

set_option maxHeartbeats 2000000 in
set_option maxRecDepth 100000 in
theorem to_r_p_i (n K : Nat) (m : Int) (half rest : Bool) (x : Int) (way : Int) (h1 : ¬ way < 0) (h2 : ¬ 5 < way) (hK : (K : Int) < 3) (k : ∀ w, Calls Try.prog 58 #[.int .u64 x] w fun e w' => e = .returned (.int .i64 (K : Int)) ∧ w = w') (o : ∀ w, Calls Try.prog 68 #[.int .u64 x] w fun e w' => e = .returned (.tuple #[.agg #[.bool false, .bool half, .bool rest, .int .u64 (n : Int)], .bool true]) ∧ Below w.heap.size w w') (r : ∀ w, Calls Try.prog 72 #[.agg #[.bool false, .bool half, .bool rest, .int .u64 (n : Int)], .int .i64 way] w fun e w' => e = .returned (.int .u64 m) ∧ Below w.heap.size w w') (d : m ≤ 9223372036854775807) (c2 : IntKind.i64.wrap m = m) (w : World) :
    Calls Try.prog 41 #[.int .u64 x, .int .i64 way] w fun e w' => e = .returned (.tuple #[.int .i64 m, .int .i64 0]) ∧ Below w.heap.size w w' := by
  have e1 : decide (way < 0) = false := by simpa using h1
  have e2 : decide (5 < way) = false := by simpa using h2
  go_enter Try.func41, Try.ntmps41
  go_wp2_with fail
  refine (k _).mono ?_
  rintro e w' ⟨rfl, rfl⟩
  go_wp2_with fail
  refine (o _).mono ?_
  rintro e w1 ⟨rfl, hb⟩
  have B1 := Blk.new w1 54 #[.bool false, .bool half, .bool rest, .int .u64 (n : Int)]
  have L1 := hb.alloc hb.size (.cells #[.bool false, .bool half, .bool rest, .int .u64 (n : Int)] 54)
  have z := hb.size
  clear hb
  go_wp2_with fail
  refine (r _).mono ?_
  rintro e w2 ⟨rfl, hb2⟩
  have B2 := B1.belowS hb2
  have f3 := B2.frozen 3
  have c30 := B2.cell 3 rfl
  have B3 := B2.set_ 3 (.int .u64 m)
  have d0 := B3.cell 0 (v := .bool false) rfl
  have d3 := B3.cell 3 (v := .int .u64 m) rfl
  have L2 := (L1.trans (hb2.mono (by simp; omega))).setCell (p := ⟨w1.heap.size, 3, none⟩) z (.int .u64 m)
  clear hb2 B1 B2 B3 L1
  go_wp2
  go_ret2
  exact ⟨rfl, L2⟩

set_option maxHeartbeats 2000000 in
set_option maxRecDepth 100000 in
theorem to_r_p_o (n K : Nat) (m : Int) (half rest : Bool) (x : Int) (way : Int) (h1 : ¬ way < 0) (h2 : ¬ 5 < way) (hK : (K : Int) < 3) (k : ∀ w, Calls Try.prog 58 #[.int .u64 x] w fun e w' => e = .returned (.int .i64 (K : Int)) ∧ w = w') (o : ∀ w, Calls Try.prog 68 #[.int .u64 x] w fun e w' => e = .returned (.tuple #[.agg #[.bool false, .bool half, .bool rest, .int .u64 (n : Int)], .bool true]) ∧ Below w.heap.size w w') (r : ∀ w, Calls Try.prog 72 #[.agg #[.bool false, .bool half, .bool rest, .int .u64 (n : Int)], .int .i64 way] w fun e w' => e = .returned (.int .u64 m) ∧ Below w.heap.size w w') (d : (9223372036854775808 : Int) ≤ m) (w : World) :
    Calls Try.prog 41 #[.int .u64 x, .int .i64 way] w fun e w' => e = .returned (.tuple #[.int .i64 0, .int .i64 6]) ∧ Below w.heap.size w w' := by
  have e1 : decide (way < 0) = false := by simpa using h1
  have e2 : decide (5 < way) = false := by simpa using h2
  go_enter Try.func41, Try.ntmps41
  go_wp2_with fail
  refine (k _).mono ?_
  rintro e w' ⟨rfl, rfl⟩
  go_wp2_with fail
  refine (o _).mono ?_
  rintro e w1 ⟨rfl, hb⟩
  have B1 := Blk.new w1 54 #[.bool false, .bool half, .bool rest, .int .u64 (n : Int)]
  have L1 := hb.alloc hb.size (.cells #[.bool false, .bool half, .bool rest, .int .u64 (n : Int)] 54)
  have z := hb.size
  clear hb
  go_wp2_with fail
  refine (r _).mono ?_
  rintro e w2 ⟨rfl, hb2⟩
  have B2 := B1.belowS hb2
  have f3 := B2.frozen 3
  have c30 := B2.cell 3 rfl
  have B3 := B2.set_ 3 (.int .u64 m)
  have d0 := B3.cell 0 (v := .bool false) rfl
  have d3 := B3.cell 3 (v := .int .u64 m) rfl
  have L2 := (L1.trans (hb2.mono (by simp; omega))).setCell (p := ⟨w1.heap.size, 3, none⟩) z (.int .u64 m)
  clear hb2 B1 B2 B3 L1
  go_wp2
  go_ret2
  exact ⟨rfl, L2⟩

set_option maxHeartbeats 2000000 in
set_option maxRecDepth 100000 in
theorem to_s_n_i (n K q : Nat) (m : Int) (half rest : Bool) (e : Int) (x : Int) (way : Int) (h1 : ¬ way < 0) (h2 : ¬ 5 < way) (hK : (K : Int) < 3) (k : ∀ w, Calls Try.prog 58 #[.int .u64 x] w fun e w' => e = .returned (.int .i64 (K : Int)) ∧ w = w') (o : ∀ w, Calls Try.prog 68 #[.int .u64 x] w fun e w' => e = .returned (.tuple #[.agg #[.bool true, .bool half, .bool rest, .int .u64 (n : Int)], .bool false]) ∧ Below w.heap.size w w') (s : ∀ w, Calls Try.prog 61 #[.int .u64 x] w fun e' w' => e' = .returned (.tuple #[.bool true, .int .u64 (n : Int), .int .i64 e]) ∧ w = w') (he : 0 ≤ e) (he2 : e ≤ 11) (em : IntKind.u64.wrap ((n : Int) * 2 ^ e.toNat) = m) (d : decide (m ≤ 9223372036854775808) = true) (c1 : IntKind.u64.wrap (-m) = (q : Int)) (c2 : IntKind.i64.wrap (q : Int) = -m) (w : World) :
    Calls Try.prog 41 #[.int .u64 x, .int .i64 way] w fun e w' => e = .returned (.tuple #[.int .i64 (-m), .int .i64 0]) ∧ Below w.heap.size w w' := by
  have e1 : decide (way < 0) = false := by simpa using h1
  have e2 : decide (5 < way) = false := by simpa using h2
  go_enter Try.func41, Try.ntmps41
  go_wp2_with fail
  refine (k _).mono ?_
  rintro e w' ⟨rfl, rfl⟩
  go_wp2_with fail
  refine (o _).mono ?_
  rintro e w1 ⟨rfl, hb⟩
  have B1 := Blk.new w1 54 #[.bool true, .bool half, .bool rest, .int .u64 (n : Int)]
  have L1 := hb.alloc hb.size (.cells #[.bool true, .bool half, .bool rest, .int .u64 (n : Int)] 54)
  have z := hb.size
  have L0 := hb.alloc hb.size (.cells #[.bool true, .bool half, .bool rest, .int .u64 m] 54)
  clear hb
  go_wp2_with fail
  refine (s _).mono ?_
  rintro e w' ⟨rfl, rfl⟩
  have f3 := B1.frozen 3
  have B3 := B1.set_ 3 (.int .u64 m)
  have d0 := B3.cell 0 (v := .bool true) rfl
  have d3 := B3.cell 3 (v := .int .u64 m) rfl
  have L2 := L0
  clear B1 B3
  go_wp2
  go_ret2
  first | exact ⟨rfl, L2⟩ | exact ⟨rfl, by repeat (first | exact L1 | refine Below.setCell ?_ (by simp; omega) _ | refine Below.alloc ?_ (by simp; try omega) _)⟩ | exact ⟨rfl, (Below.trans (L1) (Below.refl _ _))⟩

set_option maxHeartbeats 2000000 in
set_option maxRecDepth 100000 in
theorem to_s_n_o (n K : Nat) (m : Int) (half rest : Bool) (e : Int) (x : Int) (way : Int) (h1 : ¬ way < 0) (h2 : ¬ 5 < way) (hK : (K : Int) < 3) (k : ∀ w, Calls Try.prog 58 #[.int .u64 x] w fun e w' => e = .returned (.int .i64 (K : Int)) ∧ w = w') (o : ∀ w, Calls Try.prog 68 #[.int .u64 x] w fun e w' => e = .returned (.tuple #[.agg #[.bool true, .bool half, .bool rest, .int .u64 (n : Int)], .bool false]) ∧ Below w.heap.size w w') (s : ∀ w, Calls Try.prog 61 #[.int .u64 x] w fun e' w' => e' = .returned (.tuple #[.bool true, .int .u64 (n : Int), .int .i64 e]) ∧ w = w') (he : 0 ≤ e) (he2 : e ≤ 11) (em : IntKind.u64.wrap ((n : Int) * 2 ^ e.toNat) = m) (d : decide (m ≤ 9223372036854775808) = false) (w : World) :
    Calls Try.prog 41 #[.int .u64 x, .int .i64 way] w fun e w' => e = .returned (.tuple #[.int .i64 0, .int .i64 6]) ∧ Below w.heap.size w w' := by
  have e1 : decide (way < 0) = false := by simpa using h1
  have e2 : decide (5 < way) = false := by simpa using h2
  go_enter Try.func41, Try.ntmps41
  go_wp2_with fail
  refine (k _).mono ?_
  rintro e w' ⟨rfl, rfl⟩
  go_wp2_with fail
  refine (o _).mono ?_
  rintro e w1 ⟨rfl, hb⟩
  have B1 := Blk.new w1 54 #[.bool true, .bool half, .bool rest, .int .u64 (n : Int)]
  have L1 := hb.alloc hb.size (.cells #[.bool true, .bool half, .bool rest, .int .u64 (n : Int)] 54)
  have z := hb.size
  have L0 := hb.alloc hb.size (.cells #[.bool true, .bool half, .bool rest, .int .u64 m] 54)
  clear hb
  go_wp2_with fail
  refine (s _).mono ?_
  rintro e w' ⟨rfl, rfl⟩
  have f3 := B1.frozen 3
  have B3 := B1.set_ 3 (.int .u64 m)
  have d0 := B3.cell 0 (v := .bool true) rfl
  have d3 := B3.cell 3 (v := .int .u64 m) rfl
  have L2 := L0
  clear B1 B3
  go_wp2
  go_ret2
  first | exact ⟨rfl, L2⟩ | exact ⟨rfl, by repeat (first | exact L1 | refine Below.setCell ?_ (by simp; omega) _ | refine Below.alloc ?_ (by simp; try omega) _)⟩ | exact ⟨rfl, (Below.trans (L1) (Below.refl _ _))⟩

set_option maxHeartbeats 2000000 in
set_option maxRecDepth 100000 in
theorem to_s_p_i (n K : Nat) (m : Int) (half rest : Bool) (e : Int) (x : Int) (way : Int) (h1 : ¬ way < 0) (h2 : ¬ 5 < way) (hK : (K : Int) < 3) (k : ∀ w, Calls Try.prog 58 #[.int .u64 x] w fun e w' => e = .returned (.int .i64 (K : Int)) ∧ w = w') (o : ∀ w, Calls Try.prog 68 #[.int .u64 x] w fun e w' => e = .returned (.tuple #[.agg #[.bool false, .bool half, .bool rest, .int .u64 (n : Int)], .bool false]) ∧ Below w.heap.size w w') (s : ∀ w, Calls Try.prog 61 #[.int .u64 x] w fun e' w' => e' = .returned (.tuple #[.bool false, .int .u64 (n : Int), .int .i64 e]) ∧ w = w') (he : 0 ≤ e) (he2 : e ≤ 11) (em : IntKind.u64.wrap ((n : Int) * 2 ^ e.toNat) = m) (d : m ≤ 9223372036854775807) (c2 : IntKind.i64.wrap m = m) (w : World) :
    Calls Try.prog 41 #[.int .u64 x, .int .i64 way] w fun e w' => e = .returned (.tuple #[.int .i64 m, .int .i64 0]) ∧ Below w.heap.size w w' := by
  have e1 : decide (way < 0) = false := by simpa using h1
  have e2 : decide (5 < way) = false := by simpa using h2
  go_enter Try.func41, Try.ntmps41
  go_wp2_with fail
  refine (k _).mono ?_
  rintro e w' ⟨rfl, rfl⟩
  go_wp2_with fail
  refine (o _).mono ?_
  rintro e w1 ⟨rfl, hb⟩
  have B1 := Blk.new w1 54 #[.bool false, .bool half, .bool rest, .int .u64 (n : Int)]
  have L1 := hb.alloc hb.size (.cells #[.bool false, .bool half, .bool rest, .int .u64 (n : Int)] 54)
  have z := hb.size
  have L0 := hb.alloc hb.size (.cells #[.bool false, .bool half, .bool rest, .int .u64 m] 54)
  clear hb
  go_wp2_with fail
  refine (s _).mono ?_
  rintro e w' ⟨rfl, rfl⟩
  have f3 := B1.frozen 3
  have B3 := B1.set_ 3 (.int .u64 m)
  have d0 := B3.cell 0 (v := .bool false) rfl
  have d3 := B3.cell 3 (v := .int .u64 m) rfl
  have L2 := L0
  clear B1 B3
  go_wp2
  go_ret2
  first | exact ⟨rfl, L2⟩ | exact ⟨rfl, by repeat (first | exact L1 | refine Below.setCell ?_ (by simp; omega) _ | refine Below.alloc ?_ (by simp; try omega) _)⟩ | exact ⟨rfl, (Below.trans (L1) (Below.refl _ _))⟩

set_option maxHeartbeats 2000000 in
set_option maxRecDepth 100000 in
theorem to_s_p_o (n K : Nat) (m : Int) (half rest : Bool) (e : Int) (x : Int) (way : Int) (h1 : ¬ way < 0) (h2 : ¬ 5 < way) (hK : (K : Int) < 3) (k : ∀ w, Calls Try.prog 58 #[.int .u64 x] w fun e w' => e = .returned (.int .i64 (K : Int)) ∧ w = w') (o : ∀ w, Calls Try.prog 68 #[.int .u64 x] w fun e w' => e = .returned (.tuple #[.agg #[.bool false, .bool half, .bool rest, .int .u64 (n : Int)], .bool false]) ∧ Below w.heap.size w w') (s : ∀ w, Calls Try.prog 61 #[.int .u64 x] w fun e' w' => e' = .returned (.tuple #[.bool false, .int .u64 (n : Int), .int .i64 e]) ∧ w = w') (he : 0 ≤ e) (he2 : e ≤ 11) (em : IntKind.u64.wrap ((n : Int) * 2 ^ e.toNat) = m) (d : (9223372036854775808 : Int) ≤ m) (w : World) :
    Calls Try.prog 41 #[.int .u64 x, .int .i64 way] w fun e w' => e = .returned (.tuple #[.int .i64 0, .int .i64 6]) ∧ Below w.heap.size w w' := by
  have e1 : decide (way < 0) = false := by simpa using h1
  have e2 : decide (5 < way) = false := by simpa using h2
  go_enter Try.func41, Try.ntmps41
  go_wp2_with fail
  refine (k _).mono ?_
  rintro e w' ⟨rfl, rfl⟩
  go_wp2_with fail
  refine (o _).mono ?_
  rintro e w1 ⟨rfl, hb⟩
  have B1 := Blk.new w1 54 #[.bool false, .bool half, .bool rest, .int .u64 (n : Int)]
  have L1 := hb.alloc hb.size (.cells #[.bool false, .bool half, .bool rest, .int .u64 (n : Int)] 54)
  have z := hb.size
  have L0 := hb.alloc hb.size (.cells #[.bool false, .bool half, .bool rest, .int .u64 m] 54)
  clear hb
  go_wp2_with fail
  refine (s _).mono ?_
  rintro e w' ⟨rfl, rfl⟩
  have f3 := B1.frozen 3
  have B3 := B1.set_ 3 (.int .u64 m)
  have d0 := B3.cell 0 (v := .bool false) rfl
  have d3 := B3.cell 3 (v := .int .u64 m) rfl
  have L2 := L0
  clear B1 B3
  go_wp2
  go_ret2
  first | exact ⟨rfl, L2⟩ | exact ⟨rfl, by repeat (first | exact L1 | refine Below.setCell ?_ (by simp; omega) _ | refine Below.alloc ?_ (by simp; try omega) _)⟩ | exact ⟨rfl, (Below.trans (L1) (Below.refl _ _))⟩

theorem toM_lt {x : Nat} (way : Int) (hs : ¬ 1074 ≤ Fl.sh (Fl.ab x)) : toM x way ≤ 9007199254740992 := by
  have := @whole_lt x
  unfold toM; rw [if_neg hs]; unfold wholeR; split <;> omega

theorem wrap_neg_i {m : Nat} (h : m ≤ 9223372036854775808) : ∃ q : Nat, IntKind.u64.wrap (-(m : Int)) = (q : Int) ∧ IntKind.i64.wrap (q : Int) = -(m : Int) := by
  rcases Nat.eq_zero_or_pos m with rfl | h0
  · exact ⟨0, by decide, by decide⟩
  · refine ⟨18446744073709551616 - m, ?_, ?_⟩
    · rw [wrap_u64_neg m h h0]; omega
    · rw [IntKind.wrap_i64]; omega

/-- whole.To -/
theorem to_any (x : Nat) (way : Int) (hx : x < 18446744073709551616) (w : World) :
    Calls Try.prog 41 #[.int .u64 (x : Int), .int .i64 way] w fun e w' => e = .returned (.tuple #[.int .i64 (toV x way), .int .i64 (toE x way)]) ∧ Below w.heap.size w w' := by
  have k := kind_any x hx
  have lk := Fl.kd_le x
  unfold toV toE
  by_cases c1 : way < 0 ∨ 5 < way
  · rw [if_pos c1, if_pos c1]; exact to_arg x way c1 w
  rw [if_neg c1, if_neg c1]
  by_cases c2 : 3 ≤ Fl.kd x
  · rw [if_pos c2, if_pos c2]
    exact to_none x way _ (by omega) (by omega) (by omega) k w
  rw [if_neg c2, if_neg c2]
  by_cases c4 : 1074 ≤ Fl.sh (Fl.ab x)
  · have o := of_large x hx (by omega) c4
    have s := split_fin x hx (by omega)
    by_cases c5 : 11 < (Fl.sh (Fl.ab x) : Int) - 1074
    · have hF : toF x way = false := by
        unfold toF toM
        rw [if_pos c4]
        have h1 := Fl.mant_ge (x := Fl.ab x) (by omega)
        have h2 : 2 ^ 12 ≤ 2 ^ (Fl.sh (Fl.ab x) - 1074) := Nat.pow_le_pow_right (by decide) (by omega)
        have h3 : 4503599627370496 * 2 ^ 12 ≤ Fl.mant (Fl.ab x) * 2 ^ (Fl.sh (Fl.ab x) - 1074) := Nat.mul_le_mul h1 h2
        rw [show 4503599627370496 * 2 ^ 12 = 18446744073709551616 from rfl] at h3
        exact decide_eq_false (by omega)
      rw [hF, if_neg (by decide), if_neg (by decide)]
      exact to_far _ _ _ _ _ _ x way (by omega) (by omega) (by omega) k o s c5 w
    · have hM : toM x way = Fl.mant (Fl.ab x) * 2 ^ (Fl.sh (Fl.ab x) - 1074) := by unfold toM; rw [if_pos c4]
      have em : IntKind.u64.wrap (((Fl.mant (Fl.ab x) : Nat) : Int) * 2 ^ ((Fl.sh (Fl.ab x) : Int) - 1074).toNat) = ((toM x way : Nat) : Int) := by
        rw [show ((Fl.sh (Fl.ab x) : Int) - 1074).toNat = Fl.sh (Fl.ab x) - 1074 by omega, wrap_shl, hM]
        have h1 := Fl.mant_lt (Fl.ab x)
        have h2 : 2 ^ (Fl.sh (Fl.ab x) - 1074) ≤ 2 ^ 11 := Nat.pow_le_pow_right (by decide) (by omega)
        have h3 : Fl.mant (Fl.ab x) * 2 ^ (Fl.sh (Fl.ab x) - 1074) ≤ 9007199254740991 * 2 ^ 11 := Nat.mul_le_mul (by omega) h2
        rw [show 9007199254740991 * 2 ^ 11 = 18446744073709549568 from rfl] at h3
        rw [Nat.mod_eq_of_lt (by omega)]
      unfold toF
      cases hn : Fl.ng x
      · rw [hn] at o s
        by_cases c6 : toM x way < 9223372036854775808
        · rw [decide_eq_true (.inl c6), if_pos rfl, if_pos rfl, if_neg (by decide)]
          exact to_s_p_i _ _ _ _ _ _ x way (by omega) (by omega) (by omega) k o s (by omega) (by omega) em (by omega) (IntWalk.i64_in _ (by omega)) w
        · rw [decide_eq_false (by simp; omega), if_neg (by decide), if_neg (by decide)]
          exact to_s_p_o _ _ _ _ _ _ x way (by omega) (by omega) (by omega) k o s (by omega) (by omega) em (by omega) w
      · rw [hn] at o s
        by_cases c6 : toM x way ≤ 9223372036854775808
        · obtain ⟨q, q1, q2⟩ := wrap_neg_i c6
          rw [decide_eq_true (by simp; omega), if_pos rfl, if_pos rfl, if_pos rfl]
          exact to_s_n_i _ _ q _ _ _ _ x way (by omega) (by omega) (by omega) k o s (by omega) (by omega) em (by simp; omega) q1 q2 w
        · rw [decide_eq_false (by simp; omega), if_neg (by decide), if_neg (by decide)]
          exact to_s_n_o _ _ _ _ _ _ x way (by omega) (by omega) (by omega) k o s (by omega) (by omega) em (by simp; omega) w
  · have hM : toM x way = wholeR x way := by unfold toM; rw [if_neg c4]
    have hl := @whole_lt x
    have hr := s_round (Fl.ng x) (Fl.half x) (Fl.rest x) (Fl.whole x) (by omega) way
    rw [show (if incW way (Fl.ng x) (Fl.half x) (Fl.rest x) (decide (Fl.whole x % 2 = 1)) = true then Fl.whole x + 1 else Fl.whole x) = toM x way by rw [hM]; rfl] at hr
    have hml := toM_lt way c4
    have o := of_small x hx (by omega) (by omega)
    unfold toF
    cases hn : Fl.ng x
    · rw [hn] at o hr
      rw [decide_eq_true (.inl (by omega)), if_pos rfl, if_pos rfl, if_neg (by decide)]
      exact to_r_p_i _ _ _ _ _ x way (by omega) (by omega) (by omega) k o hr (by omega) (IntWalk.i64_in _ (by omega)) w
    · rw [hn] at o hr
      obtain ⟨q, q1, q2⟩ := wrap_neg_i (m := toM x way) (by omega)
      rw [decide_eq_true (.inl (by omega)), if_pos rfl, if_pos rfl, if_pos rfl]
      exact to_r_n_i _ _ q _ _ _ x way (by omega) (by omega) (by omega) k o hr (by simp; omega) q1 q2 w
end Go.Proofs.Ytaplggheadahhaa
