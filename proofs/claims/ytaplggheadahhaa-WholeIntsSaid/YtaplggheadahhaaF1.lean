/- The walks of whole.split's methods. -/
import Derived.Test.YtaplggheadahhaaA10
namespace Go.Proofs.Ytaplggheadahhaa
open Go.RowKit
set_option linter.unusedVariables false
set_option linter.unusedSimpArgs false

set_option maxHeartbeats 1000000 in
theorem s_away (neg half rest : Bool) (n : Nat) (w : World) : Calls Try.prog 116 #[.agg #[.bool neg, .bool half, .bool rest, .int .u64 (n : Int)]] w fun e w' => e = .returned (.bool half) ∧ Below w.heap.size w w' := by
  go_enter Try.func116, Try.ntmps116
  go_wp2
  go_ret
  exact ⟨rfl, (Below.refl _ _).alloc (Nat.le_refl _) _⟩
set_option maxHeartbeats 1000000 in
theorem s_up (neg half rest : Bool) (n : Nat) (w : World) : Calls Try.prog 69 #[.agg #[.bool neg, .bool half, .bool rest, .int .u64 (n : Int)]] w fun e w' => e = .returned (.bool (half || rest)) ∧ Below w.heap.size w w' := by
  cases half
  all_goals
    go_enter Try.func69, Try.ntmps69
    go_wp2
    go_ret
    exact ⟨rfl, (Below.refl _ _).alloc (Nat.le_refl _) _⟩
set_option maxHeartbeats 1000000 in
theorem s_even (neg half rest : Bool) (n : Nat) (hn : n < 18446744073709551616) (w : World) : Calls Try.prog 115 #[.agg #[.bool neg, .bool half, .bool rest, .int .u64 (n : Int)]] w fun e w' => e = .returned (.bool (half && (rest || decide (n % 2 = 1)))) ∧ Below w.heap.size w w' := by
  have ea := and_1 n hn
  have ed : ((((n % 2 : Nat) : Int)) == 1) = decide (n % 2 = 1) := by rw [Bool.eq_iff_iff]; simp; omega
  generalize decide (n % 2 = 1) = D at *
  generalize n % 2 = J at *
  clear hn
  cases half
  · go_enter Try.func115, Try.ntmps115
    go_wp2
    go_ret
    exact ⟨rfl, (Below.refl _ _).alloc (Nat.le_refl _) _⟩
  · cases rest
    all_goals
      go_enter Try.func115, Try.ntmps115
      go_wp2
      go_ret
      exact ⟨rfl, (Below.refl _ _).alloc (Nat.le_refl _) _⟩
set_option maxHeartbeats 1000000 in
theorem s_low (neg half rest : Bool) (n : Nat) (w : World) : Calls Try.prog 117 #[.agg #[.bool neg, .bool half, .bool rest, .int .u64 (n : Int)]] w fun e w' => e = .returned (.bool (neg && (half || rest))) ∧ Below w.heap.size w w' := by
  have hu := s_up neg half rest n
  cases neg
  · go_enter Try.func117, Try.ntmps117
    go_wp2
    go_ret
    exact ⟨rfl, (Below.refl _ _).alloc (Nat.le_refl _) _⟩
  · go_enter Try.func117, Try.ntmps117
    go_wp2_with (go_at_call 69; refine (hu _).mono ?_; rintro e w1 ⟨rfl, hb⟩)
    go_ret
    exact ⟨rfl, ((Below.refl _ _).alloc (Nat.le_refl _) _).trans (hb.mono (by simp))⟩
set_option maxHeartbeats 1000000 in
theorem s_high (neg half rest : Bool) (n : Nat) (w : World) : Calls Try.prog 118 #[.agg #[.bool neg, .bool half, .bool rest, .int .u64 (n : Int)]] w fun e w' => e = .returned (.bool (!neg && (half || rest))) ∧ Below w.heap.size w w' := by
  have hu := s_up neg half rest n
  cases neg
  · go_enter Try.func118, Try.ntmps118
    go_wp2_with (go_at_call 69; refine (hu _).mono ?_; rintro e w1 ⟨rfl, hb⟩)
    go_ret
    exact ⟨rfl, ((Below.refl _ _).alloc (Nat.le_refl _) _).trans (hb.mono (by simp))⟩
  · go_enter Try.func118, Try.ntmps118
    go_wp2
    go_ret
    exact ⟨rfl, (Below.refl _ _).alloc (Nat.le_refl _) _⟩

set_option maxHeartbeats 1000000 in
set_option maxRecDepth 100000 in
theorem s_choose115 (neg half rest b : Bool) (n : Nat) (hn : n < 9223372036854775808)
    (hf : ∀ w, Calls Try.prog 115 #[.agg #[.bool neg, .bool half, .bool rest, .int .u64 (n : Int)]] w fun e w' => e = .returned (.bool b) ∧ Below w.heap.size w w') (w : World) :
    Calls Try.prog 114 #[.agg #[.bool neg, .bool half, .bool rest, .int .u64 (n : Int)], .func (.func 115) #[.agg #[.bool neg, .bool half, .bool rest, .int .u64 (n : Int)]] #[]] w fun e w' =>
      e = .returned (.int .u64 ((if b = true then n + 1 else n : Nat) : Int)) ∧ Below w.heap.size w w' := by
  have hw : IntKind.u64.wrap ((n : Int) + 1) = (n : Int) + 1 := by
    have := wrap_u64_nat (n + 1)
    rw [Nat.mod_eq_of_lt (by omega)] at this
    simpa using this
  clear hn
  cases b
  · go_enter Try.func114, Try.ntmps114
    go_wp2_with fail
    refine (hf _).mono ?_
    rintro e w1 ⟨rfl, hb⟩
    have B1 := (Blk.new w 54 #[.bool neg, .bool half, .bool rest, .int .u64 (n : Int)]).belowS hb
    have c3 := B1.cell 3 rfl
    have L := ((Below.refl w.heap.size w).alloc (Nat.le_refl _) _).trans (hb.mono (by simp))
    clear hb B1
    go_wp2
    go_ret
    exact ⟨rfl, L⟩
  · go_enter Try.func114, Try.ntmps114
    go_wp2_with fail
    refine (hf _).mono ?_
    rintro e w1 ⟨rfl, hb⟩
    have B1 := (Blk.new w 54 #[.bool neg, .bool half, .bool rest, .int .u64 (n : Int)]).belowS hb
    have c3 := B1.cell 3 rfl
    have L := ((Below.refl w.heap.size w).alloc (Nat.le_refl _) _).trans (hb.mono (by simp))
    clear hb B1
    go_wp2
    go_ret
    exact ⟨rfl, L⟩

set_option maxHeartbeats 1000000 in
set_option maxRecDepth 100000 in
theorem s_choose116 (neg half rest b : Bool) (n : Nat) (hn : n < 9223372036854775808)
    (hf : ∀ w, Calls Try.prog 116 #[.agg #[.bool neg, .bool half, .bool rest, .int .u64 (n : Int)]] w fun e w' => e = .returned (.bool b) ∧ Below w.heap.size w w') (w : World) :
    Calls Try.prog 114 #[.agg #[.bool neg, .bool half, .bool rest, .int .u64 (n : Int)], .func (.func 116) #[.agg #[.bool neg, .bool half, .bool rest, .int .u64 (n : Int)]] #[]] w fun e w' =>
      e = .returned (.int .u64 ((if b = true then n + 1 else n : Nat) : Int)) ∧ Below w.heap.size w w' := by
  have hw : IntKind.u64.wrap ((n : Int) + 1) = (n : Int) + 1 := by
    have := wrap_u64_nat (n + 1)
    rw [Nat.mod_eq_of_lt (by omega)] at this
    simpa using this
  clear hn
  cases b
  · go_enter Try.func114, Try.ntmps114
    go_wp2_with fail
    refine (hf _).mono ?_
    rintro e w1 ⟨rfl, hb⟩
    have B1 := (Blk.new w 54 #[.bool neg, .bool half, .bool rest, .int .u64 (n : Int)]).belowS hb
    have c3 := B1.cell 3 rfl
    have L := ((Below.refl w.heap.size w).alloc (Nat.le_refl _) _).trans (hb.mono (by simp))
    clear hb B1
    go_wp2
    go_ret
    exact ⟨rfl, L⟩
  · go_enter Try.func114, Try.ntmps114
    go_wp2_with fail
    refine (hf _).mono ?_
    rintro e w1 ⟨rfl, hb⟩
    have B1 := (Blk.new w 54 #[.bool neg, .bool half, .bool rest, .int .u64 (n : Int)]).belowS hb
    have c3 := B1.cell 3 rfl
    have L := ((Below.refl w.heap.size w).alloc (Nat.le_refl _) _).trans (hb.mono (by simp))
    clear hb B1
    go_wp2
    go_ret
    exact ⟨rfl, L⟩

set_option maxHeartbeats 1000000 in
set_option maxRecDepth 100000 in
theorem s_choose69 (neg half rest b : Bool) (n : Nat) (hn : n < 9223372036854775808)
    (hf : ∀ w, Calls Try.prog 69 #[.agg #[.bool neg, .bool half, .bool rest, .int .u64 (n : Int)]] w fun e w' => e = .returned (.bool b) ∧ Below w.heap.size w w') (w : World) :
    Calls Try.prog 114 #[.agg #[.bool neg, .bool half, .bool rest, .int .u64 (n : Int)], .func (.func 69) #[.agg #[.bool neg, .bool half, .bool rest, .int .u64 (n : Int)]] #[]] w fun e w' =>
      e = .returned (.int .u64 ((if b = true then n + 1 else n : Nat) : Int)) ∧ Below w.heap.size w w' := by
  have hw : IntKind.u64.wrap ((n : Int) + 1) = (n : Int) + 1 := by
    have := wrap_u64_nat (n + 1)
    rw [Nat.mod_eq_of_lt (by omega)] at this
    simpa using this
  clear hn
  cases b
  · go_enter Try.func114, Try.ntmps114
    go_wp2_with fail
    refine (hf _).mono ?_
    rintro e w1 ⟨rfl, hb⟩
    have B1 := (Blk.new w 54 #[.bool neg, .bool half, .bool rest, .int .u64 (n : Int)]).belowS hb
    have c3 := B1.cell 3 rfl
    have L := ((Below.refl w.heap.size w).alloc (Nat.le_refl _) _).trans (hb.mono (by simp))
    clear hb B1
    go_wp2
    go_ret
    exact ⟨rfl, L⟩
  · go_enter Try.func114, Try.ntmps114
    go_wp2_with fail
    refine (hf _).mono ?_
    rintro e w1 ⟨rfl, hb⟩
    have B1 := (Blk.new w 54 #[.bool neg, .bool half, .bool rest, .int .u64 (n : Int)]).belowS hb
    have c3 := B1.cell 3 rfl
    have L := ((Below.refl w.heap.size w).alloc (Nat.le_refl _) _).trans (hb.mono (by simp))
    clear hb B1
    go_wp2
    go_ret
    exact ⟨rfl, L⟩

set_option maxHeartbeats 1000000 in
set_option maxRecDepth 100000 in
theorem s_choose117 (neg half rest b : Bool) (n : Nat) (hn : n < 9223372036854775808)
    (hf : ∀ w, Calls Try.prog 117 #[.agg #[.bool neg, .bool half, .bool rest, .int .u64 (n : Int)]] w fun e w' => e = .returned (.bool b) ∧ Below w.heap.size w w') (w : World) :
    Calls Try.prog 114 #[.agg #[.bool neg, .bool half, .bool rest, .int .u64 (n : Int)], .func (.func 117) #[.agg #[.bool neg, .bool half, .bool rest, .int .u64 (n : Int)]] #[]] w fun e w' =>
      e = .returned (.int .u64 ((if b = true then n + 1 else n : Nat) : Int)) ∧ Below w.heap.size w w' := by
  have hw : IntKind.u64.wrap ((n : Int) + 1) = (n : Int) + 1 := by
    have := wrap_u64_nat (n + 1)
    rw [Nat.mod_eq_of_lt (by omega)] at this
    simpa using this
  clear hn
  cases b
  · go_enter Try.func114, Try.ntmps114
    go_wp2_with fail
    refine (hf _).mono ?_
    rintro e w1 ⟨rfl, hb⟩
    have B1 := (Blk.new w 54 #[.bool neg, .bool half, .bool rest, .int .u64 (n : Int)]).belowS hb
    have c3 := B1.cell 3 rfl
    have L := ((Below.refl w.heap.size w).alloc (Nat.le_refl _) _).trans (hb.mono (by simp))
    clear hb B1
    go_wp2
    go_ret
    exact ⟨rfl, L⟩
  · go_enter Try.func114, Try.ntmps114
    go_wp2_with fail
    refine (hf _).mono ?_
    rintro e w1 ⟨rfl, hb⟩
    have B1 := (Blk.new w 54 #[.bool neg, .bool half, .bool rest, .int .u64 (n : Int)]).belowS hb
    have c3 := B1.cell 3 rfl
    have L := ((Below.refl w.heap.size w).alloc (Nat.le_refl _) _).trans (hb.mono (by simp))
    clear hb B1
    go_wp2
    go_ret
    exact ⟨rfl, L⟩

set_option maxHeartbeats 1000000 in
set_option maxRecDepth 100000 in
theorem s_choose118 (neg half rest b : Bool) (n : Nat) (hn : n < 9223372036854775808)
    (hf : ∀ w, Calls Try.prog 118 #[.agg #[.bool neg, .bool half, .bool rest, .int .u64 (n : Int)]] w fun e w' => e = .returned (.bool b) ∧ Below w.heap.size w w') (w : World) :
    Calls Try.prog 114 #[.agg #[.bool neg, .bool half, .bool rest, .int .u64 (n : Int)], .func (.func 118) #[.agg #[.bool neg, .bool half, .bool rest, .int .u64 (n : Int)]] #[]] w fun e w' =>
      e = .returned (.int .u64 ((if b = true then n + 1 else n : Nat) : Int)) ∧ Below w.heap.size w w' := by
  have hw : IntKind.u64.wrap ((n : Int) + 1) = (n : Int) + 1 := by
    have := wrap_u64_nat (n + 1)
    rw [Nat.mod_eq_of_lt (by omega)] at this
    simpa using this
  clear hn
  cases b
  · go_enter Try.func114, Try.ntmps114
    go_wp2_with fail
    refine (hf _).mono ?_
    rintro e w1 ⟨rfl, hb⟩
    have B1 := (Blk.new w 54 #[.bool neg, .bool half, .bool rest, .int .u64 (n : Int)]).belowS hb
    have c3 := B1.cell 3 rfl
    have L := ((Below.refl w.heap.size w).alloc (Nat.le_refl _) _).trans (hb.mono (by simp))
    clear hb B1
    go_wp2
    go_ret
    exact ⟨rfl, L⟩
  · go_enter Try.func114, Try.ntmps114
    go_wp2_with fail
    refine (hf _).mono ?_
    rintro e w1 ⟨rfl, hb⟩
    have B1 := (Blk.new w 54 #[.bool neg, .bool half, .bool rest, .int .u64 (n : Int)]).belowS hb
    have c3 := B1.cell 3 rfl
    have L := ((Below.refl w.heap.size w).alloc (Nat.le_refl _) _).trans (hb.mono (by simp))
    clear hb B1
    go_wp2
    go_ret
    exact ⟨rfl, L⟩

/-- is the whole part to be one more, by a way? -/
def incW (way : Int) (neg half rest odd : Bool) : Bool :=
  if way = 0 then half && (rest || odd) else if way = 1 then half else if way = 3 then half || rest else if way = 4 then neg && (half || rest) else if way = 5 then !neg && (half || rest) else false

set_option maxHeartbeats 2000000 in
theorem s_round (neg half rest : Bool) (n : Nat) (hn : n < 9223372036854775808) (way : Int) (w : World) :
    Calls Try.prog 72 #[.agg #[.bool neg, .bool half, .bool rest, .int .u64 (n : Int)], .int .i64 way] w fun e w' =>
      e = .returned (.int .u64 ((if incW way neg half rest (decide (n % 2 = 1)) = true then n + 1 else n : Nat) : Int)) ∧ Below w.heap.size w w' := by
  have hmf : ∀ (fn : Fn) (first cap : Array Value) (w : World), (Instr.makeFunc fn first cap).run Try.prog w = .ok (.func fn first cap) w := fun _ _ _ _ => rfl
  unfold incW
  by_cases c0 : way = 0
  · rw [if_pos c0]; subst c0
    have hc := s_choose115 neg half rest _ n hn (s_even neg half rest n (by omega))
    generalize (if (half && (rest || decide (n % 2 = 1))) = true then n + 1 else n) = R at *
    go_enter Try.func72, Try.ntmps72
    go_wp2_with (go_at_call 114; refine (hc _).mono ?_; rintro e w1 ⟨rfl, hb⟩)
    go_ret
    exact ⟨rfl, ((Below.refl _ _).alloc (Nat.le_refl _) _).trans (hb.mono (by simp))⟩
  rw [if_neg c0]
  by_cases c1 : way = 1
  · rw [if_pos c1]; subst c1
    have hc := s_choose116 neg half rest _ n hn (s_away neg half rest n)
    generalize (if half = true then n + 1 else n) = R at *
    go_enter Try.func72, Try.ntmps72
    go_wp2_with (go_at_call 114; refine (hc _).mono ?_; rintro e w1 ⟨rfl, hb⟩)
    go_ret
    exact ⟨rfl, ((Below.refl _ _).alloc (Nat.le_refl _) _).trans (hb.mono (by simp))⟩
  rw [if_neg c1]
  by_cases c2 : way = 3
  · rw [if_pos c2]; subst c2
    have hc := s_choose69 neg half rest _ n hn (s_up neg half rest n)
    generalize (if (half || rest) = true then n + 1 else n) = R at *
    go_enter Try.func72, Try.ntmps72
    go_wp2_with (go_at_call 114; refine (hc _).mono ?_; rintro e w1 ⟨rfl, hb⟩)
    go_ret
    exact ⟨rfl, ((Below.refl _ _).alloc (Nat.le_refl _) _).trans (hb.mono (by simp))⟩
  rw [if_neg c2]
  by_cases c3 : way = 4
  · rw [if_pos c3]; subst c3
    have hc := s_choose117 neg half rest _ n hn (s_low neg half rest n)
    generalize (if (neg && (half || rest)) = true then n + 1 else n) = R at *
    go_enter Try.func72, Try.ntmps72
    go_wp2_with (go_at_call 114; refine (hc _).mono ?_; rintro e w1 ⟨rfl, hb⟩)
    go_ret
    exact ⟨rfl, ((Below.refl _ _).alloc (Nat.le_refl _) _).trans (hb.mono (by simp))⟩
  rw [if_neg c3]
  by_cases c4 : way = 5
  · rw [if_pos c4]; subst c4
    have hc := s_choose118 neg half rest _ n hn (s_high neg half rest n)
    generalize (if (!neg && (half || rest)) = true then n + 1 else n) = R at *
    go_enter Try.func72, Try.ntmps72
    go_wp2_with (go_at_call 114; refine (hc _).mono ?_; rintro e w1 ⟨rfl, hb⟩)
    go_ret
    exact ⟨rfl, ((Below.refl _ _).alloc (Nat.le_refl _) _).trans (hb.mono (by simp))⟩
  rw [if_neg c4, if_neg (by decide)]
  have e0 : (way == 0) = false := by simpa using c0
  have e1 : (way == 1) = false := by simpa using c1
  have e2 : (way == 3) = false := by simpa using c2
  have e3 : (way == 4) = false := by simpa using c3
  have e4 : (way == 5) = false := by simpa using c4
  clear c0 c1 c2 c3 c4
  go_enter Try.func72, Try.ntmps72
  go_wp2
  go_ret
  exact ⟨rfl, (Below.refl _ _).alloc (Nat.le_refl _) _⟩
end Go.Proofs.Ytaplggheadahhaa
