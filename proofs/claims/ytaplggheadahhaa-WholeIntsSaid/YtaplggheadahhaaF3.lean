/- The walks of whole.Is, Min, Max, Whole. -/
import Derived.Test.YtaplggheadahhaaF2
namespace Go.Proofs.Ytaplggheadahhaa
open Go.RowKit
set_option linter.unusedVariables false
set_option linter.unusedSimpArgs false

/-- is a number whole? -/
def isB (x : Nat) : Bool := decide (Fl.kd x < 3) && (decide (1074 ≤ Fl.sh (Fl.ab x)) || !(Fl.half x || Fl.rest x))

set_option maxHeartbeats 1000000 in
theorem is_core (x n k : Nat) (neg half rest ok : Bool) (hk : (k : Int) < 3)
    (h1 : ∀ w, Calls Try.prog 68 #[.int .u64 (x : Int)] w fun e w' => e = .returned (.tuple #[.agg #[.bool neg, .bool half, .bool rest, .int .u64 (n : Int)], .bool ok]) ∧ Below w.heap.size w w')
    (h2 : ∀ w, Calls Try.prog 58 #[.int .u64 (x : Int)] w fun e w' => e = .returned (.int .i64 (k : Int)) ∧ w = w') (w : World) :
    Calls Try.prog 31 #[.int .u64 (x : Int)] w fun e w' => e = .returned (.bool (!(half || rest))) ∧ Below w.heap.size w w' := by
  have h3 := s_up neg half rest n
  generalize (half || rest) = u at *
  go_enter Try.func31, Try.ntmps31
  go_wp2_with fail
  refine (h1 _).mono ?_
  rintro e w1 ⟨rfl, hb⟩
  have z := hb.size
  go_wp2_with fail
  refine (h2 _).mono ?_
  rintro e w' ⟨rfl, rfl⟩
  go_wp2_with fail
  refine (h3 _).mono ?_
  rintro e w2 ⟨rfl, hb2⟩
  go_wp2
  go_ret
  exact ⟨rfl, (hb.alloc z _).trans (hb2.mono (by simp; omega))⟩
set_option maxHeartbeats 1000000 in
theorem is_core3 (x n k : Nat) (neg half rest ok : Bool) (hk : (3 : Int) ≤ (k : Int))
    (h1 : ∀ w, Calls Try.prog 68 #[.int .u64 (x : Int)] w fun e w' => e = .returned (.tuple #[.agg #[.bool neg, .bool half, .bool rest, .int .u64 (n : Int)], .bool ok]) ∧ Below w.heap.size w w')
    (h2 : ∀ w, Calls Try.prog 58 #[.int .u64 (x : Int)] w fun e w' => e = .returned (.int .i64 (k : Int)) ∧ w = w') (w : World) :
    Calls Try.prog 31 #[.int .u64 (x : Int)] w fun e w' => e = .returned (.bool false) ∧ Below w.heap.size w w' := by
  have hk2 : decide (k < 3) = false := by simp; omega
  go_enter Try.func31, Try.ntmps31
  go_wp2_with fail
  refine (h1 _).mono ?_
  rintro e w1 ⟨rfl, hb⟩
  have z := hb.size
  go_wp2_with fail
  refine (h2 _).mono ?_
  rintro e w' ⟨rfl, rfl⟩
  go_wp2
  go_ret
  exact ⟨rfl, (hb.alloc z _)⟩
/-- whole.Is -/
theorem is_any (x : Nat) (hx : x < 18446744073709551616) (w : World) :
    Calls Try.prog 31 #[.int .u64 (x : Int)] w fun e w' => e = .returned (.bool (isB x)) ∧ Below w.heap.size w w' := by
  have k := kind_any x hx
  unfold isB
  by_cases hk : Fl.kd x < 3
  · rw [decide_eq_true hk, Bool.true_and]
    by_cases hs : 1074 ≤ Fl.sh (Fl.ab x)
    · rw [decide_eq_true hs, Bool.true_or]
      exact is_core x _ _ _ false false _ (by omega) (of_large x hx hk hs) k w
    · rw [decide_eq_false hs, Bool.false_or]
      exact is_core x _ _ _ _ _ _ (by omega) (of_small x hx hk (by omega)) k w
  · rw [decide_eq_false hk, Bool.false_and]
    exact is_core3 x _ _ _ _ _ _ (by omega) (of_none x hx (by omega)) k w

def minN (a b : Nat) : Nat := if cmpB a b = false then Fl.NAN else if cmpN a b < 0 ∨ (cmpN a b = 0 ∧ Fl.ng a = true) then a else b
def maxN (a b : Nat) : Nat := if cmpB a b = false then Fl.NAN else if 0 < cmpN a b ∨ (cmpN a b = 0 ∧ Fl.ng a = false) then a else b

theorem ng_div1 (x : Nat) (h : x < 18446744073709551616) : (x : Int) / 9223372036854775808 = if Fl.ng x = true then 1 else 0 := by
  unfold Fl.ng; by_cases h' : 9223372036854775808 ≤ x <;> simp [h'] <;> omega
theorem ng_is1 (x : Nat) (h : x < 18446744073709551616) : ((x : Int) / 9223372036854775808 == 1) = Fl.ng x := by
  rw [ng_div1 x h]; cases Fl.ng x <;> rfl
theorem ng_is0 (x : Nat) (h : x < 18446744073709551616) : ((x : Int) / 9223372036854775808 == 0) = !Fl.ng x := by
  rw [ng_div1 x h]; cases Fl.ng x <;> rfl

set_option maxHeartbeats 1000000 in
/-- whole.Min -/
theorem min_any (a b : Nat) (ha : a < 18446744073709551616) (hb : b < 18446744073709551616) (w : World) :
    Calls Try.prog 33 #[.int .u64 (a : Int), .int .u64 (b : Int)] w fun e w' => e = .returned (.int .u64 ((minN a b : Nat) : Int)) ∧ w = w' := by
  have hc := cmp_any a b ha hb
  have hn := ng_is1 a ha
  unfold minN
  generalize cmpN a b = r at *
  generalize cmpB a b = ok at *
  generalize Fl.ng a = n at *
  cases ok
  · rw [if_pos rfl, show ((Fl.NAN : Nat) : Int) = 9221120237041090560 from rfl]
    go_enter Try.func33, Try.ntmps33
    go_wp2_with (go_at_call 27; refine (hc _).mono ?_; rintro e w' ⟨rfl, rfl⟩)
    go_ret
    exact ⟨rfl, rfl⟩
  · rw [if_neg (by decide)]
    by_cases h1 : r < 0
    · rw [if_pos (.inl h1)]
      go_enter Try.func33, Try.ntmps33
      go_wp2_with (go_at_call 27; refine (hc _).mono ?_; rintro e w' ⟨rfl, rfl⟩)
      go_ret
      exact ⟨rfl, rfl⟩
    · by_cases h2 : r = 0
      · subst h2
        cases n
        · rw [if_neg (by simp)]
          go_enter Try.func33, Try.ntmps33
          go_wp2_with (go_at_call 27; refine (hc _).mono ?_; rintro e w' ⟨rfl, rfl⟩)
          go_ret
          exact ⟨rfl, rfl⟩
        · rw [if_pos (by simp)]
          go_enter Try.func33, Try.ntmps33
          go_wp2_with (go_at_call 27; refine (hc _).mono ?_; rintro e w' ⟨rfl, rfl⟩)
          go_ret
          exact ⟨rfl, rfl⟩
      · rw [if_neg (by omega)]
        have h3 : (r == 0) = false := by simpa using h2
        clear h2
        go_enter Try.func33, Try.ntmps33
        go_wp2_with (go_at_call 27; refine (hc _).mono ?_; rintro e w' ⟨rfl, rfl⟩)
        go_ret
        exact ⟨rfl, rfl⟩
set_option maxHeartbeats 1000000 in
/-- whole.Max -/
theorem max_any (a b : Nat) (ha : a < 18446744073709551616) (hb : b < 18446744073709551616) (w : World) :
    Calls Try.prog 35 #[.int .u64 (a : Int), .int .u64 (b : Int)] w fun e w' => e = .returned (.int .u64 ((maxN a b : Nat) : Int)) ∧ w = w' := by
  have hc := cmp_any a b ha hb
  have hn := ng_is0 a ha
  unfold maxN
  generalize cmpN a b = r at *
  generalize cmpB a b = ok at *
  generalize Fl.ng a = n at *
  cases ok
  · rw [if_pos rfl, show ((Fl.NAN : Nat) : Int) = 9221120237041090560 from rfl]
    go_enter Try.func35, Try.ntmps35
    go_wp2_with (go_at_call 27; refine (hc _).mono ?_; rintro e w' ⟨rfl, rfl⟩)
    go_ret
    exact ⟨rfl, rfl⟩
  · rw [if_neg (by decide)]
    by_cases h1 : 0 < r
    · rw [if_pos (.inl h1)]
      go_enter Try.func35, Try.ntmps35
      go_wp2_with (go_at_call 27; refine (hc _).mono ?_; rintro e w' ⟨rfl, rfl⟩)
      go_ret
      exact ⟨rfl, rfl⟩
    · by_cases h2 : r = 0
      · subst h2
        cases n
        · rw [if_pos (by simp)]
          go_enter Try.func35, Try.ntmps35
          go_wp2_with (go_at_call 27; refine (hc _).mono ?_; rintro e w' ⟨rfl, rfl⟩)
          go_ret
          exact ⟨rfl, rfl⟩
        · rw [if_neg (by simp)]
          go_enter Try.func35, Try.ntmps35
          go_wp2_with (go_at_call 27; refine (hc _).mono ?_; rintro e w' ⟨rfl, rfl⟩)
          go_ret
          exact ⟨rfl, rfl⟩
      · rw [if_neg (by omega)]
        have h3 : (r == 0) = false := by simpa using h2
        clear h2
        go_enter Try.func35, Try.ntmps35
        go_wp2_with (go_at_call 27; refine (hc _).mono ?_; rintro e w' ⟨rfl, rfl⟩)
        go_ret
        exact ⟨rfl, rfl⟩

/-! ### Whole -/
def wholeR (x : Nat) (way : Int) : Nat := if incW way (Fl.ng x) (Fl.half x) (Fl.rest x) (decide (Fl.whole x % 2 = 1)) = true then Fl.whole x + 1 else Fl.whole x
def wholeV (x : Nat) (way : Int) : Nat :=
  if way < 0 ∨ 5 < way then 0 else if Fl.kd x = 4 then Fl.NAN else if Fl.kd x = 3 then x else if 1074 ≤ Fl.sh (Fl.ab x) then x else Fl.pk (Fl.ng x) (Fl.rnd (wholeR x way) 0 false)
def wholeE (way : Int) : Int := if way < 0 ∨ 5 < way then 1 else 0

theorem whole_lt {x : Nat} : Fl.whole x < 9007199254740992 := by
  have hm := Fl.mant_lt (Fl.ab x)
  have hq : Fl.mant (Fl.ab x) / 2 ^ (Fl.tt x - 1) < 9007199254740992 := Nat.lt_of_le_of_lt (Nat.div_le_self _ _) hm
  unfold Fl.whole
  exact Nat.lt_of_le_of_lt (Nat.div_le_self _ _) hq

set_option maxHeartbeats 1000000 in
theorem whole_arg (x : Int) (way : Int) (h : way < 0 ∨ 5 < way) (w : World) :
    Calls Try.prog 37 #[.int .u64 x, .int .i64 way] w fun e w' => e = .returned (.tuple #[.int .u64 0, .int .i64 1]) ∧ Below w.heap.size w w' := by
  by_cases h1 : way < 0
  · clear h
    go_enter Try.func37, Try.ntmps37
    go_wp2
    go_ret2
    exact ⟨rfl, Below.refl _ _⟩
  · have h2 := h.resolve_left h1
    clear h
    have e1 : decide (way < 0) = false := by simpa using h1
    go_enter Try.func37, Try.ntmps37
    go_wp2
    go_ret2
    exact ⟨rfl, Below.refl _ _⟩
set_option maxHeartbeats 1000000 in
theorem whole_nan (x : Int) (way : Int) (h1 : ¬ way < 0) (h2 : ¬ 5 < way) (k : ∀ w, Calls Try.prog 58 #[.int .u64 x] w fun e w' => e = .returned (.int .i64 4) ∧ w = w') (w : World) :
    Calls Try.prog 37 #[.int .u64 x, .int .i64 way] w fun e w' => e = .returned (.tuple #[.int .u64 9221120237041090560, .int .i64 0]) ∧ Below w.heap.size w w' := by
  have e1 : decide (way < 0) = false := by simpa using h1
  have e2 : decide (5 < way) = false := by simpa using h2
  go_enter Try.func37, Try.ntmps37
  go_wp2_with (go_at_call 58; refine (k _).mono ?_; rintro e w' ⟨rfl, rfl⟩)
  go_ret2
  exact ⟨rfl, Below.refl _ _⟩
set_option maxHeartbeats 1000000 in
theorem whole_inf (x : Int) (way : Int) (h1 : ¬ way < 0) (h2 : ¬ 5 < way) (k : ∀ w, Calls Try.prog 58 #[.int .u64 x] w fun e w' => e = .returned (.int .i64 3) ∧ w = w') (w : World) :
    Calls Try.prog 37 #[.int .u64 x, .int .i64 way] w fun e w' => e = .returned (.tuple #[.int .u64 x, .int .i64 0]) ∧ Below w.heap.size w w' := by
  have e1 : decide (way < 0) = false := by simpa using h1
  have e2 : decide (5 < way) = false := by simpa using h2
  go_enter Try.func37, Try.ntmps37
  go_wp2_with (go_at_call 58; refine (k _).mono ?_; rintro e w' ⟨rfl, rfl⟩)
  go_ret2
  exact ⟨rfl, Below.refl _ _⟩
set_option maxHeartbeats 1000000 in
theorem whole_big (x : Int) (n K : Nat) (neg half rest : Bool) (way : Int) (h1 : ¬ way < 0) (h2 : ¬ 5 < way) (hK : (K : Int) < 3) (k : ∀ w, Calls Try.prog 58 #[.int .u64 x] w fun e w' => e = .returned (.int .i64 (K : Int)) ∧ w = w')
    (o : ∀ w, Calls Try.prog 68 #[.int .u64 x] w fun e w' => e = .returned (.tuple #[.agg #[.bool neg, .bool half, .bool rest, .int .u64 (n : Int)], .bool false]) ∧ Below w.heap.size w w') (w : World) :
    Calls Try.prog 37 #[.int .u64 x, .int .i64 way] w fun e w' => e = .returned (.tuple #[.int .u64 x, .int .i64 0]) ∧ Below w.heap.size w w' := by
  have e1 : decide (way < 0) = false := by simpa using h1
  have e2 : decide (5 < way) = false := by simpa using h2
  go_enter Try.func37, Try.ntmps37
  go_wp2_with (first | (go_at_call 58; refine (k _).mono ?_; rintro e w' ⟨rfl, rfl⟩) | (go_at_call 68; refine (o _).mono ?_; rintro e w1 ⟨rfl, hb⟩))
  go_ret2
  exact ⟨rfl, hb.alloc hb.size _⟩
set_option maxHeartbeats 2000000 in
set_option maxRecDepth 100000 in
theorem whole_work (x : Int) (n m K R : Nat) (neg half rest : Bool) (way : Int) (h1 : ¬ way < 0) (h2 : ¬ 5 < way) (hK : (K : Int) < 3) (k : ∀ w, Calls Try.prog 58 #[.int .u64 x] w fun e w' => e = .returned (.int .i64 (K : Int)) ∧ w = w')
    (o : ∀ w, Calls Try.prog 68 #[.int .u64 x] w fun e w' => e = .returned (.tuple #[.agg #[.bool neg, .bool half, .bool rest, .int .u64 (n : Int)], .bool true]) ∧ Below w.heap.size w w')
    (r : ∀ w, Calls Try.prog 72 #[.agg #[.bool neg, .bool half, .bool rest, .int .u64 (n : Int)], .int .i64 way] w fun e w' => e = .returned (.int .u64 (m : Int)) ∧ Below w.heap.size w w')
    (j : ∀ w, Calls Try.prog 62 #[.bool neg, .agg #[.int .u64 0, .int .u64 (m : Int)], .int .i64 0, .bool false] w fun e w' => e = .returned (.int .u64 (R : Int)) ∧ Below w.heap.size w w') (w : World) :
    Calls Try.prog 37 #[.int .u64 x, .int .i64 way] w fun e w' => e = .returned (.tuple #[.int .u64 (R : Int), .int .i64 0]) ∧ Below w.heap.size w w' := by
  have e1 : decide (way < 0) = false := by simpa using h1
  have e2 : decide (5 < way) = false := by simpa using h2
  go_enter Try.func37, Try.ntmps37
  go_wp2_with (first | (go_at_call 58; refine (k _).mono ?_; rintro e w' ⟨rfl, rfl⟩) | (go_at_call 68; refine (o _).mono ?_; rintro e w1 ⟨rfl, hb⟩))
  have B1 := Blk.new w1 54 #[.bool neg, .bool half, .bool rest, .int .u64 (n : Int)]
  have L1 := hb.alloc hb.size (.cells #[.bool neg, .bool half, .bool rest, .int .u64 (n : Int)] 54)
  have z := hb.size
  clear hb
  go_region_held3 (fun w' => w'.cell? ⟨w1.heap.size, 0, none⟩ = some (.bool neg) ∧ w'.cell? ⟨w1.heap.size, 1, none⟩ = some (.bool half) ∧ w'.cell? ⟨w1.heap.size, 2, none⟩ = some (.bool rest) ∧ w'.cell? ⟨w1.heap.size, 3, none⟩ = some (.int .u64 (n : Int)))
    (first | exact ⟨((B1.drew.belowS hb2).belowS hb3).cell 0 rfl, ((B1.drew.belowS hb2).belowS hb3).cell 1 rfl, ((B1.drew.belowS hb2).belowS hb3).cell 2 rfl, ((B1.drew.belowS hb2).belowS hb3).cell 3 rfl⟩ | exact ⟨(B1.drew.belowS hb2).cell 0 rfl, (B1.drew.belowS hb2).cell 1 rfl, (B1.drew.belowS hb2).cell 2 rfl, (B1.drew.belowS hb2).cell 3 rfl⟩ | exact ⟨B1.drew.cell 0 rfl, B1.drew.cell 1 rfl, B1.drew.cell 2 rfl, B1.drew.cell 3 rfl⟩ | exact ⟨B1.cell 0 rfl, B1.cell 1 rfl, B1.cell 2 rfl, B1.cell 3 rfl⟩)
    (first | (go_at_call 72; refine (r _).mono ?_; rintro e w2 ⟨rfl, hb2⟩) | (go_at_call 62; refine (j _).mono ?_; rintro e w3 ⟨rfl, hb3⟩))
  go_wp2
  go_ret2
  have y := hb2.size
  simp at y
  exact ⟨rfl, (L1.drew.trans (hb2.mono (by simp; omega))).trans (hb3.mono (by omega))⟩

/-- whole.Whole -/
theorem whole_any (x : Nat) (way : Int) (hx : x < 18446744073709551616) (w : World) :
    Calls Try.prog 37 #[.int .u64 (x : Int), .int .i64 way] w fun e w' => e = .returned (.tuple #[.int .u64 ((wholeV x way : Nat) : Int), .int .i64 (wholeE way)]) ∧ Below w.heap.size w w' := by
  have k := kind_any x hx
  have lk := Fl.kd_le x
  unfold wholeV wholeE
  by_cases c1 : way < 0 ∨ 5 < way
  · rw [if_pos c1, if_pos c1]; exact whole_arg x way c1 w
  rw [if_neg c1, if_neg c1]
  by_cases c2 : Fl.kd x = 4
  · rw [if_pos c2]; rw [c2] at k
    exact whole_nan x way (by omega) (by omega) k w
  rw [if_neg c2]
  by_cases c3 : Fl.kd x = 3
  · rw [if_pos c3]; rw [c3] at k
    exact whole_inf x way (by omega) (by omega) k w
  rw [if_neg c3]
  by_cases c4 : 1074 ≤ Fl.sh (Fl.ab x)
  · rw [if_pos c4]
    exact whole_big x _ _ _ _ _ way (by omega) (by omega) (by omega) k (of_large x hx (by omega) c4) w
  · rw [if_neg c4]
    have hl := @whole_lt x
    have hj := join_any (Fl.ng x) false 0 (wholeR x way) 0 (by decide) (by unfold wholeR; split <;> omega) (by decide) (by decide)
    rw [show 0 * 18446744073709551616 + wholeR x way = wholeR x way by omega] at hj
    exact whole_work x _ _ _ _ _ _ _ way (by omega) (by omega) (by omega) k (of_small x hx (by omega) (by omega)) (s_round _ _ _ _ (by omega) way) hj w
end Go.Proofs.Ytaplggheadahhaa
