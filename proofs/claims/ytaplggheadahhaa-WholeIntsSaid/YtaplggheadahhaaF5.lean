/- The walk of chapter 6's examples: all of them hold. -/
import Derived.Test.YtaplggheadahhaaF4
namespace Go.Proofs.Ytaplggheadahhaa
open Go.RowKit
set_option linter.unusedVariables false
set_option linter.unusedSimpArgs false

theorem cmp_c {a b : Nat} {r : Int} {ok : Bool} (ha : a < 18446744073709551616) (hb : b < 18446744073709551616) (h : cmpN a b = r) (h' : cmpB a b = ok) (w : World) :
    Calls Try.prog 27 #[.int .u64 (a : Int), .int .u64 (b : Int)] w fun e w' => e = .returned (.tuple #[.int .i64 r, .bool ok]) ∧ w = w' := by rw [← h, ← h']; exact cmp_any a b ha hb w
theorem sign_c {a : Nat} {r : Int} (ha : a < 18446744073709551616) (h : cmpN a 0 = r) (w : World) :
    Calls Try.prog 29 #[.int .u64 (a : Int)] w fun e w' => e = .returned (.int .i64 r) ∧ w = w' := by rw [← h]; exact sign_any a ha w
theorem is_c {a : Nat} {r : Bool} (ha : a < 18446744073709551616) (h : isB a = r) (w : World) :
    Calls Try.prog 31 #[.int .u64 (a : Int)] w fun e w' => e = .returned (.bool r) ∧ Below w.heap.size w w' := by rw [← h]; exact is_any a ha w
theorem whole_c {a r : Nat} {way e : Int} (ha : a < 18446744073709551616) (h : wholeV a way = r) (h' : wholeE way = e) (w : World) :
    Calls Try.prog 37 #[.int .u64 (a : Int), .int .i64 way] w fun e' w' => e' = .returned (.tuple #[.int .u64 (r : Int), .int .i64 e]) ∧ Below w.heap.size w w' := by rw [← h, ← h']; exact whole_any a way ha w
theorem to_c {a : Nat} {way r e : Int} (ha : a < 18446744073709551616) (h : toV a way = r) (h' : toE a way = e) (w : World) :
    Calls Try.prog 41 #[.int .u64 (a : Int), .int .i64 way] w fun e' w' => e' = .returned (.tuple #[.int .i64 r, .int .i64 e]) ∧ Below w.heap.size w w' := by rw [← h, ← h']; exact to_any a way ha w
theorem from_c {v : Int} {r : Nat} (h1 : -9223372036854775808 ≤ v) (h2 : v ≤ 9223372036854775807) (h : fromN v = r) (w : World) :
    Calls Try.prog 39 #[.int .i64 v] w fun e w' => e = .returned (.int .u64 (r : Int)) ∧ Below w.heap.size w w' := by rw [← h]; exact from_any v h1 h2 w
theorem min_c {a b r : Nat} (ha : a < 18446744073709551616) (hb : b < 18446744073709551616) (h : minN a b = r) (w : World) :
    Calls Try.prog 33 #[.int .u64 (a : Int), .int .u64 (b : Int)] w fun e w' => e = .returned (.int .u64 (r : Int)) ∧ w = w' := by rw [← h]; exact min_any a b ha hb w
theorem max_c {a b r : Nat} (ha : a < 18446744073709551616) (hb : b < 18446744073709551616) (h : maxN a b = r) (w : World) :
    Calls Try.prog 35 #[.int .u64 (a : Int), .int .u64 (b : Int)] w fun e w' => e = .returned (.int .u64 (r : Int)) ∧ w = w' := by rw [← h]; exact max_any a b ha hb w

theorem s6_0 (w : World) : Calls Try.prog 27 #[.int .u64 9223372036854775808, .int .u64 0] w fun e w' => e = .returned (.tuple #[.int .i64 0, .bool true]) ∧ w = w' := cmp_c (a := 9223372036854775808) (b := 0) (by decide) (by decide) (by decide +kernel) (by decide +kernel) w
theorem s6_1 (w : World) : Calls Try.prog 27 #[.int .u64 13830554455654793216, .int .u64 4607182418800017408] w fun e w' => e = .returned (.tuple #[.int .i64 (-1), .bool true]) ∧ w = w' := cmp_c (a := 13830554455654793216) (b := 4607182418800017408) (by decide) (by decide) (by decide +kernel) (by decide +kernel) w
theorem s6_2 (w : World) : Calls Try.prog 27 #[.int .u64 9221120237041090560, .int .u64 4607182418800017408] w fun e w' => e = .returned (.tuple #[.int .i64 0, .bool false]) ∧ w = w' := cmp_c (a := 9221120237041090560) (b := 4607182418800017408) (by decide) (by decide) (by decide +kernel) (by decide +kernel) w
theorem s6_3 (w : World) : Calls Try.prog 29 #[.int .u64 9223372036854775808] w fun e w' => e = .returned (.int .i64 0) ∧ w = w' := sign_c (a := 9223372036854775808) (by decide) (by decide +kernel) w
theorem s6_4 (w : World) : Calls Try.prog 31 #[.int .u64 4616752568008179712] w fun e w' => e = .returned (.bool false) ∧ Below w.heap.size w w' := is_c (a := 4616752568008179712) (by decide) (by decide +kernel) w
theorem s6_5 (w : World) : Calls Try.prog 31 #[.int .u64 4877398396442247168] w fun e w' => e = .returned (.bool true) ∧ Below w.heap.size w w' := is_c (a := 4877398396442247168) (by decide) (by decide +kernel) w
theorem s6_6 (w : World) : Calls Try.prog 37 #[.int .u64 4612811918334230528, .int .i64 0] w fun e w' => e = .returned (.tuple #[.int .u64 4611686018427387904, .int .i64 0]) ∧ Below w.heap.size w w' := whole_c (a := 4612811918334230528) (way := 0) (r := 4611686018427387904) (by decide) (by decide +kernel) (by decide +kernel) w
theorem s6_7 (w : World) : Calls Try.prog 37 #[.int .u64 4612811918334230528, .int .i64 1] w fun e w' => e = .returned (.tuple #[.int .u64 4613937818241073152, .int .i64 0]) ∧ Below w.heap.size w w' := whole_c (a := 4612811918334230528) (way := 1) (r := 4613937818241073152) (by decide) (by decide +kernel) (by decide +kernel) w
theorem s6_8 (w : World) : Calls Try.prog 37 #[.int .u64 13836183955189006336, .int .i64 4] w fun e w' => e = .returned (.tuple #[.int .u64 13837309855095848960, .int .i64 0]) ∧ Below w.heap.size w w' := whole_c (a := 13836183955189006336) (way := 4) (r := 13837309855095848960) (by decide) (by decide +kernel) (by decide +kernel) w
theorem s6_9 (w : World) : Calls Try.prog 37 #[.int .u64 13836183955189006336, .int .i64 5] w fun e w' => e = .returned (.tuple #[.int .u64 13835058055282163712, .int .i64 0]) ∧ Below w.heap.size w w' := whole_c (a := 13836183955189006336) (way := 5) (r := 13835058055282163712) (by decide) (by decide +kernel) (by decide +kernel) w
theorem s6_10 (w : World) : Calls Try.prog 37 #[.int .u64 13822447976325526323, .int .i64 5] w fun e w' => e = .returned (.tuple #[.int .u64 9223372036854775808, .int .i64 0]) ∧ Below w.heap.size w w' := whole_c (a := 13822447976325526323) (way := 5) (r := 9223372036854775808) (by decide) (by decide +kernel) (by decide +kernel) w
theorem s6_11 (w : World) : Calls Try.prog 37 #[.int .u64 4599075939470750515, .int .i64 3] w fun e w' => e = .returned (.tuple #[.int .u64 4607182418800017408, .int .i64 0]) ∧ Below w.heap.size w w' := whole_c (a := 4599075939470750515) (way := 3) (r := 4607182418800017408) (by decide) (by decide +kernel) (by decide +kernel) w
theorem s6_12 (w : World) : Calls Try.prog 37 #[.int .u64 4612811918334230528, .int .i64 6] w fun e w' => e = .returned (.tuple #[.int .u64 0, .int .i64 1]) ∧ Below w.heap.size w w' := whole_c (a := 4612811918334230528) (way := 6) (r := 0) (by decide) (by decide +kernel) (by decide +kernel) w
theorem s6_13 (w : World) : Calls Try.prog 41 #[.int .u64 4612811918334230528, .int .i64 0] w fun e w' => e = .returned (.tuple #[.int .i64 2, .int .i64 0]) ∧ Below w.heap.size w w' := to_c (a := 4612811918334230528) (way := 0) (by decide) (by decide +kernel) (by decide +kernel) w
theorem s6_14 (w : World) : Calls Try.prog 41 #[.int .u64 4890909195324358656, .int .i64 2] w fun e w' => e = .returned (.tuple #[.int .i64 0, .int .i64 6]) ∧ Below w.heap.size w w' := to_c (a := 4890909195324358656) (way := 2) (by decide) (by decide +kernel) (by decide +kernel) w
theorem s6_15 (w : World) : Calls Try.prog 41 #[.int .u64 9218868437227405312, .int .i64 2] w fun e w' => e = .returned (.tuple #[.int .i64 0, .int .i64 11]) ∧ Below w.heap.size w w' := to_c (a := 9218868437227405312) (way := 2) (by decide) (by decide +kernel) (by decide +kernel) w
theorem s6_16 (w : World) : Calls Try.prog 39 #[.int .i64 9007199254740993] w fun e w' => e = .returned (.int .u64 4845873199050653696) ∧ Below w.heap.size w w' := from_c (v := 9007199254740993) (r := 4845873199050653696) (by decide) (by decide) (by decide +kernel) w
theorem s6_17 (w : World) : Calls Try.prog 39 #[.int .i64 (-9223372036854775808)] w fun e w' => e = .returned (.int .u64 14114281232179134464) ∧ Below w.heap.size w w' := from_c (v := -9223372036854775808) (r := 14114281232179134464) (by decide) (by decide) (by decide +kernel) w
theorem s6_18 (w : World) : Calls Try.prog 33 #[.int .u64 9223372036854775808, .int .u64 0] w fun e w' => e = .returned (.int .u64 9223372036854775808) ∧ w = w' := min_c (a := 9223372036854775808) (b := 0) (r := 9223372036854775808) (by decide) (by decide) (by decide +kernel) w
theorem s6_19 (w : World) : Calls Try.prog 35 #[.int .u64 9223372036854775808, .int .u64 0] w fun e w' => e = .returned (.int .u64 0) ∧ w = w' := max_c (a := 9223372036854775808) (b := 0) (r := 0) (by decide) (by decide) (by decide +kernel) w
theorem s6_20 (w : World) : Calls Try.prog 33 #[.int .u64 9221120237041090560, .int .u64 4607182418800017408] w fun e w' => e = .returned (.int .u64 9221120237041090560) ∧ w = w' := min_c (a := 9221120237041090560) (b := 4607182418800017408) (r := 9221120237041090560) (by decide) (by decide) (by decide +kernel) w
theorem s6_21 (w : World) : Calls Try.prog 35 #[.int .u64 18442240474082181120, .int .u64 4613937818241073152] w fun e w' => e = .returned (.int .u64 4613937818241073152) ∧ w = w' := max_c (a := 18442240474082181120) (b := 4613937818241073152) (r := 4613937818241073152) (by decide) (by decide) (by decide +kernel) w

set_option maxHeartbeats 4000000 in
set_option maxRecDepth 100000 in
/-- chapter 6's examples hold -/
theorem shown6 (w : World) : Calls Try.prog 26 #[] w fun e w' => e = .returned (.bool true) ∧ Below w.heap.size w w' := by
  go_enter Try.func26, Try.ntmps26
  go_wp2_with fail
  refine (s6_0 _).mono ?_
  rintro e w' ⟨rfl, rfl⟩
  go_wp2_with fail
  refine (s6_1 _).mono ?_
  rintro e w' ⟨rfl, rfl⟩
  go_wp2_with fail
  refine (s6_2 _).mono ?_
  rintro e w' ⟨rfl, rfl⟩
  go_wp2_with fail
  refine (s6_3 _).mono ?_
  rintro e w' ⟨rfl, rfl⟩
  go_wp2_with fail
  refine (s6_4 _).mono ?_
  rintro e w4 ⟨rfl, hb⟩
  have L := hb
  clear hb
  go_wp2_with fail
  refine (s6_5 _).mono ?_
  rintro e w5 ⟨rfl, hb⟩
  replace L := L.trans (hb.mono L.size)
  clear hb
  go_wp2_with fail
  refine (s6_6 _).mono ?_
  rintro e w6 ⟨rfl, hb⟩
  replace L := L.trans (hb.mono L.size)
  clear hb
  go_wp2_with fail
  refine (s6_7 _).mono ?_
  rintro e w7 ⟨rfl, hb⟩
  replace L := L.trans (hb.mono L.size)
  clear hb
  go_wp2_with fail
  refine (s6_8 _).mono ?_
  rintro e w8 ⟨rfl, hb⟩
  replace L := L.trans (hb.mono L.size)
  clear hb
  go_wp2_with fail
  refine (s6_9 _).mono ?_
  rintro e w9 ⟨rfl, hb⟩
  replace L := L.trans (hb.mono L.size)
  clear hb
  go_wp2_with fail
  refine (s6_10 _).mono ?_
  rintro e w10 ⟨rfl, hb⟩
  replace L := L.trans (hb.mono L.size)
  clear hb
  go_wp2_with fail
  refine (s6_11 _).mono ?_
  rintro e w11 ⟨rfl, hb⟩
  replace L := L.trans (hb.mono L.size)
  clear hb
  go_wp2_with fail
  refine (s6_12 _).mono ?_
  rintro e w12 ⟨rfl, hb⟩
  replace L := L.trans (hb.mono L.size)
  clear hb
  go_wp2_with fail
  refine (s6_13 _).mono ?_
  rintro e w13 ⟨rfl, hb⟩
  replace L := L.trans (hb.mono L.size)
  clear hb
  go_wp2_with fail
  refine (s6_14 _).mono ?_
  rintro e w14 ⟨rfl, hb⟩
  replace L := L.trans (hb.mono L.size)
  clear hb
  go_wp2_with fail
  refine (s6_15 _).mono ?_
  rintro e w15 ⟨rfl, hb⟩
  replace L := L.trans (hb.mono L.size)
  clear hb
  go_wp2_with fail
  refine (s6_16 _).mono ?_
  rintro e w16 ⟨rfl, hb⟩
  replace L := L.trans (hb.mono L.size)
  clear hb
  go_wp2_with fail
  refine (s6_17 _).mono ?_
  rintro e w17 ⟨rfl, hb⟩
  replace L := L.trans (hb.mono L.size)
  clear hb
  go_wp2_with fail
  refine (s6_18 _).mono ?_
  rintro e w' ⟨rfl, rfl⟩
  go_wp2_with fail
  refine (s6_19 _).mono ?_
  rintro e w' ⟨rfl, rfl⟩
  go_wp2_with fail
  refine (s6_20 _).mono ?_
  rintro e w' ⟨rfl, rfl⟩
  go_wp2_with fail
  refine (s6_21 _).mono ?_
  rintro e w' ⟨rfl, rfl⟩
  go_wp2
  go_ret
  exact ⟨rfl, L⟩
end Go.Proofs.Ytaplggheadahhaa
