/- The walk of chapter 4's examples: all of them hold. -/
import Derived.Test.YtaplggheadahhaaD1
namespace Go.Proofs.Ytaplggheadahhaa
open Go.RowKit
set_option linter.unusedVariables false
set_option linter.unusedSimpArgs false

theorem s4_0 (w : World) : Calls Try.prog 23 #[.int .u64 4607182418800017408, .int .u64 4368491638549381120] w fun e w' => e = .returned (.int .u64 4607182418800017408) ∧ Below w.heap.size w w' := add_c (a := 4607182418800017408) (b := 4368491638549381120) (c := 4607182418800017408) (by decide) (by decide) (by decide +kernel) w
theorem s4_1 (w : World) : Calls Try.prog 23 #[.int .u64 4607182418800017409, .int .u64 4368491638549381120] w fun e w' => e = .returned (.int .u64 4607182418800017410) ∧ Below w.heap.size w w' := add_c (a := 4607182418800017409) (b := 4368491638549381120) (c := 4607182418800017410) (by decide) (by decide) (by decide +kernel) w
theorem s4_2 (w : World) : Calls Try.prog 23 #[.int .u64 4607182418800017408, .int .u64 13830554455654793216] w fun e w' => e = .returned (.int .u64 0) ∧ Below w.heap.size w w' := add_c (a := 4607182418800017408) (b := 13830554455654793216) (c := 0) (by decide) (by decide) (by decide +kernel) w
theorem s4_3 (w : World) : Calls Try.prog 23 #[.int .u64 9223372036854775808, .int .u64 9223372036854775808] w fun e w' => e = .returned (.int .u64 9223372036854775808) ∧ Below w.heap.size w w' := add_c (a := 9223372036854775808) (b := 9223372036854775808) (c := 9223372036854775808) (by decide) (by decide) (by decide +kernel) w
theorem s4_4 (w : World) : Calls Try.prog 23 #[.int .u64 9223372036854775808, .int .u64 0] w fun e w' => e = .returned (.int .u64 0) ∧ Below w.heap.size w w' := add_c (a := 9223372036854775808) (b := 0) (c := 0) (by decide) (by decide) (by decide +kernel) w
theorem s4_5 (w : World) : Calls Try.prog 23 #[.int .u64 9218868437227405312, .int .u64 18442240474082181120] w fun e w' => e = .returned (.int .u64 9221120237041090560) ∧ Below w.heap.size w w' := add_c (a := 9218868437227405312) (b := 18442240474082181120) (c := 9221120237041090560) (by decide) (by decide) (by decide +kernel) w
theorem s4_6 (w : World) : Calls Try.prog 23 #[.int .u64 9218868437227405312, .int .u64 4617315517961601024] w fun e w' => e = .returned (.int .u64 9218868437227405312) ∧ Below w.heap.size w w' := add_c (a := 9218868437227405312) (b := 4617315517961601024) (c := 9218868437227405312) (by decide) (by decide) (by decide +kernel) w
theorem s4_7 (w : World) : Calls Try.prog 23 #[.int .u64 9218868437227405311, .int .u64 9218868437227405311] w fun e w' => e = .returned (.int .u64 9218868437227405312) ∧ Below w.heap.size w w' := add_c (a := 9218868437227405311) (b := 9218868437227405311) (c := 9218868437227405312) (by decide) (by decide) (by decide +kernel) w
theorem s4_8 (w : World) : Calls Try.prog 25 #[.int .u64 4613937818241073152, .int .u64 4617315517961601024] w fun e w' => e = .returned (.int .u64 13835058055282163712) ∧ Below w.heap.size w w' := sub_c (a := 4613937818241073152) (b := 4617315517961601024) (c := 13835058055282163712) (by decide) (by decide) (by decide +kernel) w
theorem s4_9 (w : World) : Calls Try.prog 24 #[.int .u64 4591870180066957722, .int .u64 4613937818241073152] w fun e w' => e = .returned (.int .u64 4599075939470750516) ∧ Below w.heap.size w w' := mul_c (a := 4591870180066957722) (b := 4613937818241073152) (c := 4599075939470750516) (by decide) (by decide) (by decide +kernel) w
theorem s4_10 (w : World) : Calls Try.prog 24 #[.int .u64 9218868437227405312, .int .u64 0] w fun e w' => e = .returned (.int .u64 9221120237041090560) ∧ Below w.heap.size w w' := mul_c (a := 9218868437227405312) (b := 0) (c := 9221120237041090560) (by decide) (by decide) (by decide +kernel) w
theorem s4_11 (w : World) : Calls Try.prog 24 #[.int .u64 9223372036854775808, .int .u64 4617315517961601024] w fun e w' => e = .returned (.int .u64 9223372036854775808) ∧ Below w.heap.size w w' := mul_c (a := 9223372036854775808) (b := 4617315517961601024) (c := 9223372036854775808) (by decide) (by decide) (by decide +kernel) w
theorem s4_12 (w : World) : Calls Try.prog 24 #[.int .u64 1, .int .u64 4602678819172646912] w fun e w' => e = .returned (.int .u64 0) ∧ Below w.heap.size w w' := mul_c (a := 1) (b := 4602678819172646912) (c := 0) (by decide) (by decide) (by decide +kernel) w
theorem s4_13 (w : World) : Calls Try.prog 24 #[.int .u64 1, .int .u64 4604930618986332160] w fun e w' => e = .returned (.int .u64 1) ∧ Below w.heap.size w w' := mul_c (a := 1) (b := 4604930618986332160) (c := 1) (by decide) (by decide) (by decide +kernel) w
theorem s4_sum1 (b : Nat) (w : World) (B : Blk w b 22 #[.int .u64 9223372036854775808]) : Calls Try.prog 56 #[.slice (some ⟨b, 0, none⟩) 1 1] w fun e w' => e = .returned (.int .u64 0) ∧ Below w.heap.size w w' :=
  asum_1 b 9223372036854775808 0 (fun w => add_c (a := 0) (b := 9223372036854775808) (c := 0) (by decide) (by decide) (by decide +kernel) w) w B
theorem s4_sum3 (b : Nat) (w : World) (B : Blk w b 22 #[.int .u64 4845873199050653696, .int .u64 4607182418800017408, .int .u64 4607182418800017408]) : Calls Try.prog 56 #[.slice (some ⟨b, 0, none⟩) 3 3] w fun e w' => e = .returned (.int .u64 4845873199050653696) ∧ Below w.heap.size w w' :=
  asum_3 b 4845873199050653696 4607182418800017408 4607182418800017408 4845873199050653696 4845873199050653696 4845873199050653696
    (fun w => add_c (a := 0) (b := 4845873199050653696) (c := 4845873199050653696) (by decide) (by decide) (by decide +kernel) w)
    (fun w => add_c (a := 4845873199050653696) (b := 4607182418800017408) (c := 4845873199050653696) (by decide) (by decide) (by decide +kernel) w)
    (fun w => add_c (a := 4845873199050653696) (b := 4607182418800017408) (c := 4845873199050653696) (by decide) (by decide) (by decide +kernel) w) w B

set_option maxHeartbeats 4000000 in
set_option maxRecDepth 100000 in
/-- chapter 4's examples hold -/
theorem shown4 (w : World) : Calls Try.prog 20 #[] w fun e w' => e = .returned (.bool true) ∧ Below w.heap.size w w' := by
  go_enter Try.func20, Try.ntmps20
  go_wp2_with fail
  refine (s4_0 _).mono ?_
  rintro e w0 ⟨rfl, hb⟩
  have L := hb
  clear hb
  go_wp2_with fail
  refine (s4_1 _).mono ?_
  rintro e w1 ⟨rfl, hb⟩
  replace L := L.trans (hb.mono L.size)
  clear hb
  go_wp2_with fail
  refine (s4_2 _).mono ?_
  rintro e w2 ⟨rfl, hb⟩
  replace L := L.trans (hb.mono L.size)
  clear hb
  go_wp2_with fail
  refine (s4_3 _).mono ?_
  rintro e w3 ⟨rfl, hb⟩
  replace L := L.trans (hb.mono L.size)
  clear hb
  go_wp2_with fail
  refine (s4_4 _).mono ?_
  rintro e w4 ⟨rfl, hb⟩
  replace L := L.trans (hb.mono L.size)
  clear hb
  go_wp2_with fail
  refine (s4_5 _).mono ?_
  rintro e w5 ⟨rfl, hb⟩
  replace L := L.trans (hb.mono L.size)
  clear hb
  go_wp2_with fail
  refine (s4_6 _).mono ?_
  rintro e w6 ⟨rfl, hb⟩
  replace L := L.trans (hb.mono L.size)
  clear hb
  go_wp2_with fail
  refine (s4_7 _).mono ?_
  rintro e w7 ⟨rfl, hb⟩
  replace L := L.trans (hb.mono L.size)
  clear hb
  go_wp2_with fail
  refine (s4_8 _).mono ?_
  rintro e w8 ⟨rfl, hb⟩
  replace L := L.trans (hb.mono L.size)
  clear hb
  go_wp2_with fail
  refine (s4_9 _).mono ?_
  rintro e w9 ⟨rfl, hb⟩
  replace L := L.trans (hb.mono L.size)
  clear hb
  go_wp2_with fail
  refine (s4_10 _).mono ?_
  rintro e w10 ⟨rfl, hb⟩
  replace L := L.trans (hb.mono L.size)
  clear hb
  go_wp2_with fail
  refine (s4_11 _).mono ?_
  rintro e w11 ⟨rfl, hb⟩
  replace L := L.trans (hb.mono L.size)
  clear hb
  go_wp2_with fail
  refine (s4_12 _).mono ?_
  rintro e w12 ⟨rfl, hb⟩
  replace L := L.trans (hb.mono L.size)
  clear hb
  go_wp2_with fail
  refine (s4_13 _).mono ?_
  rintro e w13 ⟨rfl, hb⟩
  replace L := L.trans (hb.mono L.size)
  clear hb
  go_wp2_with fail
  refine (asum_nil _).mono ?_
  rintro e w' ⟨rfl, rfl⟩
  go_wp2_with fail
  refine (s4_sum1 _ _ (Blk.new' _ _ _ rfl)).mono ?_
  rintro e w14 ⟨rfl, hb⟩
  have z := hb.size
  simp at z
  have y := L.size
  replace L := (L.alloc L.size _).trans (hb.mono (by simp; omega))
  clear hb
  go_wp2_with fail
  refine (s4_sum3 _ _ (Blk.new' _ _ _ rfl)).mono ?_
  rintro e w15 ⟨rfl, hb⟩
  replace L := (L.alloc L.size _).trans (hb.mono (by simp; omega))
  clear hb
  go_wp2
  go_ret
  exact ⟨rfl, L⟩
end Go.Proofs.Ytaplggheadahhaa
