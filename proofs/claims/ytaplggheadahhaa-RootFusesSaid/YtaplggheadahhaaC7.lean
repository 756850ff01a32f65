/- The walk of arith.Mul. -/
import Derived.Test.YtaplggheadahhaaC6
namespace Go.Proofs.Ytaplggheadahhaa
open Go.RowKit
set_option linter.unusedVariables false
set_option linter.unusedSimpArgs false

theorem ng_div (x : Nat) (h : x < 18446744073709551616) : (x : Int) / 9223372036854775808 = if Fl.ng x = true then 1 else 0 := by
  unfold Fl.ng; by_cases h' : 9223372036854775808 ≤ x <;> simp [h'] <;> omega
theorem neg_ne (a b : Nat) (ha : a < 18446744073709551616) (hb : b < 18446744073709551616) : ((a : Int) / 9223372036854775808 != (b : Int) / 9223372036854775808) = (Fl.ng a != Fl.ng b) := by
  rw [ng_div a ha, ng_div b hb]; cases Fl.ng a <;> cases Fl.ng b <;> rfl

set_option maxHeartbeats 1000000 in
theorem mul_none (a b : Nat) (h : ∀ w, Calls Try.prog 60 #[.int .u64 (a : Int), .int .u64 (b : Int)] w fun e w' => e = .returned (.int .i64 1) ∧ Below w.heap.size w w') (w : World) :
    Calls Try.prog 24 #[.int .u64 (a : Int), .int .u64 (b : Int)] w fun e w' => e = .returned (.int .u64 9221120237041090560) ∧ Below w.heap.size w w' := by
  go_enter Try.func24, Try.ntmps24
  go_wp2_with (go_at_call 60; refine (h _).mono ?_; rintro e w1 ⟨rfl, hb⟩)
  go_ret
  exact ⟨rfl, hb⟩
set_option maxHeartbeats 1000000 in
theorem mul_wide (a b : Nat) (n : Bool) (hn : ((a : Int) / 9223372036854775808 != (b : Int) / 9223372036854775808) = n) (h : ∀ w, Calls Try.prog 60 #[.int .u64 (a : Int), .int .u64 (b : Int)] w fun e w' => e = .returned (.int .i64 5) ∧ Below w.heap.size w w') (w : World) :
    Calls Try.prog 24 #[.int .u64 (a : Int), .int .u64 (b : Int)] w fun e w' => e = .returned (.int .u64 ((Fl.pk n 9218868437227405312 : Nat) : Int)) ∧ Below w.heap.size w w' := by
  cases n
  · rw [show ((Fl.pk false 9218868437227405312 : Nat) : Int) = 9218868437227405312 from rfl]
    go_enter Try.func24, Try.ntmps24
    go_wp2_with (go_at_call 60; refine (h _).mono ?_; rintro e w1 ⟨rfl, hb⟩)
    go_ret
    exact ⟨rfl, hb⟩
  · rw [show ((Fl.pk true 9218868437227405312 : Nat) : Int) = 18442240474082181120 from rfl]
    go_enter Try.func24, Try.ntmps24
    go_wp2_with (go_at_call 60; refine (h _).mono ?_; rintro e w1 ⟨rfl, hb⟩)
    go_ret
    exact ⟨rfl, hb⟩
set_option maxHeartbeats 1000000 in
theorem mul_work (a b ma mb PH PL R k : Nat) (n pa pb : Bool) (ea eb : Int) (hk : k = 0 ∨ k = 6) (hn : ((a : Int) / 9223372036854775808 != (b : Int) / 9223372036854775808) = n)
    (he1 : -1074 ≤ ea) (he2 : ea ≤ 1000) (he3 : -1074 ≤ eb) (he4 : eb ≤ 1000)
    (h : ∀ w, Calls Try.prog 60 #[.int .u64 (a : Int), .int .u64 (b : Int)] w fun e w' => e = .returned (.int .i64 (k : Int)) ∧ Below w.heap.size w w')
    (h1 : ∀ w, Calls Try.prog 61 #[.int .u64 (a : Int)] w fun e w' => e = .returned (.tuple #[.bool pa, .int .u64 (ma : Int), .int .i64 ea]) ∧ w = w')
    (h2 : ∀ w, Calls Try.prog 61 #[.int .u64 (b : Int)] w fun e w' => e = .returned (.tuple #[.bool pb, .int .u64 (mb : Int), .int .i64 eb]) ∧ w = w')
    (h3 : ∀ w, Calls Try.prog 63 #[.int .u64 (ma : Int), .int .u64 (mb : Int)] w fun e w' => e = .returned (.agg #[.int .u64 (PH : Int), .int .u64 (PL : Int)]) ∧ Below w.heap.size w w')
    (h4 : ∀ w, Calls Try.prog 62 #[.bool n, .agg #[.int .u64 (PH : Int), .int .u64 (PL : Int)], .int .i64 (ea + eb), .bool false] w fun e w' => e = .returned (.int .u64 (R : Int)) ∧ Below w.heap.size w w') (w : World) :
    Calls Try.prog 24 #[.int .u64 (a : Int), .int .u64 (b : Int)] w fun e w' => e = .returned (.int .u64 (R : Int)) ∧ Below w.heap.size w w' := by
  rcases hk with rfl | rfl
  all_goals
    go_enter Try.func24, Try.ntmps24
    go_wp2_with fail
    refine (h _).mono ?_
    rintro e w1 ⟨rfl, hb⟩
    go_wp2_with fail
    refine (h1 _).mono ?_
    rintro e w' ⟨rfl, rfl⟩
    go_wp2_with fail
    refine (h2 _).mono ?_
    rintro e w' ⟨rfl, rfl⟩
    go_wp2_with fail
    refine (h3 _).mono ?_
    rintro e w2 ⟨rfl, hb2⟩
    go_wp2_with fail
    refine (h4 _).mono ?_
    rintro e w3 ⟨rfl, hb3⟩
    go_wp2
    go_ret
    refine ⟨rfl, ?_⟩
    have := hb.size
    have := hb2.size
    exact (hb.trans (hb2.mono (by omega))).trans (hb3.mono (by omega))

/-- arith.Mul -/
theorem mul_any (a b : Nat) (ha : a < 18446744073709551616) (hb : b < 18446744073709551616) (w : World) :
    Calls Try.prog 24 #[.int .u64 (a : Int), .int .u64 (b : Int)] w fun e w' => e = .returned (.int .u64 ((Fl.mulN a b : Nat) : Int)) ∧ Below w.heap.size w w' := by
  have h := muls_any a b ha hb
  have la := Fl.kd_le a
  have lb := Fl.kd_le b
  have hn := neg_ne a b ha hb
  have hA : Fl.kd a = 0 ∨ Fl.kd a = 1 ∨ Fl.kd a = 2 ∨ Fl.kd a = 3 ∨ Fl.kd a = 4 := by omega
  have hB : Fl.kd b = 0 ∨ Fl.kd b = 1 ∨ Fl.kd b = 2 ∨ Fl.kd b = 3 ∨ Fl.kd b = 4 := by omega
  unfold Fl.mulN
  by_cases c1 : Fl.kd a = 4 ∨ Fl.kd b = 4 ∨ (Fl.kd a = 3 ∧ Fl.kd b = 0) ∨ (Fl.kd a = 0 ∧ Fl.kd b = 3)
  · rw [if_pos c1]
    have e : Fl.mulT (Fl.kc (Fl.kd a)) (Fl.kc (Fl.kd b)) = 1 := by
      rcases hA with e | e | e | e | e <;> rcases hB with e' | e' | e' | e' | e' <;> first | (exfalso; omega) | (rw [e, e']; rfl)
    rw [e] at h
    exact mul_none a b h w
  rw [if_neg c1]
  by_cases c2 : Fl.kd a = 3 ∨ Fl.kd b = 3
  · rw [if_pos c2]
    have e : Fl.mulT (Fl.kc (Fl.kd a)) (Fl.kc (Fl.kd b)) = 5 := by
      rcases hA with e | e | e | e | e <;> rcases hB with e' | e' | e' | e' | e' <;> first | (exfalso; omega) | (rw [e, e']; rfl)
    rw [e] at h
    exact mul_wide a b _ hn h w
  rw [if_neg c2]
  have e : Fl.mulT (Fl.kc (Fl.kd a)) (Fl.kc (Fl.kd b)) = 0 ∨ Fl.mulT (Fl.kc (Fl.kd a)) (Fl.kc (Fl.kd b)) = 6 := by
    rcases hA with e | e | e | e | e <;> rcases hB with e' | e' | e' | e' | e' <;> first | (exfalso; omega) | (rw [e, e']; first | exact .inl rfl | exact .inr rfl)
  have sa := sh_le (x := a) (by omega)
  have sb := sh_le (x := b) (by omega)
  have m1 := Fl.mant_lt (Fl.ab a)
  have m2 := Fl.mant_lt (Fl.ab b)
  have hp : Fl.mant (Fl.ab a) * Fl.mant (Fl.ab b) < 340282366920938463463374607431768211456 := by
    have := Nat.mul_lt_mul'' m1 m2
    omega
  have hj := join' (Fl.ng a != Fl.ng b) false _ ((Fl.sh (Fl.ab a) : Int) - 1074 + ((Fl.sh (Fl.ab b) : Int) - 1074)) hp (by omega) (by omega)
  rw [show (Fl.sh (Fl.ab a) : Int) + Fl.sh (Fl.ab b) - 2148 = (Fl.sh (Fl.ab a) : Int) - 1074 + ((Fl.sh (Fl.ab b) : Int) - 1074) by omega]
  exact mul_work a b _ _ _ _ _ _ _ _ _ _ _ e hn (by omega) (by omega) (by omega) (by omega) h (split_fin a ha (by omega)) (split_fin b hb (by omega)) (wmul_any _ _ (by omega) (by omega)) hj w
end Go.Proofs.Ytaplggheadahhaa
