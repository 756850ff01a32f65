/- The walks of arith.Add, Sub, Mul. -/
import Derived.Test.YtaplggheadahhaaC2
import Derived.Test.YtaplggheadahhaaC5
namespace Go.Proofs.Ytaplggheadahhaa
open Go.RowKit
set_option linter.unusedVariables false
set_option linter.unusedSimpArgs false

set_option maxHeartbeats 1000000 in
theorem add_none (a b : Nat) (h : ∀ w, Calls Try.prog 57 #[.int .u64 (a : Int), .int .u64 (b : Int)] w fun e w' => e = .returned (.int .i64 1) ∧ Below w.heap.size w w') (w : World) :
    Calls Try.prog 23 #[.int .u64 (a : Int), .int .u64 (b : Int)] w fun e w' => e = .returned (.int .u64 9221120237041090560) ∧ Below w.heap.size w w' := by
  go_enter Try.func23, Try.ntmps23
  go_wp2_with (go_at_call 57; refine (h _).mono ?_; rintro e w1 ⟨rfl, hb⟩)
  go_ret
  exact ⟨rfl, hb⟩
set_option maxHeartbeats 1000000 in
theorem add_first (a b : Nat) (h : ∀ w, Calls Try.prog 57 #[.int .u64 (a : Int), .int .u64 (b : Int)] w fun e w' => e = .returned (.int .i64 2) ∧ Below w.heap.size w w') (w : World) :
    Calls Try.prog 23 #[.int .u64 (a : Int), .int .u64 (b : Int)] w fun e w' => e = .returned (.int .u64 (a : Int)) ∧ Below w.heap.size w w' := by
  go_enter Try.func23, Try.ntmps23
  go_wp2_with (go_at_call 57; refine (h _).mono ?_; rintro e w1 ⟨rfl, hb⟩)
  go_ret
  exact ⟨rfl, hb⟩
set_option maxHeartbeats 1000000 in
theorem add_other (a b : Nat) (h : ∀ w, Calls Try.prog 57 #[.int .u64 (a : Int), .int .u64 (b : Int)] w fun e w' => e = .returned (.int .i64 3) ∧ Below w.heap.size w w') (w : World) :
    Calls Try.prog 23 #[.int .u64 (a : Int), .int .u64 (b : Int)] w fun e w' => e = .returned (.int .u64 (b : Int)) ∧ Below w.heap.size w w' := by
  go_enter Try.func23, Try.ntmps23
  go_wp2_with (go_at_call 57; refine (h _).mono ?_; rintro e w1 ⟨rfl, hb⟩)
  go_ret
  exact ⟨rfl, hb⟩
set_option maxHeartbeats 1000000 in
theorem add_work (a b R : Nat) (h : ∀ w, Calls Try.prog 57 #[.int .u64 (a : Int), .int .u64 (b : Int)] w fun e w' => e = .returned (.int .i64 0) ∧ Below w.heap.size w w')
    (h' : ∀ w, Calls Try.prog 59 #[.int .u64 (a : Int), .int .u64 (b : Int)] w fun e w' => e = .returned (.int .u64 (R : Int)) ∧ Below w.heap.size w w') (w : World) :
    Calls Try.prog 23 #[.int .u64 (a : Int), .int .u64 (b : Int)] w fun e w' => e = .returned (.int .u64 (R : Int)) ∧ Below w.heap.size w w' := by
  go_enter Try.func23, Try.ntmps23
  go_wp2_with (first | (go_at_call 57; refine (h _).mono ?_; rintro e w1 ⟨rfl, hb⟩) | (go_at_call 59; refine (h' _).mono ?_; rintro e w2 ⟨rfl, hb2⟩))
  go_ret
  exact ⟨rfl, hb.trans (hb2.mono hb.size)⟩
set_option maxHeartbeats 1000000 in
theorem add_same (a : Nat) (h : ∀ w, Calls Try.prog 57 #[.int .u64 (a : Int), .int .u64 (a : Int)] w fun e w' => e = .returned (.int .i64 4) ∧ Below w.heap.size w w') (w : World) :
    Calls Try.prog 23 #[.int .u64 (a : Int), .int .u64 (a : Int)] w fun e w' => e = .returned (.int .u64 (a : Int)) ∧ Below w.heap.size w w' := by
  go_enter Try.func23, Try.ntmps23
  go_wp2_with (first | (go_at_call 57; refine (h _).mono ?_; rintro e w1 ⟨rfl, hb⟩))
  go_ret
  exact ⟨rfl, hb⟩
set_option maxHeartbeats 1000000 in
theorem add_infs (a b : Nat) (hab : ((a : Int) == (b : Int)) = false) (h : ∀ w, Calls Try.prog 57 #[.int .u64 (a : Int), .int .u64 (b : Int)] w fun e w' => e = .returned (.int .i64 4) ∧ Below w.heap.size w w')
    (h' : ∀ w, Calls Try.prog 58 #[.int .u64 (a : Int)] w fun e w' => e = .returned (.int .i64 3) ∧ w = w') (w : World) :
    Calls Try.prog 23 #[.int .u64 (a : Int), .int .u64 (b : Int)] w fun e w' => e = .returned (.int .u64 9221120237041090560) ∧ Below w.heap.size w w' := by
  go_enter Try.func23, Try.ntmps23
  go_wp2_with (first | (go_at_call 57; refine (h _).mono ?_; rintro e w1 ⟨rfl, hb⟩) | (go_at_call 58; refine (h' _).mono ?_; rintro e w2 ⟨rfl, rfl⟩))
  go_ret
  exact ⟨rfl, hb⟩
set_option maxHeartbeats 1000000 in
theorem add_zeros (a b : Nat) (hab : ((a : Int) == (b : Int)) = false) (h : ∀ w, Calls Try.prog 57 #[.int .u64 (a : Int), .int .u64 (b : Int)] w fun e w' => e = .returned (.int .i64 4) ∧ Below w.heap.size w w')
    (h' : ∀ w, Calls Try.prog 58 #[.int .u64 (a : Int)] w fun e w' => e = .returned (.int .i64 0) ∧ w = w') (w : World) :
    Calls Try.prog 23 #[.int .u64 (a : Int), .int .u64 (b : Int)] w fun e w' => e = .returned (.int .u64 0) ∧ Below w.heap.size w w' := by
  go_enter Try.func23, Try.ntmps23
  go_wp2_with (first | (go_at_call 57; refine (h _).mono ?_; rintro e w1 ⟨rfl, hb⟩) | (go_at_call 58; refine (h' _).mono ?_; rintro e w2 ⟨rfl, rfl⟩))
  go_ret
  exact ⟨rfl, hb⟩

theorem zero_eq {x : Nat} (hx : x < 18446744073709551616) (h : Fl.kd x = 0) : x = Fl.pk (Fl.ng x) 0 := by
  have := Fl.pk_ab hx; rw [Fl.kd_zero.1 h] at this; exact this.symm

/-- arith.Add -/
theorem add_any (a b : Nat) (ha : a < 18446744073709551616) (hb : b < 18446744073709551616) (w : World) :
    Calls Try.prog 23 #[.int .u64 (a : Int), .int .u64 (b : Int)] w fun e w' => e = .returned (.int .u64 ((Fl.addN a b : Nat) : Int)) ∧ Below w.heap.size w w' := by
  have h := adds_any a b ha hb
  have hka := kind_any a ha
  have la := Fl.kd_le a
  have lb := Fl.kd_le b
  unfold Fl.addN
  by_cases c1 : Fl.kd a = 4 ∨ Fl.kd b = 4
  · rw [if_pos c1]
    have e : Fl.addT (Fl.kc (Fl.kd a)) (Fl.kc (Fl.kd b)) = 1 := by
      have hA : Fl.kd a = 0 ∨ Fl.kd a = 1 ∨ Fl.kd a = 2 ∨ Fl.kd a = 3 ∨ Fl.kd a = 4 := by omega
      have hB : Fl.kd b = 0 ∨ Fl.kd b = 1 ∨ Fl.kd b = 2 ∨ Fl.kd b = 3 ∨ Fl.kd b = 4 := by omega
      rcases hA with e | e | e | e | e <;> rcases hB with e' | e' | e' | e' | e' <;> first | (exfalso; omega) | (rw [e, e']; rfl)
    rw [e] at h
    exact add_none a b h w
  rw [if_neg c1]
  by_cases c2 : Fl.kd a = 3
  · by_cases c3 : Fl.kd b = 3
    · have e : Fl.addT (Fl.kc (Fl.kd a)) (Fl.kc (Fl.kd b)) = 4 := by rw [c2, c3]; rfl
      rw [e] at h
      by_cases c4 : a = b
      · subst c4
        rw [if_neg (by simp), if_pos c2]
        exact add_same a h w
      · rw [if_pos ⟨c2, c3, c4⟩]
        rw [c2] at hka
        exact add_infs a b (by simp; omega) h hka w
    · have e : Fl.addT (Fl.kc (Fl.kd a)) (Fl.kc (Fl.kd b)) = 2 := by
        have hB : Fl.kd b = 0 ∨ Fl.kd b = 1 ∨ Fl.kd b = 2 := by omega
        rw [c2]; rcases hB with e' | e' | e' <;> rw [e'] <;> rfl
      rw [e] at h
      rw [if_neg (by omega), if_pos c2]
      exact add_first a b h w
  · rw [if_neg (by omega), if_neg c2]
    by_cases c3 : Fl.kd b = 3
    · have e : Fl.addT (Fl.kc (Fl.kd a)) (Fl.kc (Fl.kd b)) = 3 := by
        have hA : Fl.kd a = 0 ∨ Fl.kd a = 1 ∨ Fl.kd a = 2 := by omega
        rw [c3]; rcases hA with e' | e' | e' <;> rw [e'] <;> rfl
      rw [e] at h
      rw [if_pos c3]
      exact add_other a b h w
    · rw [if_neg c3]
      by_cases c4 : Fl.kd a = 0 ∧ Fl.kd b = 0
      · have e : Fl.addT (Fl.kc (Fl.kd a)) (Fl.kc (Fl.kd b)) = 4 := by rw [c4.1, c4.2]; rfl
        rw [e] at h
        rw [if_pos c4]
        have za := zero_eq ha c4.1
        have zb := zero_eq hb c4.2
        by_cases c5 : a = b
        · subst c5
          have e2 : Fl.pk (Fl.ng a && Fl.ng a) 0 = a := by rw [Bool.and_self, ← za]
          rw [e2]
          exact add_same a h w
        · have e2 : Fl.pk (Fl.ng a && Fl.ng b) 0 = 0 := by
            cases e3 : Fl.ng a <;> cases e4 : Fl.ng b <;> simp [Fl.pk]
            rw [e3] at za; rw [e4] at zb; omega
          rw [e2]
          rw [c4.1] at hka
          exact add_zeros a b (by simp; omega) h hka w
      · rw [if_neg c4]
        have e : Fl.addT (Fl.kc (Fl.kd a)) (Fl.kc (Fl.kd b)) = 0 := by
          have hA : Fl.kd a = 0 ∨ Fl.kd a = 1 ∨ Fl.kd a = 2 := by omega
          have hB : Fl.kd b = 0 ∨ Fl.kd b = 1 ∨ Fl.kd b = 2 := by omega
          rcases hA with e | e | e <;> rcases hB with e' | e' | e' <;> first | (exfalso; omega) | (rw [e, e']; rfl)
        rw [e] at h
        exact add_work a b _ h (sum_any a b ha hb (by omega) (by omega) c4) w

theorem negN_lt {x : Nat} : Fl.negN x < 18446744073709551616 := by
  unfold Fl.negN Fl.NAN Fl.pk Fl.ab; split
  · omega
  · split <;> omega

set_option maxHeartbeats 1000000 in
/-- arith.Sub -/
theorem sub_any (a b : Nat) (ha : a < 18446744073709551616) (hb : b < 18446744073709551616) (w : World) :
    Calls Try.prog 25 #[.int .u64 (a : Int), .int .u64 (b : Int)] w fun e w' => e = .returned (.int .u64 ((Fl.subN a b : Nat) : Int)) ∧ Below w.heap.size w w' := by
  have h1 := neg_any b hb
  have h2 := add_any a (Fl.negN b) ha negN_lt
  unfold Fl.subN
  generalize Fl.addN a (Fl.negN b) = R at *
  generalize Fl.negN b = B at *
  go_enter Try.func25, Try.ntmps25
  go_wp2_with (first | (go_at_call 64; refine (h1 _).mono ?_; rintro e w1 ⟨rfl, rfl⟩) | (go_at_call 23; refine (h2 _).mono ?_; rintro e w2 ⟨rfl, hb2⟩))
  go_ret
  exact ⟨rfl, hb2⟩
end Go.Proofs.Ytaplggheadahhaa
