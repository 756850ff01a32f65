/- The walks of float.settle and float.Join: Join tells the nearest number. -/
import Derived.Test.YtaplggheadahhaaA8
namespace Go.Proofs.Ytaplggheadahhaa
open Go.RowKit
set_option linter.unusedVariables false
set_option linter.unusedSimpArgs false

/-- the plain rounding step, as settle has it -/
def step (half rest more : Bool) (m : Nat) : Nat := if (half && (rest || (more || decide (m % 2 = 1)))) = true then m + 1 else m

set_option maxHeartbeats 1000000 in
set_option maxRecDepth 100000 in
theorem settle_mid (neg more half rest : Bool) (long e u : Int) (m b R : Nat) (hm : m < 9007199254740992) (h1 : -1000000000000 ≤ e) (h2 : e ≤ 2000) (h3 : 1 ≤ long) (h4 : long ≤ 1000000000000)
    (hf : -10000 ≤ e ∨ -2000 ≤ e + long) (hu : max (e + long - 53) (-1074) = u) (w : World)
    (hd : Calls Try.prog 111 #[.int .i64 (u - e), .pointer (some ⟨b, 0, none⟩)] w fun e w' => e = .returned (.tuple #[.int .u64 (m : Int), .bool half, .bool rest]) ∧ Below w.heap.size w w')
    (hR : ∀ W, Calls Try.prog 144 #[.bool neg, .int .u64 ((step half rest more m : Nat) : Int), .int .i64 u] W fun e' w' => e' = .returned (.int .u64 (R : Int)) ∧ W = w') :
    Calls Try.prog 109 #[.bool neg, .int .i64 long, .int .i64 e, .bool more, .func (.func 111) #[] #[.pointer (some ⟨b, 0, none⟩)]] w fun e' w' => e' = .returned (.int .u64 (R : Int)) ∧ Below w.heap.size w w' := by
  have hF := far_no neg long e hf h2 h1 h3 h4
  have hU := unit_any long e h1 (by omega) (by omega) h4
  rw [hu] at hU
  have ea := and_1 m (by omega)
  have hu1 : -1074 ≤ u := by omega
  have hu2 : u ≤ 1000000010000 := by omega
  clear hu hf
  unfold step at hR
  have hc : ((m + 1 : Nat) : Int) = (m : Int) + 1 := by omega
  cases half
  · simp only [Bool.false_and, Bool.false_eq_true, if_false] at hR
    clear hc
    go_enter Try.func109, Try.ntmps109
    go_wp2_with (first | (go_at_call 142; refine (hF _).mono ?_; rintro e w1 ⟨rfl, rfl⟩) | (go_at_call 143; refine (hU _).mono ?_; rintro e w1 ⟨rfl, rfl⟩) | (go_at_call 111; refine hd.mono ?_; rintro e w1 ⟨rfl, hb⟩) | (go_at_call 144; refine (hR _).mono ?_; rintro e w2 ⟨rfl, rfl⟩))
    go_ret
    exact ⟨rfl, hb⟩
  cases rest
  · cases more
    · by_cases hp : m % 2 = 1
      · rw [hp] at ea
        simp only [hp, Bool.true_and, Bool.false_or, decide_true, if_true, hc] at hR
        clear hp hc
        go_enter Try.func109, Try.ntmps109
        go_wp2_with (first | (go_at_call 142; refine (hF _).mono ?_; rintro e w1 ⟨rfl, rfl⟩) | (go_at_call 143; refine (hU _).mono ?_; rintro e w1 ⟨rfl, rfl⟩) | (go_at_call 111; refine hd.mono ?_; rintro e w1 ⟨rfl, hb⟩) | (go_at_call 144; refine (hR _).mono ?_; rintro e w2 ⟨rfl, rfl⟩))
        go_ret
        exact ⟨rfl, hb⟩
      · have hp0 : m % 2 = 0 := by omega
        rw [hp0] at ea
        simp only [hp0, Bool.true_and, Bool.false_or, show decide ((0 : Nat) = 1) = false from rfl, Bool.false_eq_true, if_false] at hR
        clear hp hp0 hc
        go_enter Try.func109, Try.ntmps109
        go_wp2_with (first | (go_at_call 142; refine (hF _).mono ?_; rintro e w1 ⟨rfl, rfl⟩) | (go_at_call 143; refine (hU _).mono ?_; rintro e w1 ⟨rfl, rfl⟩) | (go_at_call 111; refine hd.mono ?_; rintro e w1 ⟨rfl, hb⟩) | (go_at_call 144; refine (hR _).mono ?_; rintro e w2 ⟨rfl, rfl⟩))
        go_ret
        exact ⟨rfl, hb⟩
    · simp only [Bool.true_and, Bool.false_or, Bool.true_or, if_true, hc] at hR
      clear ea hc
      go_enter Try.func109, Try.ntmps109
      go_wp2_with (first | (go_at_call 142; refine (hF _).mono ?_; rintro e w1 ⟨rfl, rfl⟩) | (go_at_call 143; refine (hU _).mono ?_; rintro e w1 ⟨rfl, rfl⟩) | (go_at_call 111; refine hd.mono ?_; rintro e w1 ⟨rfl, hb⟩) | (go_at_call 144; refine (hR _).mono ?_; rintro e w2 ⟨rfl, rfl⟩))
      go_ret
      exact ⟨rfl, hb⟩
  · simp only [Bool.true_and, Bool.true_or, if_true, hc] at hR
    clear ea hc
    go_enter Try.func109, Try.ntmps109
    go_wp2_with (first | (go_at_call 142; refine (hF _).mono ?_; rintro e w1 ⟨rfl, rfl⟩) | (go_at_call 143; refine (hU _).mono ?_; rintro e w1 ⟨rfl, rfl⟩) | (go_at_call 111; refine hd.mono ?_; rintro e w1 ⟨rfl, hb⟩) | (go_at_call 144; refine (hR _).mono ?_; rintro e w2 ⟨rfl, rfl⟩))
    go_ret
    exact ⟨rfl, hb⟩

set_option maxHeartbeats 1000000 in
theorem settle_far (neg more : Bool) (long e : Int) (b R : Nat) (w : World)
    (hF : ∀ W, Calls Try.prog 142 #[.bool neg, .int .i64 long, .int .i64 e] W fun e' w' => e' = .returned (.tuple #[.int .u64 (R : Int), .bool true]) ∧ W = w') :
    Calls Try.prog 109 #[.bool neg, .int .i64 long, .int .i64 e, .bool more, .func (.func 111) #[] #[.pointer (some ⟨b, 0, none⟩)]] w fun e' w' => e' = .returned (.int .u64 (R : Int)) ∧ Below w.heap.size w w' := by
  go_enter Try.func109, Try.ntmps109
  go_wp2_with (first | (go_at_call 142; refine (hF _).mono ?_; rintro e w1 ⟨rfl, rfl⟩))
  go_ret
  exact ⟨rfl, Below.refl _ _⟩

theorem step_lt {half rest more : Bool} {m : Nat} (h : m < 9007199254740992) : step half rest more m ≤ 9007199254740992 := by unfold step; split <;> omega

theorem rnd_small {n : Nat} {e : Int} (more : Bool) (h : e + Fl.bl n < -2000) : Fl.rnd n e more = 0 := by
  rcases Nat.eq_zero_or_pos n with rfl | hn
  · exact Fl.rnd_zero _ _
  have hu : Fl.un n e = -1074 := by unfold Fl.un; omega
  have hb := Fl.lt_bl n
  have h1 : n < 2 ^ ((-1074 : Int) - e).toNat := Nat.lt_of_lt_of_le hb (Nat.pow_le_pow_right (by decide) (by omega))
  have h2 : n < 2 ^ (((-1074 : Int) - e).toNat - 1) := Nat.lt_of_lt_of_le hb (Nat.pow_le_pow_right (by decide) (by omega))
  rw [Fl.rnd_eq hn]
  have e1 : Fl.sg n e more = 0 := by
    unfold Fl.sg; rw [hu, if_neg (by have := Fl.bl_pos hn; omega)]
    unfold Fl.rq; rw [Nat.div_eq_of_lt h1, Nat.div_eq_of_lt h2, if_neg (by omega)]
  rw [hu, e1]; unfold Fl.INF; rfl
theorem rnd_great {n : Nat} (hn : 0 < n) {e : Int} (more : Bool) (h : 2000 < e) : Fl.rnd n e more = 9218868437227405312 := by
  rw [Fl.rnd_eq hn]
  have hu : 1947 < Fl.un n e := by have := Fl.bl_pos hn; unfold Fl.un; omega
  unfold Fl.INF; omega
theorem packM_rnd {n : Nat} (hn : 0 < n) (e : Int) (more : Bool) : packM (Fl.sg n e more) (Fl.un n e) = Fl.rnd n e more := by
  rw [Fl.rnd_eq hn]
  unfold packM
  split
  · rename_i h
    have hu : Fl.un n e = -1074 := by
      rcases Int.lt_or_le (-1074) (Fl.un n e) with h1 | h1
      · have := Fl.sg_ge hn e more h1; omega
      · have := Fl.un_ge n e; omega
    rw [hu]; unfold Fl.INF; omega
  · rfl
end Go.Proofs.Ytaplggheadahhaa
