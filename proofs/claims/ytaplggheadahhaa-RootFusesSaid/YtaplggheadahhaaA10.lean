/- The walk of float.Join: it tells the nearest number. -/
import Derived.Test.YtaplggheadahhaaA9
namespace Go.Proofs.Ytaplggheadahhaa
open Go.RowKit
set_option linter.unusedVariables false
set_option linter.unusedSimpArgs false

theorem sg_low {n : Nat} {e : Int} (hu : Fl.un n e ≤ e) : n * 2 ^ (e - Fl.un n e).toNat < 9007199254740992 := by
  have h1 := Fl.lt_bl n
  have : (e - Fl.un n e).toNat + Fl.bl n ≤ 53 := by unfold Fl.un at *; omega
  have h2 : n * 2 ^ (e - Fl.un n e).toNat < 2 ^ (Fl.bl n + (e - Fl.un n e).toNat) := by
    rw [Nat.pow_add]; exact Nat.mul_lt_mul_of_pos_right h1 (Nat.pow_pos (by decide))
  have h3 : 2 ^ (Fl.bl n + (e - Fl.un n e).toNat) ≤ 2 ^ 53 := Nat.pow_le_pow_right (by decide) (by omega)
  rw [Fl.pow53] at h3; omega
theorem quo_lt {n : Nat} {e : Int} (hu : e < Fl.un n e) : n / 2 ^ (Fl.un n e - e).toNat < 9007199254740992 := by
  have h1 := Fl.lt_bl n
  have h3 : Fl.bl n ≤ 53 + (Fl.un n e - e).toNat := by unfold Fl.un at *; omega
  have h4 : n < 2 ^ 53 * 2 ^ (Fl.un n e - e).toNat := by
    rw [← Nat.pow_add]; exact Nat.lt_of_lt_of_le h1 (Nat.pow_le_pow_right (by decide) h3)
  have h5 : n / 2 ^ (Fl.un n e - e).toNat < 2 ^ 53 := Nat.div_lt_of_lt_mul (by rw [Nat.mul_comm]; exact h4)
  rw [Fl.pow53] at h5; exact h5
theorem step_rq (n K : Nat) (more : Bool) : step (decide (n / 2 ^ (K - 1) % 2 = 1)) (decide (n % 2 ^ (K - 1) ≠ 0)) more (n / 2 ^ K) = Fl.rq n K more := by
  unfold step Fl.rq
  by_cases h1 : n / 2 ^ (K - 1) % 2 = 1 <;> by_cases h2 : n % 2 ^ (K - 1) = 0 <;> cases more <;> by_cases h3 : n / 2 ^ K % 2 = 1 <;> simp [h1, h2, h3]
theorem quo_half (n K : Nat) (hK : 0 < K) (h : n / 2 ^ K < 9007199254740992) : Fl.hi (n / 2 ^ (K - 1) * 2 ^ 63) = n / 2 ^ K := by
  have e1 : n / 2 ^ K = n / 2 ^ (K - 1) / 2 := by
    rw [Nat.div_div_eq_div_mul, ← Nat.pow_succ]; congr 2; omega
  rw [e1] at h ⊢
  generalize n / 2 ^ (K - 1) = q at *
  unfold Fl.hi; rw [show (2 : Nat) ^ 63 = 9223372036854775808 from rfl]; omega

theorem settle_join (neg more : Bool) (hi lo b : Nat) (e : Int) (hh : hi < 18446744073709551616) (hl : lo < 18446744073709551616) (h1 : -100000000000 ≤ e) (h2 : e ≤ 100000000000) (w : World) (B : Blk w b 51 #[.int .u64 (hi : Int), .int .u64 (lo : Int)]) :
    Calls Try.prog 109 #[.bool neg, .int .i64 ((Fl.bl (hi * 18446744073709551616 + lo) : Nat) : Int), .int .i64 e, .bool more, .func (.func 111) #[] #[.pointer (some ⟨b, 0, none⟩)]] w fun e' w' =>
      e' = .returned (.int .u64 ((Fl.pk neg (Fl.rnd (hi * 18446744073709551616 + lo) e more) : Nat) : Int)) ∧ Below w.heap.size w w' := by
  have hN : hi * 18446744073709551616 + lo < 2 ^ 128 := by omega
  have hL : Fl.bl (hi * 18446744073709551616 + lo) ≤ 128 := Fl.bl_le_of_lt hN
  have hj1 := join1_le hi lo b
  have hj2 := join1_gt hi lo b
  generalize hi * 18446744073709551616 + lo = n at *
  by_cases c0 : n = 0
  · subst c0
    rw [Fl.rnd_zero]
    exact settle_far neg more _ e b _ w (fun W => far_zero neg 0 e (.inl rfl) (by omega) (by omega) (by omega) W)
  have hn : 0 < n := by omega
  have hb := Fl.bl_pos hn
  by_cases c1 : e < -10000 ∧ e + Fl.bl n < -2000
  · rw [rnd_small more c1.2]
    exact settle_far neg more _ e b _ w (fun W => far_zero neg _ e (.inr c1) (by omega) (by omega) (by omega) W)
  by_cases c2 : 2000 < e
  · rw [rnd_great hn more c2]
    exact settle_far neg more _ e b _ w (fun W => far_inf neg _ e c2 (by omega) (by omega) (by omega) W)
  have hu0 := Fl.un_ge n e
  have hu : max (e + (Fl.bl n : Int) - 53) (-1074) = Fl.un n e := by unfold Fl.un; rfl
  have hp : ∀ m : Nat, m = Fl.sg n e more → ∀ W, Calls Try.prog 144 #[.bool neg, .int .u64 (m : Int), .int .i64 (Fl.un n e)] W fun e' w' => e' = .returned (.int .u64 ((Fl.pk neg (Fl.rnd n e more) : Nat) : Int)) ∧ W = w' := fun m hm W => by
    subst hm
    rw [← packM_rnd hn e more]
    exact pack_any neg _ _ (Fl.sg_le hn e more) hu0 (by omega) W
  by_cases c3 : Fl.un n e ≤ e
  · have hlow := sg_low c3
    have e1 : Fl.lo (n * 2 ^ (-(Fl.un n e - e)).toNat) = n * 2 ^ (e - Fl.un n e).toNat := by
      rw [show -(Fl.un n e - e) = e - Fl.un n e by omega]; exact Fl.lo_of_lt (by omega)
    have hd := hj1 (Fl.un n e - e) hl (by omega) (by omega) w B
    rw [e1] at hd
    refine settle_mid neg more false false _ e (Fl.un n e) _ b _ hlow (by omega) (by omega) (by omega) (by omega) (by omega) hu w hd (hp _ ?_)
    unfold step Fl.sg; rw [if_pos c3]; simp
  · have hq := quo_lt (n := n) (e := e) (by omega)
    have hd := hj2 (Fl.un n e - e) hh hl (by omega) (by omega) w B
    rw [show (Fl.un n e - e - 1).toNat = (Fl.un n e - e).toNat - 1 by omega, quo_half n _ (by omega) hq] at hd
    refine settle_mid neg more _ _ _ e (Fl.un n e) _ b _ hq (by omega) (by omega) (by omega) (by omega) (by omega) hu w hd (hp _ ?_)
    rw [step_rq]; unfold Fl.sg; rw [if_neg c3]

set_option maxHeartbeats 1000000 in
/-- float.Join -/
theorem join_any (neg more : Bool) (hi lo : Nat) (e : Int) (hh : hi < 18446744073709551616) (hl : lo < 18446744073709551616) (h1 : -100000000000 ≤ e) (h2 : e ≤ 100000000000) (w : World) :
    Calls Try.prog 62 #[.bool neg, .agg #[.int .u64 (hi : Int), .int .u64 (lo : Int)], .int .i64 e, .bool more] w fun e' w' =>
      e' = .returned (.int .u64 ((Fl.pk neg (Fl.rnd (hi * 18446744073709551616 + lo) e more) : Nat) : Int)) ∧ Below w.heap.size w w' := by
  have hmf : ∀ (fn : Fn) (first cap : Array Value) (w : World), (Instr.makeFunc fn first cap).run Try.prog w = .ok (.func fn first cap) w := fun _ _ _ _ => rfl
  have hL := wlen_any hi lo hh hl
  have hS := fun b W => settle_join neg more hi lo b e hh hl h1 h2 W
  generalize Fl.bl (hi * 18446744073709551616 + lo) = L at *
  generalize Fl.pk neg (Fl.rnd (hi * 18446744073709551616 + lo) e more) = R at *
  clear hh hl h1 h2
  go_enter Try.func62, Try.ntmps62
  go_wp2_with fail
  refine (hL _).mono ?_
  rintro e1 w1 ⟨rfl, hb⟩
  have B1 : Blk w1 w.heap.size 51 #[.int .u64 (hi : Int), .int .u64 (lo : Int)] := (Blk.new _ _ _).belowS hb
  have hz : w.heap.size < w1.heap.size := B1.lt
  have L1 := Below.trans ((Below.refl w.heap.size w).alloc (Nat.le_refl _) _) (hb.mono (by simp))
  have hS' := hS w.heap.size w1 B1
  clear hb hS hL
  go_wp2_with (first | (go_at_call 109; refine hS'.mono ?_; rintro e2 w2 ⟨rfl, hb2⟩))
  go_ret
  exact ⟨rfl, L1.trans (hb2.mono (by omega))⟩
end Go.Proofs.Ytaplggheadahhaa
