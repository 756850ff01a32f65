/- The walks of root.none, endless, zero, with, large. The walk of math/bits.Div64: two words by one. math/bits.Div64 and wide.Div answer with the quotient and what is left. The walks of wide.Div and root.Div. The walks of wide.Cmp, wide.Root. The walk of root.Sqrt. The walk of root.Mod. The walk of root.Power. -/
import Derived.Test.YtaplggheadahhaaC5
import Derived.Test.YtaplggheadahhaaA4
import Derived.Test.YtaplggheadahhaaNA
import Derived.Deep.DeepCutAuto
import Derived.Deep.CutBlock
import Derived.Deep.CutRange
import Derived.Lib.Hide
import Derived.Test.YtaplggheadahhaaC7
import Derived.Deep.RegionHeld3
namespace Go.Proofs.Ytaplggheadahhaa
open Go.RowKit
set_option linter.unusedVariables false
set_option linter.unusedSimpArgs false

theorem kd_beq (x n : Nat) : (((Fl.kd x : Nat) : Int) == (n : Int)) = decide (Fl.kd x = n) := by
  by_cases h : Fl.kd x = n
  · rw [decide_eq_true h, h]; simp
  · rw [decide_eq_false h]; simp; omega

set_option maxHeartbeats 400000 in
theorem rnone_any (x : Nat) (hx : x < 18446744073709551616) (w : World) :
    Calls Try.prog 78 #[.int .u64 (x : Int)] w fun e w' => e = .returned (.bool (decide (Fl.kd x = 4))) ∧ w = w' := by
  have k := kind_any x hx
  have b : (((Fl.kd x : Nat) : Int) == 4) = decide (Fl.kd x = 4) := kd_beq x 4
  generalize decide (Fl.kd x = 4) = r at *
  generalize Fl.kd x = K at *
  go_enter Try.func78, Try.ntmps78
  go_wp2_with (go_at_call 58; refine (k _).mono ?_; rintro e w' ⟨rfl, rfl⟩)
  go_ret
  exact ⟨rfl, rfl⟩
set_option maxHeartbeats 400000 in
theorem rinf_any (x : Nat) (hx : x < 18446744073709551616) (w : World) :
    Calls Try.prog 79 #[.int .u64 (x : Int)] w fun e w' => e = .returned (.bool (decide (Fl.kd x = 3))) ∧ w = w' := by
  have k := kind_any x hx
  have b : (((Fl.kd x : Nat) : Int) == 3) = decide (Fl.kd x = 3) := kd_beq x 3
  generalize decide (Fl.kd x = 3) = r at *
  generalize Fl.kd x = K at *
  go_enter Try.func79, Try.ntmps79
  go_wp2_with (go_at_call 58; refine (k _).mono ?_; rintro e w' ⟨rfl, rfl⟩)
  go_ret
  exact ⟨rfl, rfl⟩
set_option maxHeartbeats 400000 in
theorem rzero_any (x : Nat) (hx : x < 18446744073709551616) (w : World) :
    Calls Try.prog 80 #[.int .u64 (x : Int)] w fun e w' => e = .returned (.bool (decide (Fl.kd x = 0))) ∧ w = w' := by
  have k := kind_any x hx
  have b : (((Fl.kd x : Nat) : Int) == 0) = decide (Fl.kd x = 0) := kd_beq x 0
  generalize decide (Fl.kd x = 0) = r at *
  generalize Fl.kd x = K at *
  go_enter Try.func80, Try.ntmps80
  go_wp2_with (go_at_call 58; refine (k _).mono ?_; rintro e w' ⟨rfl, rfl⟩)
  go_ret
  exact ⟨rfl, rfl⟩
theorem or_sign63 (x : Nat) (hx : x < 9223372036854775808) : Go.bits .or .u64 (x : Int) 9223372036854775808 = ((x + 9223372036854775808 : Nat) : Int) := by
  have h := u64_or_nat x 9223372036854775808 (by omega) (by omega)
  have e := Nat.two_pow_add_eq_or_of_lt (i := 63) hx 1
  rw [Nat.or_comm] at e
  have e2 : x ||| 9223372036854775808 = x + 9223372036854775808 := by
    have : (2:Nat) ^ 63 * 1 = 9223372036854775808 := rfl
    rw [this] at e; omega
  rw [e2] at h
  rw [← h]; rfl
set_option maxHeartbeats 400000 in
theorem rwith_any (neg : Bool) (x : Nat) (hx : x < 9223372036854775808) (w : World) :
    Calls Try.prog 81 #[.bool neg, .int .u64 (x : Int)] w fun e w' => e = .returned (.int .u64 ((Fl.pk neg x : Nat) : Int)) ∧ w = w' := by
  have o := or_sign63 x hx
  cases neg
  · rw [show Fl.pk false x = x from rfl]
    go_enter Try.func81, Try.ntmps81
    go_wp2
    go_ret
    exact ⟨rfl, rfl⟩
  · rw [show Fl.pk true x = x + 9223372036854775808 from rfl]
    generalize x + 9223372036854775808 = y at *
    go_enter Try.func81, Try.ntmps81
    go_wp2
    go_ret
    exact ⟨rfl, rfl⟩

/-- a number's significand brought to 53 bits, and the places for that -/
def Fl.lp (x : Nat) : Nat := 53 - Fl.bl (Fl.mant x)
set_option maxHeartbeats 1000000 in
theorem large_core (x m B d R : Nat) (e : Int) (neg : Bool) (he1 : -1074 ≤ e) (he2 : e ≤ 1000) (hB : B ≤ 53) (hd : 53 - (B : Int) = (d : Int))
    (hR : IntKind.u64.wrap ((m : Int) * 2 ^ d) = (R : Int))
    (h1 : ∀ w, Calls Try.prog 61 #[.int .u64 (x : Int)] w fun e' w' => e' = .returned (.tuple #[.bool neg, .int .u64 (m : Int), .int .i64 e]) ∧ w = w')
    (h2 : ∀ w, Calls Try.prog 103 #[.int .u64 (m : Int)] w fun e' w' => e' = .returned (.int .i64 (B : Int)) ∧ w = w') (w : World) :
    Calls Try.prog 82 #[.int .u64 (x : Int)] w fun e' w' => e' = .returned (.tuple #[.int .u64 (R : Int), .int .i64 (e - (d : Int))]) ∧ w = w' := by
  have hd53 : d ≤ 53 := by omega
  go_enter Try.func82, Try.ntmps82
  go_wp2_with fail
  refine (h1 _).mono ?_
  rintro e1 w' ⟨rfl, rfl⟩
  go_wp2_with fail
  refine (h2 _).mono ?_
  rintro e1 w' ⟨rfl, rfl⟩
  go_wp2
  go_ret2
  exact ⟨rfl, rfl⟩
theorem large_any (x : Nat) (hx : x < 18446744073709551616) (hk : Fl.kd x < 3) (w : World) :
    Calls Try.prog 82 #[.int .u64 (x : Int)] w fun e w' => e = .returned (.tuple #[.int .u64 ((Fl.mant (Fl.ab x) * 2 ^ Fl.lp (Fl.ab x) : Nat) : Int), .int .i64 ((Fl.sh (Fl.ab x) : Int) - 1074 - ((Fl.lp (Fl.ab x) : Nat) : Int))]) ∧ w = w' := by
  have hm := Fl.mant_lt (Fl.ab x)
  have hs := sh_le hk
  have hb := Fl.bl_mant_le (Fl.ab x)
  have hl := Fl.lt_bl (Fl.mant (Fl.ab x))
  have e1 : Fl.mant (Fl.ab x) * 2 ^ Fl.lp (Fl.ab x) < 18446744073709551616 := by
    have h1 : Fl.mant (Fl.ab x) * 2 ^ Fl.lp (Fl.ab x) < 2 ^ Fl.bl (Fl.mant (Fl.ab x)) * 2 ^ Fl.lp (Fl.ab x) := Nat.mul_lt_mul_of_pos_right hl (Nat.pow_pos (by decide))
    rw [← Nat.pow_add, show Fl.bl (Fl.mant (Fl.ab x)) + Fl.lp (Fl.ab x) = 53 by unfold Fl.lp; omega] at h1
    exact Nat.lt_trans h1 (by decide)
  have e2 := wrap_shl (Fl.mant (Fl.ab x)) (Fl.lp (Fl.ab x))
  rw [Nat.mod_eq_of_lt e1] at e2
  exact large_core x _ _ (Fl.lp (Fl.ab x)) _ _ _ (by omega) (by omega) hb (by unfold Fl.lp; omega) e2 (split_fin x hx hk) (len64_any _ (by omega)) w
theorem large_fact {x : Nat} (h : 0 < x) : 4503599627370496 ≤ Fl.mant x * 2 ^ Fl.lp x ∧ Fl.mant x * 2 ^ Fl.lp x < 9007199254740992 ∧ Fl.lp x ≤ 52 := by
  have hp := Fl.mant_pos h
  have hb := Fl.bl_mant_le x
  have hl := Fl.lt_bl (Fl.mant x)
  have hg := Fl.bl_le hp
  have hbp := Fl.bl_pos hp
  have h1 : Fl.mant x * 2 ^ Fl.lp x < 2 ^ Fl.bl (Fl.mant x) * 2 ^ Fl.lp x := Nat.mul_lt_mul_of_pos_right hl (Nat.pow_pos (by decide))
  have h2 : 2 ^ (Fl.bl (Fl.mant x) - 1) * 2 ^ Fl.lp x ≤ Fl.mant x * 2 ^ Fl.lp x := Nat.mul_le_mul_right _ hg
  rw [← Nat.pow_add, show Fl.bl (Fl.mant x) + Fl.lp x = 53 by unfold Fl.lp; omega, Fl.pow53] at h1
  rw [← Nat.pow_add, show Fl.bl (Fl.mant x) - 1 + Fl.lp x = 52 by unfold Fl.lp; omega, Fl.pow52] at h2
  exact ⟨h2, h1, by unfold Fl.lp; omega⟩
end Go.Proofs.Ytaplggheadahhaa

namespace Go.Proofs.Ytaplggheadahhaa
open Go.RowKit
set_option linter.unusedVariables false
set_option linter.unusedSimpArgs false

theorem wrap_small {n : Nat} (h : n < 18446744073709551616) : IntKind.u64.wrap (n : Int) = (n : Int) := by rw [wrap_u64_nat, Nat.mod_eq_of_lt h]

set_option maxHeartbeats 4000000 in
set_option maxRecDepth 100000 in
theorem div64_core (hi lo y s j A Bv Y y1 y0 U L d1 d0 q1 M1 r1 q0 M0 r0 Q1 Q0 W1 W2 W3 R1 X1 X2 V1 V2 V3 R0 R : Nat) (hy0 : ((y : Int) == 0) = false) (hle : ¬ (y : Int) ≤ (hi : Int)) (hh : ((hi : Int) == 0) = false)
    (hs : s < 64) (y1h : y1 < 4294967296) (y0h : y0 < 4294967296) (y1l : 2147483648 ≤ y1) (d1h : d1 < 4294967296) (d0h : d0 < 4294967296)
    (D1 : Hid (U < y1 * 4294967296 + y0)) (D0 : Hid (R1 < y1 * 4294967296 + y0)) (g1 : Fl.Dg U y1 y0 d1 q1 r1) (g0 : Fl.Dg R1 y1 y0 d0 q0 r0)
    (F1 : Hid ((U * 4294967296 + d1) / (y1 * 4294967296 + y0) = Q1)) (F0 : Hid ((R1 * 4294967296 + d0) / (y1 * 4294967296 + y0) = Q0))
    (z : ∀ w, Calls Try.prog 146 #[.int .u64 (y : Int)] w fun e w' => e = .returned (.int .i64 (s : Int)) ∧ w = w')
    (es : IntKind.u64.wrap (s : Int) = (s : Int)) (ej : IntKind.u64.wrap (64 - (s : Int)) = (j : Int)) (hj : j ≤ 64)
    (hY : IntKind.u64.wrap ((y : Int) * 2 ^ s) = (Y : Int)) (hy1 : (Y : Int) / 4294967296 = (y1 : Int)) (hym : Go.bits .and .u64 (Y : Int) 4294967295 = (y0 : Int))
    (hA : IntKind.u64.wrap ((hi : Int) * 2 ^ s) = (A : Int)) (hB : (lo : Int) / 2 ^ j = (Bv : Int)) (hor : Go.bits .or .u64 (A : Int) (Bv : Int) = (U : Int))
    (hL : IntKind.u64.wrap ((lo : Int) * 2 ^ s) = (L : Int)) (hd1 : (L : Int) / 4294967296 = (d1 : Int)) (hd0 : Go.bits .and .u64 (L : Int) 4294967295 = (d0 : Int))
    (hq1 : IntKind.u64.wrap ((U : Int) / (y1 : Int)) = (q1 : Int)) (hM1 : IntKind.u64.wrap ((q1 : Int) * (y1 : Int)) = (M1 : Int)) (hr1 : IntKind.u64.wrap ((U : Int) - (M1 : Int)) = (r1 : Int))
    (hW1 : IntKind.u64.wrap ((U : Int) * 4294967296) = (W1 : Int)) (hW2 : IntKind.u64.wrap ((W1 : Int) + (d1 : Int)) = (W2 : Int)) (hW3 : IntKind.u64.wrap ((Q1 : Int) * (Y : Int)) = (W3 : Int)) (hR1 : IntKind.u64.wrap ((W2 : Int) - (W3 : Int)) = (R1 : Int))
    (hq0 : IntKind.u64.wrap ((R1 : Int) / (y1 : Int)) = (q0 : Int)) (hM0 : IntKind.u64.wrap ((q0 : Int) * (y1 : Int)) = (M0 : Int)) (hr0 : IntKind.u64.wrap ((R1 : Int) - (M0 : Int)) = (r0 : Int))
    (hX1 : IntKind.u64.wrap ((Q1 : Int) * 4294967296) = (X1 : Int)) (hX2 : IntKind.u64.wrap ((X1 : Int) + (Q0 : Int)) = (X2 : Int))
    (hV1 : IntKind.u64.wrap ((R1 : Int) * 4294967296) = (V1 : Int)) (hV2 : IntKind.u64.wrap ((V1 : Int) + (d0 : Int)) = (V2 : Int)) (hV3 : IntKind.u64.wrap ((Q0 : Int) * (Y : Int)) = (V3 : Int)) (hR0 : IntKind.u64.wrap ((V2 : Int) - (V3 : Int)) = (R0 : Int))
    (hR : (R0 : Int) / 2 ^ s = (R : Int)) (w : World) :
    Calls Try.prog 127 #[.int .u64 (hi : Int), .int .u64 (lo : Int), .int .u64 (y : Int)] w fun e w' => e = .returned (.tuple #[.int .u64 (X2 : Int), .int .u64 (R : Int)]) ∧ Below w.heap.size w w' := by
  have y1p : ((y1 : Int) == 0) = false := by simp; omega
  go_enter Try.func127, Try.ntmps127
  go_wp2_with fail
  refine (z _).mono ?_
  rintro e w' ⟨rfl, rfl⟩
  go_upto_block 0 with (fail)
  go_cut [15] from 67 to 85 (fun v15 wx => v15 = .int .u64 ((Q1 : Nat) : Int) ∧ Below w.heap.size w wx)
  case first =>
    go_wp2_with fail
    go_loopw [15, 16] (fun v v2 wr => ∃ q r : Nat, v = .int .u64 (q : Int) ∧ v2 = .int .u64 (r : Int) ∧ Fl.Dg U y1 y0 d1 q r ∧ Below w.heap.size w wr) (fun v _ _ => (intOf v).toNat)
    case atStart => exact ⟨q1, r1, rfl, rfl, g1, Below.refl _ _⟩
    case round =>
      obtain ⟨q, r, rfl, rfl, hD, LR⟩ := hrel
      obtain ⟨s1, s2⟩ := Fl.dg_small hD y0h d1h
      have n1 : IntKind.u64.wrap ((q : Int) * (y0 : Int)) = ((q * y0 : Nat) : Int) := by rw [← Int.natCast_mul, wrap_small s1]
      have n2 : IntKind.u64.wrap (4294967296 * (r : Int)) = ((4294967296 * r : Nat) : Int) := by rw [show 4294967296 * (r : Int) = ((4294967296 * r : Nat) : Int) by omega, wrap_small (by omega)]
      have n3 : IntKind.u64.wrap (((4294967296 * r : Nat) : Int) + (d1 : Int)) = ((4294967296 * r + d1 : Nat) : Int) := by rw [← Int.natCast_add, wrap_small s2]
      have n4 : IntKind.u64.wrap ((q : Int) - 1) = ((q - 1 : Nat) : Int) ∨ q = 0 := by
        rcases Nat.eq_zero_or_pos q with c | c
        · exact .inr c
        · left; rw [show (q : Int) - 1 = ((q - 1 : Nat) : Int) by omega, wrap_small (by have := hD.2.2.1; omega)]
      have n5 : IntKind.u64.wrap ((r : Int) + (y1 : Int)) = ((r + y1 : Nat) : Int) := by rw [← Int.natCast_add, wrap_small (by have := hD.2.2.2; omega)]
      have k0 := fun c => Fl.dg_over hD D1.out d1h (by omega) c
      have k1 := fun c => Fl.dg_step hD D1.out d1h (by omega) c
      have k2 := fun c => Fl.dg_break hD D1.out d1h (by omega) y0h c
      have k3 := fun c => Fl.dg_end hD d1h (by omega) c
      rw [F1.out] at k0 k2 k3
      have kq := hD.2.2.1
      clear hD s1 s2
      have HD := Lib.hid k1; clear k1
      generalize hP : q * y0 = P at *
      generalize hS : 4294967296 * r + d1 = S at *
      generalize 4294967296 * r = T at *
      generalize hr' : r + y1 = r' at *
      by_cases c : 4294967296 ≤ q ∨ S < P
      · have c3 := k0 c
        have n4 := n4.resolve_right (by omega)
        have K1 := HD.out c
        have K2 := k2 c
        clear k0 k2 k3 HD hP hS hr'
        have hq' : q - 1 < q := by omega
        generalize q - 1 = q' at *
        clear c3
        by_cases b : 4294967296 ≤ q
        · have b1 : decide (4294967296 ≤ (q : Int)) = true := decide_eq_true (by omega)
          clear c
          by_cases e : 4294967296 ≤ r'
          · have e1 : decide (4294967296 ≤ (r' : Int)) = true := decide_eq_true (by omega)
            have K3 := Lib.hid (K2 e)
            clear K1 K2
            go_wp2
            go_meet
            exact ⟨by rw [K3.out], LR⟩
          · have e1 : decide (4294967296 ≤ (r' : Int)) = false := decide_eq_false (by omega)
            have K3 := K1 (by omega)
            clear K1 K2
            go_wp2
            exact ⟨⟨q', r', rfl, rfl, K3, LR⟩, by simp [intOf]; omega⟩
        · have b1 : decide (4294967296 ≤ (q : Int)) = false := decide_eq_false (by omega)
          have b2 : decide ((S : Int) < (P : Int)) = true := decide_eq_true (by omega)
          have b3 : S < P := by omega
          clear c
          by_cases e : 4294967296 ≤ r'
          · have e1 : decide (4294967296 ≤ (r' : Int)) = true := decide_eq_true (by omega)
            have K3 := Lib.hid (K2 e)
            clear K1 K2
            go_wp2
            go_meet
            exact ⟨by rw [K3.out], LR⟩
          · have e1 : decide (4294967296 ≤ (r' : Int)) = false := decide_eq_false (by omega)
            have K3 := K1 (by omega)
            clear K1 K2
            go_wp2
            exact ⟨⟨q', r', rfl, rfl, K3, LR⟩, by simp [intOf]; omega⟩
      · have b1 : decide (4294967296 ≤ (q : Int)) = false := decide_eq_false (by omega)
        have b2 : decide ((S : Int) < (P : Int)) = false := decide_eq_false (by omega)
        have b3 : ¬ S < P := by omega
        have K3 := Lib.hid (k3 (by omega))
        clear k0 k2 k3 HD hP hS hr' n4 c
        go_wp2
        go_meet
        exact ⟨by rw [K3.out], LR⟩
  case rest =>
    obtain ⟨rfl, LC⟩ := hcut
    go_upto_block 2 with (fail)
    go_cut [18] from 102 to 120 (fun v15 wx => v15 = .int .u64 ((Q0 : Nat) : Int) ∧ Below w.heap.size w wx)
    case first =>
      go_wp2_with fail
      go_loopw [18, 16] (fun v v2 wr => ∃ q r : Nat, v = .int .u64 (q : Int) ∧ v2 = .int .u64 (r : Int) ∧ Fl.Dg R1 y1 y0 d0 q r ∧ Below w.heap.size w wr) (fun v _ _ => (intOf v).toNat)
      case atStart => exact ⟨q0, r0, rfl, rfl, g0, LC⟩
      case round =>
        obtain ⟨q, r, rfl, rfl, hD, LR⟩ := hrel
        obtain ⟨s1, s2⟩ := Fl.dg_small hD y0h d0h
        have n1 : IntKind.u64.wrap ((q : Int) * (y0 : Int)) = ((q * y0 : Nat) : Int) := by rw [← Int.natCast_mul, wrap_small s1]
        have n2 : IntKind.u64.wrap (4294967296 * (r : Int)) = ((4294967296 * r : Nat) : Int) := by rw [show 4294967296 * (r : Int) = ((4294967296 * r : Nat) : Int) by omega, wrap_small (by omega)]
        have n3 : IntKind.u64.wrap (((4294967296 * r : Nat) : Int) + (d0 : Int)) = ((4294967296 * r + d0 : Nat) : Int) := by rw [← Int.natCast_add, wrap_small s2]
        have n4 : IntKind.u64.wrap ((q : Int) - 1) = ((q - 1 : Nat) : Int) ∨ q = 0 := by
          rcases Nat.eq_zero_or_pos q with c | c
          · exact .inr c
          · left; rw [show (q : Int) - 1 = ((q - 1 : Nat) : Int) by omega, wrap_small (by have := hD.2.2.1; omega)]
        have n5 : IntKind.u64.wrap ((r : Int) + (y1 : Int)) = ((r + y1 : Nat) : Int) := by rw [← Int.natCast_add, wrap_small (by have := hD.2.2.2; omega)]
        have k0 := fun c => Fl.dg_over hD D0.out d0h (by omega) c
        have k1 := fun c => Fl.dg_step hD D0.out d0h (by omega) c
        have k2 := fun c => Fl.dg_break hD D0.out d0h (by omega) y0h c
        have k3 := fun c => Fl.dg_end hD d0h (by omega) c
        rw [F0.out] at k0 k2 k3
        have kq := hD.2.2.1
        clear hD s1 s2
        have HD := Lib.hid k1; clear k1
        generalize hP : q * y0 = P at *
        generalize hS : 4294967296 * r + d0 = S at *
        generalize 4294967296 * r = T at *
        generalize hr' : r + y1 = r' at *
        by_cases c : 4294967296 ≤ q ∨ S < P
        · have c3 := k0 c
          have n4 := n4.resolve_right (by omega)
          have K1 := HD.out c
          have K2 := k2 c
          clear k0 k2 k3 HD hP hS hr'
          have hq' : q - 1 < q := by omega
          generalize q - 1 = q' at *
          clear c3
          by_cases b : 4294967296 ≤ q
          · have b1 : decide (4294967296 ≤ (q : Int)) = true := decide_eq_true (by omega)
            clear c
            by_cases e : 4294967296 ≤ r'
            · have e1 : decide (4294967296 ≤ (r' : Int)) = true := decide_eq_true (by omega)
              have K3 := Lib.hid (K2 e)
              clear K1 K2
              go_wp2
              go_meet
              exact ⟨by rw [K3.out], LR⟩
            · have e1 : decide (4294967296 ≤ (r' : Int)) = false := decide_eq_false (by omega)
              have K3 := K1 (by omega)
              clear K1 K2
              go_wp2
              exact ⟨⟨q', r', rfl, rfl, K3, LR⟩, by simp [intOf]; omega⟩
          · have b1 : decide (4294967296 ≤ (q : Int)) = false := decide_eq_false (by omega)
            have b2 : decide ((S : Int) < (P : Int)) = true := decide_eq_true (by omega)
            have b3 : S < P := by omega
            clear c
            by_cases e : 4294967296 ≤ r'
            · have e1 : decide (4294967296 ≤ (r' : Int)) = true := decide_eq_true (by omega)
              have K3 := Lib.hid (K2 e)
              clear K1 K2
              go_wp2
              go_meet
              exact ⟨by rw [K3.out], LR⟩
            · have e1 : decide (4294967296 ≤ (r' : Int)) = false := decide_eq_false (by omega)
              have K3 := K1 (by omega)
              clear K1 K2
              go_wp2
              exact ⟨⟨q', r', rfl, rfl, K3, LR⟩, by simp [intOf]; omega⟩
        · have b1 : decide (4294967296 ≤ (q : Int)) = false := decide_eq_false (by omega)
          have b2 : decide ((S : Int) < (P : Int)) = false := decide_eq_false (by omega)
          have b3 : ¬ S < P := by omega
          have K3 := Lib.hid (k3 (by omega))
          clear k0 k2 k3 HD hP hS hr' n4 c
          go_wp2
          go_meet
          exact ⟨by rw [K3.out], LR⟩
    case rest =>
      obtain ⟨rfl, LC2⟩ := hcut
      go_wp2
      go_ret2
      exact ⟨rfl, LC2⟩
end Go.Proofs.Ytaplggheadahhaa

namespace Go.Proofs.Ytaplggheadahhaa
open Go.RowKit
set_option linter.unusedVariables false
set_option linter.unusedSimpArgs false

theorem and_mask32 (x : Nat) (h : x < 18446744073709551616) : Go.bits .and .u64 (x : Int) 4294967295 = ((x % 4294967296 : Nat) : Int) := by
  have := u64_and_nat x 4294967295 h (by omega)
  rw [show x &&& 4294967295 = x % 4294967296 from Nat.and_two_pow_sub_one_eq_mod x 32] at this
  rw [← this]; rfl
theorem wrap_emod (z : Int) : IntKind.u64.wrap z = z % 18446744073709551616 := by simp [IntKind.wrap, IntKind.bits, IntKind.signed]
theorem wrap_quo (a b : Nat) (h : a < 18446744073709551616) : IntKind.u64.wrap ((a : Int) / (b : Int)) = ((a / b : Nat) : Int) := by
  rw [← Int.natCast_ediv, wrap_small (Nat.lt_of_le_of_lt (Nat.div_le_self _ _) h)]
theorem wrap_mul (a b : Nat) : IntKind.u64.wrap ((a : Int) * (b : Int)) = ((a * b % 18446744073709551616 : Nat) : Int) := by
  rw [← Int.natCast_mul, wrap_u64_nat]
theorem wrap_add (a b : Nat) : IntKind.u64.wrap ((a : Int) + (b : Int)) = (((a + b) % 18446744073709551616 : Nat) : Int) := by
  rw [← Int.natCast_add, wrap_u64_nat]
theorem wrap_rest {a d Z R : Nat} (h : a + d = Z + R) (hR : R < 18446744073709551616) :
    IntKind.u64.wrap ((((a % 18446744073709551616 + d) % 18446744073709551616 : Nat) : Int) - ((Z % 18446744073709551616 : Nat) : Int)) = (R : Int) := by
  rw [wrap_emod]; omega
theorem lead_any (x : Nat) (hx : x < 18446744073709551616) (w : World) :
    Calls Try.prog 146 #[.int .u64 (x : Int)] w fun e w' => e = .returned (.int .i64 ((64 - Fl.bl x : Nat) : Int)) ∧ w = w' :=
  (Try.bits_LeadingZeros64 (x : Int) w (by omega) (by omega)).mono fun e w' ⟨h1, h2⟩ => ⟨by
    have hb : Fl.bl x ≤ 64 := Fl.bl_le_of_lt (by omega)
    rw [h1, Int.toNat_natCast, bitLen_eq _ hx, show (64 - ((Fl.bl x : Nat) : Int)) = ((64 - Fl.bl x : Nat) : Int) by omega], h2.symm⟩

set_option maxHeartbeats 1000000 in
theorem div64_zero (lo y : Nat) (hlo : lo < 18446744073709551616) (hy : 0 < y) (w : World) :
    Calls Try.prog 127 #[.int .u64 0, .int .u64 (lo : Int), .int .u64 (y : Int)] w fun e w' => e = .returned (.tuple #[.int .u64 ((lo / y : Nat) : Int), .int .u64 ((lo % y : Nat) : Int)]) ∧ Below w.heap.size w w' := by
  have hy0 : ((y : Int) == 0) = false := by simp; omega
  have hle : ¬ (y : Int) ≤ 0 := by omega
  have e1 := wrap_quo lo y hlo
  have e2 : IntKind.u64.wrap (Int.tmod (lo : Int) (y : Int)) = ((lo % y : Nat) : Int) := by
    rw [Int.tmod_eq_emod_of_nonneg (by omega), ← Int.natCast_emod, wrap_small (Nat.lt_of_le_of_lt (Nat.mod_le _ _) hlo)]
  have e3 : Int.tmod (lo : Int) (y : Int) = ((lo % y : Nat) : Int) := by
    rw [Int.tmod_eq_emod_of_nonneg (by omega), ← Int.natCast_emod]
  generalize lo / y = Q at *
  generalize lo % y = R at *
  clear hlo hy
  go_enter Try.func127, Try.ntmps127
  go_wp2_with fail
  go_quiet (fail)
  go_wp2
  go_ret2
  exact ⟨rfl, below_drewN (Below.refl _ _) _⟩

theorem eY_ (Y : Nat) : Y / 4294967296 * 4294967296 + Y % 4294967296 = Y := by omega
theorem eNB {U L N B C : Nat} (h : U * C + L = N) (hC : C = B * B) : (U * B + L / B) * B + L % B = N := by
  subst hC
  have := Nat.div_add_mod L B
  rw [Nat.add_mul, Nat.mul_assoc, Nat.mul_comm (L / B)]; omega
theorem eN_ {U L N : Nat} (h : U * 18446744073709551616 + L = N) : (U * 4294967296 + L / 4294967296) * 4294967296 + L % 4294967296 = N := eNB h rfl
theorem lt_left {a b M : Nat} (h : a + b < M) : a < M := by omega
theorem dm_ex (n y : Nat) (hy : 0 < y) : ∃ q r, n / y = q ∧ n % y = r ∧ n = q * y + r ∧ r < y := by
  refine ⟨_, _, rfl, rfl, ?_, Nat.mod_lt _ hy⟩
  have := Nat.div_add_mod n y
  rw [Nat.mul_comm] at this
  exact this.symm
theorem two_digits_2 {a d0 y N Q1 R1 Q0 R0 B : Nat} (hy : 0 < y) (hN : a * B + d0 = N) (hQ1 : a / y = Q1) (hR1 : a % y = R1) (hQ0 : (R1 * B + d0) / y = Q0) (hR0 : (R1 * B + d0) % y = R0) :
    Q1 * B + Q0 = N / y ∧ R0 = N % y := by
  subst hN hQ1 hR1 hQ0 hR0
  exact Fl.two_digits_ _ d0 y _ hy
theorem two_digits' {u d1 d0 y N Q1 R1 Q0 R0 : Nat} (hy : 0 < y) (hN : (u * 4294967296 + d1) * 4294967296 + d0 = N) (hQ1 : (u * 4294967296 + d1) / y = Q1) (hR1 : (u * 4294967296 + d1) % y = R1) (hQ0 : (R1 * 4294967296 + d0) / y = Q0) (hR0 : (R1 * 4294967296 + d0) % y = R0) :
    Q1 * 4294967296 + Q0 = N / y ∧ R0 = N % y := two_digits_2 hy hN hQ1 hR1 hQ0 hR0

theorem div64_any (hi lo y : Nat) (hlo : lo < 18446744073709551616) (hy : y < 18446744073709551616) (hlt : hi < y) (w : World) :
    Calls Try.prog 127 #[.int .u64 (hi : Int), .int .u64 (lo : Int), .int .u64 (y : Int)] w fun e w' => e = .returned (.tuple #[.int .u64 (((hi * 18446744073709551616 + lo) / y : Nat) : Int), .int .u64 (((hi * 18446744073709551616 + lo) % y : Nat) : Int)]) ∧ Below w.heap.size w w' := by
  rcases Nat.eq_zero_or_pos hi with rfl | hp
  · have := div64_zero lo y hlo hlt w
    rwa [Nat.zero_mul, Nat.zero_add]
  have hyp : 0 < y := by omega
  have hb : Fl.bl y ≤ 64 := Fl.bl_le_of_lt (by omega)
  have hbp := Fl.bl_pos hyp
  obtain ⟨s, hs⟩ : ∃ s, s = 64 - Fl.bl y := ⟨_, rfl⟩
  have z := lead_any y hy
  rw [← hs] at z
  have hs64 : s < 64 := by omega
  have hsp : 0 < 2 ^ s := Nat.pow_pos (by decide)
  -- the divisor, brought up
  have hY1 : 9223372036854775808 ≤ y * 2 ^ s := by
    have := Nat.mul_le_mul_right (2 ^ s) (Fl.bl_le hyp)
    rw [← Nat.pow_add, show Fl.bl y - 1 + s = 63 by omega] at this
    exact this
  have hY2 : y * 2 ^ s < 18446744073709551616 := by
    have := Nat.mul_lt_mul_of_pos_right (Fl.lt_bl y) hsp
    rw [← Nat.pow_add, show Fl.bl y + s = 64 by omega] at this
    exact this
  -- the number, brought up
  have hN : (hi * 18446744073709551616 + lo) * 2 ^ s < y * 2 ^ s * 18446744073709551616 := by
    rw [Nat.mul_right_comm]
    exact Nat.mul_lt_mul_of_pos_right (by omega) hsp
  obtain ⟨j, hj⟩ : ∃ j, s + j = 64 := ⟨64 - s, by omega⟩
  obtain ⟨w1, w2, w3⟩ := shl_words (hi := hi) (lo := lo) hlo hj
  have eo := or_words (a := hi * 2 ^ s % 18446744073709551616) (Nat.mod_lt _ (by decide)) (Nat.le_of_lt hs64) w2 w3
  rw [w1] at eo
  have elo : lo * 2 ^ s % 18446744073709551616 = Fl.lo ((hi * 18446744073709551616 + lo) * 2 ^ s) := by
    unfold Fl.lo; rw [Nat.add_mul, Nat.mul_right_comm, Nat.add_comm, Nat.add_mul_mod_self_right]
  have ed := Nat.mul_div_mul_right (hi * 18446744073709551616 + lo) y hsp
  have em := Nat.mul_mod_mul_right (2 ^ s) (hi * 18446744073709551616 + lo) y
  have hA := wrap_shl hi s
  have hB := div_pow lo j
  have hL := wrap_shl lo s
  rw [elo] at hL
  have hYw := wrap_shl y s
  rw [Nat.mod_eq_of_lt hY2] at hYw
  generalize hNn : (hi * 18446744073709551616 + lo) * 2 ^ s = N at *
  have hjn := Fl.jn_hi (n := N) (by omega)
  have hU : Fl.hi N < y * 2 ^ s := by unfold Fl.hi; omega
  have hLl := Fl.lo_lt N
  generalize y * 2 ^ s = Y at *
  have hYp : 0 < Y := by omega
  generalize Fl.hi N = U at *
  generalize Fl.lo N = L at *
  have eY := eY_ Y
  obtain ⟨Q1, R1, hQ1, hR1, hq, hq'⟩ := dm_ex (U * 4294967296 + L / 4294967296) Y hYp
  obtain ⟨Q0, R0, hQ0, hR0, hp0, hp'⟩ := dm_ex (R1 * 4294967296 + L % 4294967296) Y hYp
  obtain ⟨t1, t2⟩ := two_digits' (N := N) hYp (eN_ hjn) hQ1 hR1 hQ0 hR0
  rw [ed] at t1
  rw [em] at t2
  have hX : Q1 * 4294967296 + Q0 < 18446744073709551616 := by
    rw [t1, Nat.div_lt_iff_lt_mul hyp]
    have := Nat.mul_le_mul_right 18446744073709551616 (show hi + 1 ≤ y from hlt)
    omega
  have y1l : 2147483648 ≤ Y / 4294967296 := by omega
  have g1 := Fl.dg_first (u := U) (y1 := Y / 4294967296) (y0 := Y % 4294967296) (d := L / 4294967296) y1l (by omega) (by omega) (by omega) (by omega)
  have g0 := Fl.dg_first (u := R1) (y1 := Y / 4294967296) (y0 := Y % 4294967296) (d := L % 4294967296) y1l (by omega) (by omega) (by omega) (by omega)
  have m1 := Nat.div_add_mod U (Y / 4294967296)
  have m0 := Nat.div_add_mod R1 (Y / 4294967296)
  rw [Nat.mul_comm] at m1 m0
  have mm1 := Nat.mod_le U (Y / 4294967296)
  have mm0 := Nat.mod_le R1 (Y / 4294967296)
  have k1 : U / (Y / 4294967296) * (Y / 4294967296) < 18446744073709551616 := by omega
  have k0 : R1 / (Y / 4294967296) * (Y / 4294967296) < 18446744073709551616 := by omega
  have := div64_core hi lo y s j (hi * 2 ^ s % 18446744073709551616) (lo / 2 ^ j) Y (Y / 4294967296) (Y % 4294967296) U L (L / 4294967296) (L % 4294967296)
    (U / (Y / 4294967296)) (U / (Y / 4294967296) * (Y / 4294967296)) (U % (Y / 4294967296)) (R1 / (Y / 4294967296)) (R1 / (Y / 4294967296) * (Y / 4294967296)) (R1 % (Y / 4294967296))
    Q1 Q0 (U * 4294967296 % 18446744073709551616) ((U * 4294967296 % 18446744073709551616 + L / 4294967296) % 18446744073709551616) (Q1 * Y % 18446744073709551616) R1
    (Q1 * 4294967296) (Q1 * 4294967296 + Q0) (R1 * 4294967296 % 18446744073709551616) ((R1 * 4294967296 % 18446744073709551616 + L % 4294967296) % 18446744073709551616) (Q0 * Y % 18446744073709551616) R0 (R0 / 2 ^ s)
    (by simp; omega) (by omega) (by simp; omega) hs64 (by omega) (by omega) y1l (by omega) (by omega)
    (Lib.hid (by omega)) (Lib.hid (by omega)) g1 g0 (Lib.hid (by rw [eY, hQ1])) (Lib.hid (by rw [eY, hQ0])) z
    (wrap_small (by omega)) (by rw [show (64 - (s : Int)) = (j : Int) by omega, wrap_small (by omega)]) (by omega)
    hYw (by omega) (and_mask32 _ hY2) hA hB eo hL (by omega) (and_mask32 _ hLl)
    (wrap_quo _ _ (by omega)) (by rw [wrap_mul, Nat.mod_eq_of_lt k1]) (by rw [show ((U : Int) - ((U / (Y / 4294967296) * (Y / 4294967296) : Nat) : Int)) = ((U % (Y / 4294967296) : Nat) : Int) by omega, wrap_small (by omega)])
    (wrap_mul U 4294967296) (wrap_add _ _) (wrap_mul _ _) (wrap_rest hq (by omega))
    (wrap_quo _ _ (by omega)) (by rw [wrap_mul, Nat.mod_eq_of_lt k0]) (by rw [show ((R1 : Int) - ((R1 / (Y / 4294967296) * (Y / 4294967296) : Nat) : Int)) = ((R1 % (Y / 4294967296) : Nat) : Int) by omega, wrap_small (by omega)])
    (by have := wrap_mul Q1 4294967296; rwa [Nat.mod_eq_of_lt (lt_left hX)] at this) (by rw [wrap_add, Nat.mod_eq_of_lt hX])
    (wrap_mul R1 4294967296) (wrap_add _ _) (wrap_mul _ _) (wrap_rest hp0 (by omega)) (by simp) w
  rw [t1, t2, Nat.mul_div_cancel _ hsp] at this
  exact this
end Go.Proofs.Ytaplggheadahhaa

namespace Go.Proofs.Ytaplggheadahhaa
open Go.RowKit
set_option linter.unusedVariables false
set_option linter.unusedSimpArgs false

set_option maxHeartbeats 1000000 in
set_option maxRecDepth 100000 in
theorem wdiv_core (m n h r l R : Nat) (hn : ((n : Int) == 0) = false) (hn2 : ¬ n = 0) (eh : IntKind.u64.wrap ((m : Int) / (n : Int)) = (h : Int)) (er : Int.tmod (m : Int) (n : Int) = (r : Int))
    (d : ∀ w, Calls Try.prog 127 #[.int .u64 (r : Int), .int .u64 0, .int .u64 (n : Int)] w fun e w' => e = .returned (.tuple #[.int .u64 (l : Int), .int .u64 (R : Int)]) ∧ Below w.heap.size w w') (w : World) :
    Calls Try.prog 83 #[.agg #[.int .u64 (m : Int), .int .u64 0], .int .u64 (n : Int)] w fun e w' => e = .returned (.tuple #[.agg #[.int .u64 (h : Int), .int .u64 (l : Int)], .int .u64 (R : Int), .int .i64 0]) ∧ Below w.heap.size w w' := by
  go_enter Try.func83, Try.ntmps83
  go_upto_region 3 with (fail)
  go_quiet (fail)
  go_wp2_with fail
  refine (d _).mono ?_
  rintro e w1 ⟨rfl, hb⟩
  have B1 := ((Blk.new' (w.alloc (.cells #[.int .u64 (m : Int), .int .u64 0] 51)) 51 #[.int .u64 0, .int .u64 0] (g := w.heap.size + 1) (by simp)).drewN _).belowS hb
  have L := (below_drewN (((Below.refl w.heap.size w).alloc (Nat.le_refl _) _).alloc (by simp) _) _).trans (hb.mono (by simp; omega))
  have z := B1.lt
  have c0 := B1.cell 0 rfl
  have c1 := B1.cell 1 rfl
  have f0 := B1.frozen 0
  have f1 := B1.frozen 1
  have B2 := (B1.set_ 0 (.int .u64 (h : Int))).set_ 1 (.int .u64 (l : Int))
  have d0 := B2.cell 0 (v := .int .u64 (h : Int)) rfl
  have d1 := B2.cell 1 (v := .int .u64 (l : Int)) rfl
  clear hb B1 B2
  go_wp2
  refine bodyPost_ret (v := .tuple #[.agg #[.int .u64 (h : Int), .int .u64 (l : Int)], .int .u64 (R : Int), .int .i64 0]) (by simp [results, Try.results83, go_sem, d0, d1]) rfl ⟨rfl, ?_⟩
  repeat (first | exact L | refine Below.setCell ?_ (by simp) _ | refine below_drewN ?_ _ | refine Below.drew ?_ | refine Below.alloc ?_ (by simp; try omega) _)

set_option maxHeartbeats 1000000 in
set_option maxRecDepth 100000 in
theorem div_nan1 (a b : Nat) (n : Bool) (hn : ((a : Int) / 9223372036854775808 != (b : Int) / 9223372036854775808) = n)
    (na : ∀ w, Calls Try.prog 78 #[.int .u64 (a : Int)] w fun e w' => e = .returned (.bool true) ∧ w = w')
    (w : World) : Calls Try.prog 45 #[.int .u64 (a : Int), .int .u64 (b : Int)] w fun e w' => e = .returned (.int .u64 9221120237041090560) ∧ Below w.heap.size w w' := by
  go_enter Try.func45, Try.ntmps45
  go_wp2_with fail
  refine (na _).mono ?_
  rintro e w' ⟨rfl, rfl⟩
  go_wp2
  go_ret
  exact ⟨rfl, Below.refl _ _⟩

set_option maxHeartbeats 1000000 in
set_option maxRecDepth 100000 in
theorem div_nan2 (a b : Nat) (n : Bool) (hn : ((a : Int) / 9223372036854775808 != (b : Int) / 9223372036854775808) = n)
    (na : ∀ w, Calls Try.prog 78 #[.int .u64 (a : Int)] w fun e w' => e = .returned (.bool false) ∧ w = w')
    (nb : ∀ w, Calls Try.prog 78 #[.int .u64 (b : Int)] w fun e w' => e = .returned (.bool true) ∧ w = w')
    (w : World) : Calls Try.prog 45 #[.int .u64 (a : Int), .int .u64 (b : Int)] w fun e w' => e = .returned (.int .u64 9221120237041090560) ∧ Below w.heap.size w w' := by
  go_enter Try.func45, Try.ntmps45
  go_wp2_with fail
  refine (na _).mono ?_
  rintro e w' ⟨rfl, rfl⟩
  go_wp2_with fail
  refine (nb _).mono ?_
  rintro e w' ⟨rfl, rfl⟩
  go_wp2
  go_ret
  exact ⟨rfl, Below.refl _ _⟩

set_option maxHeartbeats 1000000 in
set_option maxRecDepth 100000 in
theorem div_nan3 (a b : Nat) (n : Bool) (hn : ((a : Int) / 9223372036854775808 != (b : Int) / 9223372036854775808) = n)
    (na : ∀ w, Calls Try.prog 78 #[.int .u64 (a : Int)] w fun e w' => e = .returned (.bool false) ∧ w = w')
    (nb : ∀ w, Calls Try.prog 78 #[.int .u64 (b : Int)] w fun e w' => e = .returned (.bool false) ∧ w = w')
    (ia : ∀ w, Calls Try.prog 79 #[.int .u64 (a : Int)] w fun e w' => e = .returned (.bool true) ∧ w = w')
    (ib : ∀ w, Calls Try.prog 79 #[.int .u64 (b : Int)] w fun e w' => e = .returned (.bool true) ∧ w = w')
    (w : World) : Calls Try.prog 45 #[.int .u64 (a : Int), .int .u64 (b : Int)] w fun e w' => e = .returned (.int .u64 9221120237041090560) ∧ Below w.heap.size w w' := by
  go_enter Try.func45, Try.ntmps45
  go_wp2_with fail
  refine (na _).mono ?_
  rintro e w' ⟨rfl, rfl⟩
  go_wp2_with fail
  refine (nb _).mono ?_
  rintro e w' ⟨rfl, rfl⟩
  go_wp2_with fail
  refine (ia _).mono ?_
  rintro e w' ⟨rfl, rfl⟩
  go_wp2_with fail
  refine (ib _).mono ?_
  rintro e w' ⟨rfl, rfl⟩
  go_wp2
  go_ret
  exact ⟨rfl, Below.refl _ _⟩

set_option maxHeartbeats 1000000 in
set_option maxRecDepth 100000 in
theorem div_inf1 (a b : Nat) (I : Nat) (n : Bool) (hn : ((a : Int) / 9223372036854775808 != (b : Int) / 9223372036854775808) = n)
    (na : ∀ w, Calls Try.prog 78 #[.int .u64 (a : Int)] w fun e w' => e = .returned (.bool false) ∧ w = w')
    (nb : ∀ w, Calls Try.prog 78 #[.int .u64 (b : Int)] w fun e w' => e = .returned (.bool false) ∧ w = w')
    (ia : ∀ w, Calls Try.prog 79 #[.int .u64 (a : Int)] w fun e w' => e = .returned (.bool true) ∧ w = w')
    (ib : ∀ w, Calls Try.prog 79 #[.int .u64 (b : Int)] w fun e w' => e = .returned (.bool false) ∧ w = w')
    (za : ∀ w, Calls Try.prog 80 #[.int .u64 (a : Int)] w fun e w' => e = .returned (.bool false) ∧ w = w')
    (wi : ∀ w, Calls Try.prog 81 #[.bool n, .int .u64 9218868437227405312] w fun e w' => e = .returned (.int .u64 (I : Int)) ∧ w = w')
    (w : World) : Calls Try.prog 45 #[.int .u64 (a : Int), .int .u64 (b : Int)] w fun e w' => e = .returned (.int .u64 (I : Int)) ∧ Below w.heap.size w w' := by
  go_enter Try.func45, Try.ntmps45
  go_wp2_with fail
  refine (na _).mono ?_
  rintro e w' ⟨rfl, rfl⟩
  go_wp2_with fail
  refine (nb _).mono ?_
  rintro e w' ⟨rfl, rfl⟩
  go_wp2_with fail
  refine (ia _).mono ?_
  rintro e w' ⟨rfl, rfl⟩
  go_wp2_with fail
  refine (ib _).mono ?_
  rintro e w' ⟨rfl, rfl⟩
  go_wp2_with fail
  refine (za _).mono ?_
  rintro e w' ⟨rfl, rfl⟩
  go_wp2_with fail
  refine (ia _).mono ?_
  rintro e w' ⟨rfl, rfl⟩
  go_wp2_with fail
  refine (wi _).mono ?_
  rintro e w' ⟨rfl, rfl⟩
  go_wp2
  go_ret
  exact ⟨rfl, Below.refl _ _⟩

set_option maxHeartbeats 1000000 in
set_option maxRecDepth 100000 in
theorem div_nan4 (a b : Nat) (n : Bool) (hn : ((a : Int) / 9223372036854775808 != (b : Int) / 9223372036854775808) = n)
    (na : ∀ w, Calls Try.prog 78 #[.int .u64 (a : Int)] w fun e w' => e = .returned (.bool false) ∧ w = w')
    (nb : ∀ w, Calls Try.prog 78 #[.int .u64 (b : Int)] w fun e w' => e = .returned (.bool false) ∧ w = w')
    (ia : ∀ w, Calls Try.prog 79 #[.int .u64 (a : Int)] w fun e w' => e = .returned (.bool false) ∧ w = w')
    (za : ∀ w, Calls Try.prog 80 #[.int .u64 (a : Int)] w fun e w' => e = .returned (.bool true) ∧ w = w')
    (zb : ∀ w, Calls Try.prog 80 #[.int .u64 (b : Int)] w fun e w' => e = .returned (.bool true) ∧ w = w')
    (w : World) : Calls Try.prog 45 #[.int .u64 (a : Int), .int .u64 (b : Int)] w fun e w' => e = .returned (.int .u64 9221120237041090560) ∧ Below w.heap.size w w' := by
  go_enter Try.func45, Try.ntmps45
  go_wp2_with fail
  refine (na _).mono ?_
  rintro e w' ⟨rfl, rfl⟩
  go_wp2_with fail
  refine (nb _).mono ?_
  rintro e w' ⟨rfl, rfl⟩
  go_wp2_with fail
  refine (ia _).mono ?_
  rintro e w' ⟨rfl, rfl⟩
  go_wp2_with fail
  refine (za _).mono ?_
  rintro e w' ⟨rfl, rfl⟩
  go_wp2_with fail
  refine (zb _).mono ?_
  rintro e w' ⟨rfl, rfl⟩
  go_wp2
  go_ret
  exact ⟨rfl, Below.refl _ _⟩

set_option maxHeartbeats 1000000 in
set_option maxRecDepth 100000 in
theorem div_zer1 (a b : Nat) (I : Nat) (n : Bool) (hn : ((a : Int) / 9223372036854775808 != (b : Int) / 9223372036854775808) = n)
    (na : ∀ w, Calls Try.prog 78 #[.int .u64 (a : Int)] w fun e w' => e = .returned (.bool false) ∧ w = w')
    (nb : ∀ w, Calls Try.prog 78 #[.int .u64 (b : Int)] w fun e w' => e = .returned (.bool false) ∧ w = w')
    (ia : ∀ w, Calls Try.prog 79 #[.int .u64 (a : Int)] w fun e w' => e = .returned (.bool false) ∧ w = w')
    (za : ∀ w, Calls Try.prog 80 #[.int .u64 (a : Int)] w fun e w' => e = .returned (.bool true) ∧ w = w')
    (zb : ∀ w, Calls Try.prog 80 #[.int .u64 (b : Int)] w fun e w' => e = .returned (.bool false) ∧ w = w')
    (wi : ∀ w, Calls Try.prog 81 #[.bool n, .int .u64 0] w fun e w' => e = .returned (.int .u64 (I : Int)) ∧ w = w')
    (w : World) : Calls Try.prog 45 #[.int .u64 (a : Int), .int .u64 (b : Int)] w fun e w' => e = .returned (.int .u64 (I : Int)) ∧ Below w.heap.size w w' := by
  go_enter Try.func45, Try.ntmps45
  go_wp2_with fail
  refine (na _).mono ?_
  rintro e w' ⟨rfl, rfl⟩
  go_wp2_with fail
  refine (nb _).mono ?_
  rintro e w' ⟨rfl, rfl⟩
  go_wp2_with fail
  refine (ia _).mono ?_
  rintro e w' ⟨rfl, rfl⟩
  go_wp2_with fail
  refine (za _).mono ?_
  rintro e w' ⟨rfl, rfl⟩
  go_wp2_with fail
  refine (zb _).mono ?_
  rintro e w' ⟨rfl, rfl⟩
  go_wp2_with fail
  refine (ia _).mono ?_
  rintro e w' ⟨rfl, rfl⟩
  go_wp2_with fail
  refine (zb _).mono ?_
  rintro e w' ⟨rfl, rfl⟩
  go_wp2_with fail
  refine (za _).mono ?_
  rintro e w' ⟨rfl, rfl⟩
  go_wp2_with fail
  refine (wi _).mono ?_
  rintro e w' ⟨rfl, rfl⟩
  go_wp2
  go_ret
  exact ⟨rfl, Below.refl _ _⟩

set_option maxHeartbeats 1000000 in
set_option maxRecDepth 100000 in
theorem div_inf2 (a b : Nat) (I : Nat) (n : Bool) (hn : ((a : Int) / 9223372036854775808 != (b : Int) / 9223372036854775808) = n)
    (na : ∀ w, Calls Try.prog 78 #[.int .u64 (a : Int)] w fun e w' => e = .returned (.bool false) ∧ w = w')
    (nb : ∀ w, Calls Try.prog 78 #[.int .u64 (b : Int)] w fun e w' => e = .returned (.bool false) ∧ w = w')
    (ia : ∀ w, Calls Try.prog 79 #[.int .u64 (a : Int)] w fun e w' => e = .returned (.bool false) ∧ w = w')
    (za : ∀ w, Calls Try.prog 80 #[.int .u64 (a : Int)] w fun e w' => e = .returned (.bool false) ∧ w = w')
    (zb : ∀ w, Calls Try.prog 80 #[.int .u64 (b : Int)] w fun e w' => e = .returned (.bool true) ∧ w = w')
    (wi : ∀ w, Calls Try.prog 81 #[.bool n, .int .u64 9218868437227405312] w fun e w' => e = .returned (.int .u64 (I : Int)) ∧ w = w')
    (w : World) : Calls Try.prog 45 #[.int .u64 (a : Int), .int .u64 (b : Int)] w fun e w' => e = .returned (.int .u64 (I : Int)) ∧ Below w.heap.size w w' := by
  go_enter Try.func45, Try.ntmps45
  go_wp2_with fail
  refine (na _).mono ?_
  rintro e w' ⟨rfl, rfl⟩
  go_wp2_with fail
  refine (nb _).mono ?_
  rintro e w' ⟨rfl, rfl⟩
  go_wp2_with fail
  refine (ia _).mono ?_
  rintro e w' ⟨rfl, rfl⟩
  go_wp2_with fail
  refine (za _).mono ?_
  rintro e w' ⟨rfl, rfl⟩
  go_wp2_with fail
  refine (ia _).mono ?_
  rintro e w' ⟨rfl, rfl⟩
  go_wp2_with fail
  refine (zb _).mono ?_
  rintro e w' ⟨rfl, rfl⟩
  go_wp2_with fail
  refine (wi _).mono ?_
  rintro e w' ⟨rfl, rfl⟩
  go_wp2
  go_ret
  exact ⟨rfl, Below.refl _ _⟩

set_option maxHeartbeats 1000000 in
set_option maxRecDepth 100000 in
theorem div_zer2 (a b : Nat) (I : Nat) (n : Bool) (hn : ((a : Int) / 9223372036854775808 != (b : Int) / 9223372036854775808) = n)
    (na : ∀ w, Calls Try.prog 78 #[.int .u64 (a : Int)] w fun e w' => e = .returned (.bool false) ∧ w = w')
    (nb : ∀ w, Calls Try.prog 78 #[.int .u64 (b : Int)] w fun e w' => e = .returned (.bool false) ∧ w = w')
    (ia : ∀ w, Calls Try.prog 79 #[.int .u64 (a : Int)] w fun e w' => e = .returned (.bool false) ∧ w = w')
    (za : ∀ w, Calls Try.prog 80 #[.int .u64 (a : Int)] w fun e w' => e = .returned (.bool false) ∧ w = w')
    (zb : ∀ w, Calls Try.prog 80 #[.int .u64 (b : Int)] w fun e w' => e = .returned (.bool false) ∧ w = w')
    (ib : ∀ w, Calls Try.prog 79 #[.int .u64 (b : Int)] w fun e w' => e = .returned (.bool true) ∧ w = w')
    (wi : ∀ w, Calls Try.prog 81 #[.bool n, .int .u64 0] w fun e w' => e = .returned (.int .u64 (I : Int)) ∧ w = w')
    (w : World) : Calls Try.prog 45 #[.int .u64 (a : Int), .int .u64 (b : Int)] w fun e w' => e = .returned (.int .u64 (I : Int)) ∧ Below w.heap.size w w' := by
  go_enter Try.func45, Try.ntmps45
  go_wp2_with fail
  refine (na _).mono ?_
  rintro e w' ⟨rfl, rfl⟩
  go_wp2_with fail
  refine (nb _).mono ?_
  rintro e w' ⟨rfl, rfl⟩
  go_wp2_with fail
  refine (ia _).mono ?_
  rintro e w' ⟨rfl, rfl⟩
  go_wp2_with fail
  refine (za _).mono ?_
  rintro e w' ⟨rfl, rfl⟩
  go_wp2_with fail
  refine (ia _).mono ?_
  rintro e w' ⟨rfl, rfl⟩
  go_wp2_with fail
  refine (zb _).mono ?_
  rintro e w' ⟨rfl, rfl⟩
  go_wp2_with fail
  refine (za _).mono ?_
  rintro e w' ⟨rfl, rfl⟩
  go_wp2_with fail
  refine (ib _).mono ?_
  rintro e w' ⟨rfl, rfl⟩
  go_wp2_with fail
  refine (wi _).mono ?_
  rintro e w' ⟨rfl, rfl⟩
  go_wp2
  go_ret
  exact ⟨rfl, Below.refl _ _⟩

set_option maxHeartbeats 1000000 in
set_option maxRecDepth 100000 in
theorem div_work (a b : Nat) (ma mb qh ql r R : Nat) (ea eb : Int) (rp : Bool) (he1 : -2000 ≤ ea) (he2 : ea ≤ 2000) (he3 : -2000 ≤ eb) (he4 : eb ≤ 2000) (hr : decide (0 < (r : Int)) = rp) (hr2 : decide (0 < r) = rp) (n : Bool) (hn : ((a : Int) / 9223372036854775808 != (b : Int) / 9223372036854775808) = n)
    (na : ∀ w, Calls Try.prog 78 #[.int .u64 (a : Int)] w fun e w' => e = .returned (.bool false) ∧ w = w')
    (nb : ∀ w, Calls Try.prog 78 #[.int .u64 (b : Int)] w fun e w' => e = .returned (.bool false) ∧ w = w')
    (ia : ∀ w, Calls Try.prog 79 #[.int .u64 (a : Int)] w fun e w' => e = .returned (.bool false) ∧ w = w')
    (za : ∀ w, Calls Try.prog 80 #[.int .u64 (a : Int)] w fun e w' => e = .returned (.bool false) ∧ w = w')
    (zb : ∀ w, Calls Try.prog 80 #[.int .u64 (b : Int)] w fun e w' => e = .returned (.bool false) ∧ w = w')
    (ib : ∀ w, Calls Try.prog 79 #[.int .u64 (b : Int)] w fun e w' => e = .returned (.bool false) ∧ w = w')
    (la : ∀ w, Calls Try.prog 82 #[.int .u64 (a : Int)] w fun e' w' => e' = .returned (.tuple #[.int .u64 (ma : Int), .int .i64 ea]) ∧ w = w')
    (lb : ∀ w, Calls Try.prog 82 #[.int .u64 (b : Int)] w fun e' w' => e' = .returned (.tuple #[.int .u64 (mb : Int), .int .i64 eb]) ∧ w = w')
    (d : ∀ w, Calls Try.prog 83 #[.agg #[.int .u64 (ma : Int), .int .u64 0], .int .u64 (mb : Int)] w fun e w' => e = .returned (.tuple #[.agg #[.int .u64 (qh : Int), .int .u64 (ql : Int)], .int .u64 (r : Int), .int .i64 0]) ∧ Below w.heap.size w w')
    (j : ∀ w, Calls Try.prog 62 #[.bool n, .agg #[.int .u64 (qh : Int), .int .u64 (ql : Int)], .int .i64 (ea - eb - 64), .bool rp] w fun e' w' => e' = .returned (.int .u64 (R : Int)) ∧ Below w.heap.size w w')
    (w : World) : Calls Try.prog 45 #[.int .u64 (a : Int), .int .u64 (b : Int)] w fun e w' => e = .returned (.int .u64 (R : Int)) ∧ Below w.heap.size w w' := by
  go_enter Try.func45, Try.ntmps45
  go_wp2_with fail
  refine (na _).mono ?_
  rintro e w' ⟨rfl, rfl⟩
  go_wp2_with fail
  refine (nb _).mono ?_
  rintro e w' ⟨rfl, rfl⟩
  go_wp2_with fail
  refine (ia _).mono ?_
  rintro e w' ⟨rfl, rfl⟩
  go_wp2_with fail
  refine (za _).mono ?_
  rintro e w' ⟨rfl, rfl⟩
  go_wp2_with fail
  refine (ia _).mono ?_
  rintro e w' ⟨rfl, rfl⟩
  go_wp2_with fail
  refine (zb _).mono ?_
  rintro e w' ⟨rfl, rfl⟩
  go_wp2_with fail
  refine (za _).mono ?_
  rintro e w' ⟨rfl, rfl⟩
  go_wp2_with fail
  refine (ib _).mono ?_
  rintro e w' ⟨rfl, rfl⟩
  go_wp2_with fail
  refine (la _).mono ?_
  rintro e w' ⟨rfl, rfl⟩
  go_wp2_with fail
  refine (lb _).mono ?_
  rintro e w' ⟨rfl, rfl⟩
  go_wp2_with fail
  refine (d _).mono ?_
  rintro e w1 ⟨rfl, hb⟩
  go_wp2_with fail
  refine (j _).mono ?_
  rintro e w2 ⟨rfl, hb2⟩
  go_wp2
  go_ret
  have := hb.size
  exact ⟨rfl, (hb.alloc hb.size _).trans (hb2.mono (by simp; omega))⟩

theorem wdiv_any (m n : Nat) (hm : m < 18446744073709551616) (hn : 0 < n) (hn2 : n < 18446744073709551616) (w : World) :
    Calls Try.prog 83 #[.agg #[.int .u64 (m : Int), .int .u64 0], .int .u64 (n : Int)] w fun e w' => e = .returned (.tuple #[.agg #[.int .u64 ((m / n : Nat) : Int), .int .u64 ((m % n * 18446744073709551616 / n : Nat) : Int)], .int .u64 ((m % n * 18446744073709551616 % n : Nat) : Int), .int .i64 0]) ∧ Below w.heap.size w w' := by
  have d := div64_any (m % n) 0 n (by decide) hn2 (Nat.mod_lt _ hn)
  rw [Nat.add_zero] at d
  have er : Int.tmod (m : Int) (n : Int) = ((m % n : Nat) : Int) := by rw [Int.tmod_eq_emod_of_nonneg (by omega), ← Int.natCast_emod]
  exact wdiv_core m n _ _ _ _ (by simp; omega) (by omega) (wrap_quo m n hm) er d w

theorem wdiv_num (m n : Nat) (hn : 0 < n) : m / n * 18446744073709551616 + m % n * 18446744073709551616 / n = m * 2 ^ 64 / n ∧ m % n * 18446744073709551616 % n = m * 2 ^ 64 % n := by
  have := Fl.two_digits_ m 0 n 18446744073709551616 hn
  rw [Nat.add_zero, Nat.add_zero] at this
  exact this

/-- root.Div -/
theorem div_any (a b : Nat) (ha : a < 18446744073709551616) (hb : b < 18446744073709551616) (w : World) :
    Calls Try.prog 45 #[.int .u64 (a : Int), .int .u64 (b : Int)] w fun e w' => e = .returned (.int .u64 ((Fl.divN a b : Nat) : Int)) ∧ Below w.heap.size w w' := by
  have na := rnone_any a ha
  have nb := rnone_any b hb
  have ia := rinf_any a ha
  have ib := rinf_any b hb
  have za := rzero_any a ha
  have zb := rzero_any b hb
  have hn := neg_ne a b ha hb
  have wI := rwith_any (Fl.ng a != Fl.ng b) 9218868437227405312 (by decide)
  have w0 := rwith_any (Fl.ng a != Fl.ng b) 0 (by decide)
  unfold Fl.divN
  by_cases c1 : Fl.kd a = 4
  · rw [if_pos (.inl c1)]; rw [decide_eq_true c1] at na
    exact div_nan1 a b _ hn na w
  rw [decide_eq_false c1] at na
  by_cases c2 : Fl.kd b = 4
  · rw [if_pos (.inr (.inl c2))]; rw [decide_eq_true c2] at nb
    exact div_nan2 a b _ hn na nb w
  rw [decide_eq_false c2] at nb
  by_cases c3 : Fl.kd a = 3
  · have z3 : ¬ Fl.kd a = 0 := by omega
    rw [decide_eq_true c3] at ia
    rw [decide_eq_false z3] at za
    by_cases c4 : Fl.kd b = 3
    · rw [if_pos (by omega)]; rw [decide_eq_true c4] at ib
      exact div_nan3 a b _ hn na nb ia ib w
    · rw [if_neg (by omega), if_pos (.inl c3)]; rw [decide_eq_false c4] at ib
      exact div_inf1 a b _ _ hn na nb ia ib za wI w
  rw [decide_eq_false c3] at ia
  by_cases c5 : Fl.kd a = 0
  · rw [decide_eq_true c5] at za
    by_cases c6 : Fl.kd b = 0
    · rw [if_pos (by omega)]; rw [decide_eq_true c6] at zb
      exact div_nan4 a b _ hn na nb ia za zb w
    · rw [if_neg (by omega), if_neg (by omega), if_pos (.inl c5)]; rw [decide_eq_false c6] at zb
      exact div_zer1 a b _ _ hn na nb ia za zb w0 w
  rw [decide_eq_false c5] at za
  by_cases c6 : Fl.kd b = 0
  · rw [if_neg (by omega), if_pos (.inr c6)]; rw [decide_eq_true c6] at zb
    exact div_inf2 a b _ _ hn na nb ia za zb wI w
  rw [decide_eq_false c6] at zb
  by_cases c4 : Fl.kd b = 3
  · rw [if_neg (by omega), if_neg (by omega), if_pos (.inr c4)]; rw [decide_eq_true c4] at ib
    exact div_zer2 a b _ _ hn na nb ia za zb ib w0 w
  rw [decide_eq_false c4] at ib
  rw [if_neg (by omega), if_neg (by omega), if_neg (by omega)]
  have la4 := Fl.kd_le a
  have lb4 := Fl.kd_le b
  have ka : Fl.kd a < 3 := by omega
  have kb : Fl.kd b < 3 := by omega
  have sa := sh_le ka
  have sb := sh_le kb
  have pa : 0 < Fl.ab a := by rcases Nat.eq_zero_or_pos (Fl.ab a) with h | h; (· exact absurd (Fl.kd_zero.2 h) c5); exact h
  have pb : 0 < Fl.ab b := by rcases Nat.eq_zero_or_pos (Fl.ab b) with h | h; (· exact absurd (Fl.kd_zero.2 h) c6); exact h
  obtain ⟨a1, a2, a3⟩ := large_fact pa
  obtain ⟨b1, b2, b3⟩ := large_fact pb
  have e := Fl.dq_two (Fl.mant (Fl.ab a)) (Fl.mant (Fl.ab b)) (Fl.lp (Fl.ab a)) (Fl.lp (Fl.ab b)) 128 64 ((Fl.sh (Fl.ab a) : Int) - Fl.sh (Fl.ab b)) a1 (Fl.mant_pos pb) b2 (by omega) (by omega)
  rw [Fl.p2_eq]
  rw [show ((Fl.sh (Fl.ab a) : Int) - Fl.sh (Fl.ab b) - 128) = (Fl.sh (Fl.ab a) : Int) - Fl.sh (Fl.ab b) - ((128 : Nat) : Int) by rfl, e]
  have la := large_any a ha ka
  have lb := large_any b hb kb
  clear e
  generalize Fl.mant (Fl.ab a) * 2 ^ Fl.lp (Fl.ab a) = ma at *
  generalize Fl.mant (Fl.ab b) * 2 ^ Fl.lp (Fl.ab b) = mb at *
  generalize Fl.lp (Fl.ab a) = p at *
  generalize Fl.lp (Fl.ab b) = q at *
  generalize Fl.sh (Fl.ab a) = s at *
  generalize Fl.sh (Fl.ab b) = t at *
  have d := wdiv_any ma mb (by omega) (by omega) (by omega)
  obtain ⟨n1, n2⟩ := wdiv_num ma mb (by omega)
  have q1 : ma / mb < 18446744073709551616 := Nat.lt_of_le_of_lt (Nat.div_le_self _ _) (by omega)
  have q2 : ma % mb * 18446744073709551616 / mb < 18446744073709551616 := by
    rw [Nat.div_lt_iff_lt_mul (by omega)]
    rw [Nat.mul_comm 18446744073709551616]
    exact Nat.mul_lt_mul_of_pos_right (Nat.mod_lt _ (show 0 < mb by omega)) (by decide)
  have j := join_any (Fl.ng a != Fl.ng b) (decide (ma % mb * 18446744073709551616 % mb ≠ 0)) (ma / mb) (ma % mb * 18446744073709551616 / mb) ((s : Int) - 1074 - (p : Int) - ((t : Int) - 1074 - (q : Int)) - 64) q1 q2 (by omega) (by omega)
  rw [n1] at j
  have e2 : Fl.dq (ma * 2 ^ 64) mb ((s : Int) - t - p + q - ((64 : Nat) : Int)) = Fl.rnd (ma * 2 ^ 64 / mb) ((s : Int) - 1074 - (p : Int) - ((t : Int) - 1074 - (q : Int)) - 64) (decide (ma % mb * 18446744073709551616 % mb ≠ 0)) := by
    unfold Fl.dq
    rw [n2]
    congr 1; omega
  rw [e2]
  clear e2 n1 n2
  generalize ma % mb * 18446744073709551616 % mb = r at *
  exact div_work a b ma mb _ _ r _ _ _ (decide (r ≠ 0)) (by omega) (by omega) (by omega) (by omega) (by by_cases h : r = 0 <;> simp [h] <;> omega) (by by_cases h : r = 0 <;> simp [h] <;> omega) _ hn na nb ia za zb ib la lb d j w

end Go.Proofs.Ytaplggheadahhaa

namespace Go.Proofs.Ytaplggheadahhaa
open Go.RowKit
set_option linter.unusedVariables false
set_option linter.unusedSimpArgs false

set_option maxHeartbeats 1000000 in
set_option maxRecDepth 100000 in
theorem wcmp_eq (h l : Nat) (w : World) :
    Calls Try.prog 129 #[.agg #[.int .u64 (h : Int), .int .u64 (l : Int)], .agg #[.int .u64 (h : Int), .int .u64 (l : Int)]] w fun e w' => e = .returned (.int .i64 0) ∧ Below w.heap.size w w' := by
  go_enter Try.func129, Try.ntmps129
  go_wp2
  go_ret
  exact ⟨rfl, ((Below.refl _ _).alloc (Nat.le_refl _) _).alloc (by simp) _⟩
set_option maxHeartbeats 1000000 in
set_option maxRecDepth 100000 in
theorem wcmp_lt1 (h l h2 l2 : Nat) (c : ((h : Int) == (h2 : Int)) = false) (d : decide ((h : Int) < (h2 : Int)) = true) (d2 : h < h2) (w : World) :
    Calls Try.prog 129 #[.agg #[.int .u64 (h : Int), .int .u64 (l : Int)], .agg #[.int .u64 (h2 : Int), .int .u64 (l2 : Int)]] w fun e w' => e = .returned (.int .i64 (-1)) ∧ Below w.heap.size w w' := by
  go_enter Try.func129, Try.ntmps129
  go_wp2
  go_ret
  exact ⟨rfl, ((Below.refl _ _).alloc (Nat.le_refl _) _).alloc (by simp) _⟩
set_option maxHeartbeats 1000000 in
set_option maxRecDepth 100000 in
theorem wcmp_gt1 (h l h2 l2 : Nat) (c : ((h : Int) == (h2 : Int)) = false) (d : decide ((h : Int) < (h2 : Int)) = false) (d2 : ¬ h < h2) (w : World) :
    Calls Try.prog 129 #[.agg #[.int .u64 (h : Int), .int .u64 (l : Int)], .agg #[.int .u64 (h2 : Int), .int .u64 (l2 : Int)]] w fun e w' => e = .returned (.int .i64 1) ∧ Below w.heap.size w w' := by
  go_enter Try.func129, Try.ntmps129
  go_wp2
  go_ret
  exact ⟨rfl, ((Below.refl _ _).alloc (Nat.le_refl _) _).alloc (by simp) _⟩
set_option maxHeartbeats 1000000 in
set_option maxRecDepth 100000 in
theorem wcmp_lt2 (h l l2 : Nat) (c : ((l : Int) == (l2 : Int)) = false) (d : decide ((l : Int) < (l2 : Int)) = true) (d2 : l < l2) (f : decide ((h : Int) < (h : Int)) = false) (w : World) :
    Calls Try.prog 129 #[.agg #[.int .u64 (h : Int), .int .u64 (l : Int)], .agg #[.int .u64 (h : Int), .int .u64 (l2 : Int)]] w fun e w' => e = .returned (.int .i64 (-1)) ∧ Below w.heap.size w w' := by
  go_enter Try.func129, Try.ntmps129
  go_wp2
  go_ret
  exact ⟨rfl, ((Below.refl _ _).alloc (Nat.le_refl _) _).alloc (by simp) _⟩
set_option maxHeartbeats 1000000 in
set_option maxRecDepth 100000 in
theorem wcmp_gt2 (h l l2 : Nat) (c : ((l : Int) == (l2 : Int)) = false) (d : decide ((l : Int) < (l2 : Int)) = false) (d2 : ¬ l < l2) (f : decide ((h : Int) < (h : Int)) = false) (w : World) :
    Calls Try.prog 129 #[.agg #[.int .u64 (h : Int), .int .u64 (l : Int)], .agg #[.int .u64 (h : Int), .int .u64 (l2 : Int)]] w fun e w' => e = .returned (.int .i64 1) ∧ Below w.heap.size w w' := by
  go_enter Try.func129, Try.ntmps129
  go_wp2
  go_ret
  exact ⟨rfl, ((Below.refl _ _).alloc (Nat.le_refl _) _).alloc (by simp) _⟩

/-- wide.Cmp: which is greater, told by a sign -/
theorem wcmp_any (h l h2 l2 : Nat) (hl : l < 18446744073709551616) (hl2 : l2 < 18446744073709551616) : ∃ g : Int, (h * 18446744073709551616 + l ≤ h2 * 18446744073709551616 + l2 ↔ g ≤ 0) ∧ -1 ≤ g ∧ g ≤ 1 ∧ ∀ w : World,
    Calls Try.prog 129 #[.agg #[.int .u64 (h : Int), .int .u64 (l : Int)], .agg #[.int .u64 (h2 : Int), .int .u64 (l2 : Int)]] w fun e w' => e = .returned (.int .i64 g) ∧ Below w.heap.size w w' := by
  by_cases e : h = h2
  · subst e
    by_cases e2 : l = l2
    · subst e2; exact ⟨0, by omega, by omega, by omega, fun w => wcmp_eq h l w⟩
    · by_cases d : l < l2
      · exact ⟨-1, by omega, by omega, by omega, fun w => wcmp_lt2 h l l2 (by simp; omega) (by simp; omega) d (by simp) w⟩
      · exact ⟨1, by omega, by omega, by omega, fun w => wcmp_gt2 h l l2 (by simp; omega) (by simp; omega) d (by simp) w⟩
  · by_cases d : h < h2
    · exact ⟨-1, by omega, by omega, by omega, fun w => wcmp_lt1 h l h2 l2 (by simp; omega) (by simp; omega) d w⟩
    · exact ⟨1, by omega, by omega, by omega, fun w => wcmp_gt1 h l h2 l2 (by simp; omega) (by simp; omega) d w⟩

/-! ### Root -/
/-- the bit that is tried, k bits from the end -/
def Fl.rb (k : Nat) : Nat := 2 ^ k / 2
theorem Fl.rb_succ (k : Nat) : Fl.rb (k + 1) = 2 ^ k := by unfold Fl.rb; rw [Nat.pow_succ]; omega
theorem Fl.rb_zero : Fl.rb 0 = 0 := rfl
theorem Fl.rb_half (k : Nat) : Fl.rb (k + 1) / 2 = Fl.rb k := by rw [Fl.rb_succ]; rfl
/-- r is the root's part above its last k bits -/
def Fl.Rp (a k r : Nat) : Prop := k ≤ 64 ∧ r + 2 ^ k ≤ 18446744073709551616 ∧ r % 2 ^ k = 0 ∧ r * r ≤ a ∧ a < (r + 2 ^ k) * (r + 2 ^ k)
theorem Fl.rp_first {a : Nat} (h : a < 340282366920938463463374607431768211456) : Fl.Rp a 64 0 := ⟨by decide, by decide, by decide, by omega, by rw [Nat.zero_add]; exact h⟩
theorem Fl.rp_last {a r : Nat} (h : Fl.Rp a 0 r) : Fl.IsRt a r := ⟨h.2.2.2.1, h.2.2.2.2⟩
theorem Fl.rp_mod {r k : Nat} (h : r % 2 ^ (k + 1) = 0) : r % 2 ^ k = 0 ∧ (r + 2 ^ k) % 2 ^ k = 0 := by
  have : r % 2 ^ k = 0 := by
    rw [← Nat.mod_mul_right_mod r (2 ^ k) 2, ← Nat.pow_succ, h, Nat.zero_mod]
  exact ⟨this, by rw [Nat.add_mod_right, this]⟩
theorem Fl.rp_yes {a k r : Nat} (h : Fl.Rp a (k + 1) r) (c : (r + 2 ^ k) * (r + 2 ^ k) ≤ a) : Fl.Rp a k (r + 2 ^ k) := by
  obtain ⟨h1, h2, h3, h4, h5⟩ := h
  rw [Nat.pow_succ, Nat.mul_two] at h2 h5
  exact ⟨by omega, by omega, (Fl.rp_mod h3).2, c, by rw [Nat.add_assoc]; exact h5⟩
theorem Fl.rp_no {a k r : Nat} (h : Fl.Rp a (k + 1) r) (c : ¬ (r + 2 ^ k) * (r + 2 ^ k) ≤ a) : Fl.Rp a k r := by
  obtain ⟨h1, h2, h3, h4, h5⟩ := h
  rw [Nat.pow_succ, Nat.mul_two] at h2
  exact ⟨by omega, by omega, (Fl.rp_mod h3).1, h4, by omega⟩
theorem Fl.rp_or {a k r : Nat} (h : Fl.Rp a (k + 1) r) : Go.bits .or .u64 (r : Int) ((2 ^ k : Nat) : Int) = ((r + 2 ^ k : Nat) : Int) := by
  obtain ⟨h1, h2, h3, h4, h5⟩ := h
  have hp : 0 < 2 ^ k := Nat.pow_pos (by decide)
  rw [Nat.pow_succ] at h2
  exact or_words (k := k + 1) (by omega) (by omega) h3 (by rw [Nat.pow_succ]; omega)

set_option maxHeartbeats 4000000 in
set_option maxRecDepth 100000 in
theorem wroot_core (ah al : Nat) (hah : ah < 18446744073709551616) (hal : al < 18446744073709551616) (r0 : Nat) (x y : Bool) (hr0 : Hid (Fl.IsRt (ah * 18446744073709551616 + al) r0))
    (hx : ((Fl.hi (r0 * r0) : Nat) : Int) = (ah : Int) ↔ x = true) (hy : ((Fl.lo (r0 * r0) : Nat) : Int) = (al : Int) ↔ y = true) (w : World) :
    Calls Try.prog 90 #[.agg #[.int .u64 (ah : Int), .int .u64 (al : Int)]] w fun e w' => e = .returned (.tuple #[.int .u64 (r0 : Int), .bool (x && y)]) ∧ Below w.heap.size w w' := by
  have hA : ah * 18446744073709551616 + al < 340282366920938463463374607431768211456 := by omega
  have HF := Lib.hid (Fl.rp_first hA)
  clear hA
  have HX := Lib.hid hx; clear hx
  have HY := Lib.hid hy; clear hy
  go_enter Try.func90, Try.ntmps90
  have L := (Below.refl w.heap.size w).alloc (Nat.le_refl _) (.cells #[.int .u64 (ah : Int), .int .u64 (al : Int)] 51)
  have B := Blk.new w 51 #[.int .u64 (ah : Int), .int .u64 (al : Int)]
  go_wp2_with fail
  go_loopw [4, 5] (fun v v2 wr => ∃ k r : Nat, v = .int .u64 (r : Int) ∧ v2 = .int .u64 ((Fl.rb k : Nat) : Int) ∧ Fl.Rp (ah * 18446744073709551616 + al) k r ∧ Blk wr w.heap.size 51 #[.int .u64 (ah : Int), .int .u64 (al : Int)] ∧ Below w.heap.size w wr) (fun _ v _ => (intOf v).toNat)
  case atStart => exact ⟨64, 0, rfl, rfl, HF.out, B, L⟩
  case round =>
    clear B L
    obtain ⟨k, r, rfl, rfl, hR, B, L⟩ := hrel
    have z := B.lt
    have hr64 : r < 18446744073709551616 := by have := hR.2.1; have : 0 < 2 ^ k := Nat.pow_pos (by decide); omega
    rcases Nat.eq_zero_or_pos k with rfl | hk
    · have : r = r0 := (Fl.rp_last hR).eq hr0.out
      subst this
      clear hR
      rw [Fl.rb_zero]
      have m := wmul_any r r hr64 hr64
      clear hr0 HF
      obtain ⟨PH, hPH⟩ : ∃ n, n = Fl.hi (r * r) := ⟨_, rfl⟩
      obtain ⟨PL, hPL⟩ : ∃ n, n = Fl.lo (r * r) := ⟨_, rfl⟩
      have X := HX.out; have Y := HY.out; clear HX HY
      rw [← hPH] at X m
      rw [← hPL] at Y m
      clear hPH hPL
      have q1 : ((PH : Int) == (ah : Int)) = x := by cases x <;> simp at X ⊢ <;> omega
      have q2 : ((PL : Int) == (al : Int)) = y := by cases y <;> simp at Y ⊢ <;> omega
      clear X Y
      cases x <;> cases y
      all_goals
        go_wp2_with fail
        go_region_held3 (fun w' => w'.cell? ⟨w.heap.size, 0, none⟩ = some (.int .u64 (ah : Int)) ∧ w'.cell? ⟨w.heap.size, 1, none⟩ = some (.int .u64 (al : Int)))
          (first | exact ⟨(B.drew.belowS hb2).cell 0 rfl, (B.drew.belowS hb2).cell 1 rfl⟩ | exact ⟨B.drew.cell 0 rfl, B.drew.cell 1 rfl⟩ | exact ⟨B.cell 0 rfl, B.cell 1 rfl⟩)
          (first | (go_at_call 63; refine (m _).mono ?_; rintro e w2 ⟨rfl, hb2⟩))
        go_wp2
        go_ret2
        exact ⟨rfl, L.drew.trans (hb2.mono (by simp; omega))⟩
    · obtain ⟨j, rfl⟩ : ∃ j, k = j + 1 := ⟨k - 1, by omega⟩
      have ho := Fl.rp_or hR
      have hh := Fl.rb_half j
      rw [Fl.rb_succ] at *
      have hlt : r + 2 ^ j < 18446744073709551616 := by
        have := hR.2.1
        rw [Nat.pow_succ] at this
        have : 0 < 2 ^ j := Nat.pow_pos (by decide)
        omega
      have hp : 0 < 2 ^ j := Nat.pow_pos (by decide)
      have hyes := fun c => Fl.rp_yes hR c
      have hno := fun c => Fl.rp_no hR c
      have m := wmul_any (r + 2 ^ j) (r + 2 ^ j) hlt hlt
      have ht : (r + 2 ^ j) * (r + 2 ^ j) < 340282366920938463463374607431768211456 := Nat.mul_lt_mul'' hlt hlt
      obtain ⟨g, g1, g2, g3, cm⟩ := wcmp_any (Fl.hi ((r + 2 ^ j) * (r + 2 ^ j))) (Fl.lo ((r + 2 ^ j) * (r + 2 ^ j))) ah al (Fl.lo_lt _) hal
      rw [Fl.jn_hi ht] at g1
      clear hR ht hlt
      generalize Fl.hi ((r + 2 ^ j) * (r + 2 ^ j)) = PH at *
      generalize Fl.lo ((r + 2 ^ j) * (r + 2 ^ j)) = PL at *
      have hd : ((2 ^ j : Nat) : Int) / 2 = ((Fl.rb j : Nat) : Int) := by omega
      have hlt2 : Fl.rb j < 2 ^ j := by omega
      have HY1 := Lib.hid hyes; clear hyes
      have HN1 := Lib.hid hno; clear hno
      have G1 := Lib.hid g1; clear g1 hh
      generalize r + 2 ^ j = t at *
      generalize 2 ^ j = b at *
      generalize hbq : Fl.rb j = b' at *
      have HB := Lib.hid hbq; clear hbq
      have b0 : decide (0 < (b : Int)) = true := decide_eq_true (by omega)
      clear HX HY hr0 HF
      by_cases c : g ≤ 0
      · have K := Lib.hid (HY1.out (G1.out.2 c))
        clear HY1 HN1 G1
        have c1 : decide (g ≤ 0) = true := decide_eq_true c
        go_wp2_with fail
        go_region_held3 (fun w' => w'.cell? ⟨w.heap.size, 0, none⟩ = some (.int .u64 (ah : Int)) ∧ w'.cell? ⟨w.heap.size, 1, none⟩ = some (.int .u64 (al : Int)))
          (first | exact ⟨((B.drew.belowS hb2).belowS hb3).cell 0 rfl, ((B.drew.belowS hb2).belowS hb3).cell 1 rfl⟩ | exact ⟨(B.drew.belowS hb2).cell 0 rfl, (B.drew.belowS hb2).cell 1 rfl⟩ | exact ⟨B.drew.cell 0 rfl, B.drew.cell 1 rfl⟩ | exact ⟨B.cell 0 rfl, B.cell 1 rfl⟩)
          (first | (go_at_call 63; refine (m _).mono ?_; rintro e w2 ⟨rfl, hb2⟩) | (go_at_call 129; refine (cm _).mono ?_; rintro e w3 ⟨rfl, hb3⟩))
        go_wp2
        have y2 := hb2.size
        simp at y2
        exact ⟨⟨j, t, rfl, by rw [HB.out], K.out, (B.drew.belowS hb2).belowS hb3, (L.drew.trans (hb2.mono (by simp; omega))).trans (hb3.mono (by omega))⟩, by simp [intOf]; omega⟩
      · have K := Lib.hid (HN1.out (fun h => c (G1.out.1 h)))
        clear HY1 HN1 G1
        have c1 : decide (g ≤ 0) = false := decide_eq_false c
        go_wp2_with fail
        go_region_held3 (fun w' => w'.cell? ⟨w.heap.size, 0, none⟩ = some (.int .u64 (ah : Int)) ∧ w'.cell? ⟨w.heap.size, 1, none⟩ = some (.int .u64 (al : Int)))
          (first | exact ⟨((B.drew.belowS hb2).belowS hb3).cell 0 rfl, ((B.drew.belowS hb2).belowS hb3).cell 1 rfl⟩ | exact ⟨(B.drew.belowS hb2).cell 0 rfl, (B.drew.belowS hb2).cell 1 rfl⟩ | exact ⟨B.drew.cell 0 rfl, B.drew.cell 1 rfl⟩ | exact ⟨B.cell 0 rfl, B.cell 1 rfl⟩)
          (first | (go_at_call 63; refine (m _).mono ?_; rintro e w2 ⟨rfl, hb2⟩) | (go_at_call 129; refine (cm _).mono ?_; rintro e w3 ⟨rfl, hb3⟩))
        go_wp2
        have y2 := hb2.size
        simp at y2
        exact ⟨⟨j, r, rfl, by rw [HB.out], K.out, (B.drew.belowS hb2).belowS hb3, (L.drew.trans (hb2.mono (by simp; omega))).trans (hb3.mono (by omega))⟩, by simp [intOf]; omega⟩

theorem hi_lo_eq {a b : Nat} (ha : a < 340282366920938463463374607431768211456) (hb : b < 340282366920938463463374607431768211456) : (decide (Fl.hi a = Fl.hi b) && decide (Fl.lo a = Fl.lo b)) = decide (a = b) := by
  have h1 := Fl.jn_hi ha
  have h2 := Fl.jn_hi hb
  by_cases c : a = b
  · subst c; simp
  · rw [decide_eq_false c]
    by_cases d : Fl.hi a = Fl.hi b
    · rw [decide_eq_false (p := Fl.lo a = Fl.lo b) (by omega), Bool.and_false]
    · rw [decide_eq_false d, Bool.false_and]
/-- wide.Root -/
theorem wroot_any (a : Nat) (h : a < 340282366920938463463374607431768211456) (w : World) :
    Calls Try.prog 90 #[.agg #[.int .u64 ((Fl.hi a : Nat) : Int), .int .u64 ((Fl.lo a : Nat) : Int)]] w fun e w' => e = .returned (.tuple #[.int .u64 ((Fl.rt a : Nat) : Int), .bool (decide (Fl.rt a * Fl.rt a = a))]) ∧ Below w.heap.size w w' := by
  have hr := Fl.rt_is a
  have h2 : Fl.rt a * Fl.rt a < 340282366920938463463374607431768211456 := by have := hr.1; omega
  have := wroot_core (Fl.hi a) (Fl.lo a) (Fl.hi_lt a) (Fl.lo_lt a) (Fl.rt a) (decide (Fl.hi (Fl.rt a * Fl.rt a) = Fl.hi a)) (decide (Fl.lo (Fl.rt a * Fl.rt a) = Fl.lo a)) (Lib.hid (by rw [Fl.jn_hi h]; exact hr)) (by rw [decide_eq_true_iff]; omega) (by rw [decide_eq_true_iff]; omega) w
  rwa [hi_lo_eq h2 h] at this
end Go.Proofs.Ytaplggheadahhaa

namespace Go.Proofs.Ytaplggheadahhaa
open Go.RowKit
set_option linter.unusedVariables false
set_option linter.unusedSimpArgs false

theorem i64_and_1 (z : Int) : Go.bits .and .i64 z 1 = z % 2 := by
  show IntKind.i64.wrap ((BitVec.ofInt 64 z &&& BitVec.ofInt 64 1).toNat : Int) = _
  rw [BitVec.toNat_and, BitVec.toNat_ofInt, show (BitVec.ofInt 64 1).toNat = 1 from rfl, nat_mask1]
  have : (((z % ((2 ^ 64 : Nat) : Int)).toNat % 2 : Nat) : Int) = z % 2 := by
    rw [show ((2 ^ 64 : Nat) : Int) = 18446744073709551616 from rfl]; omega
  rw [this]
  exact IntWalk.i64_in _ (by omega)

set_option maxHeartbeats 1000000 in
set_option maxRecDepth 100000 in
theorem sqrt_nan1 (a : Nat) 
    (na : ∀ w, Calls Try.prog 78 #[.int .u64 (a : Int)] w fun e w' => e = .returned (.bool true) ∧ w = w')
    (w : World) : Calls Try.prog 47 #[.int .u64 (a : Int)] w fun e w' => e = .returned (.int .u64 9221120237041090560) ∧ Below w.heap.size w w' := by
  go_enter Try.func47, Try.ntmps47
  go_wp2_with fail
  refine (na _).mono ?_
  rintro e w' ⟨rfl, rfl⟩
  go_wp2
  go_ret
  exact ⟨rfl, Below.refl _ _⟩

set_option maxHeartbeats 1000000 in
set_option maxRecDepth 100000 in
theorem sqrt_nan2 (a : Nat) (g : decide ((9223372036854775808 : Int) < (a : Int)) = true) (g2 : (9223372036854775808 : Int) < (a : Int))
    (na : ∀ w, Calls Try.prog 78 #[.int .u64 (a : Int)] w fun e w' => e = .returned (.bool false) ∧ w = w')
    (w : World) : Calls Try.prog 47 #[.int .u64 (a : Int)] w fun e w' => e = .returned (.int .u64 9221120237041090560) ∧ Below w.heap.size w w' := by
  go_enter Try.func47, Try.ntmps47
  go_wp2_with fail
  refine (na _).mono ?_
  rintro e w' ⟨rfl, rfl⟩
  go_wp2
  go_ret
  exact ⟨rfl, Below.refl _ _⟩

set_option maxHeartbeats 1000000 in
set_option maxRecDepth 100000 in
theorem sqrt_self1 (a : Nat) (g : decide ((9223372036854775808 : Int) < (a : Int)) = false) (g2 : ¬ (9223372036854775808 : Int) < (a : Int))
    (na : ∀ w, Calls Try.prog 78 #[.int .u64 (a : Int)] w fun e w' => e = .returned (.bool false) ∧ w = w')
    (za : ∀ w, Calls Try.prog 80 #[.int .u64 (a : Int)] w fun e w' => e = .returned (.bool true) ∧ w = w')
    (w : World) : Calls Try.prog 47 #[.int .u64 (a : Int)] w fun e w' => e = .returned (.int .u64 (a : Int)) ∧ Below w.heap.size w w' := by
  go_enter Try.func47, Try.ntmps47
  go_wp2_with fail
  refine (na _).mono ?_
  rintro e w' ⟨rfl, rfl⟩
  go_wp2_with fail
  refine (za _).mono ?_
  rintro e w' ⟨rfl, rfl⟩
  go_wp2
  go_ret
  exact ⟨rfl, Below.refl _ _⟩

set_option maxHeartbeats 1000000 in
set_option maxRecDepth 100000 in
theorem sqrt_self2 (a : Nat) (g : decide ((9223372036854775808 : Int) < (a : Int)) = false) (g2 : ¬ (9223372036854775808 : Int) < (a : Int))
    (na : ∀ w, Calls Try.prog 78 #[.int .u64 (a : Int)] w fun e w' => e = .returned (.bool false) ∧ w = w')
    (za : ∀ w, Calls Try.prog 80 #[.int .u64 (a : Int)] w fun e w' => e = .returned (.bool false) ∧ w = w')
    (ia : ∀ w, Calls Try.prog 79 #[.int .u64 (a : Int)] w fun e w' => e = .returned (.bool true) ∧ w = w')
    (w : World) : Calls Try.prog 47 #[.int .u64 (a : Int)] w fun e w' => e = .returned (.int .u64 (a : Int)) ∧ Below w.heap.size w w' := by
  go_enter Try.func47, Try.ntmps47
  go_wp2_with fail
  refine (na _).mono ?_
  rintro e w' ⟨rfl, rfl⟩
  go_wp2_with fail
  refine (za _).mono ?_
  rintro e w' ⟨rfl, rfl⟩
  go_wp2_with fail
  refine (ia _).mono ?_
  rintro e w' ⟨rfl, rfl⟩
  go_wp2
  go_ret
  exact ⟨rfl, Below.refl _ _⟩

set_option maxHeartbeats 1000000 in
set_option maxRecDepth 100000 in
theorem sqrt_even (a : Nat) (g : decide ((9223372036854775808 : Int) < (a : Int)) = false) (g2 : ¬ (9223372036854775808 : Int) < (a : Int)) (m XH XL r R : Nat) (e : Int) (ex : Bool) (he1 : -2000 ≤ e) (he2 : e ≤ 2000) (hp : Go.bits .and .i64 (e - 74) 1 = 0)
    (na : ∀ w, Calls Try.prog 78 #[.int .u64 (a : Int)] w fun e w' => e = .returned (.bool false) ∧ w = w')
    (za : ∀ w, Calls Try.prog 80 #[.int .u64 (a : Int)] w fun e w' => e = .returned (.bool false) ∧ w = w')
    (ia : ∀ w, Calls Try.prog 79 #[.int .u64 (a : Int)] w fun e w' => e = .returned (.bool false) ∧ w = w')
    (la : ∀ w, Calls Try.prog 82 #[.int .u64 (a : Int)] w fun e' w' => e' = .returned (.tuple #[.int .u64 (m : Int), .int .i64 e]) ∧ w = w')
    (sl : ∀ w, Calls Try.prog 91 #[.agg #[.int .u64 0, .int .u64 (m : Int)], .int .i64 74] w fun e w' => e = .returned (.agg #[.int .u64 (XH : Int), .int .u64 (XL : Int)]) ∧ Below w.heap.size w w')
    (rr : ∀ w, Calls Try.prog 90 #[.agg #[.int .u64 (XH : Int), .int .u64 (XL : Int)]] w fun e w' => e = .returned (.tuple #[.int .u64 (r : Int), .bool ex]) ∧ Below w.heap.size w w')
    (j : ∀ w, Calls Try.prog 62 #[.bool false, .agg #[.int .u64 0, .int .u64 (r : Int)], .int .i64 ((e - 74) / 2), .bool (!ex)] w fun e' w' => e' = .returned (.int .u64 (R : Int)) ∧ Below w.heap.size w w')
    (w : World) : Calls Try.prog 47 #[.int .u64 (a : Int)] w fun e w' => e = .returned (.int .u64 (R : Int)) ∧ Below w.heap.size w w' := by
  go_enter Try.func47, Try.ntmps47
  go_wp2_with fail
  refine (na _).mono ?_
  rintro e w' ⟨rfl, rfl⟩
  go_wp2_with fail
  refine (za _).mono ?_
  rintro e w' ⟨rfl, rfl⟩
  go_wp2_with fail
  refine (ia _).mono ?_
  rintro e w' ⟨rfl, rfl⟩
  go_wp2_with fail
  refine (la _).mono ?_
  rintro e w' ⟨rfl, rfl⟩
  go_wp2_with fail
  refine (sl _).mono ?_
  rintro e1 w1 ⟨rfl, hb⟩
  have L := hb
  clear hb
  go_wp2_with fail
  refine (rr _).mono ?_
  rintro e1 w2 ⟨rfl, hb⟩
  replace L := L.trans (hb.mono L.size)
  clear hb
  go_wp2_with fail
  refine (j _).mono ?_
  rintro e1 w3 ⟨rfl, hb⟩
  replace L := L.trans (hb.mono L.size)
  clear hb
  go_wp2
  go_ret
  exact ⟨rfl, L⟩

set_option maxHeartbeats 1000000 in
set_option maxRecDepth 100000 in
theorem sqrt_odd (a : Nat) (g : decide ((9223372036854775808 : Int) < (a : Int)) = false) (g2 : ¬ (9223372036854775808 : Int) < (a : Int)) (m XH XL r R : Nat) (e : Int) (ex : Bool) (he1 : -2000 ≤ e) (he2 : e ≤ 2000) (hp : Go.bits .and .i64 (e - 74) 1 = 1)
    (na : ∀ w, Calls Try.prog 78 #[.int .u64 (a : Int)] w fun e w' => e = .returned (.bool false) ∧ w = w')
    (za : ∀ w, Calls Try.prog 80 #[.int .u64 (a : Int)] w fun e w' => e = .returned (.bool false) ∧ w = w')
    (ia : ∀ w, Calls Try.prog 79 #[.int .u64 (a : Int)] w fun e w' => e = .returned (.bool false) ∧ w = w')
    (la : ∀ w, Calls Try.prog 82 #[.int .u64 (a : Int)] w fun e' w' => e' = .returned (.tuple #[.int .u64 (m : Int), .int .i64 e]) ∧ w = w')
    (sl : ∀ w, Calls Try.prog 91 #[.agg #[.int .u64 0, .int .u64 (m : Int)], .int .i64 73] w fun e w' => e = .returned (.agg #[.int .u64 (XH : Int), .int .u64 (XL : Int)]) ∧ Below w.heap.size w w')
    (rr : ∀ w, Calls Try.prog 90 #[.agg #[.int .u64 (XH : Int), .int .u64 (XL : Int)]] w fun e w' => e = .returned (.tuple #[.int .u64 (r : Int), .bool ex]) ∧ Below w.heap.size w w')
    (j : ∀ w, Calls Try.prog 62 #[.bool false, .agg #[.int .u64 0, .int .u64 (r : Int)], .int .i64 ((e - 73) / 2), .bool (!ex)] w fun e' w' => e' = .returned (.int .u64 (R : Int)) ∧ Below w.heap.size w w')
    (w : World) : Calls Try.prog 47 #[.int .u64 (a : Int)] w fun e w' => e = .returned (.int .u64 (R : Int)) ∧ Below w.heap.size w w' := by
  go_enter Try.func47, Try.ntmps47
  go_wp2_with fail
  refine (na _).mono ?_
  rintro e w' ⟨rfl, rfl⟩
  go_wp2_with fail
  refine (za _).mono ?_
  rintro e w' ⟨rfl, rfl⟩
  go_wp2_with fail
  refine (ia _).mono ?_
  rintro e w' ⟨rfl, rfl⟩
  go_wp2_with fail
  refine (la _).mono ?_
  rintro e w' ⟨rfl, rfl⟩
  go_wp2_with fail
  refine (sl _).mono ?_
  rintro e1 w1 ⟨rfl, hb⟩
  have L := hb
  clear hb
  go_wp2_with fail
  refine (rr _).mono ?_
  rintro e1 w2 ⟨rfl, hb⟩
  replace L := L.trans (hb.mono L.size)
  clear hb
  go_wp2_with fail
  refine (j _).mono ?_
  rintro e1 w3 ⟨rfl, hb⟩
  replace L := L.trans (hb.mono L.size)
  clear hb
  go_wp2
  go_ret
  exact ⟨rfl, L⟩

theorem Fl.pk_false (m : Nat) : Fl.pk false m = m := rfl
/-- root.Sqrt -/
theorem sqrt_any (a : Nat) (ha : a < 18446744073709551616) (w : World) :
    Calls Try.prog 47 #[.int .u64 (a : Int)] w fun e w' => e = .returned (.int .u64 ((Fl.sqrtN a : Nat) : Int)) ∧ Below w.heap.size w w' := by
  have na := rnone_any a ha
  have ia := rinf_any a ha
  have za := rzero_any a ha
  have hSG : Fl.SG = 9223372036854775808 := rfl
  unfold Fl.sqrtN
  by_cases c1 : Fl.kd a = 4
  · rw [if_pos (.inl c1)]; rw [decide_eq_true c1] at na
    exact sqrt_nan1 a na w
  rw [decide_eq_false c1] at na
  by_cases c2 : Fl.SG < a
  · rw [if_pos (.inr c2)]
    rw [hSG] at c2
    exact sqrt_nan2 a (decide_eq_true (by omega)) (by omega) na w
  rw [if_neg (by omega)]
  rw [hSG] at c2
  have g : decide ((9223372036854775808 : Int) < (a : Int)) = false := decide_eq_false (by omega)
  have g2 : ¬ (9223372036854775808 : Int) < (a : Int) := by omega
  by_cases c3 : Fl.kd a = 0
  · rw [if_pos (.inl c3)]; rw [decide_eq_true c3] at za
    exact sqrt_self1 a g g2 na za w
  rw [decide_eq_false c3] at za
  by_cases c4 : Fl.kd a = 3
  · rw [if_pos (.inr c4)]; rw [decide_eq_true c4] at ia
    exact sqrt_self2 a g g2 na za ia w
  rw [decide_eq_false c4] at ia
  rw [if_neg (by omega)]
  have la4 := Fl.kd_le a
  have ka : Fl.kd a < 3 := by omega
  have sa := sh_le ka
  have pa : 0 < Fl.ab a := by rcases Nat.eq_zero_or_pos (Fl.ab a) with h | h; (· exact absurd (Fl.kd_zero.2 h) c3); exact h
  obtain ⟨a1, a2, a3⟩ := large_fact pa
  have la := large_any a ha ka
  have hm := Fl.mant_pos pa
  clear c1 c2 c3 c4 la4 hSG ka pa
  generalize Fl.sh (Fl.ab a) = s at *
  generalize Fl.mant (Fl.ab a) = M at *
  generalize Fl.lp (Fl.ab a) = p at *
  -- so many places more than the program takes
  obtain ⟨n, hn1, hn2, hn3⟩ : ∃ n : Nat, (n = 74 ∨ n = 73) ∧ ((s : Int) - 1074 - p - n) % 2 = 0 ∧ (((s : Int) - 1074 - (p : Int) - 74) % 2 = 0 ↔ n = 74) := by
    by_cases h : ((s : Int) - 1074 - (p : Int) - 74) % 2 = 0
    · exact ⟨74, by omega, by omega, by omega⟩
    · exact ⟨73, by omega, by omega, by omega⟩
  obtain ⟨d, hd⟩ : ∃ d, Fl.rk s = p + n + 2 * d := by
    unfold Fl.rk
    by_cases h : s % 2 = 0
    · rw [if_pos h]; exact ⟨(128 - p - n) / 2, by omega⟩
    · rw [if_neg h]; exact ⟨(129 - p - n) / 2, by omega⟩
  have hX : M * 2 ^ p * 2 ^ n < 340282366920938463463374607431768211456 := by
    have h1 : M * 2 ^ p * 2 ^ n < 2 ^ 53 * 2 ^ n := Nat.mul_lt_mul_of_pos_right a2 (Nat.pow_pos (by decide))
    have h2 : 2 ^ n ≤ 2 ^ 74 := Nat.pow_le_pow_right (by decide) (by omega)
    have h3 : 2 ^ 53 * 2 ^ n ≤ 2 ^ 53 * 2 ^ 74 := Nat.mul_le_mul_left _ h2
    have h4 : 2 ^ 53 * 2 ^ 74 < 340282366920938463463374607431768211456 := by decide
    omega
  have hX2 : 2 ^ 124 ≤ M * 2 ^ p * 2 ^ n := by
    have h1 : 4503599627370496 * 2 ^ n ≤ M * 2 ^ p * 2 ^ n := Nat.mul_le_mul_right _ a1
    have h2 : 2 ^ 73 ≤ 2 ^ n := Nat.pow_le_pow_right (by decide) (by omega)
    have h3 : 4503599627370496 * 2 ^ 73 ≤ 4503599627370496 * 2 ^ n := Nat.mul_le_mul_left _ h2
    have h4 : 2 ^ 124 ≤ 4503599627370496 * 2 ^ 73 := by decide
    omega
  have eX : M * Fl.p2 (Fl.rk s) = M * 2 ^ p * 2 ^ n * (2 ^ d * 2 ^ d) := by
    rw [Fl.p2_eq, hd, Nat.mul_assoc, Nat.mul_assoc, ← Nat.pow_add, ← Nat.pow_add, ← Nat.pow_add]; congr 2; omega
  have hr := Fl.rt_is (M * 2 ^ p * 2 ^ n)
  have hr2 := Fl.rt_is (M * 2 ^ p * 2 ^ n * (2 ^ d * 2 ^ d))
  have sl := wshl_any 0 (M * 2 ^ p) n (by omega) (by omega) (by omega)
  rw [show 0 * 18446744073709551616 + M * 2 ^ p = M * 2 ^ p by omega, Int.toNat_natCast] at sl
  have rr := wroot_any (M * 2 ^ p * 2 ^ n) hX
  rw [eX]
  generalize hXn : M * 2 ^ p * 2 ^ n = X at *
  have hrb : 54 ≤ Fl.bl (Fl.rt X) := by
    have : 2 ^ 53 ≤ Fl.rt X := hr.le (by
      have : 2 ^ 53 * 2 ^ 53 ≤ 2 ^ 124 := by decide
      omega)
    exact Fl.lt_bl_of_le this
  have hrl : Fl.rt X < 18446744073709551616 := by
    rcases Nat.lt_or_ge (Fl.rt X) 18446744073709551616 with c | c
    · exact c
    · have := Nat.mul_le_mul c c
      have := hr.1
      omega
  have e := Fl.sq_up (((s : Int) - 1074 - (p : Int) - n) / 2) hr hr2 hrb
  have e2 : ((s : Int) - 1074 - ((Fl.rk s : Nat) : Int)) / 2 = ((s : Int) - 1074 - (p : Int) - n) / 2 - (d : Int) := by rw [hd]; omega
  rw [e2, e]
  unfold Fl.sq
  have j := join_any false (!decide (Fl.rt X * Fl.rt X = X)) 0 (Fl.rt X) (((s : Int) - 1074 - (p : Int) - n) / 2) (by decide) hrl (by omega) (by omega)
  rw [show 0 * 18446744073709551616 + Fl.rt X = Fl.rt X by omega] at j
  have e3 : decide (Fl.rt X * Fl.rt X < X) = !decide (Fl.rt X * Fl.rt X = X) := by
    have := hr.1
    by_cases c : Fl.rt X * Fl.rt X = X
    · rw [decide_eq_true c, decide_eq_false (by omega)]; rfl
    · rw [decide_eq_false c, decide_eq_true (by omega)]; rfl
  rw [e3]
  have e4 := i64_and_1 ((s : Int) - 1074 - (p : Int) - 74)
  clear e3 e e2 hr hr2 hrb hXn hX hX2 eX hd
  rw [Fl.pk_false] at j
  rcases hn1 with rfl | rfl
  · exact sqrt_even a g g2 _ _ _ _ _ _ _ (by omega) (by omega) (by rw [e4]; omega) na za ia la sl rr j w
  · exact sqrt_odd a g g2 _ _ _ _ _ _ _ (by omega) (by omega) (by rw [e4]; omega) na za ia la sl rr j w
end Go.Proofs.Ytaplggheadahhaa

namespace Go.Proofs.Ytaplggheadahhaa
open Go.RowKit
set_option linter.unusedVariables false
set_option linter.unusedSimpArgs false

theorem mod_t0 {r d n R : Nat} (hd : d = 0) (hr : r < n) (h : Hid (r * 2 ^ d % n = R)) : Hid (r = R) := by
  have := h.out
  subst hd
  rw [Nat.pow_zero, Nat.mul_one, Nat.mod_eq_of_lt hr] at this
  exact Lib.hid this
theorem mod_tz {r d n R : Nat} (hr : r = 0) (h : Hid (r * 2 ^ d % n = R)) : Hid (r = R) := by
  have := h.out
  subst hr
  rw [Nat.zero_mul, Nat.zero_mod] at this
  exact Lib.hid this
theorem mod_td {r d k n R c : Nat} (hd : c * 2 ^ k = 2 ^ d) (h : Hid (r * 2 ^ d % n = R)) : Hid (r * c % n * 2 ^ k % n = R) := by
  have := h.out
  refine Lib.hid ?_
  rw [← hd, ← Nat.mul_assoc] at this
  rw [← this, Nat.mul_mod (r * c % n), Nat.mod_mod, ← Nat.mul_mod]
theorem mod_t11 {r d k n R : Nat} (hd : d = k + 11) (h : Hid (r * 2 ^ d % n = R)) : Hid (r * 2048 % n * 2 ^ k % n = R) :=
  mod_td (by rw [hd, Nat.pow_add, Nat.mul_comm]) h
theorem mod_t1 {r d k n R : Nat} (hd : d = k + 1) (h : Hid (r * 2 ^ d % n = R)) : Hid (r * 2 % n * 2 ^ k % n = R) :=
  mod_td (by rw [hd, Nat.pow_add, Nat.mul_comm]) h

set_option maxHeartbeats 2000000 in
set_option maxRecDepth 100000 in
theorem mod_nan1 (a b : Nat) 
    (na : ∀ w, Calls Try.prog 78 #[.int .u64 (a : Int)] w fun e w' => e = .returned (.bool true) ∧ w = w')
    (w : World) : Calls Try.prog 51 #[.int .u64 (a : Int), .int .u64 (b : Int)] w fun e w' => e = .returned (.int .u64 9221120237041090560) ∧ Below w.heap.size w w' := by
  go_enter Try.func51, Try.ntmps51
  go_wp2_with fail
  go_step3
  go_wp2_with fail
  refine (na _).mono ?_
  rintro e w' ⟨rfl, rfl⟩
  go_wp2
  rw [Exit.noGoto_ret]
  go_ret
  exact ⟨rfl, Below.refl _ _⟩

set_option maxHeartbeats 2000000 in
set_option maxRecDepth 100000 in
theorem mod_nan2 (a b : Nat) 
    (na : ∀ w, Calls Try.prog 78 #[.int .u64 (a : Int)] w fun e w' => e = .returned (.bool false) ∧ w = w')
    (nb : ∀ w, Calls Try.prog 78 #[.int .u64 (b : Int)] w fun e w' => e = .returned (.bool true) ∧ w = w')
    (w : World) : Calls Try.prog 51 #[.int .u64 (a : Int), .int .u64 (b : Int)] w fun e w' => e = .returned (.int .u64 9221120237041090560) ∧ Below w.heap.size w w' := by
  go_enter Try.func51, Try.ntmps51
  go_wp2_with fail
  go_step3
  go_wp2_with fail
  refine (na _).mono ?_
  rintro e w' ⟨rfl, rfl⟩
  go_wp2_with fail
  refine (nb _).mono ?_
  rintro e w' ⟨rfl, rfl⟩
  go_wp2
  rw [Exit.noGoto_ret]
  go_ret
  exact ⟨rfl, Below.refl _ _⟩

set_option maxHeartbeats 2000000 in
set_option maxRecDepth 100000 in
theorem mod_nan3 (a b : Nat) 
    (na : ∀ w, Calls Try.prog 78 #[.int .u64 (a : Int)] w fun e w' => e = .returned (.bool false) ∧ w = w')
    (nb : ∀ w, Calls Try.prog 78 #[.int .u64 (b : Int)] w fun e w' => e = .returned (.bool false) ∧ w = w')
    (ia : ∀ w, Calls Try.prog 79 #[.int .u64 (a : Int)] w fun e w' => e = .returned (.bool true) ∧ w = w')
    (w : World) : Calls Try.prog 51 #[.int .u64 (a : Int), .int .u64 (b : Int)] w fun e w' => e = .returned (.int .u64 9221120237041090560) ∧ Below w.heap.size w w' := by
  go_enter Try.func51, Try.ntmps51
  go_wp2_with fail
  go_step3
  go_wp2_with fail
  refine (na _).mono ?_
  rintro e w' ⟨rfl, rfl⟩
  go_wp2_with fail
  refine (nb _).mono ?_
  rintro e w' ⟨rfl, rfl⟩
  go_wp2_with fail
  refine (ia _).mono ?_
  rintro e w' ⟨rfl, rfl⟩
  go_wp2
  rw [Exit.noGoto_ret]
  go_ret
  exact ⟨rfl, Below.refl _ _⟩

set_option maxHeartbeats 2000000 in
set_option maxRecDepth 100000 in
theorem mod_nan4 (a b : Nat) 
    (na : ∀ w, Calls Try.prog 78 #[.int .u64 (a : Int)] w fun e w' => e = .returned (.bool false) ∧ w = w')
    (nb : ∀ w, Calls Try.prog 78 #[.int .u64 (b : Int)] w fun e w' => e = .returned (.bool false) ∧ w = w')
    (ia : ∀ w, Calls Try.prog 79 #[.int .u64 (a : Int)] w fun e w' => e = .returned (.bool false) ∧ w = w')
    (zb : ∀ w, Calls Try.prog 80 #[.int .u64 (b : Int)] w fun e w' => e = .returned (.bool true) ∧ w = w')
    (w : World) : Calls Try.prog 51 #[.int .u64 (a : Int), .int .u64 (b : Int)] w fun e w' => e = .returned (.int .u64 9221120237041090560) ∧ Below w.heap.size w w' := by
  go_enter Try.func51, Try.ntmps51
  go_wp2_with fail
  go_step3
  go_wp2_with fail
  refine (na _).mono ?_
  rintro e w' ⟨rfl, rfl⟩
  go_wp2_with fail
  refine (nb _).mono ?_
  rintro e w' ⟨rfl, rfl⟩
  go_wp2_with fail
  refine (ia _).mono ?_
  rintro e w' ⟨rfl, rfl⟩
  go_wp2_with fail
  refine (zb _).mono ?_
  rintro e w' ⟨rfl, rfl⟩
  go_wp2
  rw [Exit.noGoto_ret]
  go_ret
  exact ⟨rfl, Below.refl _ _⟩

set_option maxHeartbeats 2000000 in
set_option maxRecDepth 100000 in
theorem mod_self1 (a b : Nat) 
    (na : ∀ w, Calls Try.prog 78 #[.int .u64 (a : Int)] w fun e w' => e = .returned (.bool false) ∧ w = w')
    (nb : ∀ w, Calls Try.prog 78 #[.int .u64 (b : Int)] w fun e w' => e = .returned (.bool false) ∧ w = w')
    (ia : ∀ w, Calls Try.prog 79 #[.int .u64 (a : Int)] w fun e w' => e = .returned (.bool false) ∧ w = w')
    (zb : ∀ w, Calls Try.prog 80 #[.int .u64 (b : Int)] w fun e w' => e = .returned (.bool false) ∧ w = w')
    (za : ∀ w, Calls Try.prog 80 #[.int .u64 (a : Int)] w fun e w' => e = .returned (.bool true) ∧ w = w')
    (w : World) : Calls Try.prog 51 #[.int .u64 (a : Int), .int .u64 (b : Int)] w fun e w' => e = .returned (.int .u64 (a : Int)) ∧ Below w.heap.size w w' := by
  go_enter Try.func51, Try.ntmps51
  go_wp2_with fail
  go_step3
  go_wp2_with fail
  refine (na _).mono ?_
  rintro e w' ⟨rfl, rfl⟩
  go_wp2_with fail
  refine (nb _).mono ?_
  rintro e w' ⟨rfl, rfl⟩
  go_wp2_with fail
  refine (ia _).mono ?_
  rintro e w' ⟨rfl, rfl⟩
  go_wp2_with fail
  refine (zb _).mono ?_
  rintro e w' ⟨rfl, rfl⟩
  go_wp2_with fail
  refine (za _).mono ?_
  rintro e w' ⟨rfl, rfl⟩
  go_wp2
  rw [Exit.noGoto_ret]
  go_ret
  exact ⟨rfl, Below.refl _ _⟩

set_option maxHeartbeats 2000000 in
set_option maxRecDepth 100000 in
theorem mod_self2 (a b : Nat) 
    (na : ∀ w, Calls Try.prog 78 #[.int .u64 (a : Int)] w fun e w' => e = .returned (.bool false) ∧ w = w')
    (nb : ∀ w, Calls Try.prog 78 #[.int .u64 (b : Int)] w fun e w' => e = .returned (.bool false) ∧ w = w')
    (ia : ∀ w, Calls Try.prog 79 #[.int .u64 (a : Int)] w fun e w' => e = .returned (.bool false) ∧ w = w')
    (zb : ∀ w, Calls Try.prog 80 #[.int .u64 (b : Int)] w fun e w' => e = .returned (.bool false) ∧ w = w')
    (za : ∀ w, Calls Try.prog 80 #[.int .u64 (a : Int)] w fun e w' => e = .returned (.bool false) ∧ w = w')
    (ib : ∀ w, Calls Try.prog 79 #[.int .u64 (b : Int)] w fun e w' => e = .returned (.bool true) ∧ w = w')
    (w : World) : Calls Try.prog 51 #[.int .u64 (a : Int), .int .u64 (b : Int)] w fun e w' => e = .returned (.int .u64 (a : Int)) ∧ Below w.heap.size w w' := by
  go_enter Try.func51, Try.ntmps51
  go_wp2_with fail
  go_step3
  go_wp2_with fail
  refine (na _).mono ?_
  rintro e w' ⟨rfl, rfl⟩
  go_wp2_with fail
  refine (nb _).mono ?_
  rintro e w' ⟨rfl, rfl⟩
  go_wp2_with fail
  refine (ia _).mono ?_
  rintro e w' ⟨rfl, rfl⟩
  go_wp2_with fail
  refine (zb _).mono ?_
  rintro e w' ⟨rfl, rfl⟩
  go_wp2_with fail
  refine (za _).mono ?_
  rintro e w' ⟨rfl, rfl⟩
  go_wp2_with fail
  refine (ib _).mono ?_
  rintro e w' ⟨rfl, rfl⟩
  go_wp2
  rw [Exit.noGoto_ret]
  go_ret
  exact ⟨rfl, Below.refl _ _⟩

set_option maxHeartbeats 2000000 in
set_option maxRecDepth 100000 in
theorem mod_self3 (a b : Nat) (A C : Nat) (g : decide ((A : Int) < (C : Int)) = true) (g2 : A < C)
    (na : ∀ w, Calls Try.prog 78 #[.int .u64 (a : Int)] w fun e w' => e = .returned (.bool false) ∧ w = w')
    (nb : ∀ w, Calls Try.prog 78 #[.int .u64 (b : Int)] w fun e w' => e = .returned (.bool false) ∧ w = w')
    (ia : ∀ w, Calls Try.prog 79 #[.int .u64 (a : Int)] w fun e w' => e = .returned (.bool false) ∧ w = w')
    (zb : ∀ w, Calls Try.prog 80 #[.int .u64 (b : Int)] w fun e w' => e = .returned (.bool false) ∧ w = w')
    (za : ∀ w, Calls Try.prog 80 #[.int .u64 (a : Int)] w fun e w' => e = .returned (.bool false) ∧ w = w')
    (ib : ∀ w, Calls Try.prog 79 #[.int .u64 (b : Int)] w fun e w' => e = .returned (.bool false) ∧ w = w')
    (aa : ∀ w, Calls Try.prog 102 #[.int .u64 (a : Int)] w fun e w' => e = .returned (.int .u64 (A : Int)) ∧ w = w')
    (ab : ∀ w, Calls Try.prog 102 #[.int .u64 (b : Int)] w fun e w' => e = .returned (.int .u64 (C : Int)) ∧ w = w')
    (w : World) : Calls Try.prog 51 #[.int .u64 (a : Int), .int .u64 (b : Int)] w fun e w' => e = .returned (.int .u64 (a : Int)) ∧ Below w.heap.size w w' := by
  go_enter Try.func51, Try.ntmps51
  go_wp2_with fail
  go_step3
  go_wp2_with fail
  refine (na _).mono ?_
  rintro e w' ⟨rfl, rfl⟩
  go_wp2_with fail
  refine (nb _).mono ?_
  rintro e w' ⟨rfl, rfl⟩
  go_wp2_with fail
  refine (ia _).mono ?_
  rintro e w' ⟨rfl, rfl⟩
  go_wp2_with fail
  refine (zb _).mono ?_
  rintro e w' ⟨rfl, rfl⟩
  go_wp2_with fail
  refine (za _).mono ?_
  rintro e w' ⟨rfl, rfl⟩
  go_wp2_with fail
  refine (ib _).mono ?_
  rintro e w' ⟨rfl, rfl⟩
  go_wp2_with fail
  refine (aa _).mono ?_
  rintro e w' ⟨rfl, rfl⟩
  go_wp2_with fail
  refine (ab _).mono ?_
  rintro e w' ⟨rfl, rfl⟩
  go_wp2
  rw [Exit.noGoto_ret]
  go_ret
  exact ⟨rfl, Below.refl _ _⟩

set_option maxHeartbeats 2000000 in
set_option maxRecDepth 100000 in
theorem mod_work (a b : Nat) (A C m n r0 D R J : Nat) (f : Int) (na_ nb_ : Bool) (g : decide ((A : Int) < (C : Int)) = false) (g2 : ¬ A < C) (hf1 : -1074 ≤ f) (hf2 : f ≤ 1000) (hD : D ≤ 3000) (hn : n < 9007199254740992) (hn0 : ¬ n = 0) (er : Int.tmod (m : Int) (n : Int) = (r0 : Int)) (hr0 : r0 < n) (hR : Hid (r0 * 2 ^ D % n = R))
    (na : ∀ w, Calls Try.prog 78 #[.int .u64 (a : Int)] w fun e w' => e = .returned (.bool false) ∧ w = w')
    (nb : ∀ w, Calls Try.prog 78 #[.int .u64 (b : Int)] w fun e w' => e = .returned (.bool false) ∧ w = w')
    (ia : ∀ w, Calls Try.prog 79 #[.int .u64 (a : Int)] w fun e w' => e = .returned (.bool false) ∧ w = w')
    (zb : ∀ w, Calls Try.prog 80 #[.int .u64 (b : Int)] w fun e w' => e = .returned (.bool false) ∧ w = w')
    (za : ∀ w, Calls Try.prog 80 #[.int .u64 (a : Int)] w fun e w' => e = .returned (.bool false) ∧ w = w')
    (ib : ∀ w, Calls Try.prog 79 #[.int .u64 (b : Int)] w fun e w' => e = .returned (.bool false) ∧ w = w')
    (aa : ∀ w, Calls Try.prog 102 #[.int .u64 (a : Int)] w fun e w' => e = .returned (.int .u64 (A : Int)) ∧ w = w')
    (ab : ∀ w, Calls Try.prog 102 #[.int .u64 (b : Int)] w fun e w' => e = .returned (.int .u64 (C : Int)) ∧ w = w')
    (sa : ∀ w, Calls Try.prog 61 #[.int .u64 (a : Int)] w fun e' w' => e' = .returned (.tuple #[.bool na_, .int .u64 (m : Int), .int .i64 (f + (D : Int))]) ∧ w = w')
    (sb : ∀ w, Calls Try.prog 61 #[.int .u64 (b : Int)] w fun e' w' => e' = .returned (.tuple #[.bool nb_, .int .u64 (n : Int), .int .i64 f]) ∧ w = w')
    (j : ∀ w, Calls Try.prog 62 #[.bool na_, .agg #[.int .u64 0, .int .u64 (R : Int)], .int .i64 f, .bool false] w fun e' w' => e' = .returned (.int .u64 (J : Int)) ∧ Below w.heap.size w w')
    (w : World) : Calls Try.prog 51 #[.int .u64 (a : Int), .int .u64 (b : Int)] w fun e w' => e = .returned (.int .u64 (J : Int)) ∧ Below w.heap.size w w' := by
  go_enter Try.func51, Try.ntmps51
  go_wp2_with fail
  go_step3
  go_wp2_with fail
  refine (na _).mono ?_
  rintro e w' ⟨rfl, rfl⟩
  go_wp2_with fail
  refine (nb _).mono ?_
  rintro e w' ⟨rfl, rfl⟩
  go_wp2_with fail
  refine (ia _).mono ?_
  rintro e w' ⟨rfl, rfl⟩
  go_wp2_with fail
  refine (zb _).mono ?_
  rintro e w' ⟨rfl, rfl⟩
  go_wp2_with fail
  refine (za _).mono ?_
  rintro e w' ⟨rfl, rfl⟩
  go_wp2_with fail
  refine (ib _).mono ?_
  rintro e w' ⟨rfl, rfl⟩
  go_wp2_with fail
  refine (aa _).mono ?_
  rintro e w' ⟨rfl, rfl⟩
  go_wp2_with fail
  refine (ab _).mono ?_
  rintro e w' ⟨rfl, rfl⟩
  go_wp2_with fail
  refine (sa _).mono ?_
  rintro e w' ⟨rfl, rfl⟩
  go_wp2_with fail
  refine (sb _).mono ?_
  rintro e w' ⟨rfl, rfl⟩
  go_wp2_with fail
  go_step3
  go_upto_block 1 with (fail)
  go_cut [11] from 57 to 79 (fun v wx => v = .int .u64 (R : Int) ∧ Below w.heap.size w wx)
  case first =>
    go_wp2_with fail
    go_loopw [11, 7] (fun v v2 wr => ∃ r d : Nat, v = .int .u64 (r : Int) ∧ v2 = .int .i64 (f + (d : Int)) ∧ d ≤ 3000 ∧ r < n ∧ Hid (r * 2 ^ d % n = R) ∧ Below w.heap.size w wr) (fun _ v _ => (intOf v - f).toNat)
    case atStart => exact ⟨r0, D, rfl, rfl, hD, hr0, hR, Below.refl _ _⟩
    case round =>
      obtain ⟨r, d, rfl, rfl, hd, hr, hT, LR⟩ := hrel
      clear hr0 hR er hD
      rcases Nat.eq_zero_or_pos d with hd0 | hdp
      · have hT2 : Hid (r = R) := mod_t0 hd0 hr hT
        have b1 : decide (f < f + (d : Int)) = false := decide_eq_false (by omega)
        have b2 : ¬ f < f + (d : Int) := by omega
        clear hT hd0
        go_wp2
        go_meet
        exact ⟨by rw [hT2.out], LR⟩
      · have b1 : decide (f < f + (d : Int)) = true := decide_eq_true (by omega)
        have b2 : f < f + (d : Int) := by omega
        by_cases r0 : r = 0
        · have hT2 : Hid (r = R) := mod_tz r0 hT
          have b3 : ((r : Int) == 0) = true := by simp [r0]
          have b4 : (r : Int) = 0 := by omega
          clear hT
          subst r0
          go_wp2
          go_meet
          exact ⟨by rw [← hT2.out], LR⟩
        · have b3 : ((r : Int) == 0) = false := by simp [r0]
          by_cases h11 : 11 ≤ d
          · obtain ⟨k, hk⟩ : ∃ k, d = k + 11 := ⟨d - 11, by omega⟩
            have hT2 := mod_t11 hk hT
            have n1 : IntKind.u64.wrap ((r : Int) * 2048) = ((r * 2048 : Nat) : Int) := by rw [show (r : Int) * 2048 = ((r * 2048 : Nat) : Int) by omega, wrap_small (by omega)]
            have n2 : Int.tmod ((r * 2048 : Nat) : Int) (n : Int) = ((r * 2048 % n : Nat) : Int) := by rw [Int.tmod_eq_emod_of_nonneg (by omega), ← Int.natCast_emod]
            have n3 : r * 2048 % n < n := Nat.mod_lt _ (by omega)
            have n4 : IntKind.i64.wrap (f + (d : Int) - 11) = f + (k : Int) := by rw [IntWalk.i64_in _ (by omega)]; omega
            have n5 : IntKind.i64.wrap (f + (d : Int) - f) = (d : Int) := by rw [IntWalk.i64_in _ (by omega)]; omega
            have n6 : f + (d : Int) - 11 = f + (k : Int) := by omega
            have b5 : decide (11 ≤ f + (d : Int) - f) = true := decide_eq_true (by omega)
            have b6 : 11 ≤ f + (d : Int) - f := by omega
            have b7 : decide ((11 : Int) ≤ (d : Int)) = true := decide_eq_true (by omega)
            have hk2 : k < d := by omega
            clear hT hk
            generalize r * 2048 % n = r' at *
            generalize r * 2048 = r'' at *
            go_wp2
            exact ⟨⟨r', k, rfl, rfl, by omega, n3, hT2, LR⟩, by simp [intOf]; omega⟩
          · obtain ⟨k, hk⟩ : ∃ k, d = k + 1 := ⟨d - 1, by omega⟩
            have hT2 := mod_t1 hk hT
            have n1 : IntKind.u64.wrap ((r : Int) * 2) = ((r * 2 : Nat) : Int) := by rw [show (r : Int) * 2 = ((r * 2 : Nat) : Int) by omega, wrap_small (by omega)]
            have n2 : Int.tmod ((r * 2 : Nat) : Int) (n : Int) = ((r * 2 % n : Nat) : Int) := by rw [Int.tmod_eq_emod_of_nonneg (by omega), ← Int.natCast_emod]
            have n3 : r * 2 % n < n := Nat.mod_lt _ (by omega)
            have n4 : IntKind.i64.wrap (f + (d : Int) - 1) = f + (k : Int) := by rw [IntWalk.i64_in _ (by omega)]; omega
            have n5 : IntKind.i64.wrap (f + (d : Int) - f) = (d : Int) := by rw [IntWalk.i64_in _ (by omega)]; omega
            have n6 : f + (d : Int) - 1 = f + (k : Int) := by omega
            have b5 : decide (11 ≤ f + (d : Int) - f) = false := decide_eq_false (by omega)
            have b6 : ¬ 11 ≤ f + (d : Int) - f := by omega
            have b7 : decide ((11 : Int) ≤ (d : Int)) = false := decide_eq_false (by omega)
            have hk2 : k < d := by omega
            clear hT hk
            generalize r * 2 % n = r' at *
            generalize r * 2 = r'' at *
            go_wp2
            exact ⟨⟨r', k, rfl, rfl, by omega, n3, hT2, LR⟩, by simp [intOf]; omega⟩
  case rest =>
    obtain ⟨rfl, LC⟩ := hcut
    go_wp2_with fail
    refine (j _).mono ?_
    rintro e1 w2 ⟨rfl, hb2⟩
    go_wp2
    rw [Exit.noGoto_ret]
    go_ret
    exact ⟨rfl, LC.trans (hb2.mono LC.size)⟩

theorem V_mod {x y : Nat} (h : y ≤ x) : Fl.V x % Fl.V y = Fl.mant x * 2 ^ (Fl.sh x - Fl.sh y) % Fl.mant y * 2 ^ Fl.sh y := by
  have hs := Fl.sh_mono h
  unfold Fl.V
  rw [← Nat.mul_mod_mul_right, Nat.mul_assoc, ← Nat.pow_add, show Fl.sh x - Fl.sh y + Fl.sh y = Fl.sh x by omega]

/-- root.Mod -/
theorem mod_any (a b : Nat) (ha : a < 18446744073709551616) (hb : b < 18446744073709551616) (w : World) :
    Calls Try.prog 51 #[.int .u64 (a : Int), .int .u64 (b : Int)] w fun e w' => e = .returned (.int .u64 ((Fl.modN a b : Nat) : Int)) ∧ Below w.heap.size w w' := by
  have na := rnone_any a ha
  have nb := rnone_any b hb
  have ia := rinf_any a ha
  have ib := rinf_any b hb
  have za := rzero_any a ha
  have zb := rzero_any b hb
  have aa := abs_any a ha
  have ab := abs_any b hb
  unfold Fl.modN
  by_cases c1 : Fl.kd a = 4
  · rw [if_pos (.inl c1)]; rw [decide_eq_true c1] at na
    exact mod_nan1 a b na w
  rw [decide_eq_false c1] at na
  by_cases c2 : Fl.kd b = 4
  · rw [if_pos (.inr (.inl c2))]; rw [decide_eq_true c2] at nb
    exact mod_nan2 a b na nb w
  rw [decide_eq_false c2] at nb
  by_cases c3 : Fl.kd a = 3
  · rw [if_pos (.inr (.inr (.inl c3)))]; rw [decide_eq_true c3] at ia
    exact mod_nan3 a b na nb ia w
  rw [decide_eq_false c3] at ia
  by_cases c4 : Fl.kd b = 0
  · rw [if_pos (.inr (.inr (.inr c4)))]; rw [decide_eq_true c4] at zb
    exact mod_nan4 a b na nb ia zb w
  rw [decide_eq_false c4] at zb
  rw [if_neg (by omega)]
  by_cases c5 : Fl.kd a = 0
  · rw [if_pos (.inl c5)]; rw [decide_eq_true c5] at za
    exact mod_self1 a b na nb ia zb za w
  rw [decide_eq_false c5] at za
  by_cases c6 : Fl.kd b = 3
  · rw [if_pos (.inr c6)]; rw [decide_eq_true c6] at ib
    exact mod_self2 a b na nb ia zb za ib w
  rw [decide_eq_false c6] at ib
  rw [if_neg (by omega)]
  have la4 := Fl.kd_le a
  have lb4 := Fl.kd_le b
  have ka : Fl.kd a < 3 := by omega
  have kb : Fl.kd b < 3 := by omega
  have e1 : Fl.absN a = Fl.ab a := by unfold Fl.absN; rw [if_neg c1]
  have e2 : Fl.absN b = Fl.ab b := by unfold Fl.absN; rw [if_neg c2]
  rw [e1] at aa
  rw [e2] at ab
  have pb : 0 < Fl.ab b := by rcases Nat.eq_zero_or_pos (Fl.ab b) with h | h; (· exact absurd (Fl.kd_zero.2 h) c4); exact h
  by_cases g : Fl.ab a < Fl.ab b
  · rw [Nat.mod_eq_of_lt (Fl.V_lt g), Fl.rnd_self (Fl.kd_fin ka), Fl.pk_ab ha]
    exact mod_self3 a b _ _ (decide_eq_true (by omega)) g na nb ia zb za ib aa ab w
  have sa := sh_le ka
  have sb := sh_le kb
  have hs := Fl.sh_mono (show Fl.ab b ≤ Fl.ab a by omega)
  have hn := Fl.mant_lt (Fl.ab b)
  have hm := Fl.mant_lt (Fl.ab a)
  have hn0 := Fl.mant_pos pb
  have spa := split_fin a ha ka
  have spb := split_fin b hb kb
  rw [V_mod (show Fl.ab b ≤ Fl.ab a by omega)]
  have e3 := Fl.rnd_scale (Fl.mant (Fl.ab a) * 2 ^ (Fl.sh (Fl.ab a) - Fl.sh (Fl.ab b)) % Fl.mant (Fl.ab b)) ((Fl.sh (Fl.ab b) : Int) - 1074) (Fl.sh (Fl.ab b))
  rw [show (Fl.sh (Fl.ab b) : Int) - 1074 - ((Fl.sh (Fl.ab b) : Nat) : Int) = -1074 by omega] at e3
  rw [e3]
  clear e3 e1 e2
  obtain ⟨D, hD⟩ : ∃ D, Fl.sh (Fl.ab a) - Fl.sh (Fl.ab b) = D := ⟨_, rfl⟩
  have hR : Fl.mant (Fl.ab a) * 2 ^ (Fl.sh (Fl.ab a) - Fl.sh (Fl.ab b)) % Fl.mant (Fl.ab b) < Fl.mant (Fl.ab b) := Nat.mod_lt _ hn0
  have er : Int.tmod ((Fl.mant (Fl.ab a) : Nat) : Int) ((Fl.mant (Fl.ab b) : Nat) : Int) = ((Fl.mant (Fl.ab a) % Fl.mant (Fl.ab b) : Nat) : Int) := by rw [Int.tmod_eq_emod_of_nonneg (by omega), ← Int.natCast_emod]
  have hr0 : Fl.mant (Fl.ab a) % Fl.mant (Fl.ab b) < Fl.mant (Fl.ab b) := Nat.mod_lt _ hn0
  have hT : Fl.mant (Fl.ab a) % Fl.mant (Fl.ab b) * 2 ^ D % Fl.mant (Fl.ab b) = Fl.mant (Fl.ab a) * 2 ^ (Fl.sh (Fl.ab a) - Fl.sh (Fl.ab b)) % Fl.mant (Fl.ab b) := by
    rw [hD, Nat.mul_mod, Nat.mod_mod, ← Nat.mul_mod]
  generalize Fl.mant (Fl.ab a) * 2 ^ (Fl.sh (Fl.ab a) - Fl.sh (Fl.ab b)) % Fl.mant (Fl.ab b) = R at *
  have j := join_any (Fl.ng a) false 0 R ((Fl.sh (Fl.ab b) : Int) - 1074) (by decide) (by omega) (by omega) (by omega)
  rw [show 0 * 18446744073709551616 + R = R by omega] at j
  rw [show (Fl.sh (Fl.ab a) : Int) - 1074 = (Fl.sh (Fl.ab b) : Int) - 1074 + (D : Int) by omega] at spa
  exact mod_work a b _ _ _ _ _ D R _ _ _ _ (decide_eq_false (by omega)) g (by omega) (by omega) (by omega) hn (by omega) er hr0 (Lib.hid hT) na nb ia zb za ib aa ab spa spb j w

end Go.Proofs.Ytaplggheadahhaa

namespace Go.Proofs.Ytaplggheadahhaa
open Go.RowKit
set_option linter.unusedVariables false
set_option linter.unusedSimpArgs false

set_option maxHeartbeats 1000000 in
theorem pow_nan (a : Nat) (n : Int) (na : ∀ w, Calls Try.prog 78 #[.int .u64 (a : Int)] w fun e w' => e = .returned (.bool true) ∧ w = w') (w : World) :
    Calls Try.prog 53 #[.int .u64 (a : Int), .int .i64 n] w fun e w' => e = .returned (.int .u64 9221120237041090560) ∧ Below w.heap.size w w' := by
  go_enter Try.func53, Try.ntmps53
  go_wp2_with fail
  refine (na _).mono ?_
  rintro e w' ⟨rfl, rfl⟩
  go_wp2
  go_ret
  exact ⟨rfl, Below.refl _ _⟩
theorem hk_eq {B i k : Nat} (hk : (B : Int) - 1 - (i : Int) = (k : Int)) (h : i < B) : k = B - 1 - i := by omega

set_option maxHeartbeats 2000000 in
set_option maxRecDepth 100000 in
theorem pow_pos (a u B R : Nat) (n : Int) (P S T : Nat → Nat) (hn : ¬ n < 0) (hn2 : decide (n < 0) = false) (hu : IntKind.u64.wrap n = (u : Int))
    (na : ∀ w, Calls Try.prog 78 #[.int .u64 (a : Int)] w fun e w' => e = .returned (.bool false) ∧ w = w')
    (hl : ∀ w, Calls Try.prog 103 #[.int .u64 (u : Int)] w fun e w' => e = .returned (.int .i64 (B : Int)) ∧ w = w')
    (M1 : Hid (∀ i : Nat, i < B → ∀ w, Calls Try.prog 24 #[.int .u64 ((P i : Nat) : Int), .int .u64 ((P i : Nat) : Int)] w fun e w' => e = .returned (.int .u64 ((S i : Nat) : Int)) ∧ Below w.heap.size w w'))
    (M2 : Hid (∀ i : Nat, i < B → ∀ w, Calls Try.prog 24 #[.int .u64 ((S i : Nat) : Int), .int .u64 (a : Int)] w fun e w' => e = .returned (.int .u64 ((T i : Nat) : Int)) ∧ Below w.heap.size w w'))
    (E1 : Hid (∀ i k : Nat, i < B → (B : Int) - 1 - (i : Int) = (k : Int) → Go.bits .and .u64 ((u / 2 ^ k : Nat) : Int) 1 = ((u / 2 ^ k % 2 : Nat) : Int)))
    (HP : Hid (∀ i : Nat, i < B → P (i + 1) = if (((u / 2 ^ (B - 1 - i) % 2 : Nat) : Int) == 1) = true then T i else S i))
    (hP0 : Hid (P 0 = 4607182418800017408)) (hR : Hid (P B = R)) (hB : B ≤ 64)
    (w : World) : Calls Try.prog 53 #[.int .u64 (a : Int), .int .i64 n] w fun e w' => e = .returned (.int .u64 (R : Int)) ∧ Below w.heap.size w w' := by
  have L := Below.refl w.heap.size w
  go_enter Try.func53, Try.ntmps53
  go_wp2_with fail
  refine (na _).mono ?_
  rintro e w' ⟨rfl, rfl⟩
  go_wp2_with fail
  refine (hl _).mono ?_
  rintro e w' ⟨rfl, rfl⟩
  go_wp2_with fail
  go_loopw [18, 6] (fun v v2 wr => ∃ i : Nat, i ≤ B ∧ v = .int .i64 (i : Int) ∧ v2 = .int .u64 ((P i : Nat) : Int) ∧ Below w.heap.size w wr) (fun v _ _ => B - (intOf v).toNat)
  case atStart => exact ⟨0, by omega, rfl, by rw [hP0.out]; rfl, L⟩
  case round =>
    obtain ⟨i, hi, rfl, rfl, LR⟩ := hrel
    clear L
    by_cases hlt : i < B
    · obtain ⟨k, hk⟩ : ∃ k : Nat, (B : Int) - 1 - (i : Int) = (k : Int) := ⟨B - 1 - i, by omega⟩
      have c1 : decide ((i : Int) < (B : Int)) = true := decide_eq_true (by omega)
      have m1 := M1.out i hlt
      have m2 := M2.out i hlt
      have e1 := E1.out i k hlt hk
      have hP := HP.out i hlt
      have hk0 : k ≤ 64 := by omega
      clear HP hP0
      have n1 : IntKind.i64.wrap ((B : Int) - 1 - (i : Int)) = (k : Int) := by rw [hk, IntWalk.i64_in _ (by omega)]
      generalize P i = p at *
      generalize S i = s at *
      generalize T i = t at *
      obtain ⟨bt, hbt⟩ : ∃ bt : Bool, (((u / 2 ^ k % 2 : Nat) : Int) == 1) = bt := ⟨_, rfl⟩
      have hP2 : Hid (P (i + 1) = if bt = true then t else s) := Lib.hid (by rw [hP, ← hbt, ← hk_eq hk hlt])
      clear hP
      have e2 : (u : Int) / 2 ^ k = ((u / 2 ^ k : Nat) : Int) := div_pow u k
      generalize u / 2 ^ k = uk at *
      generalize uk % 2 = ub at *
      go_wp2_with fail
      refine (m1 _).mono ?_
      rintro e w1 ⟨rfl, hb⟩
      replace LR := LR.trans (hb.mono LR.size)
      clear hb
      cases bt
      · go_wp2_with fail
        refine (hl _).mono ?_
        rintro e w' ⟨rfl, rfl⟩
        go_wp2
        exact ⟨⟨i + 1, by omega, by go_num, by rw [show P (i + 1) = s by have := hP2.out; simpa using this], LR⟩, by simp [intOf]; omega⟩
      · go_wp2_with fail
        refine (hl _).mono ?_
        rintro e w' ⟨rfl, rfl⟩
        go_wp2_with fail
        refine (m2 _).mono ?_
        rintro e w2 ⟨rfl, hb⟩
        replace LR := LR.trans (hb.mono LR.size)
        clear hb
        go_wp2
        exact ⟨⟨i + 1, by omega, by go_num, by rw [show P (i + 1) = t by have := hP2.out; simpa using this], LR⟩, by simp [intOf]; omega⟩
    · have c1 : decide ((i : Int) < (B : Int)) = false := decide_eq_false (by omega)
      have hR2 : Hid (P i = R) := Lib.hid (by rw [show i = B by omega]; exact hR.out)
      clear M1 M2 E1 HP hP0 hR
      generalize P i = p at *
      go_wp2
      go_ret
      exact ⟨by rw [hR2.out]; rfl, LR⟩

set_option maxHeartbeats 2000000 in
set_option maxRecDepth 100000 in
theorem pow_neg (a u B R : Nat) (n : Int) (P S T : Nat → Nat) (J : Nat) (hn : n < 0) (hn2 : decide (n < 0) = true) (v : Int) (hv : IntKind.u64.wrap n = v) (hu : IntKind.u64.wrap (-v) = (u : Int)) (d : ∀ w, Calls Try.prog 45 #[.int .u64 4607182418800017408, .int .u64 (R : Int)] w fun e w' => e = .returned (.int .u64 (J : Int)) ∧ Below w.heap.size w w')
    (na : ∀ w, Calls Try.prog 78 #[.int .u64 (a : Int)] w fun e w' => e = .returned (.bool false) ∧ w = w')
    (hl : ∀ w, Calls Try.prog 103 #[.int .u64 (u : Int)] w fun e w' => e = .returned (.int .i64 (B : Int)) ∧ w = w')
    (M1 : Hid (∀ i : Nat, i < B → ∀ w, Calls Try.prog 24 #[.int .u64 ((P i : Nat) : Int), .int .u64 ((P i : Nat) : Int)] w fun e w' => e = .returned (.int .u64 ((S i : Nat) : Int)) ∧ Below w.heap.size w w'))
    (M2 : Hid (∀ i : Nat, i < B → ∀ w, Calls Try.prog 24 #[.int .u64 ((S i : Nat) : Int), .int .u64 (a : Int)] w fun e w' => e = .returned (.int .u64 ((T i : Nat) : Int)) ∧ Below w.heap.size w w'))
    (E1 : Hid (∀ i k : Nat, i < B → (B : Int) - 1 - (i : Int) = (k : Int) → Go.bits .and .u64 ((u / 2 ^ k : Nat) : Int) 1 = ((u / 2 ^ k % 2 : Nat) : Int)))
    (HP : Hid (∀ i : Nat, i < B → P (i + 1) = if (((u / 2 ^ (B - 1 - i) % 2 : Nat) : Int) == 1) = true then T i else S i))
    (hP0 : Hid (P 0 = 4607182418800017408)) (hR : Hid (P B = R)) (hB : B ≤ 64)
    (w : World) : Calls Try.prog 53 #[.int .u64 (a : Int), .int .i64 n] w fun e w' => e = .returned (.int .u64 (J : Int)) ∧ Below w.heap.size w w' := by
  have L := Below.refl w.heap.size w
  go_enter Try.func53, Try.ntmps53
  go_wp2_with fail
  refine (na _).mono ?_
  rintro e w' ⟨rfl, rfl⟩
  go_wp2_with fail
  refine (hl _).mono ?_
  rintro e w' ⟨rfl, rfl⟩
  go_wp2_with fail
  go_loopw [18, 6] (fun v v2 wr => ∃ i : Nat, i ≤ B ∧ v = .int .i64 (i : Int) ∧ v2 = .int .u64 ((P i : Nat) : Int) ∧ Below w.heap.size w wr) (fun v _ _ => B - (intOf v).toNat)
  case atStart => exact ⟨0, by omega, rfl, by rw [hP0.out]; rfl, L⟩
  case round =>
    obtain ⟨i, hi, rfl, rfl, LR⟩ := hrel
    clear L
    by_cases hlt : i < B
    · obtain ⟨k, hk⟩ : ∃ k : Nat, (B : Int) - 1 - (i : Int) = (k : Int) := ⟨B - 1 - i, by omega⟩
      have c1 : decide ((i : Int) < (B : Int)) = true := decide_eq_true (by omega)
      have m1 := M1.out i hlt
      have m2 := M2.out i hlt
      have e1 := E1.out i k hlt hk
      have hP := HP.out i hlt
      have hk0 : k ≤ 64 := by omega
      clear HP hP0
      have n1 : IntKind.i64.wrap ((B : Int) - 1 - (i : Int)) = (k : Int) := by rw [hk, IntWalk.i64_in _ (by omega)]
      generalize P i = p at *
      generalize S i = s at *
      generalize T i = t at *
      obtain ⟨bt, hbt⟩ : ∃ bt : Bool, (((u / 2 ^ k % 2 : Nat) : Int) == 1) = bt := ⟨_, rfl⟩
      have hP2 : Hid (P (i + 1) = if bt = true then t else s) := Lib.hid (by rw [hP, ← hbt, ← hk_eq hk hlt])
      clear hP
      have e2 : (u : Int) / 2 ^ k = ((u / 2 ^ k : Nat) : Int) := div_pow u k
      generalize u / 2 ^ k = uk at *
      generalize uk % 2 = ub at *
      go_wp2_with fail
      refine (m1 _).mono ?_
      rintro e w1 ⟨rfl, hb⟩
      replace LR := LR.trans (hb.mono LR.size)
      clear hb
      cases bt
      · go_wp2_with fail
        refine (hl _).mono ?_
        rintro e w' ⟨rfl, rfl⟩
        go_wp2
        exact ⟨⟨i + 1, by omega, by go_num, by rw [show P (i + 1) = s by have := hP2.out; simpa using this], LR⟩, by simp [intOf]; omega⟩
      · go_wp2_with fail
        refine (hl _).mono ?_
        rintro e w' ⟨rfl, rfl⟩
        go_wp2_with fail
        refine (m2 _).mono ?_
        rintro e w2 ⟨rfl, hb⟩
        replace LR := LR.trans (hb.mono LR.size)
        clear hb
        go_wp2
        exact ⟨⟨i + 1, by omega, by go_num, by rw [show P (i + 1) = t by have := hP2.out; simpa using this], LR⟩, by simp [intOf]; omega⟩
    · have c1 : decide ((i : Int) < (B : Int)) = false := decide_eq_false (by omega)
      have hR2 : Hid (P i = R) := Lib.hid (by rw [show i = B by omega]; exact hR.out)
      clear M1 M2 E1 HP hP0 hR
      generalize P i = p at *
      have d2 : ∀ w, Calls Try.prog 45 #[.int .u64 4607182418800017408, .int .u64 (p : Int)] w fun e w' => e = .returned (.int .u64 (J : Int)) ∧ Below w.heap.size w w' := by rw [hR2.out]; exact d
      clear d hR2
      go_wp2_with fail
      refine (d2 _).mono ?_
      rintro e w2 ⟨rfl, hb⟩
      replace LR := LR.trans (hb.mono LR.size)
      clear hb
      go_wp2
      go_ret
      exact ⟨rfl, LR⟩

theorem mulN_one : Fl.mulN 4607182418800017408 4607182418800017408 = 4607182418800017408 := by decide +kernel
theorem pows_succ (a k u : Nat) : Fl.pows a (k + 1) u = if u % 2 = 1 then Fl.mulN (Fl.mulN (Fl.pows a k (u / 2)) (Fl.pows a k (u / 2))) a else Fl.mulN (Fl.pows a k (u / 2)) (Fl.pows a k (u / 2)) := rfl
theorem pows_up (a : Nat) : ∀ k u : Nat, u < 2 ^ k → Fl.pows a (k + 1) u = Fl.pows a k u := by
  intro k
  induction k with
  | zero =>
    intro u hu
    have : u = 0 := by simpa using hu
    subst this
    rw [pows_succ, if_neg (by decide)]
    exact mulN_one
  | succ k ih =>
    intro u hu
    rw [pows_succ, ih (u / 2) (by rw [Nat.pow_succ] at hu; omega), ← pows_succ]
theorem pows_more (a k u : Nat) (hu : u < 2 ^ k) : ∀ j, Fl.pows a (k + j) u = Fl.pows a k u := by
  intro j
  induction j with
  | zero => rfl
  | succ j ih => rw [← ih, ← Nat.add_assoc, pows_up _ _ _ (Nat.lt_of_lt_of_le hu (Nat.pow_le_pow_right (by decide) (by omega)))]
theorem mulN_lt (a b : Nat) : Fl.mulN a b < 18446744073709551616 := by
  unfold Fl.mulN
  split
  · decide
  split
  · exact Fl.pk_lt (Nat.le_refl _)
  · exact Fl.pk_lt (Fl.rnd_le_INF _ _ _)
theorem pows_lt (a : Nat) : ∀ k u : Nat, Fl.pows a k u < 18446744073709551616 := by
  intro k u
  cases k with
  | zero => show 4607182418800017408 < 18446744073709551616; decide
  | succ k => rw [pows_succ]; split <;> exact mulN_lt _ _
theorem dq_le (N D : Nat) (e : Int) : Fl.dq N D e ≤ Fl.INF := Fl.rnd_le_INF _ _ _
theorem divN_lt (a b : Nat) : Fl.divN a b < 18446744073709551616 := by
  unfold Fl.divN
  split
  · decide
  split
  · exact Fl.pk_lt (Nat.le_refl _)
  split
  · exact Fl.pk_lt (Nat.zero_le _)
  · exact Fl.pk_lt (dq_le _ _ _)

/-- root.Power -/
theorem pow_any (a : Nat) (n : Int) (ha : a < 18446744073709551616) (h1 : -9223372036854775808 ≤ n) (h2 : n ≤ 9223372036854775807) (w : World) :
    Calls Try.prog 53 #[.int .u64 (a : Int), .int .i64 n] w fun e w' => e = .returned (.int .u64 ((Fl.powN a n : Nat) : Int)) ∧ Below w.heap.size w w' := by
  have na := rnone_any a ha
  unfold Fl.powN
  by_cases c1 : Fl.kd a = 4
  · rw [if_pos c1]; rw [decide_eq_true c1] at na
    exact pow_nan a n na w
  rw [if_neg c1]
  rw [decide_eq_false c1] at na
  obtain ⟨u, hu⟩ : ∃ u : Nat, n.natAbs = u := ⟨_, rfl⟩
  have hul : u < 18446744073709551616 := by omega
  have hl := len64_any u hul
  have hB : Fl.bl u ≤ 64 := Fl.bl_le_of_lt (by omega)
  have hlb := Fl.lt_bl u
  rw [hu]
  have M1 : ∀ i : Nat, i < Fl.bl u → ∀ w, Calls Try.prog 24 #[.int .u64 ((Fl.pows a i (u / 2 ^ (Fl.bl u - i)) : Nat) : Int), .int .u64 ((Fl.pows a i (u / 2 ^ (Fl.bl u - i)) : Nat) : Int)] w fun e w' => e = .returned (.int .u64 ((Fl.mulN (Fl.pows a i (u / 2 ^ (Fl.bl u - i))) (Fl.pows a i (u / 2 ^ (Fl.bl u - i))) : Nat) : Int)) ∧ Below w.heap.size w w' :=
    fun i _ w => mul_any _ _ (pows_lt _ _ _) (pows_lt _ _ _) w
  have M2 : ∀ i : Nat, i < Fl.bl u → ∀ w, Calls Try.prog 24 #[.int .u64 ((Fl.mulN (Fl.pows a i (u / 2 ^ (Fl.bl u - i))) (Fl.pows a i (u / 2 ^ (Fl.bl u - i))) : Nat) : Int), .int .u64 (a : Int)] w fun e w' => e = .returned (.int .u64 ((Fl.mulN (Fl.mulN (Fl.pows a i (u / 2 ^ (Fl.bl u - i))) (Fl.pows a i (u / 2 ^ (Fl.bl u - i)))) a : Nat) : Int)) ∧ Below w.heap.size w w' :=
    fun i _ w => mul_any _ _ (mulN_lt _ _) ha w
  have E1 : ∀ i k : Nat, i < Fl.bl u → ((Fl.bl u : Nat) : Int) - 1 - (i : Int) = (k : Int) → Go.bits .and .u64 ((u / 2 ^ k : Nat) : Int) 1 = ((u / 2 ^ k % 2 : Nat) : Int) :=
    fun i k _ _ => and_1 _ (Nat.lt_of_le_of_lt (Nat.div_le_self _ _) hul)
  have HP : ∀ i : Nat, i < Fl.bl u → Fl.pows a (i + 1) (u / 2 ^ (Fl.bl u - (i + 1))) = if (((u / 2 ^ (Fl.bl u - 1 - i) % 2 : Nat) : Int) == 1) = true then Fl.mulN (Fl.mulN (Fl.pows a i (u / 2 ^ (Fl.bl u - i))) (Fl.pows a i (u / 2 ^ (Fl.bl u - i)))) a else Fl.mulN (Fl.pows a i (u / 2 ^ (Fl.bl u - i))) (Fl.pows a i (u / 2 ^ (Fl.bl u - i))) := fun i hi => by
    have e1 : Fl.bl u - (i + 1) = Fl.bl u - 1 - i := by omega
    have e2 : u / 2 ^ (Fl.bl u - 1 - i) / 2 = u / 2 ^ (Fl.bl u - i) := by
      rw [Nat.div_div_eq_div_mul, ← Nat.pow_succ]; congr 2; omega
    rw [pows_succ, e1, e2]
    generalize u / 2 ^ (Fl.bl u - 1 - i) % 2 = r
    by_cases h : r = 1
    · rw [if_pos h, if_pos (by rw [h]; rfl)]
    · rw [if_neg h, if_neg (by simp; omega)]
  have hR : Fl.pows a (Fl.bl u) (u / 2 ^ (Fl.bl u - Fl.bl u)) = Fl.pows a 64 u := by
    rw [Nat.sub_self, Nat.pow_zero, Nat.div_one]
    have := pows_more a (Fl.bl u) u hlb (64 - Fl.bl u)
    rw [show Fl.bl u + (64 - Fl.bl u) = 64 by omega] at this
    exact this.symm
  by_cases c2 : n < 0
  · rw [if_pos c2]
    exact pow_neg a u (Fl.bl u) _ n (fun i => Fl.pows a i (u / 2 ^ (Fl.bl u - i))) _ _ _ c2 (decide_eq_true c2) _ rfl (by rw [wrap_emod, wrap_emod]; omega) (div_any _ _ (by decide) (pows_lt _ _ _)) na hl (Lib.hid M1) (Lib.hid M2) (Lib.hid E1) (Lib.hid HP) (Lib.hid rfl) (Lib.hid hR) hB w
  · rw [if_neg c2]
    exact pow_pos a u (Fl.bl u) _ n (fun i => Fl.pows a i (u / 2 ^ (Fl.bl u - i))) _ _ c2 (decide_eq_false c2) (by rw [wrap_emod]; omega) na hl (Lib.hid M1) (Lib.hid M2) (Lib.hid E1) (Lib.hid HP) (Lib.hid rfl) (Lib.hid hR) hB w
end Go.Proofs.Ytaplggheadahhaa

