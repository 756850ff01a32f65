/- wide.Drop at two words, the rest of its cases; wide.Shr; wide.Mul. -/
import Derived.Test.YtaplggheadahhaaA6
import Derived.Test.YtaplggheadahhaaB0
namespace Go.Proofs.Ytaplggheadahhaa
open Go.RowKit
set_option linter.unusedVariables false
set_option linter.unusedSimpArgs false

set_option maxHeartbeats 2000000 in
set_option maxRecDepth 100000 in
/-- a word and more dropped, less than two, the lower word 0 -/
theorem wdrop_E0 (hi n m : Nat) (hh : hi < 18446744073709551616) (h0 : hi ≠ 0) (hm : (n : Int) - 64 = (m : Int)) (h1 : m < 64) (w : World) :
    Calls Try.prog 138 #[.agg #[.int .u64 0, .int .u64 (hi : Int), .int .u64 0], .int .i64 (n : Int)] w fun e w' =>
      e = .returned (.tuple #[.agg #[.int .u64 0, .int .u64 0, .int .u64 ((hi / 2 ^ m : Nat) : Int)], .bool (decide (hi % 2 ^ m ≠ 0))]) ∧ Below w.heap.size w w' := by
  obtain ⟨j, L, P, Q, ep, ep1, ea, ed, e1, e2, ej, hj⟩ := shrE hh h1
  have e0 : ((hi : Int) == 0) = false := by simp; omega
  have z0 : IntKind.u64.wrap 0 = 0 := wrap_u64_nat 0
  have z1 := or_zero0
  rw [z0] at e2
  have h2 : 64 ≤ n := by omega
  have h3 : (n : Int) < 128 := by omega
  generalize hi / 2 ^ m = R at *
  generalize decide (hi % 2 ^ m ≠ 0) = D at *
  clear h0
  go_enter Try.func138, Try.ntmps138
  go_wp2
  refine wp_loop_rounds 2 ?_
  rw [rounds_succ]
  go_wp2
  rw [rounds_succ]
  go_wp2
  go_region_held3 (fun w' => w'.cell? ⟨w.heap.size, 0, none⟩ = some (.int .u64 0) ∧ w'.cell? ⟨w.heap.size, 1, none⟩ = some (.int .u64 0) ∧ w'.cell? ⟨w.heap.size, 2, none⟩ = some (.int .u64 hi)) (simp [go_sem, World.cell?_alloc_past]) (fail)
  go_wp2
  go_region_held3 (fun w' => w'.cell? ⟨w.heap.size, 0, none⟩ = some (.int .u64 0) ∧ w'.cell? ⟨w.heap.size, 1, none⟩ = some (.int .u64 0) ∧ w'.cell? ⟨w.heap.size, 2, none⟩ = some (.int .u64 hi)) (simp [go_sem, World.cell?_alloc_past]) (fail)
  go_wp2
  refine bodyPost_ret (v := .tuple #[.agg #[.int .u64 0, .int .u64 0, .int .u64 (R : Int)], .bool D]) (by simp [results, Try.results138, go_sem]) rfl ⟨rfl, ?_⟩
  repeat (first | exact Below.refl _ _ | refine Below.setCell ?_ (by simp) _ | refine below_drewN ?_ _ | refine Below.drew ?_ | refine Below.alloc ?_ (by simp) _)

theorem Fl.hi_of_lt {q : Nat} (h : q < 18446744073709551616) : Fl.hi q = 0 := by unfold Fl.hi; omega
theorem Fl.lo_of_lt {q : Nat} (h : q < 18446744073709551616) : Fl.lo q = q := by unfold Fl.lo; omega
/-- wide.Drop of two words: the words of what is left, and whether anything was lost -/
theorem wdrop_any (hi lo n : Nat) (hh : hi < 18446744073709551616) (hl : lo < 18446744073709551616) (h1 : n ≤ 1000000000000) (w : World) :
    Calls Try.prog 138 #[.agg #[.int .u64 0, .int .u64 (hi : Int), .int .u64 (lo : Int)], .int .i64 (n : Int)] w fun e w' =>
      e = .returned (.tuple #[.agg #[.int .u64 0, .int .u64 ((Fl.hi ((hi * 18446744073709551616 + lo) / 2 ^ n) : Nat) : Int), .int .u64 ((Fl.lo ((hi * 18446744073709551616 + lo) / 2 ^ n) : Nat) : Int)], .bool (decide ((hi * 18446744073709551616 + lo) % 2 ^ n ≠ 0))]) ∧ Below w.heap.size w w' := by
  by_cases z : hi = 0 ∧ lo = 0
  · obtain ⟨rfl, rfl⟩ := z
    have := wdrop_0 n h1 w
    simpa [Fl.hi, Fl.lo] using this
  rcases Nat.lt_or_ge n 64 with h | h
  · exact wdrop_B hi lo n hh hl h (by omega) w
  have hp64 : 2 ^ 64 ≤ 2 ^ n := Nat.pow_le_pow_right (by decide) h
  rw [pow64] at hp64
  by_cases h0 : hi = 0
  · subst h0
    have e1 : (0 * 18446744073709551616 + lo) / 2 ^ n = 0 := Nat.div_eq_of_lt (by omega)
    have e2 : (0 * 18446744073709551616 + lo) % 2 ^ n = lo := by rw [Nat.mod_eq_of_lt (by omega)]; omega
    rw [e1, e2, decide_eq_true (by omega)]
    exact wdrop_D lo n (by omega) h h1 w
  rcases Nat.lt_or_ge n 128 with h2 | h2
  · obtain ⟨m, rfl⟩ : ∃ m, n = 64 + m := ⟨n - 64, by omega⟩
    have hm : ((64 + m : Nat) : Int) - 64 = (m : Int) := by omega
    have e1 : (hi * 18446744073709551616 + lo) / 2 ^ (64 + m) = hi / 2 ^ m := by
      rw [Nat.pow_add, pow64, ← Nat.div_div_eq_div_mul, Nat.mul_comm hi, Nat.mul_add_div (by decide), Nat.div_eq_of_lt hl, Nat.add_zero]
    have e2 : (hi * 18446744073709551616 + lo) % 2 ^ (64 + m) = lo + 18446744073709551616 * (hi % 2 ^ m) := by
      rw [Nat.pow_add, pow64, Nat.mod_mul, Nat.add_comm (hi * 18446744073709551616), Nat.add_mul_mod_self_right, Nat.mod_eq_of_lt hl, Nat.add_mul_div_right _ _ (by decide), Nat.div_eq_of_lt hl, Nat.zero_add]
    have hq : hi / 2 ^ m < 18446744073709551616 := Nat.lt_of_le_of_lt (Nat.div_le_self _ _) hh
    rw [e1, e2, Fl.hi_of_lt hq, Fl.lo_of_lt hq]
    by_cases h3 : lo = 0
    · subst h3
      rw [show decide (0 + 18446744073709551616 * (hi % 2 ^ m) ≠ 0) = decide (hi % 2 ^ m ≠ 0) by rw [decide_eq_decide]; omega]
      exact wdrop_E0 hi _ m hh h0 hm (by omega) w
    · rw [decide_eq_true (show lo + 18446744073709551616 * (hi % 2 ^ m) ≠ 0 by omega)]
      exact wdrop_E1 hi lo _ m hh h0 (by omega) hm (by omega) w
  · have hp : 2 ^ 128 ≤ 2 ^ n := Nat.pow_le_pow_right (by decide) h2
    have e0 : hi * 18446744073709551616 + lo < 2 ^ n := by omega
    rw [Nat.div_eq_of_lt e0, Nat.mod_eq_of_lt e0, decide_eq_true (by omega)]
    exact wdrop_F hi lo n h0 h2 h1 w

set_option maxHeartbeats 1000000 in
set_option maxRecDepth 100000 in
/-- wide.Shr -/
theorem wshr_any (hi lo : Nat) (n : Int) (hh : hi < 18446744073709551616) (hl : lo < 18446744073709551616) (h0 : 0 ≤ n) (h1 : n ≤ 1000000000000) (w : World) :
    Calls Try.prog 106 #[.agg #[.int .u64 (hi : Int), .int .u64 (lo : Int)], .int .i64 n] w fun e w' =>
      e = .returned (.tuple #[.agg #[.int .u64 ((Fl.hi ((hi * 18446744073709551616 + lo) / 2 ^ n.toNat) : Nat) : Int), .int .u64 ((Fl.lo ((hi * 18446744073709551616 + lo) / 2 ^ n.toNat) : Nat) : Int)], .bool (decide ((hi * 18446744073709551616 + lo) % 2 ^ n.toNat ≠ 0))]) ∧ Below w.heap.size w w' := by
  obtain ⟨K, rfl⟩ := Int.eq_ofNat_of_zero_le h0
  rw [Int.toNat_natCast]
  have hd := wdrop_any hi lo K hh hl (by omega)
  generalize Fl.hi ((hi * 18446744073709551616 + lo) / 2 ^ K) = RH at *
  generalize Fl.lo ((hi * 18446744073709551616 + lo) / 2 ^ K) = RL at *
  generalize decide ((hi * 18446744073709551616 + lo) % 2 ^ K ≠ 0) = D at *
  go_enter Try.func106, Try.ntmps106
  go_wp2_with fail
  refine (hd _).mono ?_
  rintro e w1 ⟨rfl, hb⟩
  have B1 : Blk w1 (w.heap.size + 1) 51 #[.int .u64 0, .int .u64 0] := (Blk.new' _ _ _ (by simp)).belowS hb
  have hz : w.heap.size + 1 < w1.heap.size := B1.lt
  have L1 := Below.trans (((Below.refl w.heap.size w).alloc (Nat.le_refl _) _).alloc (by simp) _) (hb.mono (by simp; omega))
  go_wp2_with fail
  refine (wlow_any _ _ _ _).mono ?_
  rintro e w2 ⟨rfl, hb2⟩
  have B2 : Blk w2 (w.heap.size + 1) 51 #[.int .u64 0, .int .u64 0] := (B1.alloc _).belowS hb2
  have L2 := Below.trans (L1.alloc (by omega) _) (hb2.mono (by simp; omega))
  have c0 := B2.cell 0 rfl
  have c1 := B2.cell 1 rfl
  have f0 := B2.frozen 0
  have f1 := B2.frozen 1
  clear hb hb2 B1 hd hz h0 h1
  go_wp2
  refine bodyPost_ret (v := .tuple #[.agg #[.int .u64 (RH : Int), .int .u64 (RL : Int)], .bool D]) (by simp [results, Try.results106, go_sem, c0, c1]) rfl ⟨rfl, ?_⟩
  exact (L2.setCell (by simp) _).setCell (by simp) _
end Go.Proofs.Ytaplggheadahhaa
