/- The walks of wide.Drop at two words, a word and more dropped; wide.Shr. -/
import Derived.Test.YtaplggheadahhaaA5
import Derived.Deep.QuietTactic
import Derived.BigQuiet
namespace Go.Proofs.Ytaplggheadahhaa
open Go.RowKit
set_option linter.unusedVariables false
set_option linter.unusedSimpArgs false

set_option maxHeartbeats 2000000 in
set_option maxRecDepth 100000 in
/-- two words and more dropped -/
theorem wdrop_F (hi lo n : Nat) (h0 : hi ≠ 0) (h : 128 ≤ n) (h1 : n ≤ 1000000000000) (w : World) :
    Calls Try.prog 138 #[.agg #[.int .u64 0, .int .u64 (hi : Int), .int .u64 (lo : Int)], .int .i64 (n : Int)] w fun e w' =>
      e = .returned (.tuple #[.agg #[.int .u64 0, .int .u64 0, .int .u64 0], .bool true]) ∧ Below w.heap.size w w' := by
  have e0 : ((hi : Int) == 0) = false := by simp; omega
  have e1 : 0 < hi := by omega
  clear h0
  rcases Nat.eq_zero_or_pos lo with rfl | h2
  · go_enter Try.func138, Try.ntmps138
    go_wp2
    refine wp_loop_rounds 3 ?_
    rw [rounds_succ]
    go_wp2
    rw [rounds_succ]
    go_wp2
    rw [rounds_succ]
    by_cases h3 : 192 ≤ n
    · go_wp2
      refine bodyPost_ret (v := .tuple #[.agg #[.int .u64 0, .int .u64 0, .int .u64 0], .bool true]) (by simp [results, Try.results138, go_sem]) rfl ⟨rfl, ?_⟩
      exact ((Below.refl _ _).alloc (Nat.le_refl _) _).alloc (by simp) _
    · go_wp2
      refine bodyPost_ret (v := .tuple #[.agg #[.int .u64 0, .int .u64 0, .int .u64 0], .bool true]) (by simp [results, Try.results138, go_sem]) rfl ⟨rfl, ?_⟩
      exact ((Below.refl _ _).alloc (Nat.le_refl _) _).alloc (by simp) _
  · go_enter Try.func138, Try.ntmps138
    go_wp2
    refine wp_loop_rounds 3 ?_
    rw [rounds_succ]
    go_wp2
    rw [rounds_succ]
    go_wp2
    rw [rounds_succ]
    by_cases h3 : 192 ≤ n
    · go_wp2
      refine bodyPost_ret (v := .tuple #[.agg #[.int .u64 0, .int .u64 0, .int .u64 0], .bool true]) (by simp [results, Try.results138, go_sem]) rfl ⟨rfl, ?_⟩
      exact ((Below.refl _ _).alloc (Nat.le_refl _) _).alloc (by simp) _
    · go_wp2
      refine bodyPost_ret (v := .tuple #[.agg #[.int .u64 0, .int .u64 0, .int .u64 0], .bool true]) (by simp [results, Try.results138, go_sem]) rfl ⟨rfl, ?_⟩
      exact ((Below.refl _ _).alloc (Nat.le_refl _) _).alloc (by simp) _

/-- what is left of the upper word alone -/
theorem shrE {hi n : Nat} (hh : hi < 18446744073709551616) (h1 : n < 64) :
    ∃ j L P Q : Nat, IntKind.u64.wrap (2 ^ n) = (P : Int) ∧ IntKind.u64.wrap ((P : Int) - 1) = (Q : Int) ∧ Go.bits .and .u64 (hi : Int) (Q : Int) = (L : Int) ∧ decide (0 < L) = decide (hi % 2 ^ n ≠ 0) ∧
      (hi : Int) / 2 ^ n = ((hi / 2 ^ n : Nat) : Int) ∧ Go.bits .or .u64 ((hi / 2 ^ n : Nat) : Int) (IntKind.u64.wrap 0) = ((hi / 2 ^ n : Nat) : Int) ∧ IntKind.i64.wrap (64 - (n : Int)) = (j : Int) ∧ j ≤ 64 := by
  have hq : hi / 2 ^ n < 18446744073709551616 := Nat.lt_of_le_of_lt (Nat.div_le_self _ _) hh
  exact ⟨64 - n, hi % 2 ^ n, 2 ^ n, 2 ^ n - 1, wrap_pow h1, wrap_pow1 h1, and_pow hh h1, dec_pos _, div_pow _ _, or_zero' _ hq, by rw [IntWalk.i64_in _ (by omega)]; omega, by omega⟩

set_option maxHeartbeats 2000000 in
set_option maxRecDepth 100000 in
/-- a word and more dropped, less than two, the lower word not 0 -/
theorem wdrop_E1 (hi lo n m : Nat) (hh : hi < 18446744073709551616) (h0 : hi ≠ 0) (hlo : 0 < lo) (hm : (n : Int) - 64 = (m : Int)) (h1 : m < 64) (w : World) :
    Calls Try.prog 138 #[.agg #[.int .u64 0, .int .u64 (hi : Int), .int .u64 (lo : Int)], .int .i64 (n : Int)] w fun e w' =>
      e = .returned (.tuple #[.agg #[.int .u64 0, .int .u64 0, .int .u64 ((hi / 2 ^ m : Nat) : Int)], .bool true]) ∧ Below w.heap.size w w' := by
  obtain ⟨j, L, P, Q, ep, ep1, ea, ed, e1, e2, ej, hj⟩ := shrE hh h1
  have e0 : ((hi : Int) == 0) = false := by simp; omega
  have z0 : IntKind.u64.wrap 0 = 0 := wrap_u64_nat 0
  have z1 := or_zero0
  rw [z0] at e2
  have h2 : 64 ≤ n := by omega
  have h3 : (n : Int) < 128 := by omega
  generalize hi / 2 ^ m = R at *
  clear h0 ep ep1 ea ed
  go_enter Try.func138, Try.ntmps138
  go_wp2
  refine wp_loop_rounds 2 ?_
  rw [rounds_succ]
  go_wp2
  rw [rounds_succ]
  go_wp2
  go_quiet (fail)
  go_wp2
  go_region_held3 (fun w' => w'.cell? ⟨w.heap.size, 0, none⟩ = some (.int .u64 0) ∧ w'.cell? ⟨w.heap.size, 1, none⟩ = some (.int .u64 0) ∧ w'.cell? ⟨w.heap.size, 2, none⟩ = some (.int .u64 hi)) (simp [go_sem, World.cell?_alloc_past]) (fail)
  go_wp2
  refine bodyPost_ret (v := .tuple #[.agg #[.int .u64 0, .int .u64 0, .int .u64 (R : Int)], .bool true]) (by simp [results, Try.results138, go_sem]) rfl ⟨rfl, ?_⟩
  repeat (first | exact Below.refl _ _ | refine Below.setCell ?_ (by simp) _ | refine below_drewN ?_ _ | refine Below.drew ?_ | refine Below.alloc ?_ (by simp) _)
end Go.Proofs.Ytaplggheadahhaa
