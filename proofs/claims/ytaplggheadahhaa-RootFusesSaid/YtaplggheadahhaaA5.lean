/- The walks of wide.Drop at two words, and of wide.Shr. -/
import Derived.Test.YtaplggheadahhaaA4
namespace Go.Proofs.Ytaplggheadahhaa
open Go.RowKit
set_option linter.unusedVariables false
set_option linter.unusedSimpArgs false

/-- a number of two words shifted down by less than a word -/
theorem shr_words {hi lo n j : Nat} (hh : hi < 18446744073709551616) (hl : lo < 18446744073709551616) (hk : n + j = 64) :
    hi / 2 ^ n = Fl.hi ((hi * 18446744073709551616 + lo) / 2 ^ n) ∧ hi * 2 ^ j % 18446744073709551616 + lo / 2 ^ n = Fl.lo ((hi * 18446744073709551616 + lo) / 2 ^ n) ∧
    (hi * 2 ^ j % 18446744073709551616) % 2 ^ j = 0 ∧ lo / 2 ^ n < 2 ^ j ∧ ((hi * 18446744073709551616 + lo) % 2 ^ n) = lo % 2 ^ n := by
  have hp : 2 ^ n * 2 ^ j = 18446744073709551616 := by rw [← Nat.pow_add, hk]
  have hkp : 0 < 2 ^ n := Nat.pow_pos (by decide)
  have hjp : 0 < 2 ^ j := Nat.pow_pos (by decide)
  unfold Fl.hi Fl.lo
  generalize 2 ^ n = A at *
  generalize 2 ^ j = B at *
  have e1 : (hi * 18446744073709551616 + lo) / A = hi * B + lo / A := by
    rw [← hp, Nat.mul_left_comm, Nat.mul_comm A, Nat.add_comm, Nat.mul_comm (hi * B), Nat.add_mul_div_left _ _ hkp, Nat.add_comm]
  have e2 : (hi * 18446744073709551616 + lo) % A = lo % A := by
    rw [← hp, Nat.mul_left_comm, Nat.mul_comm A, Nat.add_comm, Nat.mul_comm (hi * B), Nat.add_mul_mod_self_left]
  have h3 : lo / A < B := Nat.div_lt_of_lt_mul (by omega)
  have e4 : hi * B % 18446744073709551616 = hi % A * B := by rw [← hp, Nat.mul_mod_mul_right]
  have h4 : hi % A < A := Nat.mod_lt _ hkp
  have h5 : hi % A * B + B ≤ A * B := by rw [← Nat.succ_mul]; exact Nat.mul_le_mul_right _ h4
  have e6 : hi * B = hi / A * 18446744073709551616 + hi % A * B := by
    rw [← hp, ← Nat.mul_assoc, ← Nat.add_mul, Nat.mul_comm (hi / A), Nat.div_add_mod]
  have h7 : hi / A < 18446744073709551616 := Nat.lt_of_le_of_lt (Nat.div_le_self _ _) hh
  have e8 : (hi * B % 18446744073709551616) % B = 0 := by rw [e4, Nat.mul_mod_left]
  refine ⟨?_, ?_, e8, h3, e2⟩
  · rw [e1, e6]; clear e1 e2 e4 e6 e8; generalize hi % A * B = Y at *; generalize lo / A = F at *; generalize hi / A = G at *; omega
  · rw [e1, e4, e6]; clear e1 e2 e4 e6 e8; generalize hi % A * B = Y at *; generalize lo / A = F at *; generalize hi / A = G at *; omega

theorem or_zero' (b : Nat) (h : b < 18446744073709551616) : Go.bits .or .u64 (b : Int) 0 = (b : Int) := by
  have := u64_or_nat b 0 h (by omega)
  rw [Nat.or_zero] at this; exact this
theorem or_zero0 : Go.bits .or .u64 0 0 = 0 := by decide
theorem wrap_pow {n : Nat} (h : n < 64) : IntKind.u64.wrap (2 ^ n) = ((2 ^ n : Nat) : Int) := by
  have h1 : 2 ^ n < 2 ^ 64 := Nat.pow_lt_pow_right (by decide) h
  rw [pow64] at h1
  have := wrap_u64_nat (2 ^ n)
  rw [Nat.mod_eq_of_lt h1] at this
  rw [← this]; simp
theorem wrap_pow1 {n : Nat} (h : n < 64) : IntKind.u64.wrap (((2 ^ n : Nat) : Int) - 1) = ((2 ^ n - 1 : Nat) : Int) := by
  have h1 : 2 ^ n < 2 ^ 64 := Nat.pow_lt_pow_right (by decide) h
  have h0 : 0 < 2 ^ n := Nat.pow_pos (by decide)
  rw [pow64] at h1
  have := wrap_u64_nat (2 ^ n - 1)
  rw [Nat.mod_eq_of_lt (by omega)] at this
  rw [← this]; congr 1; omega
theorem and_pow {x n : Nat} (hx : x < 18446744073709551616) (h : n < 64) : Go.bits .and .u64 (x : Int) ((2 ^ n - 1 : Nat) : Int) = ((x % 2 ^ n : Nat) : Int) := by
  have h1 : 2 ^ n < 2 ^ 64 := Nat.pow_lt_pow_right (by decide) h
  rw [pow64] at h1
  rw [u64_and_nat x (2 ^ n - 1) hx (by omega), Nat.and_two_pow_sub_one_eq_mod]
theorem dec_pos (x : Nat) : decide (0 < x) = decide (x ≠ 0) := by rw [Bool.eq_iff_iff]; simp; omega

/-- the state behind a shift down: less than a word -/
structure ShrF (hi lo n j : Nat) (M1 M2 L P Q A B RH RL : Nat) (D : Bool) : Prop where
  ep : IntKind.u64.wrap (2 ^ n) = (P : Int)
  ep1 : IntKind.u64.wrap ((P : Int) - 1) = (Q : Int)
  ea : Go.bits .and .u64 (lo : Int) (Q : Int) = (L : Int)
  ed : decide (0 < L) = D
  e1 : (hi : Int) / 2 ^ n = (RH : Int)
  e2 : Go.bits .or .u64 (RH : Int) (IntKind.u64.wrap 0) = (RH : Int)
  e3 : (lo : Int) / 2 ^ n = (B : Int)
  e4 : IntKind.u64.wrap ((hi : Int) * 2 ^ j) = (A : Int)
  e5 : Go.bits .or .u64 (B : Int) (A : Int) = (RL : Int)
  ej : IntKind.i64.wrap (64 - (n : Int)) = (j : Int)
  hj : j ≤ 64
  m1 : M1 = M1
  m2 : M2 = M2

theorem or_comm' (a b : Nat) (ha : a < 18446744073709551616) (hb : b < 18446744073709551616) : Go.bits .or .u64 (a : Int) (b : Int) = Go.bits .or .u64 (b : Int) (a : Int) := by
  rw [u64_or_nat a b ha hb, u64_or_nat b a hb ha, Nat.or_comm]

theorem shrF {hi lo n : Nat} (hh : hi < 18446744073709551616) (hl : lo < 18446744073709551616) (h1 : n < 64) :
    ∃ j L P Q A B, ShrF hi lo n j 0 0 L P Q A B (Fl.hi ((hi * 18446744073709551616 + lo) / 2 ^ n)) (Fl.lo ((hi * 18446744073709551616 + lo) / 2 ^ n)) (decide ((hi * 18446744073709551616 + lo) % 2 ^ n ≠ 0)) := by
  obtain ⟨j, hj⟩ : ∃ j, n + j = 64 := ⟨64 - n, by omega⟩
  obtain ⟨s1, s2, s3, s4, s5⟩ := shr_words hh hl hj
  have hq : lo / 2 ^ n < 18446744073709551616 := Nat.lt_of_le_of_lt (Nat.div_le_self _ _) hl
  have hm : hi * 2 ^ j % 18446744073709551616 < 18446744073709551616 := Nat.mod_lt _ (by decide)
  refine ⟨j, lo % 2 ^ n, 2 ^ n, 2 ^ n - 1, hi * 2 ^ j % 18446744073709551616, lo / 2 ^ n, wrap_pow h1, wrap_pow1 h1, and_pow hl h1, ?_, ?_, or_zero' _ (Fl.hi_lt _), div_pow _ _, wrap_shl _ _, ?_, ?_, by omega, rfl, rfl⟩
  · rw [s5]; exact dec_pos _
  · rw [← s1]; exact div_pow _ _
  · rw [or_comm' _ _ hq hm, or_words hm (by omega) s3 s4, s2]
  · rw [IntWalk.i64_in _ (by omega)]; omega

set_option maxHeartbeats 1000000 in
set_option maxRecDepth 100000 in
/-- less than a word, the number not 0 -/
theorem wdrop_B (hi lo n : Nat) (hh : hi < 18446744073709551616) (hl : lo < 18446744073709551616) (h1 : n < 64) (h0 : hi ≠ 0 ∨ (hi = 0 ∧ lo ≠ 0)) (w : World) :
    Calls Try.prog 138 #[.agg #[.int .u64 0, .int .u64 (hi : Int), .int .u64 (lo : Int)], .int .i64 (n : Int)] w fun e w' =>
      e = .returned (.tuple #[.agg #[.int .u64 0, .int .u64 ((Fl.hi ((hi * 18446744073709551616 + lo) / 2 ^ n) : Nat) : Int), .int .u64 ((Fl.lo ((hi * 18446744073709551616 + lo) / 2 ^ n) : Nat) : Int)], .bool (decide ((hi * 18446744073709551616 + lo) % 2 ^ n ≠ 0))]) ∧ Below w.heap.size w w' := by
  obtain ⟨j, L, P, Q, A, B, ep, ep1, ea, ed, e1, e2, e3, e4, e5, ej, hj, _, _⟩ := shrF hh hl h1
  generalize Fl.hi ((hi * 18446744073709551616 + lo) / 2 ^ n) = RH at *
  generalize Fl.lo ((hi * 18446744073709551616 + lo) / 2 ^ n) = RL at *
  generalize (decide ((hi * 18446744073709551616 + lo) % 2 ^ n ≠ 0)) = D at *
  rcases h0 with h0 | ⟨rfl, h0⟩
  · have e0 : ((hi : Int) == 0) = false := by simp; omega
    clear h0
    go_enter Try.func138, Try.ntmps138
    go_wp2
    refine wp_loop_rounds 1 ?_
    rw [rounds_succ]
    go_wp2
    go_region_held3 (fun w' => w'.cell? ⟨w.heap.size, 0, none⟩ = some (.int .u64 0) ∧ w'.cell? ⟨w.heap.size, 1, none⟩ = some (.int .u64 hi) ∧ w'.cell? ⟨w.heap.size, 2, none⟩ = some (.int .u64 lo)) (simp [go_sem, World.cell?_alloc_past]) (fail)
    go_wp2
    go_region_held3 (fun w' => w'.cell? ⟨w.heap.size, 0, none⟩ = some (.int .u64 0) ∧ w'.cell? ⟨w.heap.size, 1, none⟩ = some (.int .u64 hi) ∧ w'.cell? ⟨w.heap.size, 2, none⟩ = some (.int .u64 lo)) (simp [go_sem, World.cell?_alloc_past]) (fail)
    go_wp2
    refine bodyPost_ret (v := .tuple #[.agg #[.int .u64 0, .int .u64 (RH : Int), .int .u64 (RL : Int)], .bool D]) (by simp [results, Try.results138, go_sem]) rfl ⟨rfl, ?_⟩
    exact ((((Below.refl _ _).alloc (Nat.le_refl _) _).alloc (by simp) _).drew).drew
  · have e0 : ((lo : Int) == 0) = false := by simp; omega
    have z0 : IntKind.u64.wrap 0 = 0 := wrap_u64_nat 0
    have z1 := or_zero0
    obtain rfl : RH = 0 := by simpa using e1.symm
    obtain rfl : A = 0 := by
      rw [show ((0 : Nat) : Int) * 2 ^ j = 0 by simp, z0] at e4
      omega
    have e6 : Go.bits .or .u64 (B : Int) 0 = (RL : Int) := e5
    clear h0 e4 e1 e2 e5
    go_enter Try.func138, Try.ntmps138
    go_wp2
    refine wp_loop_rounds 1 ?_
    rw [rounds_succ]
    go_wp2
    go_region_held3 (fun w' => w'.cell? ⟨w.heap.size, 0, none⟩ = some (.int .u64 0) ∧ w'.cell? ⟨w.heap.size, 1, none⟩ = some (.int .u64 0) ∧ w'.cell? ⟨w.heap.size, 2, none⟩ = some (.int .u64 lo)) (simp [go_sem, World.cell?_alloc_past]) (fail)
    go_wp2
    go_region_held3 (fun w' => w'.cell? ⟨w.heap.size, 0, none⟩ = some (.int .u64 0) ∧ w'.cell? ⟨w.heap.size, 1, none⟩ = some (.int .u64 0) ∧ w'.cell? ⟨w.heap.size, 2, none⟩ = some (.int .u64 lo)) (simp [go_sem, World.cell?_alloc_past]) (fail)
    go_wp2
    refine bodyPost_ret (v := .tuple #[.agg #[.int .u64 0, .int .u64 0, .int .u64 (RL : Int)], .bool D]) (by simp [results, Try.results138, go_sem]) rfl ⟨rfl, ?_⟩
    exact ((((Below.refl _ _).alloc (Nat.le_refl _) _).alloc (by simp) _).drew).drew

set_option maxHeartbeats 1000000 in
set_option maxRecDepth 100000 in
/-- the number 0 -/
theorem wdrop_0 (n : Nat) (h1 : n ≤ 1000000000000) (w : World) :
    Calls Try.prog 138 #[.agg #[.int .u64 0, .int .u64 0, .int .u64 0], .int .i64 (n : Int)] w fun e w' =>
      e = .returned (.tuple #[.agg #[.int .u64 0, .int .u64 0, .int .u64 0], .bool false]) ∧ Below w.heap.size w w' := by
  rcases Nat.lt_or_ge n 64 with h | h
  · go_enter Try.func138, Try.ntmps138
    go_wp2
    refine wp_loop_rounds 1 ?_
    rw [rounds_succ]
    go_wp2
    refine bodyPost_ret (v := .tuple #[.agg #[.int .u64 0, .int .u64 0, .int .u64 0], .bool false]) (by simp [results, Try.results138, go_sem]) rfl ⟨rfl, ?_⟩
    exact ((Below.refl _ _).alloc (Nat.le_refl _) _).alloc (by simp) _
  · go_enter Try.func138, Try.ntmps138
    go_wp2
    refine wp_loop_rounds 1 ?_
    rw [rounds_succ]
    go_wp2
    refine bodyPost_ret (v := .tuple #[.agg #[.int .u64 0, .int .u64 0, .int .u64 0], .bool false]) (by simp [results, Try.results138, go_sem]) rfl ⟨rfl, ?_⟩
    exact ((Below.refl _ _).alloc (Nat.le_refl _) _).alloc (by simp) _

set_option maxHeartbeats 1000000 in
set_option maxRecDepth 100000 in
/-- one word alone, and all of it dropped -/
theorem wdrop_D (lo n : Nat) (h0 : lo ≠ 0) (h : 64 ≤ n) (h1 : n ≤ 1000000000000) (w : World) :
    Calls Try.prog 138 #[.agg #[.int .u64 0, .int .u64 0, .int .u64 (lo : Int)], .int .i64 (n : Int)] w fun e w' =>
      e = .returned (.tuple #[.agg #[.int .u64 0, .int .u64 0, .int .u64 0], .bool true]) ∧ Below w.heap.size w w' := by
  have e0 : ((lo : Int) == 0) = false := by simp; omega
  have e1 : 0 < lo := by omega
  clear h0
  go_enter Try.func138, Try.ntmps138
  go_wp2
  refine wp_loop_rounds 2 ?_
  rw [rounds_succ]
  go_wp2
  rw [rounds_succ]
  by_cases h2 : 128 ≤ n
  · go_wp2
    refine bodyPost_ret (v := .tuple #[.agg #[.int .u64 0, .int .u64 0, .int .u64 0], .bool true]) (by simp [results, Try.results138, go_sem]) rfl ⟨rfl, ?_⟩
    exact ((Below.refl _ _).alloc (Nat.le_refl _) _).alloc (by simp) _
  · go_wp2
    refine bodyPost_ret (v := .tuple #[.agg #[.int .u64 0, .int .u64 0, .int .u64 0], .bool true]) (by simp [results, Try.results138, go_sem]) rfl ⟨rfl, ?_⟩
    exact ((Below.refl _ _).alloc (Nat.le_refl _) _).alloc (by simp) _
end Go.Proofs.Ytaplggheadahhaa
