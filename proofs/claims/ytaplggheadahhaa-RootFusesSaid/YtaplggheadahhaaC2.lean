/- The walks of arith.kind and of the two tables. -/
import Derived.Test.YtaplggheadahhaaA2
import Derived.Test.YtaplggheadahhaaB0
import Derived.Deep.QuietTactic
import Derived.BigQuiet
namespace Go.Proofs.Ytaplggheadahhaa
open Go.RowKit
set_option linter.unusedVariables false
set_option linter.unusedSimpArgs false

/-- the finite kinds taken for one -/
def Fl.kc (k : Nat) : Nat := if k = 0 then 0 else if k = 1 then 1 else if k = 2 then 1 else if k = 3 then 2 else 3
theorem Fl.kc_lt (k : Nat) : Fl.kc k ≤ 3 := by unfold Fl.kc; (repeat' split) <;> omega

set_option maxHeartbeats 1000000 in
theorem akind_any (x : Nat) (hx : x < 18446744073709551616) (w : World) :
    Calls Try.prog 105 #[.int .u64 (x : Int)] w fun e w' => e = .returned (.int .i64 ((Fl.kc (Fl.kd x) : Nat) : Int)) ∧ w' = w := by
  have i0 : ∀ w, (Instr.index 115 (.agg #[.int .i64 0, .int .i64 1, .int .i64 1, .int .i64 2, .int .i64 3]) (.int .i64 0)).run Try.prog w = .ok (.int .i64 0) w := fun _ => by kernel_rfl
  have i1 : ∀ w, (Instr.index 115 (.agg #[.int .i64 0, .int .i64 1, .int .i64 1, .int .i64 2, .int .i64 3]) (.int .i64 1)).run Try.prog w = .ok (.int .i64 1) w := fun _ => by kernel_rfl
  have i2 : ∀ w, (Instr.index 115 (.agg #[.int .i64 0, .int .i64 1, .int .i64 1, .int .i64 2, .int .i64 3]) (.int .i64 2)).run Try.prog w = .ok (.int .i64 1) w := fun _ => by kernel_rfl
  have i3 : ∀ w, (Instr.index 115 (.agg #[.int .i64 0, .int .i64 1, .int .i64 1, .int .i64 2, .int .i64 3]) (.int .i64 3)).run Try.prog w = .ok (.int .i64 2) w := fun _ => by kernel_rfl
  have i4 : ∀ w, (Instr.index 115 (.agg #[.int .i64 0, .int .i64 1, .int .i64 1, .int .i64 2, .int .i64 3]) (.int .i64 4)).run Try.prog w = .ok (.int .i64 3) w := fun _ => by kernel_rfl
  have hK := kind_any x hx
  have hl := Fl.kd_le x
  generalize Fl.kd x = K at *
  have hc : K = 0 ∨ K = 1 ∨ K = 2 ∨ K = 3 ∨ K = 4 := by omega
  clear hl
  rcases hc with rfl | rfl | rfl | rfl | rfl
  all_goals
    go_enter Try.func105, Try.ntmps105
    go_wp2_with (go_at_call 58; refine (hK _).mono ?_; rintro e w' ⟨rfl, rfl⟩)
    go_ret
    exact ⟨rfl, rfl⟩

def Fl.addT (i j : Nat) : Nat := ([4, 0, 3, 1, 0, 0, 3, 1, 2, 2, 4, 1, 1, 1, 1, 1] : List Nat).getD (i * 4 + j) 0
def Fl.mulT (i j : Nat) : Nat := ([6, 6, 1, 1, 6, 0, 5, 1, 1, 5, 5, 1, 1, 1, 1, 1] : List Nat).getD (i * 4 + j) 0

theorem adds_tab (i j : Nat) (hi : i ≤ 3) (hj : j ≤ 3) : (#[.int .i64 4, .int .i64 0, .int .i64 3, .int .i64 1, .int .i64 0, .int .i64 0, .int .i64 3, .int .i64 1, .int .i64 2, .int .i64 2, .int .i64 4, .int .i64 1, .int .i64 1, .int .i64 1, .int .i64 1, .int .i64 1] : Array Value)[i * 4 + j]? = some (.int .i64 ((Fl.addT i j : Nat) : Int)) := by
  have hci : i = 0 ∨ i = 1 ∨ i = 2 ∨ i = 3 := by omega
  have hcj : j = 0 ∨ j = 1 ∨ j = 2 ∨ j = 3 := by omega
  rcases hci with rfl | rfl | rfl | rfl <;> rcases hcj with rfl | rfl | rfl | rfl <;> rfl

set_option maxHeartbeats 4000000 in
set_option maxRecDepth 100000 in
theorem adds_core (a b i j : Nat) (hi : i ≤ 3) (hj : j ≤ 3)
    (ha : ∀ w, Calls Try.prog 105 #[.int .u64 (a : Int)] w fun e w' => e = .returned (.int .i64 (i : Int)) ∧ w' = w)
    (hb : ∀ w, Calls Try.prog 105 #[.int .u64 (b : Int)] w fun e w' => e = .returned (.int .i64 (j : Int)) ∧ w' = w) (w : World) :
    Calls Try.prog 57 #[.int .u64 (a : Int), .int .u64 (b : Int)] w fun e w' => e = .returned (.int .i64 ((Fl.addT i j : Nat) : Int)) ∧ Below w.heap.size w w' := by
  have hc := (Blk.new w 89 #[.int .i64 4, .int .i64 0, .int .i64 3, .int .i64 1, .int .i64 0, .int .i64 0, .int .i64 3, .int .i64 1, .int .i64 2, .int .i64 2, .int .i64 4, .int .i64 1, .int .i64 1, .int .i64 1, .int .i64 1, .int .i64 1]).cell (i * 4 + j) (adds_tab i j hi hj)
  have h0 : (0 : Int) ≤ (i : Int) := by omega
  have h1 : (i : Int) < 4 := by omega
  have h2 : (0 : Int) ≤ (j : Int) := by omega
  have h3 : (j : Int) < 4 := by omega
  generalize Fl.addT i j = R at *
  go_enter Try.func57, Try.ntmps57
  go_wp2
  go_quiet ((first | (go_at_call 105; (with_reducible exact Calls.quiet_of_same (ha _))) | (go_at_call 105; (with_reducible exact Calls.quiet_of_same (hb _)))))
  go_wp2
  go_ret
  exact ⟨rfl, by repeat (first | exact Below.refl _ _ | refine Below.setCell ?_ (by simp) _ | refine below_drewN ?_ _ | refine Below.drew ?_ | refine Below.alloc ?_ (by simp; try omega) _)⟩

theorem muls_tab (i j : Nat) (hi : i ≤ 3) (hj : j ≤ 3) : (#[.int .i64 6, .int .i64 6, .int .i64 1, .int .i64 1, .int .i64 6, .int .i64 0, .int .i64 5, .int .i64 1, .int .i64 1, .int .i64 5, .int .i64 5, .int .i64 1, .int .i64 1, .int .i64 1, .int .i64 1, .int .i64 1] : Array Value)[i * 4 + j]? = some (.int .i64 ((Fl.mulT i j : Nat) : Int)) := by
  have hci : i = 0 ∨ i = 1 ∨ i = 2 ∨ i = 3 := by omega
  have hcj : j = 0 ∨ j = 1 ∨ j = 2 ∨ j = 3 := by omega
  rcases hci with rfl | rfl | rfl | rfl <;> rcases hcj with rfl | rfl | rfl | rfl <;> rfl

set_option maxHeartbeats 4000000 in
set_option maxRecDepth 100000 in
theorem muls_core (a b i j : Nat) (hi : i ≤ 3) (hj : j ≤ 3)
    (ha : ∀ w, Calls Try.prog 105 #[.int .u64 (a : Int)] w fun e w' => e = .returned (.int .i64 (i : Int)) ∧ w' = w)
    (hb : ∀ w, Calls Try.prog 105 #[.int .u64 (b : Int)] w fun e w' => e = .returned (.int .i64 (j : Int)) ∧ w' = w) (w : World) :
    Calls Try.prog 60 #[.int .u64 (a : Int), .int .u64 (b : Int)] w fun e w' => e = .returned (.int .i64 ((Fl.mulT i j : Nat) : Int)) ∧ Below w.heap.size w w' := by
  have hc := (Blk.new w 89 #[.int .i64 6, .int .i64 6, .int .i64 1, .int .i64 1, .int .i64 6, .int .i64 0, .int .i64 5, .int .i64 1, .int .i64 1, .int .i64 5, .int .i64 5, .int .i64 1, .int .i64 1, .int .i64 1, .int .i64 1, .int .i64 1]).cell (i * 4 + j) (muls_tab i j hi hj)
  have h0 : (0 : Int) ≤ (i : Int) := by omega
  have h1 : (i : Int) < 4 := by omega
  have h2 : (0 : Int) ≤ (j : Int) := by omega
  have h3 : (j : Int) < 4 := by omega
  generalize Fl.mulT i j = R at *
  go_enter Try.func60, Try.ntmps60
  go_wp2
  go_quiet ((first | (go_at_call 105; (with_reducible exact Calls.quiet_of_same (ha _))) | (go_at_call 105; (with_reducible exact Calls.quiet_of_same (hb _)))))
  go_wp2
  go_ret
  exact ⟨rfl, by repeat (first | exact Below.refl _ _ | refine Below.setCell ?_ (by simp) _ | refine below_drewN ?_ _ | refine Below.drew ?_ | refine Below.alloc ?_ (by simp; try omega) _)⟩

theorem adds_any (a b : Nat) (ha : a < 18446744073709551616) (hb : b < 18446744073709551616) (w : World) :
    Calls Try.prog 57 #[.int .u64 (a : Int), .int .u64 (b : Int)] w fun e w' => e = .returned (.int .i64 ((Fl.addT (Fl.kc (Fl.kd a)) (Fl.kc (Fl.kd b)) : Nat) : Int)) ∧ Below w.heap.size w w' :=
  adds_core a b _ _ (Fl.kc_lt _) (Fl.kc_lt _) (akind_any a ha) (akind_any b hb) w
theorem muls_any (a b : Nat) (ha : a < 18446744073709551616) (hb : b < 18446744073709551616) (w : World) :
    Calls Try.prog 60 #[.int .u64 (a : Int), .int .u64 (b : Int)] w fun e w' => e = .returned (.int .i64 ((Fl.mulT (Fl.kc (Fl.kd a)) (Fl.kc (Fl.kd b)) : Nat) : Int)) ∧ Below w.heap.size w w' :=
  muls_core a b _ _ (Fl.kc_lt _) (Fl.kc_lt _) (akind_any a ha) (akind_any b hb) w
end Go.Proofs.Ytaplggheadahhaa
