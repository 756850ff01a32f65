/- The references of chapter 5: the kinds of a number. -/
import Derived.Test.YtaplggheadahhaaRI
import Derived.Test.YtaplggheadahhaaTB
import Derived.Test.YtaplggheadahhaaNA
namespace Go.Proofs.Ytaplggheadahhaa.R
open Go.RowKit Go.Proofs.YtaplggheadahhaaW.PrintWords
set_option linter.unusedVariables false
set_option linter.unusedSimpArgs false

theorem kdb (x n : Nat) : (((Fl.kd x : Nat) : Int) == (n : Int)) = decide (Fl.kd x = n) := by
  by_cases h : Fl.kd x = n
  · rw [decide_eq_true h, h]; simp
  · rw [decide_eq_false h]; simp; omega
theorem none5_ev (x : Nat) : Ev fun k => tabardref5_none.f k (x : Int) = some (decide (Fl.kd x = 4)) :=
  (kind_ev x).imp fun k h => by unfold tabardref5_none.f; rw [h]; simp only [Option.bind_some]; exact congrArg some (kdb x 4)
theorem inf5_ev (x : Nat) : Ev fun k => tabardref5_endless.f k (x : Int) = some (decide (Fl.kd x = 3)) :=
  (kind_ev x).imp fun k h => by unfold tabardref5_endless.f; rw [h]; simp only [Option.bind_some]; exact congrArg some (kdb x 3)
theorem zero5_ev (x : Nat) : Ev fun k => tabardref5_zero.f k (x : Int) = some (decide (Fl.kd x = 0)) :=
  (kind_ev x).imp fun k h => by unfold tabardref5_zero.f; rw [h]; simp only [Option.bind_some]; exact congrArg some (kdb x 0)
theorem with5_eq (n : Bool) (x : Nat) (hx : x < 9223372036854775808) : tabardref5_with.f n (x : Int) = some ((Fl.pk n x : Nat) : Int) := by
  unfold tabardref5_with.f
  cases n
  · rfl
  · rw [if_pos rfl, u64 (by omega) (by omega)]; rfl
theorem len_pos (n : Nat) : (decide (((lst n).length : Int) > 0)) = decide (n ≠ 0) := by
  by_cases h : n = 0
  · subst h; rw [lst_zero]; rfl
  · rw [lst_pos h, decide_eq_true h]; simp only [List.length_cons]; exact decide_eq_true (by omega)

theorem len2c {n : Nat} (h : n < 18446744073709551616) : (lst n).length ≤ 2 := length_lst (m := 2) (Nat.lt_of_lt_of_le h (by decide))
end Go.Proofs.Ytaplggheadahhaa.R
