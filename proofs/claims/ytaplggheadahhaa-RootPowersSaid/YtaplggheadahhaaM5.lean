/- The walk of the law RootPowers. -/
import Derived.Test.YtaplggheadahhaaKB
import Derived.Test.YtaplggheadahhaaTH
namespace Go.Proofs.Ytaplggheadahhaa
open Go.RowKit Go.Proofs.YtaplggheadahhaaW.PrintWords
set_option linter.unusedVariables false
set_option linter.unusedSimpArgs false

theorem r5Power_any (a : Nat) (n : Int) (ha : a < 18446744073709551616) (hn : -9223372036854775808 ≤ n ∧ n ≤ 9223372036854775807) (w : World) :
    Calls Try.prog 54 #[.int .u64 (a : Int), .int .i64 n] w fun e w' => e = .returned (.int .u64 ((Fl.powN a n : Nat) : Int)) ∧ Below w.heap.size w w' := by
  obtain ⟨k, h⟩ := (R.pow5_ev a n ha hn.1 hn.2).get
  exact R.tabardref5_Power.calls k _ _ _ w h
set_option maxHeartbeats 1000000 in
set_option maxRecDepth 100000 in
theorem rpowers_core (a : Nat) (n : Int) (r : Nat)
    (c1 : ∀ w, Calls Try.prog 53 #[.int .u64 (a : Int), .int .i64 n] w fun e w' => e = .returned (.int .u64 (r : Int)) ∧ Below w.heap.size w w')
    (c2 : ∀ w, Calls Try.prog 54 #[.int .u64 (a : Int), .int .i64 n] w fun e w' => e = .returned (.int .u64 (r : Int)) ∧ Below w.heap.size w w')
    (w : World) : Calls Try.prog 15 #[.int .u64 (a : Int), .int .i64 n] w fun e w' => e = .returned (.bool true) ∧ Below w.heap.size w w' := by
  go_enter Try.func15, Try.ntmps15
  go_wp2_with fail
  refine (shown5 _).mono ?_
  rintro e w1 ⟨rfl, hb⟩
  have L := hb
  clear hb
  go_wp2_with fail
  refine (c1 _).mono ?_
  rintro e w2 ⟨rfl, hb⟩
  replace L := L.trans (hb.mono L.size)
  clear hb
  go_wp2_with fail
  refine (c2 _).mono ?_
  rintro e w3 ⟨rfl, hb⟩
  replace L := L.trans (hb.mono L.size)
  clear hb
  go_wp2
  go_ret
  exact ⟨rfl, L⟩
theorem rpowers_walk (a : Nat) (n : Int) (ha : a < 18446744073709551616) (hn : -9223372036854775808 ≤ n ∧ n ≤ 9223372036854775807) (w : World) :
    Calls Try.prog 15 #[.int .u64 (a : Int), .int .i64 n] w fun e w' => e = .returned (.bool true) ∧ Below w.heap.size w w' :=
  rpowers_core a n _ (fun w => pow_any a n ha hn.1 hn.2 w) (fun w => r5Power_any a n ha hn w) w
end Go.Proofs.Ytaplggheadahhaa
