/- The walk of the law RootRoots. -/
import Derived.Test.YtaplggheadahhaaKB
import Derived.Test.YtaplggheadahhaaTF
namespace Go.Proofs.Ytaplggheadahhaa
open Go.RowKit Go.Proofs.YtaplggheadahhaaW.PrintWords
set_option linter.unusedVariables false
set_option linter.unusedSimpArgs false

theorem r5Sqrt_any (a : Nat) (ha : a < 18446744073709551616) (w : World) :
    Calls Try.prog 48 #[.int .u64 (a : Int)] w fun e w' => e = .returned (.int .u64 ((Fl.sqrtN a : Nat) : Int)) ∧ Below w.heap.size w w' := by
  obtain ⟨k, h⟩ := (R.sqrt5_ev a ha).get
  exact R.tabardref5_Sqrt.calls k _ _ w h
set_option maxHeartbeats 1000000 in
set_option maxRecDepth 100000 in
theorem rroots_core (a : Nat) (r : Nat)
    (c1 : ∀ w, Calls Try.prog 47 #[.int .u64 (a : Int)] w fun e w' => e = .returned (.int .u64 (r : Int)) ∧ Below w.heap.size w w')
    (c2 : ∀ w, Calls Try.prog 48 #[.int .u64 (a : Int)] w fun e w' => e = .returned (.int .u64 (r : Int)) ∧ Below w.heap.size w w')
    (w : World) : Calls Try.prog 12 #[.int .u64 (a : Int)] w fun e w' => e = .returned (.bool true) ∧ Below w.heap.size w w' := by
  go_enter Try.func12, Try.ntmps12
  go_wp2_with fail
  refine (shown5 _).mono ?_
  rintro e w1 ⟨rfl, hb⟩
  have L := hb
  clear hb
  go_wp2_with fail
  refine (c1 _).mono ?_
  rintro e w2 ⟨rfl, hb⟩
  replace L := L.trans (hb.mono L.size)
  clear hb
  go_wp2_with fail
  refine (c2 _).mono ?_
  rintro e w3 ⟨rfl, hb⟩
  replace L := L.trans (hb.mono L.size)
  clear hb
  go_wp2
  go_ret
  exact ⟨rfl, L⟩
theorem rroots_walk (a : Nat) (ha : a < 18446744073709551616) (w : World) :
    Calls Try.prog 12 #[.int .u64 (a : Int)] w fun e w' => e = .returned (.bool true) ∧ Below w.heap.size w w' :=
  rroots_core a _ (fun w => sqrt_any a ha w) (fun w => r5Sqrt_any a ha w) w
end Go.Proofs.Ytaplggheadahhaa
