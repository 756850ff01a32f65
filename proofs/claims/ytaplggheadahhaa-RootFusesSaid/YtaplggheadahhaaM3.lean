/- The walk of the law RootFuses. -/
import Derived.Test.YtaplggheadahhaaKB
import Derived.Test.YtaplggheadahhaaTM
namespace Go.Proofs.Ytaplggheadahhaa
open Go.RowKit Go.Proofs.YtaplggheadahhaaW.PrintWords
set_option linter.unusedVariables false
set_option linter.unusedSimpArgs false

theorem r5Fma_any (a : Nat) (b : Nat) (c : Nat) (ha : a < 18446744073709551616) (hb : b < 18446744073709551616) (hc : c < 18446744073709551616) (w : World) :
    Calls Try.prog 50 #[.int .u64 (a : Int), .int .u64 (b : Int), .int .u64 (c : Int)] w fun e w' => e = .returned (.int .u64 ((Fl.fmaN a b c : Nat) : Int)) ∧ Below w.heap.size w w' := by
  obtain ⟨k, h⟩ := (R.fma5_ev a b c ha hb hc).get
  exact R.tabardref5_Fma.calls k _ _ _ _ w h
set_option maxHeartbeats 1000000 in
set_option maxRecDepth 100000 in
theorem rfuses_core (a : Nat) (b : Nat) (c : Nat) (r : Nat)
    (c1 : ∀ w, Calls Try.prog 49 #[.int .u64 (a : Int), .int .u64 (b : Int), .int .u64 (c : Int)] w fun e w' => e = .returned (.int .u64 (r : Int)) ∧ Below w.heap.size w w')
    (c2 : ∀ w, Calls Try.prog 50 #[.int .u64 (a : Int), .int .u64 (b : Int), .int .u64 (c : Int)] w fun e w' => e = .returned (.int .u64 (r : Int)) ∧ Below w.heap.size w w')
    (w : World) : Calls Try.prog 13 #[.int .u64 (a : Int), .int .u64 (b : Int), .int .u64 (c : Int)] w fun e w' => e = .returned (.bool true) ∧ Below w.heap.size w w' := by
  go_enter Try.func13, Try.ntmps13
  go_wp2_with fail
  refine (shown5 _).mono ?_
  rintro e w1 ⟨rfl, hb⟩
  have L := hb
  clear hb
  go_wp2_with fail
  refine (c1 _).mono ?_
  rintro e w2 ⟨rfl, hb⟩
  replace L := L.trans (hb.mono L.size)
  clear hb
  go_wp2_with fail
  refine (c2 _).mono ?_
  rintro e w3 ⟨rfl, hb⟩
  replace L := L.trans (hb.mono L.size)
  clear hb
  go_wp2
  go_ret
  exact ⟨rfl, L⟩
theorem rfuses_walk (a : Nat) (b : Nat) (c : Nat) (ha : a < 18446744073709551616) (hb : b < 18446744073709551616) (hc : c < 18446744073709551616) (w : World) :
    Calls Try.prog 13 #[.int .u64 (a : Int), .int .u64 (b : Int), .int .u64 (c : Int)] w fun e w' => e = .returned (.bool true) ∧ Below w.heap.size w w' :=
  rfuses_core a b c _ (fun w => fma_any a b c ha hb hc w) (fun w => r5Fma_any a b c ha hb hc w) w
end Go.Proofs.Ytaplggheadahhaa
