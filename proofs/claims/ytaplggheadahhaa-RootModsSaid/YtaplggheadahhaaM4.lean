/- The walk of the law RootMods. -/
import Derived.Test.YtaplggheadahhaaKB
import Derived.Test.YtaplggheadahhaaTG
namespace Go.Proofs.Ytaplggheadahhaa
open Go.RowKit Go.Proofs.YtaplggheadahhaaW.PrintWords
set_option linter.unusedVariables false
set_option linter.unusedSimpArgs false

theorem r5Mod_any (a : Nat) (b : Nat) (ha : a < 18446744073709551616) (hb : b < 18446744073709551616) (w : World) :
    Calls Try.prog 52 #[.int .u64 (a : Int), .int .u64 (b : Int)] w fun e w' => e = .returned (.int .u64 ((Fl.modN a b : Nat) : Int)) ∧ Below w.heap.size w w' := by
  obtain ⟨k, h⟩ := (R.mod5_ev a b ha hb).get
  exact R.tabardref5_Mod.calls k _ _ _ w h
set_option maxHeartbeats 1000000 in
set_option maxRecDepth 100000 in
theorem rmods_core (a : Nat) (b : Nat) (r : Nat)
    (c1 : ∀ w, Calls Try.prog 51 #[.int .u64 (a : Int), .int .u64 (b : Int)] w fun e w' => e = .returned (.int .u64 (r : Int)) ∧ Below w.heap.size w w')
    (c2 : ∀ w, Calls Try.prog 52 #[.int .u64 (a : Int), .int .u64 (b : Int)] w fun e w' => e = .returned (.int .u64 (r : Int)) ∧ Below w.heap.size w w')
    (w : World) : Calls Try.prog 14 #[.int .u64 (a : Int), .int .u64 (b : Int)] w fun e w' => e = .returned (.bool true) ∧ Below w.heap.size w w' := by
  go_enter Try.func14, Try.ntmps14
  go_wp2_with fail
  refine (shown5 _).mono ?_
  rintro e w1 ⟨rfl, hb⟩
  have L := hb
  clear hb
  go_wp2_with fail
  refine (c1 _).mono ?_
  rintro e w2 ⟨rfl, hb⟩
  replace L := L.trans (hb.mono L.size)
  clear hb
  go_wp2_with fail
  refine (c2 _).mono ?_
  rintro e w3 ⟨rfl, hb⟩
  replace L := L.trans (hb.mono L.size)
  clear hb
  go_wp2
  go_ret
  exact ⟨rfl, L⟩
theorem rmods_walk (a : Nat) (b : Nat) (ha : a < 18446744073709551616) (hb : b < 18446744073709551616) (w : World) :
    Calls Try.prog 14 #[.int .u64 (a : Int), .int .u64 (b : Int)] w fun e w' => e = .returned (.bool true) ∧ Below w.heap.size w w' :=
  rmods_core a b _ (fun w => mod_any a b ha hb w) (fun w => r5Mod_any a b ha hb w) w
end Go.Proofs.Ytaplggheadahhaa
