/- The walk of the law WholeRounds. -/
import Derived.Test.YtaplggheadahhaaH1
namespace Go.Proofs.Ytaplggheadahhaa
open Go.RowKit
set_option linter.unusedVariables false
set_option linter.unusedSimpArgs false

set_option maxHeartbeats 1000000 in
set_option maxRecDepth 100000 in
theorem wr_core (x y : Nat) (way e1 : Int) (Y : Nat → Nat) (E : Nat → Int)
    (c1 : ∀ w, Calls Try.prog 37 #[.int .u64 (x : Int), .int .i64 way] w fun e w' => e = .returned (.tuple #[.int .u64 (y : Int), .int .i64 e1]) ∧ Below w.heap.size w w')
    (c2 : ∀ w, Calls Try.prog 38 #[.int .u64 (x : Int), .int .i64 way] w fun e w' => e = .returned (.tuple #[.int .u64 (y : Int), .int .i64 e1]) ∧ Below w.heap.size w w')
    (g1 : ∀ i : Nat, i < 6 → ∀ w, Calls Try.prog 37 #[.int .u64 (x : Int), .int .i64 (i : Int)] w fun e w' => e = .returned (.tuple #[.int .u64 ((Y i : Nat) : Int), .int .i64 (E i)]) ∧ Below w.heap.size w w')
    (g2 : ∀ i : Nat, i < 6 → ∀ w, Calls Try.prog 38 #[.int .u64 (x : Int), .int .i64 (i : Int)] w fun e w' => e = .returned (.tuple #[.int .u64 ((Y i : Nat) : Int), .int .i64 (E i)]) ∧ Below w.heap.size w w')
    (w : World) : Calls Try.prog 6 #[.int .u64 (x : Int), .int .i64 way] w fun e w' => e = .returned (.bool true) ∧ Below w.heap.size w w' := by
  have G1 := Lib.hid g1; clear g1
  have G2 := Lib.hid g2; clear g2
  go_enter Try.func6, Try.ntmps6
  go_wp2_with fail
  refine (shown6 _).mono ?_
  rintro e w1 ⟨rfl, hb⟩
  have L := hb
  clear hb
  go_wp2_with fail
  refine (c1 _).mono ?_
  rintro e w2 ⟨rfl, hb⟩
  replace L := L.trans (hb.mono L.size)
  clear hb
  go_wp2_with fail
  refine (c2 _).mono ?_
  rintro e w3 ⟨rfl, hb⟩
  replace L := L.trans (hb.mono L.size)
  clear hb
  go_wp2_with fail
  go_loopw [10] (fun v wr => ∃ k : Nat, k ≤ 6 ∧ v = .int .i64 (k : Int) ∧ Below w.heap.size w wr) (fun v _ => 6 - (intOf v).toNat)
  case atStart => exact ⟨0, by omega, rfl, L⟩
  case round =>
    obtain ⟨j, hj, rfl, LR⟩ := hrel
    by_cases hlt : j < 6
    · have r1 := G1.out j hlt
      have r2 := G2.out j hlt
      generalize Y j = y2 at *
      generalize E j = e2 at *
      all_goals
        go_wp2_with fail
        refine (r1 _).mono ?_
        rintro e v1 ⟨rfl, hb⟩
        replace LR := LR.trans (hb.mono LR.size)
        clear hb
        go_wp2_with fail
        refine (r2 _).mono ?_
        rintro e v2 ⟨rfl, hb⟩
        replace LR := LR.trans (hb.mono LR.size)
        clear hb
        go_wp2
        exact ⟨⟨j + 1, by omega, by go_num, LR⟩, by simp [intOf]; omega⟩
    · have hj6 : (6 : Int) ≤ (j : Int) := by omega
      go_wp2
      go_ret
      exact ⟨rfl, LR⟩

/-- WholeRounds, walked -/
theorem wrounds_walk (x : Nat) (way : Int) (hx : x < 18446744073709551616) (hw : -9223372036854775808 ≤ way ∧ way ≤ 9223372036854775807) (w : World) :
    Calls Try.prog 6 #[.int .u64 (x : Int), .int .i64 way] w fun e w' => e = .returned (.bool true) ∧ Below w.heap.size w w' :=
  wr_core x _ way _ (fun i => wholeV x (i : Int)) (fun i => wholeE (i : Int)) (fun w => whole_any x way hx w) (fun w => rwhole_any x way hx w) (fun i _ w => whole_any x i hx w) (fun i _ w => rwhole_any x i hx w) w
end Go.Proofs.Ytaplggheadahhaa
