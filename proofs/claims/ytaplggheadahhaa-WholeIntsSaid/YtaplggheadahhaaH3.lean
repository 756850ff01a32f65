/- The walk of the law WholeInts. -/
import Derived.Test.YtaplggheadahhaaH1
namespace Go.Proofs.Ytaplggheadahhaa
open Go.RowKit
set_option linter.unusedVariables false
set_option linter.unusedSimpArgs false

set_option maxHeartbeats 1000000 in
set_option maxRecDepth 100000 in
theorem wi_core (x F : Nat) (v n way e1 : Int) (Y : Nat → Int) (E : Nat → Int)
    (f1 : ∀ w, Calls Try.prog 39 #[.int .i64 v] w fun e w' => e = .returned (.int .u64 (F : Int)) ∧ Below w.heap.size w w')
    (f2 : ∀ w, Calls Try.prog 40 #[.int .i64 v] w fun e w' => e = .returned (.int .u64 (F : Int)) ∧ Below w.heap.size w w')
    (c1 : ∀ w, Calls Try.prog 41 #[.int .u64 (x : Int), .int .i64 way] w fun e w' => e = .returned (.tuple #[.int .i64 n, .int .i64 e1]) ∧ Below w.heap.size w w')
    (c2 : ∀ w, Calls Try.prog 42 #[.int .u64 (x : Int), .int .i64 way] w fun e w' => e = .returned (.tuple #[.int .i64 n, .int .i64 e1]) ∧ Below w.heap.size w w')
    (g1 : ∀ i : Nat, i < 6 → ∀ w, Calls Try.prog 41 #[.int .u64 (x : Int), .int .i64 (i : Int)] w fun e w' => e = .returned (.tuple #[.int .i64 (Y i), .int .i64 (E i)]) ∧ Below w.heap.size w w')
    (g2 : ∀ i : Nat, i < 6 → ∀ w, Calls Try.prog 42 #[.int .u64 (x : Int), .int .i64 (i : Int)] w fun e w' => e = .returned (.tuple #[.int .i64 (Y i), .int .i64 (E i)]) ∧ Below w.heap.size w w')
    (w : World) : Calls Try.prog 7 #[.int .u64 (x : Int), .int .i64 v, .int .i64 way] w fun e w' => e = .returned (.bool true) ∧ Below w.heap.size w w' := by
  have G1 := Lib.hid g1; clear g1
  have G2 := Lib.hid g2; clear g2
  go_enter Try.func7, Try.ntmps7
  go_wp2_with fail
  refine (shown6 _).mono ?_
  rintro e w1 ⟨rfl, hb⟩
  have L := hb
  clear hb
  go_wp2_with fail
  refine (f1 _).mono ?_
  rintro e w2 ⟨rfl, hb⟩
  replace L := L.trans (hb.mono L.size)
  clear hb
  go_wp2_with fail
  refine (f2 _).mono ?_
  rintro e w3 ⟨rfl, hb⟩
  replace L := L.trans (hb.mono L.size)
  clear hb
  go_wp2_with fail
  refine (c1 _).mono ?_
  rintro e w4 ⟨rfl, hb⟩
  replace L := L.trans (hb.mono L.size)
  clear hb
  go_wp2_with fail
  refine (c2 _).mono ?_
  rintro e w5 ⟨rfl, hb⟩
  replace L := L.trans (hb.mono L.size)
  clear hb
  go_wp2_with fail
  go_loopw [12] (fun v wr => ∃ k : Nat, k ≤ 6 ∧ v = .int .i64 (k : Int) ∧ Below w.heap.size w wr) (fun v _ => 6 - (intOf v).toNat)
  case atStart => exact ⟨0, by omega, rfl, L⟩
  case round =>
    obtain ⟨j, hj, rfl, LR⟩ := hrel
    by_cases hlt : j < 6
    · have r1 := G1.out j hlt
      have r2 := G2.out j hlt
      generalize Y j = y2 at *
      generalize E j = e2 at *
      all_goals
        go_wp2_with fail
        refine (r1 _).mono ?_
        rintro e v1 ⟨rfl, hb⟩
        replace LR := LR.trans (hb.mono LR.size)
        clear hb
        go_wp2_with fail
        refine (r2 _).mono ?_
        rintro e v2 ⟨rfl, hb⟩
        replace LR := LR.trans (hb.mono LR.size)
        clear hb
        go_wp2
        exact ⟨⟨j + 1, by omega, by go_num, LR⟩, by simp [intOf]; omega⟩
    · have hj6 : (6 : Int) ≤ (j : Int) := by omega
      go_wp2
      go_ret
      exact ⟨rfl, LR⟩

/-- WholeInts, walked -/
theorem wints_walk (x : Nat) (v way : Int) (hx : x < 18446744073709551616) (hv : -9223372036854775808 ≤ v ∧ v ≤ 9223372036854775807) (hw : -9223372036854775808 ≤ way ∧ way ≤ 9223372036854775807) (w : World) :
    Calls Try.prog 7 #[.int .u64 (x : Int), .int .i64 v, .int .i64 way] w fun e w' => e = .returned (.bool true) ∧ Below w.heap.size w w' :=
  wi_core x _ v _ way _ (fun i => toV x (i : Int)) (fun i => toE x (i : Int)) (fun w => from_any v hv.1 hv.2 w) (fun w => rfrom_any v hv.1 hv.2 w) (fun w => to_any x way hx w) (fun w => rto_any x way hx w) (fun i _ w => to_any x i hx w) (fun i _ w => rto_any x i hx w) w
end Go.Proofs.Ytaplggheadahhaa
