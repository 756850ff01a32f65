/- The walk of root.Fma. root.Fma answers with the fused product of plain numbers. The walk of chapter 5's examples: all of them hold. -/
import Derived.Test.YtaplggheadahhaaLA
import Derived.Test.YtaplggheadahhaaC7
import Derived.Test.YtaplggheadahhaaKA
import Derived.Test.YtaplggheadahhaaNA
import Derived.Deep.DeepCutAuto
import Derived.Deep.CutRange
namespace Go.Proofs.Ytaplggheadahhaa
open Go.RowKit
set_option linter.unusedVariables false
set_option linter.unusedSimpArgs false

set_option maxHeartbeats 4000000 in
set_option maxRecDepth 100000 in
theorem fma_nan1t (a b c : Nat) (a1 b1 n : Bool) (hp : Hid ((a1 || b1) = true)) (hn : ((a : Int) / 9223372036854775808 != (b : Int) / 9223372036854775808) = n) 
    (ia : ∀ w, Calls Try.prog 79 #[.int .u64 (a : Int)] w fun e w' => e = .returned (.bool a1) ∧ w = w')
    (ib : ∀ w, Calls Try.prog 79 #[.int .u64 (b : Int)] w fun e w' => e = .returned (.bool b1) ∧ w = w')
    (na : ∀ w, Calls Try.prog 78 #[.int .u64 (a : Int)] w fun e w' => e = .returned (.bool true) ∧ w = w')
    (w : World) : Calls Try.prog 49 #[.int .u64 (a : Int), .int .u64 (b : Int), .int .u64 (c : Int)] w fun e w' => e = .returned (.int .u64 9221120237041090560) ∧ Below w.heap.size w w' := by
  go_enter Try.func49, Try.ntmps49
  go_upto_region 2 with (fail)
  go_cut [8] (fun v8 wx => v8 = .bool true ∧ wx = w)
  case first =>
    cases a1
    · go_wp2_with fail
      refine (ia _).mono ?_
      rintro e w' ⟨rfl, rfl⟩
      go_wp2_with fail
      refine (ib _).mono ?_
      rintro e w' ⟨rfl, rfl⟩
      go_wp2
      go_meet
      exact ⟨by first | (rw [← hp.out]; done) | (rw [← hp.out]; rfl), rfl⟩
    · go_wp2_with fail
      refine (ia _).mono ?_
      rintro e w' ⟨rfl, rfl⟩
      go_wp2
      go_meet
      exact ⟨by first | (rw [← hp.out]; done) | (rw [← hp.out]; rfl), rfl⟩
  case rest =>
    obtain ⟨rfl, rfl⟩ := hcut
    clear ia ib hp
    go_wp2_with fail
    refine (na _).mono ?_
    rintro e w' ⟨rfl, rfl⟩
    go_wp2
    go_ret
    exact ⟨rfl, Below.refl _ _⟩

set_option maxHeartbeats 4000000 in
set_option maxRecDepth 100000 in
theorem fma_nan2t (a b c : Nat) (a1 b1 n : Bool) (hp : Hid ((a1 || b1) = true)) (hn : ((a : Int) / 9223372036854775808 != (b : Int) / 9223372036854775808) = n) 
    (ia : ∀ w, Calls Try.prog 79 #[.int .u64 (a : Int)] w fun e w' => e = .returned (.bool a1) ∧ w = w')
    (ib : ∀ w, Calls Try.prog 79 #[.int .u64 (b : Int)] w fun e w' => e = .returned (.bool b1) ∧ w = w')
    (na : ∀ w, Calls Try.prog 78 #[.int .u64 (a : Int)] w fun e w' => e = .returned (.bool false) ∧ w = w')
    (nb : ∀ w, Calls Try.prog 78 #[.int .u64 (b : Int)] w fun e w' => e = .returned (.bool true) ∧ w = w')
    (w : World) : Calls Try.prog 49 #[.int .u64 (a : Int), .int .u64 (b : Int), .int .u64 (c : Int)] w fun e w' => e = .returned (.int .u64 9221120237041090560) ∧ Below w.heap.size w w' := by
  go_enter Try.func49, Try.ntmps49
  go_upto_region 2 with (fail)
  go_cut [8] (fun v8 wx => v8 = .bool true ∧ wx = w)
  case first =>
    cases a1
    · go_wp2_with fail
      refine (ia _).mono ?_
      rintro e w' ⟨rfl, rfl⟩
      go_wp2_with fail
      refine (ib _).mono ?_
      rintro e w' ⟨rfl, rfl⟩
      go_wp2
      go_meet
      exact ⟨by first | (rw [← hp.out]; done) | (rw [← hp.out]; rfl), rfl⟩
    · go_wp2_with fail
      refine (ia _).mono ?_
      rintro e w' ⟨rfl, rfl⟩
      go_wp2
      go_meet
      exact ⟨by first | (rw [← hp.out]; done) | (rw [← hp.out]; rfl), rfl⟩
  case rest =>
    obtain ⟨rfl, rfl⟩ := hcut
    clear ia ib hp
    go_wp2_with fail
    refine (na _).mono ?_
    rintro e w' ⟨rfl, rfl⟩
    go_wp2_with fail
    refine (nb _).mono ?_
    rintro e w' ⟨rfl, rfl⟩
    go_wp2
    go_ret
    exact ⟨rfl, Below.refl _ _⟩

set_option maxHeartbeats 4000000 in
set_option maxRecDepth 100000 in
theorem fma_nan3t (a b c : Nat) (a1 b1 n : Bool) (hp : Hid ((a1 || b1) = true)) (hn : ((a : Int) / 9223372036854775808 != (b : Int) / 9223372036854775808) = n) 
    (ia : ∀ w, Calls Try.prog 79 #[.int .u64 (a : Int)] w fun e w' => e = .returned (.bool a1) ∧ w = w')
    (ib : ∀ w, Calls Try.prog 79 #[.int .u64 (b : Int)] w fun e w' => e = .returned (.bool b1) ∧ w = w')
    (na : ∀ w, Calls Try.prog 78 #[.int .u64 (a : Int)] w fun e w' => e = .returned (.bool false) ∧ w = w')
    (nb : ∀ w, Calls Try.prog 78 #[.int .u64 (b : Int)] w fun e w' => e = .returned (.bool false) ∧ w = w')
    (nc : ∀ w, Calls Try.prog 78 #[.int .u64 (c : Int)] w fun e w' => e = .returned (.bool true) ∧ w = w')
    (w : World) : Calls Try.prog 49 #[.int .u64 (a : Int), .int .u64 (b : Int), .int .u64 (c : Int)] w fun e w' => e = .returned (.int .u64 9221120237041090560) ∧ Below w.heap.size w w' := by
  go_enter Try.func49, Try.ntmps49
  go_upto_region 2 with (fail)
  go_cut [8] (fun v8 wx => v8 = .bool true ∧ wx = w)
  case first =>
    cases a1
    · go_wp2_with fail
      refine (ia _).mono ?_
      rintro e w' ⟨rfl, rfl⟩
      go_wp2_with fail
      refine (ib _).mono ?_
      rintro e w' ⟨rfl, rfl⟩
      go_wp2
      go_meet
      exact ⟨by first | (rw [← hp.out]; done) | (rw [← hp.out]; rfl), rfl⟩
    · go_wp2_with fail
      refine (ia _).mono ?_
      rintro e w' ⟨rfl, rfl⟩
      go_wp2
      go_meet
      exact ⟨by first | (rw [← hp.out]; done) | (rw [← hp.out]; rfl), rfl⟩
  case rest =>
    obtain ⟨rfl, rfl⟩ := hcut
    clear ia ib hp
    go_wp2_with fail
    refine (na _).mono ?_
    rintro e w' ⟨rfl, rfl⟩
    go_wp2_with fail
    refine (nb _).mono ?_
    rintro e w' ⟨rfl, rfl⟩
    go_wp2_with fail
    refine (nc _).mono ?_
    rintro e w' ⟨rfl, rfl⟩
    go_wp2
    go_ret
    exact ⟨rfl, Below.refl _ _⟩

set_option maxHeartbeats 4000000 in
set_option maxRecDepth 100000 in
theorem fma_nan1f (a b c : Nat) (a1 b1 n : Bool) (hp : Hid ((a1 || b1) = false)) (hn : ((a : Int) / 9223372036854775808 != (b : Int) / 9223372036854775808) = n) 
    (ia : ∀ w, Calls Try.prog 79 #[.int .u64 (a : Int)] w fun e w' => e = .returned (.bool a1) ∧ w = w')
    (ib : ∀ w, Calls Try.prog 79 #[.int .u64 (b : Int)] w fun e w' => e = .returned (.bool b1) ∧ w = w')
    (na : ∀ w, Calls Try.prog 78 #[.int .u64 (a : Int)] w fun e w' => e = .returned (.bool true) ∧ w = w')
    (w : World) : Calls Try.prog 49 #[.int .u64 (a : Int), .int .u64 (b : Int), .int .u64 (c : Int)] w fun e w' => e = .returned (.int .u64 9221120237041090560) ∧ Below w.heap.size w w' := by
  go_enter Try.func49, Try.ntmps49
  go_upto_region 2 with (fail)
  go_cut [8] (fun v8 wx => v8 = .bool false ∧ wx = w)
  case first =>
    cases a1
    · go_wp2_with fail
      refine (ia _).mono ?_
      rintro e w' ⟨rfl, rfl⟩
      go_wp2_with fail
      refine (ib _).mono ?_
      rintro e w' ⟨rfl, rfl⟩
      go_wp2
      go_meet
      exact ⟨by first | (rw [← hp.out]; done) | (rw [← hp.out]; rfl), rfl⟩
    · go_wp2_with fail
      refine (ia _).mono ?_
      rintro e w' ⟨rfl, rfl⟩
      go_wp2
      go_meet
      exact ⟨by first | (rw [← hp.out]; done) | (rw [← hp.out]; rfl), rfl⟩
  case rest =>
    obtain ⟨rfl, rfl⟩ := hcut
    clear ia ib hp
    go_wp2_with fail
    refine (na _).mono ?_
    rintro e w' ⟨rfl, rfl⟩
    go_wp2
    go_ret
    exact ⟨rfl, Below.refl _ _⟩

set_option maxHeartbeats 4000000 in
set_option maxRecDepth 100000 in
theorem fma_nan2f (a b c : Nat) (a1 b1 n : Bool) (hp : Hid ((a1 || b1) = false)) (hn : ((a : Int) / 9223372036854775808 != (b : Int) / 9223372036854775808) = n) 
    (ia : ∀ w, Calls Try.prog 79 #[.int .u64 (a : Int)] w fun e w' => e = .returned (.bool a1) ∧ w = w')
    (ib : ∀ w, Calls Try.prog 79 #[.int .u64 (b : Int)] w fun e w' => e = .returned (.bool b1) ∧ w = w')
    (na : ∀ w, Calls Try.prog 78 #[.int .u64 (a : Int)] w fun e w' => e = .returned (.bool false) ∧ w = w')
    (nb : ∀ w, Calls Try.prog 78 #[.int .u64 (b : Int)] w fun e w' => e = .returned (.bool true) ∧ w = w')
    (w : World) : Calls Try.prog 49 #[.int .u64 (a : Int), .int .u64 (b : Int), .int .u64 (c : Int)] w fun e w' => e = .returned (.int .u64 9221120237041090560) ∧ Below w.heap.size w w' := by
  go_enter Try.func49, Try.ntmps49
  go_upto_region 2 with (fail)
  go_cut [8] (fun v8 wx => v8 = .bool false ∧ wx = w)
  case first =>
    cases a1
    · go_wp2_with fail
      refine (ia _).mono ?_
      rintro e w' ⟨rfl, rfl⟩
      go_wp2_with fail
      refine (ib _).mono ?_
      rintro e w' ⟨rfl, rfl⟩
      go_wp2
      go_meet
      exact ⟨by first | (rw [← hp.out]; done) | (rw [← hp.out]; rfl), rfl⟩
    · go_wp2_with fail
      refine (ia _).mono ?_
      rintro e w' ⟨rfl, rfl⟩
      go_wp2
      go_meet
      exact ⟨by first | (rw [← hp.out]; done) | (rw [← hp.out]; rfl), rfl⟩
  case rest =>
    obtain ⟨rfl, rfl⟩ := hcut
    clear ia ib hp
    go_wp2_with fail
    refine (na _).mono ?_
    rintro e w' ⟨rfl, rfl⟩
    go_wp2_with fail
    refine (nb _).mono ?_
    rintro e w' ⟨rfl, rfl⟩
    go_wp2
    go_ret
    exact ⟨rfl, Below.refl _ _⟩

set_option maxHeartbeats 4000000 in
set_option maxRecDepth 100000 in
theorem fma_nan3f (a b c : Nat) (a1 b1 n : Bool) (hp : Hid ((a1 || b1) = false)) (hn : ((a : Int) / 9223372036854775808 != (b : Int) / 9223372036854775808) = n) 
    (ia : ∀ w, Calls Try.prog 79 #[.int .u64 (a : Int)] w fun e w' => e = .returned (.bool a1) ∧ w = w')
    (ib : ∀ w, Calls Try.prog 79 #[.int .u64 (b : Int)] w fun e w' => e = .returned (.bool b1) ∧ w = w')
    (na : ∀ w, Calls Try.prog 78 #[.int .u64 (a : Int)] w fun e w' => e = .returned (.bool false) ∧ w = w')
    (nb : ∀ w, Calls Try.prog 78 #[.int .u64 (b : Int)] w fun e w' => e = .returned (.bool false) ∧ w = w')
    (nc : ∀ w, Calls Try.prog 78 #[.int .u64 (c : Int)] w fun e w' => e = .returned (.bool true) ∧ w = w')
    (w : World) : Calls Try.prog 49 #[.int .u64 (a : Int), .int .u64 (b : Int), .int .u64 (c : Int)] w fun e w' => e = .returned (.int .u64 9221120237041090560) ∧ Below w.heap.size w w' := by
  go_enter Try.func49, Try.ntmps49
  go_upto_region 2 with (fail)
  go_cut [8] (fun v8 wx => v8 = .bool false ∧ wx = w)
  case first =>
    cases a1
    · go_wp2_with fail
      refine (ia _).mono ?_
      rintro e w' ⟨rfl, rfl⟩
      go_wp2_with fail
      refine (ib _).mono ?_
      rintro e w' ⟨rfl, rfl⟩
      go_wp2
      go_meet
      exact ⟨by first | (rw [← hp.out]; done) | (rw [← hp.out]; rfl), rfl⟩
    · go_wp2_with fail
      refine (ia _).mono ?_
      rintro e w' ⟨rfl, rfl⟩
      go_wp2
      go_meet
      exact ⟨by first | (rw [← hp.out]; done) | (rw [← hp.out]; rfl), rfl⟩
  case rest =>
    obtain ⟨rfl, rfl⟩ := hcut
    clear ia ib hp
    go_wp2_with fail
    refine (na _).mono ?_
    rintro e w' ⟨rfl, rfl⟩
    go_wp2_with fail
    refine (nb _).mono ?_
    rintro e w' ⟨rfl, rfl⟩
    go_wp2_with fail
    refine (nc _).mono ?_
    rintro e w' ⟨rfl, rfl⟩
    go_wp2
    go_ret
    exact ⟨rfl, Below.refl _ _⟩

set_option maxHeartbeats 4000000 in
set_option maxRecDepth 100000 in
theorem fma_nan4 (a b c : Nat) (a1 b1 n : Bool) (hp : Hid ((a1 || b1) = true)) (hn : ((a : Int) / 9223372036854775808 != (b : Int) / 9223372036854775808) = n) 
    (ia : ∀ w, Calls Try.prog 79 #[.int .u64 (a : Int)] w fun e w' => e = .returned (.bool a1) ∧ w = w')
    (ib : ∀ w, Calls Try.prog 79 #[.int .u64 (b : Int)] w fun e w' => e = .returned (.bool b1) ∧ w = w')
    (na : ∀ w, Calls Try.prog 78 #[.int .u64 (a : Int)] w fun e w' => e = .returned (.bool false) ∧ w = w')
    (nb : ∀ w, Calls Try.prog 78 #[.int .u64 (b : Int)] w fun e w' => e = .returned (.bool false) ∧ w = w')
    (nc : ∀ w, Calls Try.prog 78 #[.int .u64 (c : Int)] w fun e w' => e = .returned (.bool false) ∧ w = w')
    (za : ∀ w, Calls Try.prog 80 #[.int .u64 (a : Int)] w fun e w' => e = .returned (.bool true) ∧ w = w')
    (w : World) : Calls Try.prog 49 #[.int .u64 (a : Int), .int .u64 (b : Int), .int .u64 (c : Int)] w fun e w' => e = .returned (.int .u64 9221120237041090560) ∧ Below w.heap.size w w' := by
  go_enter Try.func49, Try.ntmps49
  go_upto_region 2 with (fail)
  go_cut [8] (fun v8 wx => v8 = .bool true ∧ wx = w)
  case first =>
    cases a1
    · go_wp2_with fail
      refine (ia _).mono ?_
      rintro e w' ⟨rfl, rfl⟩
      go_wp2_with fail
      refine (ib _).mono ?_
      rintro e w' ⟨rfl, rfl⟩
      go_wp2
      go_meet
      exact ⟨by first | (rw [← hp.out]; done) | (rw [← hp.out]; rfl), rfl⟩
    · go_wp2_with fail
      refine (ia _).mono ?_
      rintro e w' ⟨rfl, rfl⟩
      go_wp2
      go_meet
      exact ⟨by first | (rw [← hp.out]; done) | (rw [← hp.out]; rfl), rfl⟩
  case rest =>
    obtain ⟨rfl, rfl⟩ := hcut
    clear ia ib hp
    go_wp2_with fail
    refine (na _).mono ?_
    rintro e w' ⟨rfl, rfl⟩
    go_wp2_with fail
    refine (nb _).mono ?_
    rintro e w' ⟨rfl, rfl⟩
    go_wp2_with fail
    refine (nc _).mono ?_
    rintro e w' ⟨rfl, rfl⟩
    go_wp2_with fail
    refine (za _).mono ?_
    rintro e w' ⟨rfl, rfl⟩
    go_wp2
    go_ret
    exact ⟨rfl, Below.refl _ _⟩

set_option maxHeartbeats 4000000 in
set_option maxRecDepth 100000 in
theorem fma_nan5 (a b c : Nat) (a1 b1 n : Bool) (hp : Hid ((a1 || b1) = true)) (hn : ((a : Int) / 9223372036854775808 != (b : Int) / 9223372036854775808) = n) 
    (ia : ∀ w, Calls Try.prog 79 #[.int .u64 (a : Int)] w fun e w' => e = .returned (.bool a1) ∧ w = w')
    (ib : ∀ w, Calls Try.prog 79 #[.int .u64 (b : Int)] w fun e w' => e = .returned (.bool b1) ∧ w = w')
    (na : ∀ w, Calls Try.prog 78 #[.int .u64 (a : Int)] w fun e w' => e = .returned (.bool false) ∧ w = w')
    (nb : ∀ w, Calls Try.prog 78 #[.int .u64 (b : Int)] w fun e w' => e = .returned (.bool false) ∧ w = w')
    (nc : ∀ w, Calls Try.prog 78 #[.int .u64 (c : Int)] w fun e w' => e = .returned (.bool false) ∧ w = w')
    (za : ∀ w, Calls Try.prog 80 #[.int .u64 (a : Int)] w fun e w' => e = .returned (.bool false) ∧ w = w')
    (zb : ∀ w, Calls Try.prog 80 #[.int .u64 (b : Int)] w fun e w' => e = .returned (.bool true) ∧ w = w')
    (w : World) : Calls Try.prog 49 #[.int .u64 (a : Int), .int .u64 (b : Int), .int .u64 (c : Int)] w fun e w' => e = .returned (.int .u64 9221120237041090560) ∧ Below w.heap.size w w' := by
  go_enter Try.func49, Try.ntmps49
  go_upto_region 2 with (fail)
  go_cut [8] (fun v8 wx => v8 = .bool true ∧ wx = w)
  case first =>
    cases a1
    · go_wp2_with fail
      refine (ia _).mono ?_
      rintro e w' ⟨rfl, rfl⟩
      go_wp2_with fail
      refine (ib _).mono ?_
      rintro e w' ⟨rfl, rfl⟩
      go_wp2
      go_meet
      exact ⟨by first | (rw [← hp.out]; done) | (rw [← hp.out]; rfl), rfl⟩
    · go_wp2_with fail
      refine (ia _).mono ?_
      rintro e w' ⟨rfl, rfl⟩
      go_wp2
      go_meet
      exact ⟨by first | (rw [← hp.out]; done) | (rw [← hp.out]; rfl), rfl⟩
  case rest =>
    obtain ⟨rfl, rfl⟩ := hcut
    clear ia ib hp
    go_wp2_with fail
    refine (na _).mono ?_
    rintro e w' ⟨rfl, rfl⟩
    go_wp2_with fail
    refine (nb _).mono ?_
    rintro e w' ⟨rfl, rfl⟩
    go_wp2_with fail
    refine (nc _).mono ?_
    rintro e w' ⟨rfl, rfl⟩
    go_wp2_with fail
    refine (za _).mono ?_
    rintro e w' ⟨rfl, rfl⟩
    go_wp2_with fail
    refine (zb _).mono ?_
    rintro e w' ⟨rfl, rfl⟩
    go_wp2
    go_ret
    exact ⟨rfl, Below.refl _ _⟩

set_option maxHeartbeats 4000000 in
set_option maxRecDepth 100000 in
theorem fma_nan6 (a b c : Nat) (a1 b1 n : Bool) (hp : Hid ((a1 || b1) = true)) (hn : ((a : Int) / 9223372036854775808 != (b : Int) / 9223372036854775808) = n) (q : Bool) (hq : (((c : Int) / 9223372036854775808) == 1) = q) (hqn : (q == n) = false) 
    (ia : ∀ w, Calls Try.prog 79 #[.int .u64 (a : Int)] w fun e w' => e = .returned (.bool a1) ∧ w = w')
    (ib : ∀ w, Calls Try.prog 79 #[.int .u64 (b : Int)] w fun e w' => e = .returned (.bool b1) ∧ w = w')
    (na : ∀ w, Calls Try.prog 78 #[.int .u64 (a : Int)] w fun e w' => e = .returned (.bool false) ∧ w = w')
    (nb : ∀ w, Calls Try.prog 78 #[.int .u64 (b : Int)] w fun e w' => e = .returned (.bool false) ∧ w = w')
    (nc : ∀ w, Calls Try.prog 78 #[.int .u64 (c : Int)] w fun e w' => e = .returned (.bool false) ∧ w = w')
    (za : ∀ w, Calls Try.prog 80 #[.int .u64 (a : Int)] w fun e w' => e = .returned (.bool false) ∧ w = w')
    (zb : ∀ w, Calls Try.prog 80 #[.int .u64 (b : Int)] w fun e w' => e = .returned (.bool false) ∧ w = w')
    (ic : ∀ w, Calls Try.prog 79 #[.int .u64 (c : Int)] w fun e w' => e = .returned (.bool true) ∧ w = w')
    (w : World) : Calls Try.prog 49 #[.int .u64 (a : Int), .int .u64 (b : Int), .int .u64 (c : Int)] w fun e w' => e = .returned (.int .u64 9221120237041090560) ∧ Below w.heap.size w w' := by
  go_enter Try.func49, Try.ntmps49
  go_upto_region 2 with (fail)
  go_cut [8] (fun v8 wx => v8 = .bool true ∧ wx = w)
  case first =>
    cases a1
    · go_wp2_with fail
      refine (ia _).mono ?_
      rintro e w' ⟨rfl, rfl⟩
      go_wp2_with fail
      refine (ib _).mono ?_
      rintro e w' ⟨rfl, rfl⟩
      go_wp2
      go_meet
      exact ⟨by first | (rw [← hp.out]; done) | (rw [← hp.out]; rfl), rfl⟩
    · go_wp2_with fail
      refine (ia _).mono ?_
      rintro e w' ⟨rfl, rfl⟩
      go_wp2
      go_meet
      exact ⟨by first | (rw [← hp.out]; done) | (rw [← hp.out]; rfl), rfl⟩
  case rest =>
    obtain ⟨rfl, rfl⟩ := hcut
    clear ia ib hp
    go_wp2_with fail
    refine (na _).mono ?_
    rintro e w' ⟨rfl, rfl⟩
    go_wp2_with fail
    refine (nb _).mono ?_
    rintro e w' ⟨rfl, rfl⟩
    go_wp2_with fail
    refine (nc _).mono ?_
    rintro e w' ⟨rfl, rfl⟩
    go_wp2_with fail
    refine (za _).mono ?_
    rintro e w' ⟨rfl, rfl⟩
    go_wp2_with fail
    refine (zb _).mono ?_
    rintro e w' ⟨rfl, rfl⟩
    go_wp2_with fail
    refine (ic _).mono ?_
    rintro e w' ⟨rfl, rfl⟩
    go_wp2
    go_ret
    exact ⟨rfl, Below.refl _ _⟩

set_option maxHeartbeats 4000000 in
set_option maxRecDepth 100000 in
theorem fma_inf1 (a b c : Nat) (a1 b1 n : Bool) (hp : Hid ((a1 || b1) = true)) (hn : ((a : Int) / 9223372036854775808 != (b : Int) / 9223372036854775808) = n) (I : Nat) (q : Bool) (hq : (((c : Int) / 9223372036854775808) == 1) = q) (hqn : (q == n) = true) 
    (ia : ∀ w, Calls Try.prog 79 #[.int .u64 (a : Int)] w fun e w' => e = .returned (.bool a1) ∧ w = w')
    (ib : ∀ w, Calls Try.prog 79 #[.int .u64 (b : Int)] w fun e w' => e = .returned (.bool b1) ∧ w = w')
    (na : ∀ w, Calls Try.prog 78 #[.int .u64 (a : Int)] w fun e w' => e = .returned (.bool false) ∧ w = w')
    (nb : ∀ w, Calls Try.prog 78 #[.int .u64 (b : Int)] w fun e w' => e = .returned (.bool false) ∧ w = w')
    (nc : ∀ w, Calls Try.prog 78 #[.int .u64 (c : Int)] w fun e w' => e = .returned (.bool false) ∧ w = w')
    (za : ∀ w, Calls Try.prog 80 #[.int .u64 (a : Int)] w fun e w' => e = .returned (.bool false) ∧ w = w')
    (zb : ∀ w, Calls Try.prog 80 #[.int .u64 (b : Int)] w fun e w' => e = .returned (.bool false) ∧ w = w')
    (ic : ∀ w, Calls Try.prog 79 #[.int .u64 (c : Int)] w fun e w' => e = .returned (.bool true) ∧ w = w')
    (wi : ∀ w, Calls Try.prog 81 #[.bool n, .int .u64 9218868437227405312] w fun e w' => e = .returned (.int .u64 (I : Int)) ∧ w = w')
    (w : World) : Calls Try.prog 49 #[.int .u64 (a : Int), .int .u64 (b : Int), .int .u64 (c : Int)] w fun e w' => e = .returned (.int .u64 (I : Int)) ∧ Below w.heap.size w w' := by
  go_enter Try.func49, Try.ntmps49
  go_upto_region 2 with (fail)
  go_cut [8] (fun v8 wx => v8 = .bool true ∧ wx = w)
  case first =>
    cases a1
    · go_wp2_with fail
      refine (ia _).mono ?_
      rintro e w' ⟨rfl, rfl⟩
      go_wp2_with fail
      refine (ib _).mono ?_
      rintro e w' ⟨rfl, rfl⟩
      go_wp2
      go_meet
      exact ⟨by first | (rw [← hp.out]; done) | (rw [← hp.out]; rfl), rfl⟩
    · go_wp2_with fail
      refine (ia _).mono ?_
      rintro e w' ⟨rfl, rfl⟩
      go_wp2
      go_meet
      exact ⟨by first | (rw [← hp.out]; done) | (rw [← hp.out]; rfl), rfl⟩
  case rest =>
    obtain ⟨rfl, rfl⟩ := hcut
    clear ia ib hp
    go_wp2_with fail
    refine (na _).mono ?_
    rintro e w' ⟨rfl, rfl⟩
    go_wp2_with fail
    refine (nb _).mono ?_
    rintro e w' ⟨rfl, rfl⟩
    go_wp2_with fail
    refine (nc _).mono ?_
    rintro e w' ⟨rfl, rfl⟩
    go_wp2_with fail
    refine (za _).mono ?_
    rintro e w' ⟨rfl, rfl⟩
    go_wp2_with fail
    refine (zb _).mono ?_
    rintro e w' ⟨rfl, rfl⟩
    go_wp2_with fail
    refine (ic _).mono ?_
    rintro e w' ⟨rfl, rfl⟩
    go_wp2_with fail
    refine (wi _).mono ?_
    rintro e w' ⟨rfl, rfl⟩
    go_wp2
    go_ret
    exact ⟨rfl, Below.refl _ _⟩

set_option maxHeartbeats 4000000 in
set_option maxRecDepth 100000 in
theorem fma_inf2 (a b c : Nat) (a1 b1 n : Bool) (hp : Hid ((a1 || b1) = true)) (hn : ((a : Int) / 9223372036854775808 != (b : Int) / 9223372036854775808) = n) (I : Nat) 
    (ia : ∀ w, Calls Try.prog 79 #[.int .u64 (a : Int)] w fun e w' => e = .returned (.bool a1) ∧ w = w')
    (ib : ∀ w, Calls Try.prog 79 #[.int .u64 (b : Int)] w fun e w' => e = .returned (.bool b1) ∧ w = w')
    (na : ∀ w, Calls Try.prog 78 #[.int .u64 (a : Int)] w fun e w' => e = .returned (.bool false) ∧ w = w')
    (nb : ∀ w, Calls Try.prog 78 #[.int .u64 (b : Int)] w fun e w' => e = .returned (.bool false) ∧ w = w')
    (nc : ∀ w, Calls Try.prog 78 #[.int .u64 (c : Int)] w fun e w' => e = .returned (.bool false) ∧ w = w')
    (za : ∀ w, Calls Try.prog 80 #[.int .u64 (a : Int)] w fun e w' => e = .returned (.bool false) ∧ w = w')
    (zb : ∀ w, Calls Try.prog 80 #[.int .u64 (b : Int)] w fun e w' => e = .returned (.bool false) ∧ w = w')
    (ic : ∀ w, Calls Try.prog 79 #[.int .u64 (c : Int)] w fun e w' => e = .returned (.bool false) ∧ w = w')
    (wi : ∀ w, Calls Try.prog 81 #[.bool n, .int .u64 9218868437227405312] w fun e w' => e = .returned (.int .u64 (I : Int)) ∧ w = w')
    (w : World) : Calls Try.prog 49 #[.int .u64 (a : Int), .int .u64 (b : Int), .int .u64 (c : Int)] w fun e w' => e = .returned (.int .u64 (I : Int)) ∧ Below w.heap.size w w' := by
  go_enter Try.func49, Try.ntmps49
  go_upto_region 2 with (fail)
  go_cut [8] (fun v8 wx => v8 = .bool true ∧ wx = w)
  case first =>
    cases a1
    · go_wp2_with fail
      refine (ia _).mono ?_
      rintro e w' ⟨rfl, rfl⟩
      go_wp2_with fail
      refine (ib _).mono ?_
      rintro e w' ⟨rfl, rfl⟩
      go_wp2
      go_meet
      exact ⟨by first | (rw [← hp.out]; done) | (rw [← hp.out]; rfl), rfl⟩
    · go_wp2_with fail
      refine (ia _).mono ?_
      rintro e w' ⟨rfl, rfl⟩
      go_wp2
      go_meet
      exact ⟨by first | (rw [← hp.out]; done) | (rw [← hp.out]; rfl), rfl⟩
  case rest =>
    obtain ⟨rfl, rfl⟩ := hcut
    clear ia ib hp
    go_wp2_with fail
    refine (na _).mono ?_
    rintro e w' ⟨rfl, rfl⟩
    go_wp2_with fail
    refine (nb _).mono ?_
    rintro e w' ⟨rfl, rfl⟩
    go_wp2_with fail
    refine (nc _).mono ?_
    rintro e w' ⟨rfl, rfl⟩
    go_wp2_with fail
    refine (za _).mono ?_
    rintro e w' ⟨rfl, rfl⟩
    go_wp2_with fail
    refine (zb _).mono ?_
    rintro e w' ⟨rfl, rfl⟩
    go_wp2_with fail
    refine (ic _).mono ?_
    rintro e w' ⟨rfl, rfl⟩
    go_wp2_with fail
    refine (wi _).mono ?_
    rintro e w' ⟨rfl, rfl⟩
    go_wp2
    go_ret
    exact ⟨rfl, Below.refl _ _⟩

set_option maxHeartbeats 4000000 in
set_option maxRecDepth 100000 in
theorem fma_selfw (a b c : Nat) (a1 b1 n : Bool) (hp : Hid ((a1 || b1) = false)) (hn : ((a : Int) / 9223372036854775808 != (b : Int) / 9223372036854775808) = n) 
    (ia : ∀ w, Calls Try.prog 79 #[.int .u64 (a : Int)] w fun e w' => e = .returned (.bool a1) ∧ w = w')
    (ib : ∀ w, Calls Try.prog 79 #[.int .u64 (b : Int)] w fun e w' => e = .returned (.bool b1) ∧ w = w')
    (na : ∀ w, Calls Try.prog 78 #[.int .u64 (a : Int)] w fun e w' => e = .returned (.bool false) ∧ w = w')
    (nb : ∀ w, Calls Try.prog 78 #[.int .u64 (b : Int)] w fun e w' => e = .returned (.bool false) ∧ w = w')
    (nc : ∀ w, Calls Try.prog 78 #[.int .u64 (c : Int)] w fun e w' => e = .returned (.bool false) ∧ w = w')
    (ic : ∀ w, Calls Try.prog 79 #[.int .u64 (c : Int)] w fun e w' => e = .returned (.bool true) ∧ w = w')
    (w : World) : Calls Try.prog 49 #[.int .u64 (a : Int), .int .u64 (b : Int), .int .u64 (c : Int)] w fun e w' => e = .returned (.int .u64 (c : Int)) ∧ Below w.heap.size w w' := by
  go_enter Try.func49, Try.ntmps49
  go_upto_region 2 with (fail)
  go_cut [8] (fun v8 wx => v8 = .bool false ∧ wx = w)
  case first =>
    cases a1
    · go_wp2_with fail
      refine (ia _).mono ?_
      rintro e w' ⟨rfl, rfl⟩
      go_wp2_with fail
      refine (ib _).mono ?_
      rintro e w' ⟨rfl, rfl⟩
      go_wp2
      go_meet
      exact ⟨by first | (rw [← hp.out]; done) | (rw [← hp.out]; rfl), rfl⟩
    · go_wp2_with fail
      refine (ia _).mono ?_
      rintro e w' ⟨rfl, rfl⟩
      go_wp2
      go_meet
      exact ⟨by first | (rw [← hp.out]; done) | (rw [← hp.out]; rfl), rfl⟩
  case rest =>
    obtain ⟨rfl, rfl⟩ := hcut
    clear ia ib hp
    go_wp2_with fail
    refine (na _).mono ?_
    rintro e w' ⟨rfl, rfl⟩
    go_wp2_with fail
    refine (nb _).mono ?_
    rintro e w' ⟨rfl, rfl⟩
    go_wp2_with fail
    refine (nc _).mono ?_
    rintro e w' ⟨rfl, rfl⟩
    go_wp2_with fail
    refine (ic _).mono ?_
    rintro e w' ⟨rfl, rfl⟩
    go_wp2
    go_ret
    exact ⟨rfl, Below.refl _ _⟩

set_option maxHeartbeats 4000000 in
set_option maxRecDepth 100000 in
theorem fma_add1 (a b c : Nat) (a1 b1 n : Bool) (hp : Hid ((a1 || b1) = false)) (hn : ((a : Int) / 9223372036854775808 != (b : Int) / 9223372036854775808) = n) (Z I : Nat) 
    (ia : ∀ w, Calls Try.prog 79 #[.int .u64 (a : Int)] w fun e w' => e = .returned (.bool a1) ∧ w = w')
    (ib : ∀ w, Calls Try.prog 79 #[.int .u64 (b : Int)] w fun e w' => e = .returned (.bool b1) ∧ w = w')
    (na : ∀ w, Calls Try.prog 78 #[.int .u64 (a : Int)] w fun e w' => e = .returned (.bool false) ∧ w = w')
    (nb : ∀ w, Calls Try.prog 78 #[.int .u64 (b : Int)] w fun e w' => e = .returned (.bool false) ∧ w = w')
    (nc : ∀ w, Calls Try.prog 78 #[.int .u64 (c : Int)] w fun e w' => e = .returned (.bool false) ∧ w = w')
    (ic : ∀ w, Calls Try.prog 79 #[.int .u64 (c : Int)] w fun e w' => e = .returned (.bool false) ∧ w = w')
    (za : ∀ w, Calls Try.prog 80 #[.int .u64 (a : Int)] w fun e w' => e = .returned (.bool true) ∧ w = w')
    (wz : ∀ w, Calls Try.prog 81 #[.bool n, .int .u64 0] w fun e w' => e = .returned (.int .u64 (Z : Int)) ∧ w = w')
    (ad : ∀ w, Calls Try.prog 23 #[.int .u64 (Z : Int), .int .u64 (c : Int)] w fun e w' => e = .returned (.int .u64 (I : Int)) ∧ Below w.heap.size w w')
    (w : World) : Calls Try.prog 49 #[.int .u64 (a : Int), .int .u64 (b : Int), .int .u64 (c : Int)] w fun e w' => e = .returned (.int .u64 (I : Int)) ∧ Below w.heap.size w w' := by
  go_enter Try.func49, Try.ntmps49
  go_upto_region 2 with (fail)
  go_cut [8] (fun v8 wx => v8 = .bool false ∧ wx = w)
  case first =>
    cases a1
    · go_wp2_with fail
      refine (ia _).mono ?_
      rintro e w' ⟨rfl, rfl⟩
      go_wp2_with fail
      refine (ib _).mono ?_
      rintro e w' ⟨rfl, rfl⟩
      go_wp2
      go_meet
      exact ⟨by first | (rw [← hp.out]; done) | (rw [← hp.out]; rfl), rfl⟩
    · go_wp2_with fail
      refine (ia _).mono ?_
      rintro e w' ⟨rfl, rfl⟩
      go_wp2
      go_meet
      exact ⟨by first | (rw [← hp.out]; done) | (rw [← hp.out]; rfl), rfl⟩
  case rest =>
    obtain ⟨rfl, rfl⟩ := hcut
    clear ia ib hp
    go_wp2_with fail
    refine (na _).mono ?_
    rintro e w' ⟨rfl, rfl⟩
    go_wp2_with fail
    refine (nb _).mono ?_
    rintro e w' ⟨rfl, rfl⟩
    go_wp2_with fail
    refine (nc _).mono ?_
    rintro e w' ⟨rfl, rfl⟩
    go_wp2_with fail
    refine (ic _).mono ?_
    rintro e w' ⟨rfl, rfl⟩
    go_wp2_with fail
    refine (za _).mono ?_
    rintro e w' ⟨rfl, rfl⟩
    go_wp2_with fail
    refine (wz _).mono ?_
    rintro e w' ⟨rfl, rfl⟩
    go_wp2_with fail
    refine (ad _).mono ?_
    rintro e w1 ⟨rfl, hb⟩
    go_wp2
    go_ret
    exact ⟨rfl, hb⟩

set_option maxHeartbeats 4000000 in
set_option maxRecDepth 100000 in
theorem fma_add2 (a b c : Nat) (a1 b1 n : Bool) (hp : Hid ((a1 || b1) = false)) (hn : ((a : Int) / 9223372036854775808 != (b : Int) / 9223372036854775808) = n) (Z I : Nat) 
    (ia : ∀ w, Calls Try.prog 79 #[.int .u64 (a : Int)] w fun e w' => e = .returned (.bool a1) ∧ w = w')
    (ib : ∀ w, Calls Try.prog 79 #[.int .u64 (b : Int)] w fun e w' => e = .returned (.bool b1) ∧ w = w')
    (na : ∀ w, Calls Try.prog 78 #[.int .u64 (a : Int)] w fun e w' => e = .returned (.bool false) ∧ w = w')
    (nb : ∀ w, Calls Try.prog 78 #[.int .u64 (b : Int)] w fun e w' => e = .returned (.bool false) ∧ w = w')
    (nc : ∀ w, Calls Try.prog 78 #[.int .u64 (c : Int)] w fun e w' => e = .returned (.bool false) ∧ w = w')
    (ic : ∀ w, Calls Try.prog 79 #[.int .u64 (c : Int)] w fun e w' => e = .returned (.bool false) ∧ w = w')
    (za : ∀ w, Calls Try.prog 80 #[.int .u64 (a : Int)] w fun e w' => e = .returned (.bool false) ∧ w = w')
    (zb : ∀ w, Calls Try.prog 80 #[.int .u64 (b : Int)] w fun e w' => e = .returned (.bool true) ∧ w = w')
    (wz : ∀ w, Calls Try.prog 81 #[.bool n, .int .u64 0] w fun e w' => e = .returned (.int .u64 (Z : Int)) ∧ w = w')
    (ad : ∀ w, Calls Try.prog 23 #[.int .u64 (Z : Int), .int .u64 (c : Int)] w fun e w' => e = .returned (.int .u64 (I : Int)) ∧ Below w.heap.size w w')
    (w : World) : Calls Try.prog 49 #[.int .u64 (a : Int), .int .u64 (b : Int), .int .u64 (c : Int)] w fun e w' => e = .returned (.int .u64 (I : Int)) ∧ Below w.heap.size w w' := by
  go_enter Try.func49, Try.ntmps49
  go_upto_region 2 with (fail)
  go_cut [8] (fun v8 wx => v8 = .bool false ∧ wx = w)
  case first =>
    cases a1
    · go_wp2_with fail
      refine (ia _).mono ?_
      rintro e w' ⟨rfl, rfl⟩
      go_wp2_with fail
      refine (ib _).mono ?_
      rintro e w' ⟨rfl, rfl⟩
      go_wp2
      go_meet
      exact ⟨by first | (rw [← hp.out]; done) | (rw [← hp.out]; rfl), rfl⟩
    · go_wp2_with fail
      refine (ia _).mono ?_
      rintro e w' ⟨rfl, rfl⟩
      go_wp2
      go_meet
      exact ⟨by first | (rw [← hp.out]; done) | (rw [← hp.out]; rfl), rfl⟩
  case rest =>
    obtain ⟨rfl, rfl⟩ := hcut
    clear ia ib hp
    go_wp2_with fail
    refine (na _).mono ?_
    rintro e w' ⟨rfl, rfl⟩
    go_wp2_with fail
    refine (nb _).mono ?_
    rintro e w' ⟨rfl, rfl⟩
    go_wp2_with fail
    refine (nc _).mono ?_
    rintro e w' ⟨rfl, rfl⟩
    go_wp2_with fail
    refine (ic _).mono ?_
    rintro e w' ⟨rfl, rfl⟩
    go_wp2_with fail
    refine (za _).mono ?_
    rintro e w' ⟨rfl, rfl⟩
    go_wp2_with fail
    refine (zb _).mono ?_
    rintro e w' ⟨rfl, rfl⟩
    go_wp2_with fail
    refine (wz _).mono ?_
    rintro e w' ⟨rfl, rfl⟩
    go_wp2_with fail
    refine (ad _).mono ?_
    rintro e w1 ⟨rfl, hb⟩
    go_wp2
    go_ret
    exact ⟨rfl, hb⟩

set_option maxHeartbeats 4000000 in
set_option maxRecDepth 100000 in
theorem fma_same (a b c : Nat) (a1 b1 n : Bool) (hp : Hid ((a1 || b1) = false)) (hn : ((a : Int) / 9223372036854775808 != (b : Int) / 9223372036854775808) = n) (J : Nat) (ma mb mc PH PL X Y d1 d2 : Nat) (ea eb ec low : Int) (ha1 : -1074 ≤ ea) (ha2 : ea ≤ 1000) (hb1 : -1074 ≤ eb) (hb2 : eb ≤ 1000) (hc1 : -1074 ≤ ec) (hc2 : ec ≤ 1000) (hl : min (ea + eb) ec = low) (hl1 : -3000 ≤ low) (hl2 : low ≤ 3000) (hd1 : ea + eb - low = (d1 : Int)) (hd2 : ec - low = (d2 : Int)) (hX : Hid (Fl.rl X ≤ 255)) (hY : Hid (Fl.rl Y ≤ 255)) 
    (ia : ∀ w, Calls Try.prog 79 #[.int .u64 (a : Int)] w fun e w' => e = .returned (.bool a1) ∧ w = w')
    (ib : ∀ w, Calls Try.prog 79 #[.int .u64 (b : Int)] w fun e w' => e = .returned (.bool b1) ∧ w = w')
    (na : ∀ w, Calls Try.prog 78 #[.int .u64 (a : Int)] w fun e w' => e = .returned (.bool false) ∧ w = w')
    (nb : ∀ w, Calls Try.prog 78 #[.int .u64 (b : Int)] w fun e w' => e = .returned (.bool false) ∧ w = w')
    (nc : ∀ w, Calls Try.prog 78 #[.int .u64 (c : Int)] w fun e w' => e = .returned (.bool false) ∧ w = w')
    (ic : ∀ w, Calls Try.prog 79 #[.int .u64 (c : Int)] w fun e w' => e = .returned (.bool false) ∧ w = w')
    (za : ∀ w, Calls Try.prog 80 #[.int .u64 (a : Int)] w fun e w' => e = .returned (.bool false) ∧ w = w')
    (zb : ∀ w, Calls Try.prog 80 #[.int .u64 (b : Int)] w fun e w' => e = .returned (.bool false) ∧ w = w')
    (hRS : Hid (Fl.rl (X + Y) ≤ 255)) (hJ : Hid (Fl.pk n (Fl.rnd (X + Y) low false) = J))
    (pa pb : Bool) (sa : ∀ w, Calls Try.prog 61 #[.int .u64 (a : Int)] w fun e' w' => e' = .returned (.tuple #[.bool pa, .int .u64 (ma : Int), .int .i64 ea]) ∧ w = w')
    (sb : ∀ w, Calls Try.prog 61 #[.int .u64 (b : Int)] w fun e' w' => e' = .returned (.tuple #[.bool pb, .int .u64 (mb : Int), .int .i64 eb]) ∧ w = w')
    (sc : ∀ w, Calls Try.prog 61 #[.int .u64 (c : Int)] w fun e' w' => e' = .returned (.tuple #[.bool n, .int .u64 (mc : Int), .int .i64 ec]) ∧ w = w')
    (mu : ∀ w, Calls Try.prog 63 #[.int .u64 (ma : Int), .int .u64 (mb : Int)] w fun e w' => e = .returned (.agg #[.int .u64 (PH : Int), .int .u64 (PL : Int)]) ∧ Below w.heap.size w w')
    (n1 : ∀ w : World, Calls Try.prog 95 #[.agg #[.int .u64 (PH : Int), .int .u64 (PL : Int)], .int .i64 (d1 : Int)] w fun e w' => ∃ A' c', e = .returned (.slice A' (Fl.rl X) c') ∧ Num w' A' c' X (Fl.rl X) ∧ (∀ a, A' = some a → w.heap.size ≤ a.block) ∧ Below w.heap.size w w')
    (n2 : ∀ w : World, Calls Try.prog 95 #[.agg #[.int .u64 0, .int .u64 (mc : Int)], .int .i64 (d2 : Int)] w fun e w' => ∃ A' c', e = .returned (.slice A' (Fl.rl Y) c') ∧ Num w' A' c' Y (Fl.rl Y) ∧ (∀ a, A' = some a → w.heap.size ≤ a.block) ∧ Below w.heap.size w w')
    (w : World) : Calls Try.prog 49 #[.int .u64 (a : Int), .int .u64 (b : Int), .int .u64 (c : Int)] w fun e w' => e = .returned (.int .u64 (J : Int)) ∧ Below w.heap.size w w' := by
  go_enter Try.func49, Try.ntmps49
  go_upto_region 2 with (fail)
  go_cut [8] (fun v8 wx => v8 = .bool false ∧ wx = w)
  case first =>
    cases a1
    · go_wp2_with fail
      refine (ia _).mono ?_
      rintro e w' ⟨rfl, rfl⟩
      go_wp2_with fail
      refine (ib _).mono ?_
      rintro e w' ⟨rfl, rfl⟩
      go_wp2
      go_meet
      exact ⟨by first | (rw [← hp.out]; done) | (rw [← hp.out]; rfl), rfl⟩
    · go_wp2_with fail
      refine (ia _).mono ?_
      rintro e w' ⟨rfl, rfl⟩
      go_wp2
      go_meet
      exact ⟨by first | (rw [← hp.out]; done) | (rw [← hp.out]; rfl), rfl⟩
  case rest =>
    obtain ⟨rfl, rfl⟩ := hcut
    clear ia ib hp
    go_wp2_with fail
    refine (na _).mono ?_
    rintro e w' ⟨rfl, rfl⟩
    go_wp2_with fail
    refine (nb _).mono ?_
    rintro e w' ⟨rfl, rfl⟩
    go_wp2_with fail
    refine (nc _).mono ?_
    rintro e w' ⟨rfl, rfl⟩
    go_wp2_with fail
    refine (ic _).mono ?_
    rintro e w' ⟨rfl, rfl⟩
    go_wp2_with fail
    refine (za _).mono ?_
    rintro e w' ⟨rfl, rfl⟩
    go_wp2_with fail
    refine (zb _).mono ?_
    rintro e w' ⟨rfl, rfl⟩
    go_wp2_with fail
    refine (sa _).mono ?_
    rintro e w' ⟨rfl, rfl⟩
    go_wp2_with fail
    refine (sb _).mono ?_
    rintro e w' ⟨rfl, rfl⟩
    go_wp2_with fail
    refine (sc _).mono ?_
    rintro e w' ⟨rfl, rfl⟩
    go_wp2_with fail
    refine (mu _).mono ?_
    rintro e w1 ⟨rfl, hb⟩
    have L := Lib.hid hb; clear hb
    go_wp2_with fail
    refine (n1 _).mono ?_
    rintro e w2 ⟨A1, c1, rfl, hXN, _, hb⟩
    replace L := Lib.hid ((L.out.alloc L.out.size _).trans (hb.mono (by have := L.out.size; simp; omega)))
    clear hb
    have HX := Lib.hid hXN; clear hXN
    go_wp2_with fail
    refine (n2 _).mono ?_
    rintro e w3 ⟨A2, c2, rfl, hYN, _, hb⟩
    replace HX := Lib.hid (HX.out.below hb)
    replace L := Lib.hid (L.out.trans (hb.mono L.out.size))
    clear hb
    have HY := Lib.hid hYN; clear hYN
    have op := nadd_any HX.out HY.out (by have := hX.out; omega) (by have := hY.out; omega)
    go_wp2_with fail
    refine op.mono ?_
    rintro e w5 ⟨g5, T5, rfl, hS, hb⟩
    replace L := Lib.hid (L.out.trans (hb.mono L.out.size))
    clear hb op HX HY
    have rd := round_any hS (by have := hRS.out; omega) n false low (by omega) (by omega)
    rw [hJ.out] at rd
    clear hS
    generalize Fl.rl (X + Y) = R5 at *
    go_wp2_with fail
    refine rd.mono ?_
    rintro e w6 ⟨rfl, hb⟩
    replace L := Lib.hid (L.out.trans (hb.mono L.out.size))
    clear hb
    go_wp2
    go_ret
    exact ⟨rfl, L.out⟩

set_option maxHeartbeats 4000000 in
set_option maxRecDepth 100000 in
theorem fma_zero (a b c : Nat) (a1 b1 n : Bool) (hp : Hid ((a1 || b1) = false)) (hn : ((a : Int) / 9223372036854775808 != (b : Int) / 9223372036854775808) = n) (q : Bool) (hq : (n == q) = false) (ma mb mc PH PL X Y d1 d2 : Nat) (ea eb ec low : Int) (ha1 : -1074 ≤ ea) (ha2 : ea ≤ 1000) (hb1 : -1074 ≤ eb) (hb2 : eb ≤ 1000) (hc1 : -1074 ≤ ec) (hc2 : ec ≤ 1000) (hl : min (ea + eb) ec = low) (hl1 : -3000 ≤ low) (hl2 : low ≤ 3000) (hd1 : ea + eb - low = (d1 : Int)) (hd2 : ec - low = (d2 : Int)) (hX : Hid (Fl.rl X ≤ 255)) (hY : Hid (Fl.rl Y ≤ 255)) 
    (ia : ∀ w, Calls Try.prog 79 #[.int .u64 (a : Int)] w fun e w' => e = .returned (.bool a1) ∧ w = w')
    (ib : ∀ w, Calls Try.prog 79 #[.int .u64 (b : Int)] w fun e w' => e = .returned (.bool b1) ∧ w = w')
    (na : ∀ w, Calls Try.prog 78 #[.int .u64 (a : Int)] w fun e w' => e = .returned (.bool false) ∧ w = w')
    (nb : ∀ w, Calls Try.prog 78 #[.int .u64 (b : Int)] w fun e w' => e = .returned (.bool false) ∧ w = w')
    (nc : ∀ w, Calls Try.prog 78 #[.int .u64 (c : Int)] w fun e w' => e = .returned (.bool false) ∧ w = w')
    (ic : ∀ w, Calls Try.prog 79 #[.int .u64 (c : Int)] w fun e w' => e = .returned (.bool false) ∧ w = w')
    (za : ∀ w, Calls Try.prog 80 #[.int .u64 (a : Int)] w fun e w' => e = .returned (.bool false) ∧ w = w')
    (zb : ∀ w, Calls Try.prog 80 #[.int .u64 (b : Int)] w fun e w' => e = .returned (.bool false) ∧ w = w')
    (hsg : Hid (nsg X Y = 0))
    (pa pb : Bool) (sa : ∀ w, Calls Try.prog 61 #[.int .u64 (a : Int)] w fun e' w' => e' = .returned (.tuple #[.bool pa, .int .u64 (ma : Int), .int .i64 ea]) ∧ w = w')
    (sb : ∀ w, Calls Try.prog 61 #[.int .u64 (b : Int)] w fun e' w' => e' = .returned (.tuple #[.bool pb, .int .u64 (mb : Int), .int .i64 eb]) ∧ w = w')
    (sc : ∀ w, Calls Try.prog 61 #[.int .u64 (c : Int)] w fun e' w' => e' = .returned (.tuple #[.bool q, .int .u64 (mc : Int), .int .i64 ec]) ∧ w = w')
    (mu : ∀ w, Calls Try.prog 63 #[.int .u64 (ma : Int), .int .u64 (mb : Int)] w fun e w' => e = .returned (.agg #[.int .u64 (PH : Int), .int .u64 (PL : Int)]) ∧ Below w.heap.size w w')
    (n1 : ∀ w : World, Calls Try.prog 95 #[.agg #[.int .u64 (PH : Int), .int .u64 (PL : Int)], .int .i64 (d1 : Int)] w fun e w' => ∃ A' c', e = .returned (.slice A' (Fl.rl X) c') ∧ Num w' A' c' X (Fl.rl X) ∧ (∀ a, A' = some a → w.heap.size ≤ a.block) ∧ Below w.heap.size w w')
    (n2 : ∀ w : World, Calls Try.prog 95 #[.agg #[.int .u64 0, .int .u64 (mc : Int)], .int .i64 (d2 : Int)] w fun e w' => ∃ A' c', e = .returned (.slice A' (Fl.rl Y) c') ∧ Num w' A' c' Y (Fl.rl Y) ∧ (∀ a, A' = some a → w.heap.size ≤ a.block) ∧ Below w.heap.size w w')
    (w : World) : Calls Try.prog 49 #[.int .u64 (a : Int), .int .u64 (b : Int), .int .u64 (c : Int)] w fun e w' => e = .returned (.int .u64 0) ∧ Below w.heap.size w w' := by
  go_enter Try.func49, Try.ntmps49
  go_upto_region 2 with (fail)
  go_cut [8] (fun v8 wx => v8 = .bool false ∧ wx = w)
  case first =>
    cases a1
    · go_wp2_with fail
      refine (ia _).mono ?_
      rintro e w' ⟨rfl, rfl⟩
      go_wp2_with fail
      refine (ib _).mono ?_
      rintro e w' ⟨rfl, rfl⟩
      go_wp2
      go_meet
      exact ⟨by first | (rw [← hp.out]; done) | (rw [← hp.out]; rfl), rfl⟩
    · go_wp2_with fail
      refine (ia _).mono ?_
      rintro e w' ⟨rfl, rfl⟩
      go_wp2
      go_meet
      exact ⟨by first | (rw [← hp.out]; done) | (rw [← hp.out]; rfl), rfl⟩
  case rest =>
    obtain ⟨rfl, rfl⟩ := hcut
    clear ia ib hp
    go_wp2_with fail
    refine (na _).mono ?_
    rintro e w' ⟨rfl, rfl⟩
    go_wp2_with fail
    refine (nb _).mono ?_
    rintro e w' ⟨rfl, rfl⟩
    go_wp2_with fail
    refine (nc _).mono ?_
    rintro e w' ⟨rfl, rfl⟩
    go_wp2_with fail
    refine (ic _).mono ?_
    rintro e w' ⟨rfl, rfl⟩
    go_wp2_with fail
    refine (za _).mono ?_
    rintro e w' ⟨rfl, rfl⟩
    go_wp2_with fail
    refine (zb _).mono ?_
    rintro e w' ⟨rfl, rfl⟩
    go_wp2_with fail
    refine (sa _).mono ?_
    rintro e w' ⟨rfl, rfl⟩
    go_wp2_with fail
    refine (sb _).mono ?_
    rintro e w' ⟨rfl, rfl⟩
    go_wp2_with fail
    refine (sc _).mono ?_
    rintro e w' ⟨rfl, rfl⟩
    go_wp2_with fail
    refine (mu _).mono ?_
    rintro e w1 ⟨rfl, hb⟩
    have L := Lib.hid hb; clear hb
    go_wp2_with fail
    refine (n1 _).mono ?_
    rintro e w2 ⟨A1, c1, rfl, hXN, _, hb⟩
    replace L := Lib.hid ((L.out.alloc L.out.size _).trans (hb.mono (by have := L.out.size; simp; omega)))
    clear hb
    have HX := Lib.hid hXN; clear hXN
    go_wp2_with fail
    refine (n2 _).mono ?_
    rintro e w3 ⟨A2, c2, rfl, hYN, _, hb⟩
    replace HX := Lib.hid (HX.out.below hb)
    replace L := Lib.hid (L.out.trans (hb.mono L.out.size))
    clear hb
    have HY := Lib.hid hYN; clear hYN
    have cm := ncmp_any HX.out HY.out (by have := hX.out; omega) (by have := hY.out; omega)
    rw [hsg.out] at cm
    go_wp2_with fail
    refine cm.mono ?_
    rintro e w4 ⟨rfl, hb⟩
    replace HX := Lib.hid (HX.out.below hb)
    replace HY := Lib.hid (HY.out.below hb)
    replace L := Lib.hid (L.out.trans (hb.mono L.out.size))
    clear hb cm
    clear HX HY
    go_wp2
    go_ret
    exact ⟨rfl, L.out⟩

set_option maxHeartbeats 4000000 in
set_option maxRecDepth 100000 in
theorem fma_gt (a b c : Nat) (a1 b1 n : Bool) (hp : Hid ((a1 || b1) = false)) (hn : ((a : Int) / 9223372036854775808 != (b : Int) / 9223372036854775808) = n) (J : Nat) (q : Bool) (hq : (n == q) = false) (ma mb mc PH PL X Y d1 d2 : Nat) (ea eb ec low : Int) (ha1 : -1074 ≤ ea) (ha2 : ea ≤ 1000) (hb1 : -1074 ≤ eb) (hb2 : eb ≤ 1000) (hc1 : -1074 ≤ ec) (hc2 : ec ≤ 1000) (hl : min (ea + eb) ec = low) (hl1 : -3000 ≤ low) (hl2 : low ≤ 3000) (hd1 : ea + eb - low = (d1 : Int)) (hd2 : ec - low = (d2 : Int)) (hX : Hid (Fl.rl X ≤ 255)) (hY : Hid (Fl.rl Y ≤ 255)) 
    (ia : ∀ w, Calls Try.prog 79 #[.int .u64 (a : Int)] w fun e w' => e = .returned (.bool a1) ∧ w = w')
    (ib : ∀ w, Calls Try.prog 79 #[.int .u64 (b : Int)] w fun e w' => e = .returned (.bool b1) ∧ w = w')
    (na : ∀ w, Calls Try.prog 78 #[.int .u64 (a : Int)] w fun e w' => e = .returned (.bool false) ∧ w = w')
    (nb : ∀ w, Calls Try.prog 78 #[.int .u64 (b : Int)] w fun e w' => e = .returned (.bool false) ∧ w = w')
    (nc : ∀ w, Calls Try.prog 78 #[.int .u64 (c : Int)] w fun e w' => e = .returned (.bool false) ∧ w = w')
    (ic : ∀ w, Calls Try.prog 79 #[.int .u64 (c : Int)] w fun e w' => e = .returned (.bool false) ∧ w = w')
    (za : ∀ w, Calls Try.prog 80 #[.int .u64 (a : Int)] w fun e w' => e = .returned (.bool false) ∧ w = w')
    (zb : ∀ w, Calls Try.prog 80 #[.int .u64 (b : Int)] w fun e w' => e = .returned (.bool false) ∧ w = w')
    (hsg : Hid (nsg X Y = 1)) (hle : Hid (Y ≤ X)) (hRS : Hid (Fl.rl (X - Y) ≤ 255)) (hJ : Hid (Fl.pk n (Fl.rnd (X - Y) low false) = J))
    (pa pb : Bool) (sa : ∀ w, Calls Try.prog 61 #[.int .u64 (a : Int)] w fun e' w' => e' = .returned (.tuple #[.bool pa, .int .u64 (ma : Int), .int .i64 ea]) ∧ w = w')
    (sb : ∀ w, Calls Try.prog 61 #[.int .u64 (b : Int)] w fun e' w' => e' = .returned (.tuple #[.bool pb, .int .u64 (mb : Int), .int .i64 eb]) ∧ w = w')
    (sc : ∀ w, Calls Try.prog 61 #[.int .u64 (c : Int)] w fun e' w' => e' = .returned (.tuple #[.bool q, .int .u64 (mc : Int), .int .i64 ec]) ∧ w = w')
    (mu : ∀ w, Calls Try.prog 63 #[.int .u64 (ma : Int), .int .u64 (mb : Int)] w fun e w' => e = .returned (.agg #[.int .u64 (PH : Int), .int .u64 (PL : Int)]) ∧ Below w.heap.size w w')
    (n1 : ∀ w : World, Calls Try.prog 95 #[.agg #[.int .u64 (PH : Int), .int .u64 (PL : Int)], .int .i64 (d1 : Int)] w fun e w' => ∃ A' c', e = .returned (.slice A' (Fl.rl X) c') ∧ Num w' A' c' X (Fl.rl X) ∧ (∀ a, A' = some a → w.heap.size ≤ a.block) ∧ Below w.heap.size w w')
    (n2 : ∀ w : World, Calls Try.prog 95 #[.agg #[.int .u64 0, .int .u64 (mc : Int)], .int .i64 (d2 : Int)] w fun e w' => ∃ A' c', e = .returned (.slice A' (Fl.rl Y) c') ∧ Num w' A' c' Y (Fl.rl Y) ∧ (∀ a, A' = some a → w.heap.size ≤ a.block) ∧ Below w.heap.size w w')
    (w : World) : Calls Try.prog 49 #[.int .u64 (a : Int), .int .u64 (b : Int), .int .u64 (c : Int)] w fun e w' => e = .returned (.int .u64 (J : Int)) ∧ Below w.heap.size w w' := by
  go_enter Try.func49, Try.ntmps49
  go_upto_region 2 with (fail)
  go_cut [8] (fun v8 wx => v8 = .bool false ∧ wx = w)
  case first =>
    cases a1
    · go_wp2_with fail
      refine (ia _).mono ?_
      rintro e w' ⟨rfl, rfl⟩
      go_wp2_with fail
      refine (ib _).mono ?_
      rintro e w' ⟨rfl, rfl⟩
      go_wp2
      go_meet
      exact ⟨by first | (rw [← hp.out]; done) | (rw [← hp.out]; rfl), rfl⟩
    · go_wp2_with fail
      refine (ia _).mono ?_
      rintro e w' ⟨rfl, rfl⟩
      go_wp2
      go_meet
      exact ⟨by first | (rw [← hp.out]; done) | (rw [← hp.out]; rfl), rfl⟩
  case rest =>
    obtain ⟨rfl, rfl⟩ := hcut
    clear ia ib hp
    go_wp2_with fail
    refine (na _).mono ?_
    rintro e w' ⟨rfl, rfl⟩
    go_wp2_with fail
    refine (nb _).mono ?_
    rintro e w' ⟨rfl, rfl⟩
    go_wp2_with fail
    refine (nc _).mono ?_
    rintro e w' ⟨rfl, rfl⟩
    go_wp2_with fail
    refine (ic _).mono ?_
    rintro e w' ⟨rfl, rfl⟩
    go_wp2_with fail
    refine (za _).mono ?_
    rintro e w' ⟨rfl, rfl⟩
    go_wp2_with fail
    refine (zb _).mono ?_
    rintro e w' ⟨rfl, rfl⟩
    go_wp2_with fail
    refine (sa _).mono ?_
    rintro e w' ⟨rfl, rfl⟩
    go_wp2_with fail
    refine (sb _).mono ?_
    rintro e w' ⟨rfl, rfl⟩
    go_wp2_with fail
    refine (sc _).mono ?_
    rintro e w' ⟨rfl, rfl⟩
    go_wp2_with fail
    refine (mu _).mono ?_
    rintro e w1 ⟨rfl, hb⟩
    have L := Lib.hid hb; clear hb
    go_wp2_with fail
    refine (n1 _).mono ?_
    rintro e w2 ⟨A1, c1, rfl, hXN, _, hb⟩
    replace L := Lib.hid ((L.out.alloc L.out.size _).trans (hb.mono (by have := L.out.size; simp; omega)))
    clear hb
    have HX := Lib.hid hXN; clear hXN
    go_wp2_with fail
    refine (n2 _).mono ?_
    rintro e w3 ⟨A2, c2, rfl, hYN, _, hb⟩
    replace HX := Lib.hid (HX.out.below hb)
    replace L := Lib.hid (L.out.trans (hb.mono L.out.size))
    clear hb
    have HY := Lib.hid hYN; clear hYN
    have cm := ncmp_any HX.out HY.out (by have := hX.out; omega) (by have := hY.out; omega)
    rw [hsg.out] at cm
    go_wp2_with fail
    refine cm.mono ?_
    rintro e w4 ⟨rfl, hb⟩
    replace HX := Lib.hid (HX.out.below hb)
    replace HY := Lib.hid (HY.out.below hb)
    replace L := Lib.hid (L.out.trans (hb.mono L.out.size))
    clear hb cm
    have op := nsub_any HX.out HY.out (by have := hX.out; omega) (by have := hY.out; omega) hle.out
    go_wp2_with fail
    refine op.mono ?_
    rintro e w5 ⟨g5, T5, rfl, hS, hb⟩
    replace L := Lib.hid (L.out.trans (hb.mono L.out.size))
    clear hb op HX HY
    have rd := round_any hS (by have := hRS.out; omega) n false low (by omega) (by omega)
    rw [hJ.out] at rd
    clear hS
    generalize Fl.rl (X - Y) = R5 at *
    go_wp2_with fail
    refine rd.mono ?_
    rintro e w6 ⟨rfl, hb⟩
    replace L := Lib.hid (L.out.trans (hb.mono L.out.size))
    clear hb
    go_wp2
    go_ret
    exact ⟨rfl, L.out⟩

set_option maxHeartbeats 4000000 in
set_option maxRecDepth 100000 in
theorem fma_lt (a b c : Nat) (a1 b1 n : Bool) (hp : Hid ((a1 || b1) = false)) (hn : ((a : Int) / 9223372036854775808 != (b : Int) / 9223372036854775808) = n) (J : Nat) (q : Bool) (hq : (n == q) = false) (ma mb mc PH PL X Y d1 d2 : Nat) (ea eb ec low : Int) (ha1 : -1074 ≤ ea) (ha2 : ea ≤ 1000) (hb1 : -1074 ≤ eb) (hb2 : eb ≤ 1000) (hc1 : -1074 ≤ ec) (hc2 : ec ≤ 1000) (hl : min (ea + eb) ec = low) (hl1 : -3000 ≤ low) (hl2 : low ≤ 3000) (hd1 : ea + eb - low = (d1 : Int)) (hd2 : ec - low = (d2 : Int)) (hX : Hid (Fl.rl X ≤ 255)) (hY : Hid (Fl.rl Y ≤ 255)) 
    (ia : ∀ w, Calls Try.prog 79 #[.int .u64 (a : Int)] w fun e w' => e = .returned (.bool a1) ∧ w = w')
    (ib : ∀ w, Calls Try.prog 79 #[.int .u64 (b : Int)] w fun e w' => e = .returned (.bool b1) ∧ w = w')
    (na : ∀ w, Calls Try.prog 78 #[.int .u64 (a : Int)] w fun e w' => e = .returned (.bool false) ∧ w = w')
    (nb : ∀ w, Calls Try.prog 78 #[.int .u64 (b : Int)] w fun e w' => e = .returned (.bool false) ∧ w = w')
    (nc : ∀ w, Calls Try.prog 78 #[.int .u64 (c : Int)] w fun e w' => e = .returned (.bool false) ∧ w = w')
    (ic : ∀ w, Calls Try.prog 79 #[.int .u64 (c : Int)] w fun e w' => e = .returned (.bool false) ∧ w = w')
    (za : ∀ w, Calls Try.prog 80 #[.int .u64 (a : Int)] w fun e w' => e = .returned (.bool false) ∧ w = w')
    (zb : ∀ w, Calls Try.prog 80 #[.int .u64 (b : Int)] w fun e w' => e = .returned (.bool false) ∧ w = w')
    (hsg : Hid (nsg X Y = -1)) (hle : Hid (X ≤ Y)) (hRS : Hid (Fl.rl (Y - X) ≤ 255)) (hJ : Hid (Fl.pk q (Fl.rnd (Y - X) low false) = J))
    (pa pb : Bool) (sa : ∀ w, Calls Try.prog 61 #[.int .u64 (a : Int)] w fun e' w' => e' = .returned (.tuple #[.bool pa, .int .u64 (ma : Int), .int .i64 ea]) ∧ w = w')
    (sb : ∀ w, Calls Try.prog 61 #[.int .u64 (b : Int)] w fun e' w' => e' = .returned (.tuple #[.bool pb, .int .u64 (mb : Int), .int .i64 eb]) ∧ w = w')
    (sc : ∀ w, Calls Try.prog 61 #[.int .u64 (c : Int)] w fun e' w' => e' = .returned (.tuple #[.bool q, .int .u64 (mc : Int), .int .i64 ec]) ∧ w = w')
    (mu : ∀ w, Calls Try.prog 63 #[.int .u64 (ma : Int), .int .u64 (mb : Int)] w fun e w' => e = .returned (.agg #[.int .u64 (PH : Int), .int .u64 (PL : Int)]) ∧ Below w.heap.size w w')
    (n1 : ∀ w : World, Calls Try.prog 95 #[.agg #[.int .u64 (PH : Int), .int .u64 (PL : Int)], .int .i64 (d1 : Int)] w fun e w' => ∃ A' c', e = .returned (.slice A' (Fl.rl X) c') ∧ Num w' A' c' X (Fl.rl X) ∧ (∀ a, A' = some a → w.heap.size ≤ a.block) ∧ Below w.heap.size w w')
    (n2 : ∀ w : World, Calls Try.prog 95 #[.agg #[.int .u64 0, .int .u64 (mc : Int)], .int .i64 (d2 : Int)] w fun e w' => ∃ A' c', e = .returned (.slice A' (Fl.rl Y) c') ∧ Num w' A' c' Y (Fl.rl Y) ∧ (∀ a, A' = some a → w.heap.size ≤ a.block) ∧ Below w.heap.size w w')
    (w : World) : Calls Try.prog 49 #[.int .u64 (a : Int), .int .u64 (b : Int), .int .u64 (c : Int)] w fun e w' => e = .returned (.int .u64 (J : Int)) ∧ Below w.heap.size w w' := by
  go_enter Try.func49, Try.ntmps49
  go_upto_region 2 with (fail)
  go_cut [8] (fun v8 wx => v8 = .bool false ∧ wx = w)
  case first =>
    cases a1
    · go_wp2_with fail
      refine (ia _).mono ?_
      rintro e w' ⟨rfl, rfl⟩
      go_wp2_with fail
      refine (ib _).mono ?_
      rintro e w' ⟨rfl, rfl⟩
      go_wp2
      go_meet
      exact ⟨by first | (rw [← hp.out]; done) | (rw [← hp.out]; rfl), rfl⟩
    · go_wp2_with fail
      refine (ia _).mono ?_
      rintro e w' ⟨rfl, rfl⟩
      go_wp2
      go_meet
      exact ⟨by first | (rw [← hp.out]; done) | (rw [← hp.out]; rfl), rfl⟩
  case rest =>
    obtain ⟨rfl, rfl⟩ := hcut
    clear ia ib hp
    go_wp2_with fail
    refine (na _).mono ?_
    rintro e w' ⟨rfl, rfl⟩
    go_wp2_with fail
    refine (nb _).mono ?_
    rintro e w' ⟨rfl, rfl⟩
    go_wp2_with fail
    refine (nc _).mono ?_
    rintro e w' ⟨rfl, rfl⟩
    go_wp2_with fail
    refine (ic _).mono ?_
    rintro e w' ⟨rfl, rfl⟩
    go_wp2_with fail
    refine (za _).mono ?_
    rintro e w' ⟨rfl, rfl⟩
    go_wp2_with fail
    refine (zb _).mono ?_
    rintro e w' ⟨rfl, rfl⟩
    go_wp2_with fail
    refine (sa _).mono ?_
    rintro e w' ⟨rfl, rfl⟩
    go_wp2_with fail
    refine (sb _).mono ?_
    rintro e w' ⟨rfl, rfl⟩
    go_wp2_with fail
    refine (sc _).mono ?_
    rintro e w' ⟨rfl, rfl⟩
    go_wp2_with fail
    refine (mu _).mono ?_
    rintro e w1 ⟨rfl, hb⟩
    have L := Lib.hid hb; clear hb
    go_wp2_with fail
    refine (n1 _).mono ?_
    rintro e w2 ⟨A1, c1, rfl, hXN, _, hb⟩
    replace L := Lib.hid ((L.out.alloc L.out.size _).trans (hb.mono (by have := L.out.size; simp; omega)))
    clear hb
    have HX := Lib.hid hXN; clear hXN
    go_wp2_with fail
    refine (n2 _).mono ?_
    rintro e w3 ⟨A2, c2, rfl, hYN, _, hb⟩
    replace HX := Lib.hid (HX.out.below hb)
    replace L := Lib.hid (L.out.trans (hb.mono L.out.size))
    clear hb
    have HY := Lib.hid hYN; clear hYN
    have cm := ncmp_any HX.out HY.out (by have := hX.out; omega) (by have := hY.out; omega)
    rw [hsg.out] at cm
    go_wp2_with fail
    refine cm.mono ?_
    rintro e w4 ⟨rfl, hb⟩
    replace HX := Lib.hid (HX.out.below hb)
    replace HY := Lib.hid (HY.out.below hb)
    replace L := Lib.hid (L.out.trans (hb.mono L.out.size))
    clear hb cm
    have op := nsub_any HY.out HX.out (by have := hY.out; omega) (by have := hX.out; omega) hle.out
    go_wp2_with fail
    refine op.mono ?_
    rintro e w5 ⟨g5, T5, rfl, hS, hb⟩
    replace L := Lib.hid (L.out.trans (hb.mono L.out.size))
    clear hb op HX HY
    have rd := round_any hS (by have := hRS.out; omega) q false low (by omega) (by omega)
    rw [hJ.out] at rd
    clear hS
    generalize Fl.rl (Y - X) = R5 at *
    go_wp2_with fail
    refine rd.mono ?_
    rintro e w6 ⟨rfl, hb⟩
    replace L := Lib.hid (L.out.trans (hb.mono L.out.size))
    clear hb
    go_wp2
    go_ret
    exact ⟨rfl, L.out⟩

end Go.Proofs.Ytaplggheadahhaa

namespace Go.Proofs.Ytaplggheadahhaa
open Go.RowKit
set_option linter.unusedVariables false
set_option linter.unusedSimpArgs false

theorem nsg_cases (X Y : Nat) : (nsg X Y = 0 ∧ X = Y) ∨ (nsg X Y = 1 ∧ Y < X) ∨ (nsg X Y = -1 ∧ X < Y) := by
  unfold nsg
  by_cases h : X < Y
  · rw [if_pos h]; exact .inr (.inr ⟨rfl, h⟩)
  · rw [if_neg h]
    by_cases h2 : Y < X
    · rw [if_pos h2]; exact .inr (.inl ⟨rfl, h2⟩)
    · rw [if_neg h2]; exact .inl ⟨rfl, by omega⟩
theorem rl_of {N n K : Nat} (h : N < 2 ^ n) (hn : n ≤ 32 * K) : Fl.rl N ≤ K := Fl.rl_le.1 (Nat.lt_of_lt_of_le h (Nat.pow_le_pow_right (by decide) hn))
theorem rl_sub {X Y K : Nat} (h : Fl.rl X ≤ K) : Fl.rl (X - Y) ≤ K := Fl.rl_le.1 (Nat.lt_of_le_of_lt (Nat.sub_le _ _) (Fl.rl_le.2 h))

theorem fma_work (a b c : Nat) (ha : a < 18446744073709551616) (hb : b < 18446744073709551616) (hc : c < 18446744073709551616) (ka : Fl.kd a < 3) (kb : Fl.kd b < 3) (kc : Fl.kd c < 3) (za : Fl.kd a ≠ 0) (zb : Fl.kd b ≠ 0)
    (ia : ∀ w, Calls Try.prog 79 #[.int .u64 (a : Int)] w fun e w' => e = .returned (.bool false) ∧ w = w') (ib : ∀ w, Calls Try.prog 79 #[.int .u64 (b : Int)] w fun e w' => e = .returned (.bool false) ∧ w = w')
    (na : ∀ w, Calls Try.prog 78 #[.int .u64 (a : Int)] w fun e w' => e = .returned (.bool false) ∧ w = w') (nb : ∀ w, Calls Try.prog 78 #[.int .u64 (b : Int)] w fun e w' => e = .returned (.bool false) ∧ w = w') (nc : ∀ w, Calls Try.prog 78 #[.int .u64 (c : Int)] w fun e w' => e = .returned (.bool false) ∧ w = w')
    (ic : ∀ w, Calls Try.prog 79 #[.int .u64 (c : Int)] w fun e w' => e = .returned (.bool false) ∧ w = w') (xa : ∀ w, Calls Try.prog 80 #[.int .u64 (a : Int)] w fun e w' => e = .returned (.bool false) ∧ w = w') (xb : ∀ w, Calls Try.prog 80 #[.int .u64 (b : Int)] w fun e w' => e = .returned (.bool false) ∧ w = w') (w : World) :
    Calls Try.prog 49 #[.int .u64 (a : Int), .int .u64 (b : Int), .int .u64 (c : Int)] w fun e w' => e = .returned (.int .u64 ((Fl.fmaN a b c : Nat) : Int)) ∧ Below w.heap.size w w' := by
  have hn := neg_ne a b ha hb
  have sa := sh_le ka
  have sb := sh_le kb
  have sc := sh_le kc
  have spa := split_fin a ha ka
  have spb := split_fin b hb kb
  have spc := split_fin c hc kc
  have ma := Fl.mant_lt (Fl.ab a)
  have mb := Fl.mant_lt (Fl.ab b)
  have mc := Fl.mant_lt (Fl.ab c)
  have pa : 0 < Fl.mant (Fl.ab a) := Fl.mant_pos (by rcases Nat.eq_zero_or_pos (Fl.ab a) with h | h; (· exact absurd (Fl.kd_zero.2 h) za); exact h)
  have pb : 0 < Fl.mant (Fl.ab b) := Fl.mant_pos (by rcases Nat.eq_zero_or_pos (Fl.ab b) with h | h; (· exact absurd (Fl.kd_zero.2 h) zb); exact h)
  obtain ⟨t, ht⟩ : ∃ t : Nat, min (Fl.sh (Fl.ab a) + Fl.sh (Fl.ab b)) (Fl.sh (Fl.ab c) + 1074) = t := ⟨_, rfl⟩
  obtain ⟨d1, h1⟩ : ∃ d1, Fl.sh (Fl.ab a) + Fl.sh (Fl.ab b) = d1 + t := ⟨Fl.sh (Fl.ab a) + Fl.sh (Fl.ab b) - t, by omega⟩
  obtain ⟨d2, h2⟩ : ∃ d2, Fl.sh (Fl.ab c) + 1074 = d2 + t := ⟨Fl.sh (Fl.ab c) + 1074 - t, by omega⟩
  have hp : Fl.mant (Fl.ab a) * Fl.mant (Fl.ab b) < 2 ^ 106 := by
    have := Nat.mul_lt_mul'' ma mb
    have e : 9007199254740992 * 9007199254740992 = 2 ^ 106 := by decide
    omega
  have hp2 : Fl.mant (Fl.ab a) * Fl.mant (Fl.ab b) < 340282366920938463463374607431768211456 := Nat.lt_trans hp (by decide)
  have mu := wmul_any (Fl.mant (Fl.ab a)) (Fl.mant (Fl.ab b)) (by omega) (by omega)
  have hb1 := Fl.bl_le_of_lt hp
  have hb2 : Fl.bl (Fl.mant (Fl.ab c)) ≤ 53 := Fl.bl_mant_le _
  have n1 := natural_any (Fl.mant (Fl.ab a) * Fl.mant (Fl.ab b)) d1 hp2 (by omega)
  have n2 := natural_any (Fl.mant (Fl.ab c)) d2 (by omega) (by omega)
  rw [Fl.hi_of_lt (by omega), Fl.lo_of_lt (by omega)] at n2
  have hX0 : 0 < Fl.mant (Fl.ab a) * Fl.mant (Fl.ab b) * 2 ^ d1 := Nat.mul_pos (Nat.mul_pos pa pb) (Nat.pow_pos (by decide))
  have hXl : Fl.rl (Fl.mant (Fl.ab a) * Fl.mant (Fl.ab b) * 2 ^ d1) ≤ 200 := by
    refine rl_of (n := 106 + d1) ?_ (by omega)
    rw [Nat.pow_add]; exact Nat.mul_lt_mul_of_pos_right hp (Nat.pow_pos (by decide))
  have hYl : Fl.rl (Fl.mant (Fl.ab c) * 2 ^ d2) ≤ 200 := by
    refine rl_of (n := 53 + d2) ?_ (by omega)
    rw [Nat.pow_add]; exact Nat.mul_lt_mul_of_pos_right mc (Nat.pow_pos (by decide))
  have hS := Fl.rl_add hXl hYl
  obtain ⟨X, hX⟩ : ∃ X, Fl.mant (Fl.ab a) * Fl.mant (Fl.ab b) * 2 ^ d1 = X := ⟨_, rfl⟩
  obtain ⟨Y, hY⟩ : ∃ Y, Fl.mant (Fl.ab c) * 2 ^ d2 = Y := ⟨_, rfl⟩
  rw [hX] at n1 hX0 hXl hS
  rw [hY] at n2 hYl hS
  have hl : ((t : Int) - 2148) = (t : Int) - 2148 := rfl
  have e1 : min ((Fl.sh (Fl.ab a) : Int) - 1074 + ((Fl.sh (Fl.ab b) : Int) - 1074)) ((Fl.sh (Fl.ab c) : Int) - 1074) = (t : Int) - 2148 := by omega
  by_cases hs : (Fl.ng a != Fl.ng b) = Fl.ng c
  · rw [Fl.fma_same h1 h2 hX hY hl ka kb kc za zb hX0 hs]
    rw [← hs] at spc
    exact fma_same a b c false false _ (Lib.hid rfl) hn _ _ _ _ _ _ X Y d1 d2 _ _ _ _ (by omega) (by omega) (by omega) (by omega) (by omega) (by omega) e1 (by omega) (by omega) (by omega) (by omega) (Lib.hid (by omega)) (Lib.hid (by omega)) ia ib na nb nc ic xa xb
      (Lib.hid (by omega)) (Lib.hid rfl) _ _ spa spb spc mu n1 n2 w
  · have hs2 : (Fl.ng a != Fl.ng b) = !Fl.ng c := by
      revert hs; cases (Fl.ng a != Fl.ng b) <;> cases Fl.ng c <;> simp
    have hq : ((Fl.ng a != Fl.ng b) == Fl.ng c) = false := by rw [hs2]; cases Fl.ng c <;> rfl
    rcases nsg_cases X Y with ⟨g, h⟩ | ⟨g, h⟩ | ⟨g, h⟩
    · rw [Fl.fma_zero h1 h2 hX hY ka kb kc za zb hs2 h]
      exact fma_zero a b c false false _ (Lib.hid rfl) hn _ hq _ _ _ _ _ X Y d1 d2 _ _ _ _ (by omega) (by omega) (by omega) (by omega) (by omega) (by omega) e1 (by omega) (by omega) (by omega) (by omega) (Lib.hid (by omega)) (Lib.hid (by omega)) ia ib na nb nc ic xa xb
        (Lib.hid g) _ _ spa spb spc mu n1 n2 w
    · rw [Fl.fma_gt h1 h2 hX hY hl ka kb kc za zb hs2 h]
      exact fma_gt a b c false false _ (Lib.hid rfl) hn _ _ hq _ _ _ _ _ X Y d1 d2 _ _ _ _ (by omega) (by omega) (by omega) (by omega) (by omega) (by omega) e1 (by omega) (by omega) (by omega) (by omega) (Lib.hid (by omega)) (Lib.hid (by omega)) ia ib na nb nc ic xa xb
        (Lib.hid g) (Lib.hid (by omega)) (Lib.hid (Nat.le_trans (rl_sub hXl) (by omega))) (Lib.hid rfl) _ _ spa spb spc mu n1 n2 w
    · rw [Fl.fma_lt h1 h2 hX hY hl ka kb kc za zb hs2 h]
      exact fma_lt a b c false false _ (Lib.hid rfl) hn _ _ hq _ _ _ _ _ X Y d1 d2 _ _ _ _ (by omega) (by omega) (by omega) (by omega) (by omega) (by omega) e1 (by omega) (by omega) (by omega) (by omega) (Lib.hid (by omega)) (Lib.hid (by omega)) ia ib na nb nc ic xa xb
        (Lib.hid g) (Lib.hid (by omega)) (Lib.hid (Nat.le_trans (rl_sub hYl) (by omega))) (Lib.hid rfl) _ _ spa spb spc mu n1 n2 w

theorem ng_bit1 (x : Nat) (h : x < 18446744073709551616) : ((x : Int) / 9223372036854775808 == 1) = Fl.ng x := by rw [ng_div x h]; cases Fl.ng x <;> rfl
theorem fma_none {a b c : Nat} (h : Fl.kd a = 4 ∨ Fl.kd b = 4 ∨ Fl.kd c = 4 ∨ ((Fl.kd a = 3 ∨ Fl.kd b = 3) ∧ (Fl.kd a = 0 ∨ Fl.kd b = 0)) ∨ ((Fl.kd a = 3 ∨ Fl.kd b = 3) ∧ Fl.kd c = 3 ∧ Fl.ng c ≠ (Fl.ng a != Fl.ng b))) : Fl.fmaN a b c = Fl.NAN := by
  unfold Fl.fmaN; rw [if_pos h]
theorem fma_inf {a b c : Nat} (h : ¬ (Fl.kd a = 4 ∨ Fl.kd b = 4 ∨ Fl.kd c = 4 ∨ ((Fl.kd a = 3 ∨ Fl.kd b = 3) ∧ (Fl.kd a = 0 ∨ Fl.kd b = 0)) ∨ ((Fl.kd a = 3 ∨ Fl.kd b = 3) ∧ Fl.kd c = 3 ∧ Fl.ng c ≠ (Fl.ng a != Fl.ng b)))) (h2 : Fl.kd a = 3 ∨ Fl.kd b = 3) : Fl.fmaN a b c = Fl.pk (Fl.ng a != Fl.ng b) Fl.INF := by
  unfold Fl.fmaN; rw [if_neg h, if_pos h2]
theorem fma_self {a b c : Nat} (ka : Fl.kd a < 3) (kb : Fl.kd b < 3) (kc : Fl.kd c = 3) : Fl.fmaN a b c = c := by
  unfold Fl.fmaN; rw [if_neg (by omega), if_neg (by omega), if_pos kc]

/-- root.Fma -/
theorem fma_any (a b c : Nat) (ha : a < 18446744073709551616) (hb : b < 18446744073709551616) (hc : c < 18446744073709551616) (w : World) :
    Calls Try.prog 49 #[.int .u64 (a : Int), .int .u64 (b : Int), .int .u64 (c : Int)] w fun e w' => e = .returned (.int .u64 ((Fl.fmaN a b c : Nat) : Int)) ∧ Below w.heap.size w w' := by
  have na := rnone_any a ha
  have nb := rnone_any b hb
  have nc := rnone_any c hc
  have ia := rinf_any a ha
  have ib := rinf_any b hb
  have ic := rinf_any c hc
  have za := rzero_any a ha
  have zb := rzero_any b hb
  have hn := neg_ne a b ha hb
  have la := Fl.kd_le a
  have lb := Fl.kd_le b
  have lc := Fl.kd_le c
  have wI := rwith_any (Fl.ng a != Fl.ng b) 9218868437227405312 (by decide)
  have w0 := rwith_any (Fl.ng a != Fl.ng b) 0 (by decide)
  have eN : ((Fl.NAN : Nat) : Int) = 9221120237041090560 := rfl
  have hpd : (decide (Fl.kd a = 3) || decide (Fl.kd b = 3)) = decide (Fl.kd a = 3 ∨ Fl.kd b = 3) := by simp
  by_cases c1 : Fl.kd a = 4
  · rw [fma_none (.inl c1), eN]; rw [decide_eq_true c1] at na
    by_cases p : Fl.kd a = 3 ∨ Fl.kd b = 3
    · exact fma_nan1t a b c _ _ _ (Lib.hid (by rw [hpd, decide_eq_true p])) hn ia ib na w
    · exact fma_nan1f a b c _ _ _ (Lib.hid (by rw [hpd, decide_eq_false p])) hn ia ib na w
  rw [decide_eq_false c1] at na
  by_cases c2 : Fl.kd b = 4
  · rw [fma_none (.inr (.inl c2)), eN]; rw [decide_eq_true c2] at nb
    by_cases p : Fl.kd a = 3 ∨ Fl.kd b = 3
    · exact fma_nan2t a b c _ _ _ (Lib.hid (by rw [hpd, decide_eq_true p])) hn ia ib na nb w
    · exact fma_nan2f a b c _ _ _ (Lib.hid (by rw [hpd, decide_eq_false p])) hn ia ib na nb w
  rw [decide_eq_false c2] at nb
  by_cases c3 : Fl.kd c = 4
  · rw [fma_none (.inr (.inr (.inl c3))), eN]; rw [decide_eq_true c3] at nc
    by_cases p : Fl.kd a = 3 ∨ Fl.kd b = 3
    · exact fma_nan3t a b c _ _ _ (Lib.hid (by rw [hpd, decide_eq_true p])) hn ia ib na nb nc w
    · exact fma_nan3f a b c _ _ _ (Lib.hid (by rw [hpd, decide_eq_false p])) hn ia ib na nb nc w
  rw [decide_eq_false c3] at nc
  by_cases p : Fl.kd a = 3 ∨ Fl.kd b = 3
  · have hp := Lib.hid (show (decide (Fl.kd a = 3) || decide (Fl.kd b = 3)) = true by rw [hpd, decide_eq_true p])
    by_cases c4 : Fl.kd a = 0
    · rw [fma_none (.inr (.inr (.inr (.inl ⟨p, .inl c4⟩)))), eN]; rw [decide_eq_true c4] at za
      exact fma_nan4 a b c _ _ _ hp hn ia ib na nb nc za w
    rw [decide_eq_false c4] at za
    by_cases c5 : Fl.kd b = 0
    · rw [fma_none (.inr (.inr (.inr (.inl ⟨p, .inr c5⟩)))), eN]; rw [decide_eq_true c5] at zb
      exact fma_nan5 a b c _ _ _ hp hn ia ib na nb nc za zb w
    rw [decide_eq_false c5] at zb
    have hq := ng_bit1 c hc
    by_cases c6 : Fl.kd c = 3
    · rw [decide_eq_true c6] at ic
      by_cases c7 : Fl.ng c = (Fl.ng a != Fl.ng b)
      · rw [fma_inf (by rintro (h | h | h | ⟨_, h | h⟩ | ⟨_, _, h⟩) <;> first | contradiction | exact h c7) p]
        exact fma_inf1 a b c _ _ _ hp hn _ _ hq (by rw [c7]; simp) ia ib na nb nc za zb ic wI w
      · rw [fma_none (.inr (.inr (.inr (.inr ⟨p, c6, c7⟩)))), eN]
        exact fma_nan6 a b c _ _ _ hp hn _ hq (by revert c7; cases Fl.ng c <;> cases (Fl.ng a != Fl.ng b) <;> simp) ia ib na nb nc za zb ic w
    · rw [decide_eq_false c6] at ic
      rw [fma_inf (by rintro (h | h | h | ⟨_, h | h⟩ | ⟨_, h, _⟩) <;> contradiction) p]
      exact fma_inf2 a b c _ _ _ hp hn _ ia ib na nb nc za zb ic wI w
  · have hp := Lib.hid (show (decide (Fl.kd a = 3) || decide (Fl.kd b = 3)) = false by rw [hpd, decide_eq_false p])
    have ka : Fl.kd a < 3 := by omega
    have kb : Fl.kd b < 3 := by omega
    by_cases c6 : Fl.kd c = 3
    · rw [fma_self ka kb c6]; rw [decide_eq_true c6] at ic
      exact fma_selfw a b c _ _ _ hp hn ia ib na nb nc ic w
    rw [decide_eq_false c6] at ic
    have kc : Fl.kd c < 3 := by omega
    have hZ : Fl.pk (Fl.ng a != Fl.ng b) 0 < 18446744073709551616 := Fl.pk_lt (Nat.zero_le _)
    by_cases c4 : Fl.kd a = 0
    · rw [Fl.fma_add ka kb kc (.inl c4)]; rw [decide_eq_true c4] at za
      exact fma_add1 a b c _ _ _ hp hn _ _ ia ib na nb nc ic za w0 (add_any _ c hZ hc) w
    rw [decide_eq_false c4] at za
    by_cases c5 : Fl.kd b = 0
    · rw [Fl.fma_add ka kb kc (.inr c5)]; rw [decide_eq_true c5] at zb
      exact fma_add2 a b c _ _ _ hp hn _ _ ia ib na nb nc ic za zb w0 (add_any _ c hZ hc) w
    rw [decide_eq_false c5] at zb
    rw [decide_eq_false (show ¬ Fl.kd a = 3 by omega)] at ia
    rw [decide_eq_false (show ¬ Fl.kd b = 3 by omega)] at ib
    exact fma_work a b c ha hb hc ka kb kc c4 c5 ia ib na nb nc ic za zb w
end Go.Proofs.Ytaplggheadahhaa

namespace Go.Proofs.Ytaplggheadahhaa
open Go.RowKit
set_option linter.unusedVariables false
set_option linter.unusedSimpArgs false

theorem div_c {a b c : Nat} (ha : a < 18446744073709551616) (hb : b < 18446744073709551616) (h : Fl.divN a b = c) (w : World) : Calls Try.prog 45 #[.int .u64 (a : Int), .int .u64 (b : Int)] w fun e w' => e = .returned (.int .u64 (c : Int)) ∧ Below w.heap.size w w' := by rw [← h]; exact div_any a b ha hb w
theorem sqrt_c {a c : Nat} (ha : a < 18446744073709551616) (h : Fl.sqrtN a = c) (w : World) : Calls Try.prog 47 #[.int .u64 (a : Int)] w fun e w' => e = .returned (.int .u64 (c : Int)) ∧ Below w.heap.size w w' := by rw [← h]; exact sqrt_any a ha w
theorem fma_c {a b c d : Nat} (ha : a < 18446744073709551616) (hb : b < 18446744073709551616) (hc : c < 18446744073709551616) (h : Fl.fmaN a b c = d) (w : World) : Calls Try.prog 49 #[.int .u64 (a : Int), .int .u64 (b : Int), .int .u64 (c : Int)] w fun e w' => e = .returned (.int .u64 (d : Int)) ∧ Below w.heap.size w w' := by rw [← h]; exact fma_any a b c ha hb hc w
theorem mod_c {a b c : Nat} (ha : a < 18446744073709551616) (hb : b < 18446744073709551616) (h : Fl.modN a b = c) (w : World) : Calls Try.prog 51 #[.int .u64 (a : Int), .int .u64 (b : Int)] w fun e w' => e = .returned (.int .u64 (c : Int)) ∧ Below w.heap.size w w' := by rw [← h]; exact mod_any a b ha hb w
theorem pow_c {a c : Nat} {n : Int} (ha : a < 18446744073709551616) (h1 : -9223372036854775808 ≤ n) (h2 : n ≤ 9223372036854775807) (h : Fl.powN a n = c) (w : World) : Calls Try.prog 53 #[.int .u64 (a : Int), .int .i64 n] w fun e w' => e = .returned (.int .u64 (c : Int)) ∧ Below w.heap.size w w' := by rw [← h]; exact pow_any a n ha h1 h2 w
theorem pows_next {a k u p s : Nat} (h : Fl.pows a k (u / 2) = p) (h2 : (if u % 2 = 1 then Fl.mulN (Fl.mulN p p) a else Fl.mulN p p) = s) : Fl.pows a (k + 1) u = s := by rw [pows_succ, h]; exact h2
theorem powN_of {a c u k : Nat} {n : Int} (hk : Fl.kd a ≠ 4) (hn : ¬ n < 0) (hu : n.natAbs = u) (hb : u < 2 ^ k) (hk2 : k ≤ 64) (h : Fl.pows a k u = c) : Fl.powN a n = c := by
  unfold Fl.powN
  rw [if_neg hk, if_neg hn, hu, ← h]
  have := pows_more a k u hb (64 - k)
  rwa [show k + (64 - k) = 64 by omega] at this
theorem powN_neg {a c d u k : Nat} {n : Int} (hk : Fl.kd a ≠ 4) (hn : n < 0) (hu : n.natAbs = u) (hb : u < 2 ^ k) (hk2 : k ≤ 64) (h : Fl.pows a k u = c) (hd : Fl.divN 4607182418800017408 c = d) : Fl.powN a n = d := by
  unfold Fl.powN
  rw [if_neg hk, if_pos hn, hu, ← hd, ← h]
  have := pows_more a k u hb (64 - k)
  rw [show k + (64 - k) = 64 by omega] at this
  rw [this]

theorem s5_0 (w : World) : Calls Try.prog 45 #[.int .u64 4607182418800017408, .int .u64 4613937818241073152] w fun e w' => e = .returned (.int .u64 4599676419421066581) ∧ Below w.heap.size w w' := div_c (a := 4607182418800017408) (b := 4613937818241073152) (c := 4599676419421066581) (by decide) (by decide) (by decide +kernel) w
theorem s5_1 (w : World) : Calls Try.prog 45 #[.int .u64 4607182418800017408, .int .u64 9223372036854775808] w fun e w' => e = .returned (.int .u64 18442240474082181120) ∧ Below w.heap.size w w' := div_c (a := 4607182418800017408) (b := 9223372036854775808) (c := 18442240474082181120) (by decide) (by decide) (by decide +kernel) w
theorem s5_2 (w : World) : Calls Try.prog 45 #[.int .u64 0, .int .u64 0] w fun e w' => e = .returned (.int .u64 9221120237041090560) ∧ Below w.heap.size w w' := div_c (a := 0) (b := 0) (c := 9221120237041090560) (by decide) (by decide) (by decide +kernel) w
theorem s5_3 (w : World) : Calls Try.prog 45 #[.int .u64 13830554455654793216, .int .u64 9218868437227405312] w fun e w' => e = .returned (.int .u64 9223372036854775808) ∧ Below w.heap.size w w' := div_c (a := 13830554455654793216) (b := 9218868437227405312) (c := 9223372036854775808) (by decide) (by decide) (by decide +kernel) w
theorem s5_4 (w : World) : Calls Try.prog 45 #[.int .u64 1, .int .u64 4611686018427387904] w fun e w' => e = .returned (.int .u64 0) ∧ Below w.heap.size w w' := div_c (a := 1) (b := 4611686018427387904) (c := 0) (by decide) (by decide) (by decide +kernel) w
theorem s5_5 (w : World) : Calls Try.prog 47 #[.int .u64 4611686018427387904] w fun e w' => e = .returned (.int .u64 4609047870845172685) ∧ Below w.heap.size w w' := sqrt_c (a := 4611686018427387904) (c := 4609047870845172685) (by decide) (by decide +kernel) w
theorem s5_6 (w : World) : Calls Try.prog 47 #[.int .u64 13830554455654793216] w fun e w' => e = .returned (.int .u64 9221120237041090560) ∧ Below w.heap.size w w' := sqrt_c (a := 13830554455654793216) (c := 9221120237041090560) (by decide) (by decide +kernel) w
theorem s5_7 (w : World) : Calls Try.prog 47 #[.int .u64 9223372036854775808] w fun e w' => e = .returned (.int .u64 9223372036854775808) ∧ Below w.heap.size w w' := sqrt_c (a := 9223372036854775808) (c := 9223372036854775808) (by decide) (by decide +kernel) w
theorem s5_8 (w : World) : Calls Try.prog 47 #[.int .u64 1] w fun e w' => e = .returned (.int .u64 2188749418902061056) ∧ Below w.heap.size w w' := sqrt_c (a := 1) (c := 2188749418902061056) (by decide) (by decide +kernel) w
theorem s5_9 (w : World) : Calls Try.prog 49 #[.int .u64 4591870180066957722, .int .u64 4621819117588971520, .int .u64 13830554455654793216] w fun e w' => e = .returned (.int .u64 4363988038922010624) ∧ Below w.heap.size w w' := fma_c (a := 4591870180066957722) (b := 4621819117588971520) (c := 13830554455654793216) (d := 4363988038922010624) (by decide) (by decide) (by decide) (by decide +kernel) w
theorem s5_10 (w : World) : Calls Try.prog 49 #[.int .u64 9218868437227405312, .int .u64 0, .int .u64 4607182418800017408] w fun e w' => e = .returned (.int .u64 9221120237041090560) ∧ Below w.heap.size w w' := fma_c (a := 9218868437227405312) (b := 0) (c := 4607182418800017408) (d := 9221120237041090560) (by decide) (by decide) (by decide) (by decide +kernel) w
theorem s5_11 (w : World) : Calls Try.prog 49 #[.int .u64 4607182418800017408, .int .u64 9223372036854775808, .int .u64 0] w fun e w' => e = .returned (.int .u64 0) ∧ Below w.heap.size w w' := fma_c (a := 4607182418800017408) (b := 9223372036854775808) (c := 0) (d := 0) (by decide) (by decide) (by decide) (by decide +kernel) w
theorem s5_12 (w : World) : Calls Try.prog 51 #[.int .u64 4619567317775286272, .int .u64 4613937818241073152] w fun e w' => e = .returned (.int .u64 4607182418800017408) ∧ Below w.heap.size w w' := mod_c (a := 4619567317775286272) (b := 4613937818241073152) (c := 4607182418800017408) (by decide) (by decide) (by decide +kernel) w
theorem s5_13 (w : World) : Calls Try.prog 51 #[.int .u64 13842939354630062080, .int .u64 4613937818241073152] w fun e w' => e = .returned (.int .u64 13830554455654793216) ∧ Below w.heap.size w w' := mod_c (a := 13842939354630062080) (b := 4613937818241073152) (c := 13830554455654793216) (by decide) (by decide) (by decide +kernel) w
theorem s5_14 (w : World) : Calls Try.prog 51 #[.int .u64 9094988921128908188, .int .u64 4619567317775286272] w fun e w' => e = .returned (.int .u64 4607182418800017408) ∧ Below w.heap.size w w' := mod_c (a := 9094988921128908188) (b := 4619567317775286272) (c := 4607182418800017408) (by decide) (by decide) (by decide +kernel) w
theorem s5_15 (w : World) : Calls Try.prog 51 #[.int .u64 13841813454723219456, .int .u64 4613937818241073152] w fun e w' => e = .returned (.int .u64 9223372036854775808) ∧ Below w.heap.size w w' := mod_c (a := 13841813454723219456) (b := 4613937818241073152) (c := 9223372036854775808) (by decide) (by decide) (by decide +kernel) w
theorem s5_16 (w : World) : Calls Try.prog 51 #[.int .u64 4607182418800017408, .int .u64 0] w fun e w' => e = .returned (.int .u64 9221120237041090560) ∧ Below w.heap.size w w' := mod_c (a := 4607182418800017408) (b := 0) (c := 9221120237041090560) (by decide) (by decide) (by decide +kernel) w
theorem s5_17 (w : World) : Calls Try.prog 51 #[.int .u64 4617315517961601024, .int .u64 9218868437227405312] w fun e w' => e = .returned (.int .u64 4617315517961601024) ∧ Below w.heap.size w w' := mod_c (a := 4617315517961601024) (b := 9218868437227405312) (c := 4617315517961601024) (by decide) (by decide) (by decide +kernel) w
theorem s5p_18_0 : Fl.pows 4611686018427387904 0 0 = 4607182418800017408 := rfl
theorem s5p_18_1 : Fl.pows 4611686018427387904 1 1 = 4611686018427387904 := pows_next (k := 0) (p := 4607182418800017408) s5p_18_0 (by decide +kernel)
theorem s5p_18_2 : Fl.pows 4611686018427387904 2 2 = 4616189618054758400 := pows_next (k := 1) (p := 4611686018427387904) s5p_18_1 (by decide +kernel)
theorem s5p_18_3 : Fl.pows 4611686018427387904 3 5 = 4629700416936869888 := pows_next (k := 2) (p := 4616189618054758400) s5p_18_2 (by decide +kernel)
theorem s5p_18_4 : Fl.pows 4611686018427387904 4 10 = 4652218415073722368 := pows_next (k := 3) (p := 4629700416936869888) s5p_18_3 (by decide +kernel)
theorem s5_18 (w : World) : Calls Try.prog 53 #[.int .u64 4611686018427387904, .int .i64 (10)] w fun e w' => e = .returned (.int .u64 4652218415073722368) ∧ Below w.heap.size w w' := pow_c (a := 4611686018427387904) (c := 4652218415073722368) (n := 10) (by decide) (by decide) (by decide) (powN_of (u := 10) (k := 4) (by decide +kernel) (by decide) rfl (by decide) (by decide) s5p_18_4) w
theorem s5p_19_0 : Fl.pows 4611686018427387904 0 0 = 4607182418800017408 := rfl
theorem s5p_19_1 : Fl.pows 4611686018427387904 1 1 = 4611686018427387904 := pows_next (k := 0) (p := 4607182418800017408) s5p_19_0 (by decide +kernel)
theorem s5p_19_2 : Fl.pows 4611686018427387904 2 2 = 4616189618054758400 := pows_next (k := 1) (p := 4611686018427387904) s5p_19_1 (by decide +kernel)
theorem s5p_19_3 : Fl.pows 4611686018427387904 3 4 = 4625196817309499392 := pows_next (k := 2) (p := 4616189618054758400) s5p_19_2 (by decide +kernel)
theorem s5p_19_4 : Fl.pows 4611686018427387904 4 8 = 4643211215818981376 := pows_next (k := 3) (p := 4625196817309499392) s5p_19_3 (by decide +kernel)
theorem s5p_19_5 : Fl.pows 4611686018427387904 5 16 = 4679240012837945344 := pows_next (k := 4) (p := 4643211215818981376) s5p_19_4 (by decide +kernel)
theorem s5p_19_6 : Fl.pows 4611686018427387904 6 33 = 4755801206503243776 := pows_next (k := 5) (p := 4679240012837945344) s5p_19_5 (by decide +kernel)
theorem s5p_19_7 : Fl.pows 4611686018427387904 7 67 = 4908923593833840640 := pows_next (k := 6) (p := 4755801206503243776) s5p_19_6 (by decide +kernel)
theorem s5p_19_8 : Fl.pows 4611686018427387904 8 134 = 5210664768867663872 := pows_next (k := 7) (p := 4908923593833840640) s5p_19_7 (by decide +kernel)
theorem s5p_19_9 : Fl.pows 4611686018427387904 9 268 = 5814147118935310336 := pows_next (k := 8) (p := 5210664768867663872) s5p_19_8 (by decide +kernel)
theorem s5p_19_10 : Fl.pows 4611686018427387904 10 537 = 7025615418697973760 := pows_next (k := 9) (p := 5814147118935310336) s5p_19_9 (by decide +kernel)
theorem s5p_19_11 : Fl.pows 4611686018427387904 11 1074 = 9218868437227405312 := pows_next (k := 10) (p := 7025615418697973760) s5p_19_10 (by decide +kernel)
theorem s5_19 (w : World) : Calls Try.prog 53 #[.int .u64 4611686018427387904, .int .i64 (-1074)] w fun e w' => e = .returned (.int .u64 0) ∧ Below w.heap.size w w' := pow_c (a := 4611686018427387904) (c := 0) (n := -1074) (by decide) (by decide) (by decide) (powN_neg (u := 1074) (k := 11) (c := 9218868437227405312) (by decide +kernel) (by decide) rfl (by decide) (by decide) s5p_19_11 (by decide +kernel)) w
theorem s5p_20_0 : Fl.pows 0 0 0 = 4607182418800017408 := rfl
theorem s5_20 (w : World) : Calls Try.prog 53 #[.int .u64 0, .int .i64 (0)] w fun e w' => e = .returned (.int .u64 4607182418800017408) ∧ Below w.heap.size w w' := pow_c (a := 0) (c := 4607182418800017408) (n := 0) (by decide) (by decide) (by decide) (powN_of (u := 0) (k := 0) (by decide +kernel) (by decide) rfl (by decide) (by decide) s5p_20_0) w
theorem s5p_21_0 : Fl.pows 4621819117588971520 0 0 = 4607182418800017408 := rfl
theorem s5p_21_1 : Fl.pows 4621819117588971520 1 1 = 4621819117588971520 := pows_next (k := 0) (p := 4607182418800017408) s5p_21_0 (by decide +kernel)
theorem s5p_21_2 : Fl.pows 4621819117588971520 2 2 = 4636737291354636288 := pows_next (k := 1) (p := 4621819117588971520) s5p_21_1 (by decide +kernel)
theorem s5p_21_3 : Fl.pows 4621819117588971520 3 5 = 4681608360884174848 := pows_next (k := 2) (p := 4636737291354636288) s5p_21_2 (by decide +kernel)
theorem s5p_21_4 : Fl.pows 4621819117588971520 4 11 = 4771362005757984768 := pows_next (k := 3) (p := 4681608360884174848) s5p_21_3 (by decide +kernel)
theorem s5p_21_5 : Fl.pows 4621819117588971520 5 23 = 4950912855330343670 := pows_next (k := 4) (p := 4771362005757984768) s5p_21_4 (by decide +kernel)
theorem s5_21 (w : World) : Calls Try.prog 53 #[.int .u64 4621819117588971520, .int .i64 (23)] w fun e w' => e = .returned (.int .u64 4950912855330343670) ∧ Below w.heap.size w w' := pow_c (a := 4621819117588971520) (c := 4950912855330343670) (n := 23) (by decide) (by decide) (by decide) (powN_of (u := 23) (k := 5) (by decide +kernel) (by decide) rfl (by decide) (by decide) s5p_21_5) w
set_option maxHeartbeats 4000000 in
set_option maxRecDepth 100000 in
/-- chapter 5's examples hold -/
theorem shown5 (w : World) : Calls Try.prog 44 #[] w fun e w' => e = .returned (.bool true) ∧ Below w.heap.size w w' := by
  go_enter Try.func44, Try.ntmps44
  go_wp2_with fail
  refine (s5_0 _).mono ?_
  rintro e w0 ⟨rfl, hb⟩
  have L := hb
  clear hb
  go_wp2_with fail
  refine (s5_1 _).mono ?_
  rintro e w1 ⟨rfl, hb⟩
  replace L := L.trans (hb.mono L.size)
  clear hb
  go_wp2_with fail
  refine (s5_2 _).mono ?_
  rintro e w2 ⟨rfl, hb⟩
  replace L := L.trans (hb.mono L.size)
  clear hb
  go_wp2_with fail
  refine (s5_3 _).mono ?_
  rintro e w3 ⟨rfl, hb⟩
  replace L := L.trans (hb.mono L.size)
  clear hb
  go_wp2_with fail
  refine (s5_4 _).mono ?_
  rintro e w4 ⟨rfl, hb⟩
  replace L := L.trans (hb.mono L.size)
  clear hb
  go_wp2_with fail
  refine (s5_5 _).mono ?_
  rintro e w5 ⟨rfl, hb⟩
  replace L := L.trans (hb.mono L.size)
  clear hb
  go_wp2_with fail
  refine (s5_6 _).mono ?_
  rintro e w6 ⟨rfl, hb⟩
  replace L := L.trans (hb.mono L.size)
  clear hb
  go_wp2_with fail
  refine (s5_7 _).mono ?_
  rintro e w7 ⟨rfl, hb⟩
  replace L := L.trans (hb.mono L.size)
  clear hb
  go_wp2_with fail
  refine (s5_8 _).mono ?_
  rintro e w8 ⟨rfl, hb⟩
  replace L := L.trans (hb.mono L.size)
  clear hb
  go_wp2_with fail
  refine (s5_9 _).mono ?_
  rintro e w9 ⟨rfl, hb⟩
  replace L := L.trans (hb.mono L.size)
  clear hb
  go_wp2_with fail
  refine (s5_10 _).mono ?_
  rintro e w10 ⟨rfl, hb⟩
  replace L := L.trans (hb.mono L.size)
  clear hb
  go_wp2_with fail
  refine (s5_11 _).mono ?_
  rintro e w11 ⟨rfl, hb⟩
  replace L := L.trans (hb.mono L.size)
  clear hb
  go_wp2_with fail
  refine (s5_12 _).mono ?_
  rintro e w12 ⟨rfl, hb⟩
  replace L := L.trans (hb.mono L.size)
  clear hb
  go_wp2_with fail
  refine (s5_13 _).mono ?_
  rintro e w13 ⟨rfl, hb⟩
  replace L := L.trans (hb.mono L.size)
  clear hb
  go_wp2_with fail
  refine (s5_14 _).mono ?_
  rintro e w14 ⟨rfl, hb⟩
  replace L := L.trans (hb.mono L.size)
  clear hb
  go_wp2_with fail
  refine (s5_15 _).mono ?_
  rintro e w15 ⟨rfl, hb⟩
  replace L := L.trans (hb.mono L.size)
  clear hb
  go_wp2_with fail
  refine (s5_16 _).mono ?_
  rintro e w16 ⟨rfl, hb⟩
  replace L := L.trans (hb.mono L.size)
  clear hb
  go_wp2_with fail
  refine (s5_17 _).mono ?_
  rintro e w17 ⟨rfl, hb⟩
  replace L := L.trans (hb.mono L.size)
  clear hb
  go_wp2_with fail
  refine (s5_18 _).mono ?_
  rintro e w18 ⟨rfl, hb⟩
  replace L := L.trans (hb.mono L.size)
  clear hb
  go_wp2_with fail
  refine (s5_19 _).mono ?_
  rintro e w19 ⟨rfl, hb⟩
  replace L := L.trans (hb.mono L.size)
  clear hb
  go_wp2_with fail
  refine (s5_20 _).mono ?_
  rintro e w20 ⟨rfl, hb⟩
  replace L := L.trans (hb.mono L.size)
  clear hb
  go_wp2_with fail
  refine (s5_21 _).mono ?_
  rintro e w21 ⟨rfl, hb⟩
  replace L := L.trans (hb.mono L.size)
  clear hb
  go_wp2
  go_ret
  exact ⟨rfl, L⟩
end Go.Proofs.Ytaplggheadahhaa

