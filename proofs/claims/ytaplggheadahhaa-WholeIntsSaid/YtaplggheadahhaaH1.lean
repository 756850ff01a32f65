/- The references of chapter 6, called; the walk of the law WholeCompares. -/
import Derived.Test.YtaplggheadahhaaTB
import Derived.Test.YtaplggheadahhaaF5
namespace Go.Proofs.Ytaplggheadahhaa
open Go.RowKit Go.Proofs.YtaplggheadahhaaW.PrintWords
set_option linter.unusedVariables false
set_option linter.unusedSimpArgs false

theorem rcmp_any (a b : Nat) (ha : a < 18446744073709551616) (hb : b < 18446744073709551616) (w : World) :
    Calls Try.prog 28 #[.int .u64 (a : Int), .int .u64 (b : Int)] w fun e w' => e = .returned (.tuple #[.int .i64 (cmpN a b), .bool (cmpB a b)]) ∧ Below w.heap.size w w' := by
  obtain ⟨k, h⟩ := (R.cmp6_ev a b ha hb).get
  exact (R.tabardref6_Cmp.calls k _ _ _ _ w h).mono fun e w' ⟨h1, h2⟩ => ⟨h1, h2.below⟩
theorem rsign_any (a : Nat) (ha : a < 18446744073709551616) (w : World) :
    Calls Try.prog 30 #[.int .u64 (a : Int)] w fun e w' => e = .returned (.int .i64 (cmpN a 0)) ∧ Below w.heap.size w w' := by
  obtain ⟨k, h⟩ := (R.sign6_ev a ha).get
  exact (R.tabardref6_Sign.calls k _ _ w h).mono fun e w' ⟨h1, h2⟩ => ⟨h1, h2.below⟩
theorem rmin_any (a b : Nat) (ha : a < 18446744073709551616) (hb : b < 18446744073709551616) (w : World) :
    Calls Try.prog 34 #[.int .u64 (a : Int), .int .u64 (b : Int)] w fun e w' => e = .returned (.int .u64 ((minN a b : Nat) : Int)) ∧ Below w.heap.size w w' := by
  obtain ⟨k, h⟩ := (R.min6_ev a b ha hb).get
  exact (R.tabardref6_Min.calls k _ _ _ w h).mono fun e w' ⟨h1, h2⟩ => ⟨h1, h2.below⟩
theorem rmax_any (a b : Nat) (ha : a < 18446744073709551616) (hb : b < 18446744073709551616) (w : World) :
    Calls Try.prog 36 #[.int .u64 (a : Int), .int .u64 (b : Int)] w fun e w' => e = .returned (.int .u64 ((maxN a b : Nat) : Int)) ∧ Below w.heap.size w w' := by
  obtain ⟨k, h⟩ := (R.max6_ev a b ha hb).get
  exact (R.tabardref6_Max.calls k _ _ _ w h).mono fun e w' ⟨h1, h2⟩ => ⟨h1, h2.below⟩
theorem ris_any (x : Nat) (hx : x < 18446744073709551616) (w : World) :
    Calls Try.prog 32 #[.int .u64 (x : Int)] w fun e w' => e = .returned (.bool (isB x)) ∧ Below w.heap.size w w' := by
  obtain ⟨k, h⟩ := (R.is6_ev x hx).get
  exact R.tabardref6_Is.calls k _ _ w h
theorem rwhole_any (x : Nat) (way : Int) (hx : x < 18446744073709551616) (w : World) :
    Calls Try.prog 38 #[.int .u64 (x : Int), .int .i64 way] w fun e w' => e = .returned (.tuple #[.int .u64 ((wholeV x way : Nat) : Int), .int .i64 (wholeE way)]) ∧ Below w.heap.size w w' := by
  obtain ⟨k, h⟩ := (R.whole6_ev x hx way).get
  exact R.tabardref6_Whole.calls k _ _ _ _ w h
theorem rfrom_any (v : Int) (h1 : -9223372036854775808 ≤ v) (h2 : v ≤ 9223372036854775807) (w : World) :
    Calls Try.prog 40 #[.int .i64 v] w fun e w' => e = .returned (.int .u64 ((fromN v : Nat) : Int)) ∧ Below w.heap.size w w' := by
  obtain ⟨k, h⟩ := (R.from6_ev v h1 h2).get
  exact R.tabardref6_From.calls k _ _ w h
theorem rto_any (x : Nat) (way : Int) (hx : x < 18446744073709551616) (w : World) :
    Calls Try.prog 42 #[.int .u64 (x : Int), .int .i64 way] w fun e w' => e = .returned (.tuple #[.int .i64 (toV x way), .int .i64 (toE x way)]) ∧ Below w.heap.size w w' := by
  obtain ⟨k, h⟩ := (R.to6_ev x hx way).get
  exact R.tabardref6_To.calls k _ _ _ _ w h

set_option maxHeartbeats 1000000 in
set_option maxRecDepth 100000 in
theorem wc_core (a b mn mx : Nat) (n s : Int) (ok is : Bool)
    (c1 : ∀ w, Calls Try.prog 27 #[.int .u64 (a : Int), .int .u64 (b : Int)] w fun e w' => e = .returned (.tuple #[.int .i64 n, .bool ok]) ∧ w = w')
    (c2 : ∀ w, Calls Try.prog 28 #[.int .u64 (a : Int), .int .u64 (b : Int)] w fun e w' => e = .returned (.tuple #[.int .i64 n, .bool ok]) ∧ Below w.heap.size w w')
    (c3 : ∀ w, Calls Try.prog 29 #[.int .u64 (a : Int)] w fun e w' => e = .returned (.int .i64 s) ∧ w = w')
    (c4 : ∀ w, Calls Try.prog 30 #[.int .u64 (a : Int)] w fun e w' => e = .returned (.int .i64 s) ∧ Below w.heap.size w w')
    (c5 : ∀ w, Calls Try.prog 31 #[.int .u64 (a : Int)] w fun e w' => e = .returned (.bool is) ∧ Below w.heap.size w w')
    (c6 : ∀ w, Calls Try.prog 32 #[.int .u64 (a : Int)] w fun e w' => e = .returned (.bool is) ∧ Below w.heap.size w w')
    (c7 : ∀ w, Calls Try.prog 33 #[.int .u64 (a : Int), .int .u64 (b : Int)] w fun e w' => e = .returned (.int .u64 (mn : Int)) ∧ w = w')
    (c8 : ∀ w, Calls Try.prog 34 #[.int .u64 (a : Int), .int .u64 (b : Int)] w fun e w' => e = .returned (.int .u64 (mn : Int)) ∧ Below w.heap.size w w')
    (c9 : ∀ w, Calls Try.prog 35 #[.int .u64 (a : Int), .int .u64 (b : Int)] w fun e w' => e = .returned (.int .u64 (mx : Int)) ∧ w = w')
    (c10 : ∀ w, Calls Try.prog 36 #[.int .u64 (a : Int), .int .u64 (b : Int)] w fun e w' => e = .returned (.int .u64 (mx : Int)) ∧ Below w.heap.size w w')
    (w : World) : Calls Try.prog 5 #[.int .u64 (a : Int), .int .u64 (b : Int)] w fun e w' => e = .returned (.bool true) ∧ Below w.heap.size w w' := by
  go_enter Try.func5, Try.ntmps5
  go_wp2_with fail
  refine (shown6 _).mono ?_
  rintro e w1 ⟨rfl, hb⟩
  have L := hb
  clear hb
  go_wp2_with fail
  refine (c1 _).mono ?_
  rintro e w' ⟨rfl, rfl⟩
  go_wp2_with fail
  refine (c2 _).mono ?_
  rintro e w2 ⟨rfl, hb⟩
  replace L := L.trans (hb.mono L.size)
  clear hb
  go_wp2_with fail
  refine (c3 _).mono ?_
  rintro e w' ⟨rfl, rfl⟩
  go_wp2_with fail
  refine (c4 _).mono ?_
  rintro e w3 ⟨rfl, hb⟩
  replace L := L.trans (hb.mono L.size)
  clear hb
  go_wp2_with fail
  refine (c5 _).mono ?_
  rintro e w4 ⟨rfl, hb⟩
  replace L := L.trans (hb.mono L.size)
  clear hb
  go_wp2_with fail
  refine (c6 _).mono ?_
  rintro e w5 ⟨rfl, hb⟩
  replace L := L.trans (hb.mono L.size)
  clear hb
  go_wp2_with fail
  refine (c7 _).mono ?_
  rintro e w' ⟨rfl, rfl⟩
  go_wp2_with fail
  refine (c8 _).mono ?_
  rintro e w6 ⟨rfl, hb⟩
  replace L := L.trans (hb.mono L.size)
  clear hb
  go_wp2_with fail
  refine (c9 _).mono ?_
  rintro e w' ⟨rfl, rfl⟩
  go_wp2_with fail
  refine (c10 _).mono ?_
  rintro e w7 ⟨rfl, hb⟩
  replace L := L.trans (hb.mono L.size)
  clear hb
  go_wp2
  go_ret
  exact ⟨rfl, L⟩

/-- WholeCompares, walked -/
theorem wcompares_walk (a b : Nat) (ha : a < 18446744073709551616) (hb : b < 18446744073709551616) (w : World) :
    Calls Try.prog 5 #[.int .u64 (a : Int), .int .u64 (b : Int)] w fun e w' => e = .returned (.bool true) ∧ Below w.heap.size w w' :=
  wc_core a b _ _ _ _ _ _ (fun w => cmp_any a b ha hb w) (fun w => rcmp_any a b ha hb w) (fun w => sign_any a ha w) (fun w => rsign_any a ha w) (fun w => is_any a ha w) (fun w => ris_any a ha w)
    (fun w => min_any a b ha hb w) (fun w => rmin_any a b ha hb w) (fun w => max_any a b ha hb w) (fun w => rmax_any a b ha hb w) w
end Go.Proofs.Ytaplggheadahhaa
