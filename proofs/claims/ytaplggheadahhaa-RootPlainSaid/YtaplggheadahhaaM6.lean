/- The walk of the law RootPlain. -/
import Derived.Test.YtaplggheadahhaaKB
import Derived.Test.YtaplggheadahhaaD1
import Derived.Test.YtaplggheadahhaaNB
namespace Go.Proofs.Ytaplggheadahhaa
open Go.RowKit
set_option linter.unusedVariables false
set_option linter.unusedSimpArgs false

def rrightN (x : Nat) : Nat := if Fl.kd x = 4 then Fl.NAN else x
set_option maxHeartbeats 400000 in
theorem rright_any (x : Nat) (hx : x < 18446744073709551616) (w : World) :
    Calls Try.prog 43 #[.int .u64 (x : Int)] w fun e w' => e = .returned (.int .u64 ((rrightN x : Nat) : Int)) ∧ w = w' := by
  have k := rkind_any x hx
  unfold rrightN
  by_cases h : Fl.kd x = 4
  · rw [if_pos h, show ((Fl.NAN : Nat) : Int) = 9221120237041090560 from rfl]; rw [h] at k; clear h
    go_enter Try.func43, Try.ntmps43
    go_wp2_with (go_at_call 21; refine (k _).mono ?_; rintro e w' ⟨rfl, rfl⟩)
    go_ret
    exact ⟨rfl, rfl⟩
  · rw [if_neg h]
    have h2 : (((Fl.kd x : Nat) : Int) == 4) = false := by simp; omega
    generalize Fl.kd x = K at *
    clear h
    go_enter Try.func43, Try.ntmps43
    go_wp2_with (go_at_call 21; refine (k _).mono ?_; rintro e w' ⟨rfl, rfl⟩)
    go_ret
    exact ⟨rfl, rfl⟩

set_option maxHeartbeats 1000000 in
set_option maxRecDepth 100000 in
theorem rp_1s (a b r s p : Nat)
    (c1 : ∀ w, Calls Try.prog 45 #[.int .u64 (a : Int), .int .u64 4607182418800017408] w fun e w' => e = .returned (.int .u64 (r : Int)) ∧ Below w.heap.size w w')
    (c2 : ∀ w, Calls Try.prog 43 #[.int .u64 (a : Int)] w fun e w' => e = .returned (.int .u64 (r : Int)) ∧ w = w')
    (c3 : ∀ w, Calls Try.prog 21 #[.int .u64 (a : Int)] w fun e w' => e = .returned (.int .i64 1) ∧ w = w')
    (c4 : ∀ w, Calls Try.prog 45 #[.int .u64 (a : Int), .int .u64 (a : Int)] w fun e w' => e = .returned (.int .u64 4607182418800017408) ∧ Below w.heap.size w w')
    (c5 : ∀ w, Calls Try.prog 49 #[.int .u64 (a : Int), .int .u64 4607182418800017408, .int .u64 (b : Int)] w fun e w' => e = .returned (.int .u64 (s : Int)) ∧ Below w.heap.size w w')
    (c6 : ∀ w, Calls Try.prog 23 #[.int .u64 (a : Int), .int .u64 (b : Int)] w fun e w' => e = .returned (.int .u64 (s : Int)) ∧ Below w.heap.size w w')
    (c7 : ∀ w, Calls Try.prog 24 #[.int .u64 (a : Int), .int .u64 (b : Int)] w fun e w' => e = .returned (.int .u64 (p : Int)) ∧ Below w.heap.size w w')
    (c8 : ∀ w, Calls Try.prog 49 #[.int .u64 (a : Int), .int .u64 (b : Int), .int .u64 9223372036854775808] w fun e w' => e = .returned (.int .u64 (p : Int)) ∧ Below w.heap.size w w')
    (w : World) : Calls Try.prog 16 #[.int .u64 (a : Int), .int .u64 (b : Int)] w fun e w' => e = .returned (.bool true) ∧ Below w.heap.size w w' := by
  go_enter Try.func16, Try.ntmps16
  go_wp2_with fail
  refine (shown5 _).mono ?_
  rintro e w1 ⟨rfl, hb⟩
  have L := hb
  clear hb
  go_wp2_with fail
  refine (c1 _).mono ?_
  rintro e w2 ⟨rfl, hb⟩
  replace L := L.trans (hb.mono L.size)
  clear hb
  go_wp2_with fail
  refine (c2 _).mono ?_
  rintro e w' ⟨rfl, rfl⟩
  go_wp2_with fail
  refine (c3 _).mono ?_
  rintro e w' ⟨rfl, rfl⟩
  go_wp2_with fail
  refine (c4 _).mono ?_
  rintro e w5 ⟨rfl, hb⟩
  replace L := L.trans (hb.mono L.size)
  clear hb
  go_wp2_with fail
  refine (c5 _).mono ?_
  rintro e w6 ⟨rfl, hb⟩
  replace L := L.trans (hb.mono L.size)
  clear hb
  go_wp2_with fail
  refine (c6 _).mono ?_
  rintro e w7 ⟨rfl, hb⟩
  replace L := L.trans (hb.mono L.size)
  clear hb
  go_wp2_with fail
  refine (c7 _).mono ?_
  rintro e w8 ⟨rfl, hb⟩
  replace L := L.trans (hb.mono L.size)
  clear hb
  go_wp2_with fail
  refine (c8 _).mono ?_
  rintro e w9 ⟨rfl, hb⟩
  replace L := L.trans (hb.mono L.size)
  clear hb
  go_wp2
  go_ret
  exact ⟨rfl, L⟩
set_option maxHeartbeats 1000000 in
set_option maxRecDepth 100000 in
theorem rp_1z (a b r s p q : Nat)
    (c1 : ∀ w, Calls Try.prog 45 #[.int .u64 (a : Int), .int .u64 4607182418800017408] w fun e w' => e = .returned (.int .u64 (r : Int)) ∧ Below w.heap.size w w')
    (c2 : ∀ w, Calls Try.prog 43 #[.int .u64 (a : Int)] w fun e w' => e = .returned (.int .u64 (r : Int)) ∧ w = w')
    (c3 : ∀ w, Calls Try.prog 21 #[.int .u64 (a : Int)] w fun e w' => e = .returned (.int .i64 1) ∧ w = w')
    (c4 : ∀ w, Calls Try.prog 45 #[.int .u64 (a : Int), .int .u64 (a : Int)] w fun e w' => e = .returned (.int .u64 4607182418800017408) ∧ Below w.heap.size w w')
    (c5 : ∀ w, Calls Try.prog 49 #[.int .u64 (a : Int), .int .u64 4607182418800017408, .int .u64 (b : Int)] w fun e w' => e = .returned (.int .u64 (s : Int)) ∧ Below w.heap.size w w')
    (c6 : ∀ w, Calls Try.prog 23 #[.int .u64 (a : Int), .int .u64 (b : Int)] w fun e w' => e = .returned (.int .u64 (s : Int)) ∧ Below w.heap.size w w')
    (c7 : ∀ w, Calls Try.prog 24 #[.int .u64 (a : Int), .int .u64 (b : Int)] w fun e w' => e = .returned (.int .u64 (p : Int)) ∧ Below w.heap.size w w')
    (c8 : ∀ w, Calls Try.prog 49 #[.int .u64 (a : Int), .int .u64 (b : Int), .int .u64 9223372036854775808] w fun e w' => e = .returned (.int .u64 (q : Int)) ∧ Below w.heap.size w w')
    (m0 : ((p : Int) == (q : Int)) = false) (m1 : Int.tmod (p : Int) 9223372036854775808 = 0) (m2 : Int.tmod (q : Int) 9223372036854775808 = 0)
    (w : World) : Calls Try.prog 16 #[.int .u64 (a : Int), .int .u64 (b : Int)] w fun e w' => e = .returned (.bool true) ∧ Below w.heap.size w w' := by
  go_enter Try.func16, Try.ntmps16
  go_wp2_with fail
  refine (shown5 _).mono ?_
  rintro e w1 ⟨rfl, hb⟩
  have L := hb
  clear hb
  go_wp2_with fail
  refine (c1 _).mono ?_
  rintro e w2 ⟨rfl, hb⟩
  replace L := L.trans (hb.mono L.size)
  clear hb
  go_wp2_with fail
  refine (c2 _).mono ?_
  rintro e w' ⟨rfl, rfl⟩
  go_wp2_with fail
  refine (c3 _).mono ?_
  rintro e w' ⟨rfl, rfl⟩
  go_wp2_with fail
  refine (c4 _).mono ?_
  rintro e w5 ⟨rfl, hb⟩
  replace L := L.trans (hb.mono L.size)
  clear hb
  go_wp2_with fail
  refine (c5 _).mono ?_
  rintro e w6 ⟨rfl, hb⟩
  replace L := L.trans (hb.mono L.size)
  clear hb
  go_wp2_with fail
  refine (c6 _).mono ?_
  rintro e w7 ⟨rfl, hb⟩
  replace L := L.trans (hb.mono L.size)
  clear hb
  go_wp2_with fail
  refine (c7 _).mono ?_
  rintro e w8 ⟨rfl, hb⟩
  replace L := L.trans (hb.mono L.size)
  clear hb
  go_wp2_with fail
  refine (c8 _).mono ?_
  rintro e w9 ⟨rfl, hb⟩
  replace L := L.trans (hb.mono L.size)
  clear hb
  go_wp2
  go_ret
  exact ⟨rfl, L⟩
set_option maxHeartbeats 1000000 in
set_option maxRecDepth 100000 in
theorem rp_2s (a b r s p : Nat)
    (c1 : ∀ w, Calls Try.prog 45 #[.int .u64 (a : Int), .int .u64 4607182418800017408] w fun e w' => e = .returned (.int .u64 (r : Int)) ∧ Below w.heap.size w w')
    (c2 : ∀ w, Calls Try.prog 43 #[.int .u64 (a : Int)] w fun e w' => e = .returned (.int .u64 (r : Int)) ∧ w = w')
    (c3 : ∀ w, Calls Try.prog 21 #[.int .u64 (a : Int)] w fun e w' => e = .returned (.int .i64 2) ∧ w = w')
    (c4 : ∀ w, Calls Try.prog 45 #[.int .u64 (a : Int), .int .u64 (a : Int)] w fun e w' => e = .returned (.int .u64 4607182418800017408) ∧ Below w.heap.size w w')
    (c5 : ∀ w, Calls Try.prog 49 #[.int .u64 (a : Int), .int .u64 4607182418800017408, .int .u64 (b : Int)] w fun e w' => e = .returned (.int .u64 (s : Int)) ∧ Below w.heap.size w w')
    (c6 : ∀ w, Calls Try.prog 23 #[.int .u64 (a : Int), .int .u64 (b : Int)] w fun e w' => e = .returned (.int .u64 (s : Int)) ∧ Below w.heap.size w w')
    (c7 : ∀ w, Calls Try.prog 24 #[.int .u64 (a : Int), .int .u64 (b : Int)] w fun e w' => e = .returned (.int .u64 (p : Int)) ∧ Below w.heap.size w w')
    (c8 : ∀ w, Calls Try.prog 49 #[.int .u64 (a : Int), .int .u64 (b : Int), .int .u64 9223372036854775808] w fun e w' => e = .returned (.int .u64 (p : Int)) ∧ Below w.heap.size w w')
    (w : World) : Calls Try.prog 16 #[.int .u64 (a : Int), .int .u64 (b : Int)] w fun e w' => e = .returned (.bool true) ∧ Below w.heap.size w w' := by
  go_enter Try.func16, Try.ntmps16
  go_wp2_with fail
  refine (shown5 _).mono ?_
  rintro e w1 ⟨rfl, hb⟩
  have L := hb
  clear hb
  go_wp2_with fail
  refine (c1 _).mono ?_
  rintro e w2 ⟨rfl, hb⟩
  replace L := L.trans (hb.mono L.size)
  clear hb
  go_wp2_with fail
  refine (c2 _).mono ?_
  rintro e w' ⟨rfl, rfl⟩
  go_wp2_with fail
  refine (c3 _).mono ?_
  rintro e w' ⟨rfl, rfl⟩
  go_wp2_with fail
  refine (c4 _).mono ?_
  rintro e w5 ⟨rfl, hb⟩
  replace L := L.trans (hb.mono L.size)
  clear hb
  go_wp2_with fail
  refine (c5 _).mono ?_
  rintro e w6 ⟨rfl, hb⟩
  replace L := L.trans (hb.mono L.size)
  clear hb
  go_wp2_with fail
  refine (c6 _).mono ?_
  rintro e w7 ⟨rfl, hb⟩
  replace L := L.trans (hb.mono L.size)
  clear hb
  go_wp2_with fail
  refine (c7 _).mono ?_
  rintro e w8 ⟨rfl, hb⟩
  replace L := L.trans (hb.mono L.size)
  clear hb
  go_wp2_with fail
  refine (c8 _).mono ?_
  rintro e w9 ⟨rfl, hb⟩
  replace L := L.trans (hb.mono L.size)
  clear hb
  go_wp2
  go_ret
  exact ⟨rfl, L⟩
set_option maxHeartbeats 1000000 in
set_option maxRecDepth 100000 in
theorem rp_2z (a b r s p q : Nat)
    (c1 : ∀ w, Calls Try.prog 45 #[.int .u64 (a : Int), .int .u64 4607182418800017408] w fun e w' => e = .returned (.int .u64 (r : Int)) ∧ Below w.heap.size w w')
    (c2 : ∀ w, Calls Try.prog 43 #[.int .u64 (a : Int)] w fun e w' => e = .returned (.int .u64 (r : Int)) ∧ w = w')
    (c3 : ∀ w, Calls Try.prog 21 #[.int .u64 (a : Int)] w fun e w' => e = .returned (.int .i64 2) ∧ w = w')
    (c4 : ∀ w, Calls Try.prog 45 #[.int .u64 (a : Int), .int .u64 (a : Int)] w fun e w' => e = .returned (.int .u64 4607182418800017408) ∧ Below w.heap.size w w')
    (c5 : ∀ w, Calls Try.prog 49 #[.int .u64 (a : Int), .int .u64 4607182418800017408, .int .u64 (b : Int)] w fun e w' => e = .returned (.int .u64 (s : Int)) ∧ Below w.heap.size w w')
    (c6 : ∀ w, Calls Try.prog 23 #[.int .u64 (a : Int), .int .u64 (b : Int)] w fun e w' => e = .returned (.int .u64 (s : Int)) ∧ Below w.heap.size w w')
    (c7 : ∀ w, Calls Try.prog 24 #[.int .u64 (a : Int), .int .u64 (b : Int)] w fun e w' => e = .returned (.int .u64 (p : Int)) ∧ Below w.heap.size w w')
    (c8 : ∀ w, Calls Try.prog 49 #[.int .u64 (a : Int), .int .u64 (b : Int), .int .u64 9223372036854775808] w fun e w' => e = .returned (.int .u64 (q : Int)) ∧ Below w.heap.size w w')
    (m0 : ((p : Int) == (q : Int)) = false) (m1 : Int.tmod (p : Int) 9223372036854775808 = 0) (m2 : Int.tmod (q : Int) 9223372036854775808 = 0)
    (w : World) : Calls Try.prog 16 #[.int .u64 (a : Int), .int .u64 (b : Int)] w fun e w' => e = .returned (.bool true) ∧ Below w.heap.size w w' := by
  go_enter Try.func16, Try.ntmps16
  go_wp2_with fail
  refine (shown5 _).mono ?_
  rintro e w1 ⟨rfl, hb⟩
  have L := hb
  clear hb
  go_wp2_with fail
  refine (c1 _).mono ?_
  rintro e w2 ⟨rfl, hb⟩
  replace L := L.trans (hb.mono L.size)
  clear hb
  go_wp2_with fail
  refine (c2 _).mono ?_
  rintro e w' ⟨rfl, rfl⟩
  go_wp2_with fail
  refine (c3 _).mono ?_
  rintro e w' ⟨rfl, rfl⟩
  go_wp2_with fail
  refine (c4 _).mono ?_
  rintro e w5 ⟨rfl, hb⟩
  replace L := L.trans (hb.mono L.size)
  clear hb
  go_wp2_with fail
  refine (c5 _).mono ?_
  rintro e w6 ⟨rfl, hb⟩
  replace L := L.trans (hb.mono L.size)
  clear hb
  go_wp2_with fail
  refine (c6 _).mono ?_
  rintro e w7 ⟨rfl, hb⟩
  replace L := L.trans (hb.mono L.size)
  clear hb
  go_wp2_with fail
  refine (c7 _).mono ?_
  rintro e w8 ⟨rfl, hb⟩
  replace L := L.trans (hb.mono L.size)
  clear hb
  go_wp2_with fail
  refine (c8 _).mono ?_
  rintro e w9 ⟨rfl, hb⟩
  replace L := L.trans (hb.mono L.size)
  clear hb
  go_wp2
  go_ret
  exact ⟨rfl, L⟩
set_option maxHeartbeats 1000000 in
set_option maxRecDepth 100000 in
theorem rp_0s (a b r s p K D : Nat)
    (c1 : ∀ w, Calls Try.prog 45 #[.int .u64 (a : Int), .int .u64 4607182418800017408] w fun e w' => e = .returned (.int .u64 (r : Int)) ∧ Below w.heap.size w w')
    (c2 : ∀ w, Calls Try.prog 43 #[.int .u64 (a : Int)] w fun e w' => e = .returned (.int .u64 (r : Int)) ∧ w = w')
    (c3 : ∀ w, Calls Try.prog 21 #[.int .u64 (a : Int)] w fun e w' => e = .returned (.int .i64 (K : Int)) ∧ w = w')
    (c4 : ∀ w, Calls Try.prog 45 #[.int .u64 (a : Int), .int .u64 (a : Int)] w fun e w' => e = .returned (.int .u64 (D : Int)) ∧ Below w.heap.size w w')
    (c5 : ∀ w, Calls Try.prog 49 #[.int .u64 (a : Int), .int .u64 4607182418800017408, .int .u64 (b : Int)] w fun e w' => e = .returned (.int .u64 (s : Int)) ∧ Below w.heap.size w w')
    (c6 : ∀ w, Calls Try.prog 23 #[.int .u64 (a : Int), .int .u64 (b : Int)] w fun e w' => e = .returned (.int .u64 (s : Int)) ∧ Below w.heap.size w w')
    (c7 : ∀ w, Calls Try.prog 24 #[.int .u64 (a : Int), .int .u64 (b : Int)] w fun e w' => e = .returned (.int .u64 (p : Int)) ∧ Below w.heap.size w w')
    (c8 : ∀ w, Calls Try.prog 49 #[.int .u64 (a : Int), .int .u64 (b : Int), .int .u64 9223372036854775808] w fun e w' => e = .returned (.int .u64 (p : Int)) ∧ Below w.heap.size w w')
    (n1 : ((K : Int) == 1) = false) (n2 : ((K : Int) == 2) = false) (n3 : ((D : Int) == 4607182418800017408) = false)
    (w : World) : Calls Try.prog 16 #[.int .u64 (a : Int), .int .u64 (b : Int)] w fun e w' => e = .returned (.bool true) ∧ Below w.heap.size w w' := by
  go_enter Try.func16, Try.ntmps16
  go_wp2_with fail
  refine (shown5 _).mono ?_
  rintro e w1 ⟨rfl, hb⟩
  have L := hb
  clear hb
  go_wp2_with fail
  refine (c1 _).mono ?_
  rintro e w2 ⟨rfl, hb⟩
  replace L := L.trans (hb.mono L.size)
  clear hb
  go_wp2_with fail
  refine (c2 _).mono ?_
  rintro e w' ⟨rfl, rfl⟩
  go_wp2_with fail
  refine (c3 _).mono ?_
  rintro e w' ⟨rfl, rfl⟩
  go_wp2_with fail
  refine (c4 _).mono ?_
  rintro e w5 ⟨rfl, hb⟩
  replace L := L.trans (hb.mono L.size)
  clear hb
  go_wp2_with fail
  refine (c5 _).mono ?_
  rintro e w6 ⟨rfl, hb⟩
  replace L := L.trans (hb.mono L.size)
  clear hb
  go_wp2_with fail
  refine (c6 _).mono ?_
  rintro e w7 ⟨rfl, hb⟩
  replace L := L.trans (hb.mono L.size)
  clear hb
  go_wp2_with fail
  refine (c7 _).mono ?_
  rintro e w8 ⟨rfl, hb⟩
  replace L := L.trans (hb.mono L.size)
  clear hb
  go_wp2_with fail
  refine (c8 _).mono ?_
  rintro e w9 ⟨rfl, hb⟩
  replace L := L.trans (hb.mono L.size)
  clear hb
  go_wp2
  go_ret
  exact ⟨rfl, L⟩
set_option maxHeartbeats 1000000 in
set_option maxRecDepth 100000 in
theorem rp_0z (a b r s p q K D : Nat)
    (c1 : ∀ w, Calls Try.prog 45 #[.int .u64 (a : Int), .int .u64 4607182418800017408] w fun e w' => e = .returned (.int .u64 (r : Int)) ∧ Below w.heap.size w w')
    (c2 : ∀ w, Calls Try.prog 43 #[.int .u64 (a : Int)] w fun e w' => e = .returned (.int .u64 (r : Int)) ∧ w = w')
    (c3 : ∀ w, Calls Try.prog 21 #[.int .u64 (a : Int)] w fun e w' => e = .returned (.int .i64 (K : Int)) ∧ w = w')
    (c4 : ∀ w, Calls Try.prog 45 #[.int .u64 (a : Int), .int .u64 (a : Int)] w fun e w' => e = .returned (.int .u64 (D : Int)) ∧ Below w.heap.size w w')
    (c5 : ∀ w, Calls Try.prog 49 #[.int .u64 (a : Int), .int .u64 4607182418800017408, .int .u64 (b : Int)] w fun e w' => e = .returned (.int .u64 (s : Int)) ∧ Below w.heap.size w w')
    (c6 : ∀ w, Calls Try.prog 23 #[.int .u64 (a : Int), .int .u64 (b : Int)] w fun e w' => e = .returned (.int .u64 (s : Int)) ∧ Below w.heap.size w w')
    (c7 : ∀ w, Calls Try.prog 24 #[.int .u64 (a : Int), .int .u64 (b : Int)] w fun e w' => e = .returned (.int .u64 (p : Int)) ∧ Below w.heap.size w w')
    (c8 : ∀ w, Calls Try.prog 49 #[.int .u64 (a : Int), .int .u64 (b : Int), .int .u64 9223372036854775808] w fun e w' => e = .returned (.int .u64 (q : Int)) ∧ Below w.heap.size w w')
    (n1 : ((K : Int) == 1) = false) (n2 : ((K : Int) == 2) = false) (n3 : ((D : Int) == 4607182418800017408) = false)
    (m0 : ((p : Int) == (q : Int)) = false) (m1 : Int.tmod (p : Int) 9223372036854775808 = 0) (m2 : Int.tmod (q : Int) 9223372036854775808 = 0)
    (w : World) : Calls Try.prog 16 #[.int .u64 (a : Int), .int .u64 (b : Int)] w fun e w' => e = .returned (.bool true) ∧ Below w.heap.size w w' := by
  go_enter Try.func16, Try.ntmps16
  go_wp2_with fail
  refine (shown5 _).mono ?_
  rintro e w1 ⟨rfl, hb⟩
  have L := hb
  clear hb
  go_wp2_with fail
  refine (c1 _).mono ?_
  rintro e w2 ⟨rfl, hb⟩
  replace L := L.trans (hb.mono L.size)
  clear hb
  go_wp2_with fail
  refine (c2 _).mono ?_
  rintro e w' ⟨rfl, rfl⟩
  go_wp2_with fail
  refine (c3 _).mono ?_
  rintro e w' ⟨rfl, rfl⟩
  go_wp2_with fail
  refine (c4 _).mono ?_
  rintro e w5 ⟨rfl, hb⟩
  replace L := L.trans (hb.mono L.size)
  clear hb
  go_wp2_with fail
  refine (c5 _).mono ?_
  rintro e w6 ⟨rfl, hb⟩
  replace L := L.trans (hb.mono L.size)
  clear hb
  go_wp2_with fail
  refine (c6 _).mono ?_
  rintro e w7 ⟨rfl, hb⟩
  replace L := L.trans (hb.mono L.size)
  clear hb
  go_wp2_with fail
  refine (c7 _).mono ?_
  rintro e w8 ⟨rfl, hb⟩
  replace L := L.trans (hb.mono L.size)
  clear hb
  go_wp2_with fail
  refine (c8 _).mono ?_
  rintro e w9 ⟨rfl, hb⟩
  replace L := L.trans (hb.mono L.size)
  clear hb
  go_wp2
  go_ret
  exact ⟨rfl, L⟩
theorem rplain_walk (a b : Nat) (ha : a < 18446744073709551616) (hb : b < 18446744073709551616) (w : World) :
    Calls Try.prog 16 #[.int .u64 (a : Int), .int .u64 (b : Int)] w fun e w' => e = .returned (.bool true) ∧ Below w.heap.size w w' := by
  have c1 := div_any a 4607182418800017408 ha (by decide)
  rw [Fl.div_one a ha] at c1
  have c2 := rright_any a ha
  have c3 := rkind_any a ha
  have c4 := div_any a a ha ha
  rw [Fl.div_self a] at c4
  have c5 := fma_any a 4607182418800017408 b ha (by decide) hb
  rw [Fl.fma_one a b ha hb] at c5
  have c6 := add_any a b ha hb
  have c7 := mul_any a b ha hb
  have c8 := fma_any a b Fl.SG ha hb (by decide)
  by_cases e : Fl.mulN a b = Fl.fmaN a b Fl.SG
  · rw [← e] at c8
    by_cases k1 : Fl.kd a = 1
    · rw [if_pos (.inl k1)] at c4
      rw [k1] at c3
      exact rp_1s a b _ _ _ c1 c2 c3 c4 c5 c6 c7 c8 w
    by_cases k2 : Fl.kd a = 2
    · rw [if_pos (.inr k2)] at c4
      rw [k2] at c3
      exact rp_2s a b _ _ _ c1 c2 c3 c4 c5 c6 c7 c8 w
    rw [if_neg (by omega)] at c4
    exact rp_0s a b _ _ _ _ _ c1 c2 c3 c4 c5 c6 c7 c8 (by simp; omega) (by simp; omega) (by decide) w
  · have f := (Fl.fma_nil a b).resolve_left e
    obtain ⟨f1, f2⟩ := f
    generalize Fl.mulN a b = p at *
    generalize Fl.fmaN a b Fl.SG = q at *
    have m0 : ((p : Int) == (q : Int)) = false := by simp; omega
    have m1 : Int.tmod (p : Int) 9223372036854775808 = 0 := by rw [Int.tmod_eq_emod_of_nonneg (by omega)]; omega
    have m2 : Int.tmod (q : Int) 9223372036854775808 = 0 := by rw [Int.tmod_eq_emod_of_nonneg (by omega)]; omega
    by_cases k1 : Fl.kd a = 1
    · rw [if_pos (.inl k1)] at c4
      rw [k1] at c3
      exact rp_1z a b _ _ _ _ c1 c2 c3 c4 c5 c6 c7 c8 m0 m1 m2 w
    by_cases k2 : Fl.kd a = 2
    · rw [if_pos (.inr k2)] at c4
      rw [k2] at c3
      exact rp_2z a b _ _ _ _ c1 c2 c3 c4 c5 c6 c7 c8 m0 m1 m2 w
    rw [if_neg (by omega)] at c4
    exact rp_0z a b _ _ _ _ _ _ c1 c2 c3 c4 c5 c6 c7 c8 (by simp; omega) (by simp; omega) (by decide) m0 m1 m2 w
end Go.Proofs.Ytaplggheadahhaa
