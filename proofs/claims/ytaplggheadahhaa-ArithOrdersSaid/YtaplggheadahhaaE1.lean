/- The walk of the law ArithOrders. -/
import Derived.Test.YtaplggheadahhaaD2
namespace Go.Proofs.Ytaplggheadahhaa
open Go.RowKit
set_option linter.unusedVariables false
set_option linter.unusedSimpArgs false

set_option maxHeartbeats 4000000 in
set_option maxRecDepth 100000 in
theorem orders_none1 (a b c ka : Nat) (k1 : ∀ w, Calls Try.prog 21 #[.int .u64 (a : Int)] w fun e w' => e = .returned (.int .i64 (ka : Int)) ∧ w = w') (n1 : ((ka : Int) == 4) = true) (w : World) :
    Calls Try.prog 3 #[.int .u64 (a : Int), .int .u64 (b : Int), .int .u64 (c : Int)] w fun e w' => e = .returned (.bool true) ∧ Below w.heap.size w w' := by
  go_enter Try.func3, Try.ntmps3
  go_wp2_with fail
  refine (shown4 _).mono ?_
  rintro e w1 ⟨rfl, hb⟩
  have L := hb
  clear hb
  go_wp2_with fail
  refine (k1 _).mono ?_
  rintro e w' ⟨rfl, rfl⟩
  go_wp2
  go_ret
  exact ⟨rfl, L⟩

set_option maxHeartbeats 4000000 in
set_option maxRecDepth 100000 in
theorem orders_none2 (a b c ka kb : Nat) (k1 : ∀ w, Calls Try.prog 21 #[.int .u64 (a : Int)] w fun e w' => e = .returned (.int .i64 (ka : Int)) ∧ w = w') (k2 : ∀ w, Calls Try.prog 21 #[.int .u64 (b : Int)] w fun e w' => e = .returned (.int .i64 (kb : Int)) ∧ w = w') (n1 : ((ka : Int) == 4) = false) (n2 : ((kb : Int) == 4) = true) (w : World) :
    Calls Try.prog 3 #[.int .u64 (a : Int), .int .u64 (b : Int), .int .u64 (c : Int)] w fun e w' => e = .returned (.bool true) ∧ Below w.heap.size w w' := by
  go_enter Try.func3, Try.ntmps3
  go_wp2_with fail
  refine (shown4 _).mono ?_
  rintro e w1 ⟨rfl, hb⟩
  have L := hb
  clear hb
  go_wp2_with fail
  refine (k1 _).mono ?_
  rintro e w' ⟨rfl, rfl⟩
  go_wp2_with fail
  refine (k2 _).mono ?_
  rintro e w' ⟨rfl, rfl⟩
  go_wp2
  go_ret
  exact ⟨rfl, L⟩

set_option maxHeartbeats 4000000 in
set_option maxRecDepth 100000 in
theorem orders_ns1 (a b c ka kb X Y kc : Nat) (ra rb : Int)
    (k1 : ∀ w, Calls Try.prog 21 #[.int .u64 (a : Int)] w fun e w' => e = .returned (.int .i64 (ka : Int)) ∧ w = w') (k2 : ∀ w, Calls Try.prog 21 #[.int .u64 (b : Int)] w fun e w' => e = .returned (.int .i64 (kb : Int)) ∧ w = w') (n1 : ((ka : Int) == 4) = false) (n2 : ((kb : Int) == 4) = false) (r1 : ∀ w, Calls Try.prog 22 #[.int .u64 (a : Int)] w fun e w' => e = .returned (.int .i64 ra) ∧ w = w') (r2 : ∀ w, Calls Try.prog 22 #[.int .u64 (b : Int)] w fun e w' => e = .returned (.int .i64 rb) ∧ w = w')
    (hs : ¬ rb < ra)
    (a1 : ∀ w, Calls Try.prog 23 #[.int .u64 (a : Int), .int .u64 (c : Int)] w fun e w' => e = .returned (.int .u64 (X : Int)) ∧ Below w.heap.size w w') (a2 : ∀ w, Calls Try.prog 23 #[.int .u64 (b : Int), .int .u64 (c : Int)] w fun e w' => e = .returned (.int .u64 (Y : Int)) ∧ Below w.heap.size w w')
    (x1 : (((X : Nat) : Int) == 9221120237041090560) = true)
    (k3 : ∀ w, Calls Try.prog 21 #[.int .u64 (c : Int)] w fun e w' => e = .returned (.int .i64 (kc : Int)) ∧ w = w') (n3 : 3 ≤ (kc : Int))
    (w : World) : Calls Try.prog 3 #[.int .u64 (a : Int), .int .u64 (b : Int), .int .u64 (c : Int)] w fun e w' => e = .returned (.bool true) ∧ Below w.heap.size w w' := by
  go_enter Try.func3, Try.ntmps3
  go_wp2_with fail
  refine (shown4 _).mono ?_
  rintro e w1 ⟨rfl, hb⟩
  have L := hb
  clear hb
  go_wp2_with fail
  refine (k1 _).mono ?_
  rintro e w' ⟨rfl, rfl⟩
  go_wp2_with fail
  refine (k2 _).mono ?_
  rintro e w' ⟨rfl, rfl⟩
  go_wp2_with fail
  refine (r1 _).mono ?_
  rintro e w' ⟨rfl, rfl⟩
  go_wp2_with fail
  refine (r2 _).mono ?_
  rintro e w' ⟨rfl, rfl⟩
  go_wp2_with fail
  refine (a1 _).mono ?_
  rintro e w2 ⟨rfl, hb⟩
  replace L := L.trans (hb.mono L.size)
  clear hb
  go_wp2_with fail
  refine (a2 _).mono ?_
  rintro e w3 ⟨rfl, hb⟩
  replace L := L.trans (hb.mono L.size)
  clear hb
  go_wp2_with fail
  refine (k3 _).mono ?_
  rintro e w' ⟨rfl, rfl⟩
  go_wp2
  go_ret
  exact ⟨by simp [n3], L⟩

set_option maxHeartbeats 4000000 in
set_option maxRecDepth 100000 in
theorem orders_ns2 (a b c ka kb X Y kc : Nat) (ra rb : Int)
    (k1 : ∀ w, Calls Try.prog 21 #[.int .u64 (a : Int)] w fun e w' => e = .returned (.int .i64 (ka : Int)) ∧ w = w') (k2 : ∀ w, Calls Try.prog 21 #[.int .u64 (b : Int)] w fun e w' => e = .returned (.int .i64 (kb : Int)) ∧ w = w') (n1 : ((ka : Int) == 4) = false) (n2 : ((kb : Int) == 4) = false) (r1 : ∀ w, Calls Try.prog 22 #[.int .u64 (a : Int)] w fun e w' => e = .returned (.int .i64 ra) ∧ w = w') (r2 : ∀ w, Calls Try.prog 22 #[.int .u64 (b : Int)] w fun e w' => e = .returned (.int .i64 rb) ∧ w = w')
    (hs : ¬ rb < ra)
    (a1 : ∀ w, Calls Try.prog 23 #[.int .u64 (a : Int), .int .u64 (c : Int)] w fun e w' => e = .returned (.int .u64 (X : Int)) ∧ Below w.heap.size w w') (a2 : ∀ w, Calls Try.prog 23 #[.int .u64 (b : Int), .int .u64 (c : Int)] w fun e w' => e = .returned (.int .u64 (Y : Int)) ∧ Below w.heap.size w w')
    (x1 : (((X : Nat) : Int) == 9221120237041090560) = false) (y1 : (((Y : Nat) : Int) == 9221120237041090560) = true)
    (k3 : ∀ w, Calls Try.prog 21 #[.int .u64 (c : Int)] w fun e w' => e = .returned (.int .i64 (kc : Int)) ∧ w = w') (n3 : 3 ≤ (kc : Int))
    (w : World) : Calls Try.prog 3 #[.int .u64 (a : Int), .int .u64 (b : Int), .int .u64 (c : Int)] w fun e w' => e = .returned (.bool true) ∧ Below w.heap.size w w' := by
  go_enter Try.func3, Try.ntmps3
  go_wp2_with fail
  refine (shown4 _).mono ?_
  rintro e w1 ⟨rfl, hb⟩
  have L := hb
  clear hb
  go_wp2_with fail
  refine (k1 _).mono ?_
  rintro e w' ⟨rfl, rfl⟩
  go_wp2_with fail
  refine (k2 _).mono ?_
  rintro e w' ⟨rfl, rfl⟩
  go_wp2_with fail
  refine (r1 _).mono ?_
  rintro e w' ⟨rfl, rfl⟩
  go_wp2_with fail
  refine (r2 _).mono ?_
  rintro e w' ⟨rfl, rfl⟩
  go_wp2_with fail
  refine (a1 _).mono ?_
  rintro e w2 ⟨rfl, hb⟩
  replace L := L.trans (hb.mono L.size)
  clear hb
  go_wp2_with fail
  refine (a2 _).mono ?_
  rintro e w3 ⟨rfl, hb⟩
  replace L := L.trans (hb.mono L.size)
  clear hb
  go_wp2_with fail
  refine (k3 _).mono ?_
  rintro e w' ⟨rfl, rfl⟩
  go_wp2
  go_ret
  exact ⟨by simp [n3], L⟩

set_option maxHeartbeats 4000000 in
set_option maxRecDepth 100000 in
theorem orders_ns3 (a b c ka kb X Y P Q : Nat) (ra rb rx ry : Int)
    (k1 : ∀ w, Calls Try.prog 21 #[.int .u64 (a : Int)] w fun e w' => e = .returned (.int .i64 (ka : Int)) ∧ w = w') (k2 : ∀ w, Calls Try.prog 21 #[.int .u64 (b : Int)] w fun e w' => e = .returned (.int .i64 (kb : Int)) ∧ w = w') (n1 : ((ka : Int) == 4) = false) (n2 : ((kb : Int) == 4) = false) (r1 : ∀ w, Calls Try.prog 22 #[.int .u64 (a : Int)] w fun e w' => e = .returned (.int .i64 ra) ∧ w = w') (r2 : ∀ w, Calls Try.prog 22 #[.int .u64 (b : Int)] w fun e w' => e = .returned (.int .i64 rb) ∧ w = w')
    (hs : ¬ rb < ra)
    (a1 : ∀ w, Calls Try.prog 23 #[.int .u64 (a : Int), .int .u64 (c : Int)] w fun e w' => e = .returned (.int .u64 (X : Int)) ∧ Below w.heap.size w w') (a2 : ∀ w, Calls Try.prog 23 #[.int .u64 (b : Int), .int .u64 (c : Int)] w fun e w' => e = .returned (.int .u64 (Y : Int)) ∧ Below w.heap.size w w')
    (x1 : (((X : Nat) : Int) == 9221120237041090560) = false) (y1 : (((Y : Nat) : Int) == 9221120237041090560) = false) (r3 : ∀ w, Calls Try.prog 22 #[.int .u64 (X : Int)] w fun e w' => e = .returned (.int .i64 rx) ∧ w = w') (r4 : ∀ w, Calls Try.prog 22 #[.int .u64 (Y : Int)] w fun e w' => e = .returned (.int .i64 ry) ∧ w = w') (h1 : ¬ ry < rx) (m1 : ∀ w, Calls Try.prog 24 #[.int .u64 (a : Int), .int .u64 (c : Int)] w fun e w' => e = .returned (.int .u64 (P : Int)) ∧ Below w.heap.size w w') (m2 : ∀ w, Calls Try.prog 24 #[.int .u64 (b : Int), .int .u64 (c : Int)] w fun e w' => e = .returned (.int .u64 (Q : Int)) ∧ Below w.heap.size w w')
    (p1 : (((P : Nat) : Int) == 9221120237041090560) = true)
    (w : World) : Calls Try.prog 3 #[.int .u64 (a : Int), .int .u64 (b : Int), .int .u64 (c : Int)] w fun e w' => e = .returned (.bool true) ∧ Below w.heap.size w w' := by
  go_enter Try.func3, Try.ntmps3
  go_wp2_with fail
  refine (shown4 _).mono ?_
  rintro e w1 ⟨rfl, hb⟩
  have L := hb
  clear hb
  go_wp2_with fail
  refine (k1 _).mono ?_
  rintro e w' ⟨rfl, rfl⟩
  go_wp2_with fail
  refine (k2 _).mono ?_
  rintro e w' ⟨rfl, rfl⟩
  go_wp2_with fail
  refine (r1 _).mono ?_
  rintro e w' ⟨rfl, rfl⟩
  go_wp2_with fail
  refine (r2 _).mono ?_
  rintro e w' ⟨rfl, rfl⟩
  go_wp2_with fail
  refine (a1 _).mono ?_
  rintro e w2 ⟨rfl, hb⟩
  replace L := L.trans (hb.mono L.size)
  clear hb
  go_wp2_with fail
  refine (a2 _).mono ?_
  rintro e w3 ⟨rfl, hb⟩
  replace L := L.trans (hb.mono L.size)
  clear hb
  go_wp2_with fail
  refine (r3 _).mono ?_
  rintro e w' ⟨rfl, rfl⟩
  go_wp2_with fail
  refine (r4 _).mono ?_
  rintro e w' ⟨rfl, rfl⟩
  go_wp2_with fail
  refine (m1 _).mono ?_
  rintro e w4 ⟨rfl, hb⟩
  replace L := L.trans (hb.mono L.size)
  clear hb
  go_wp2_with fail
  refine (m2 _).mono ?_
  rintro e w5 ⟨rfl, hb⟩
  replace L := L.trans (hb.mono L.size)
  clear hb
  go_wp2
  go_ret
  exact ⟨rfl, L⟩

set_option maxHeartbeats 4000000 in
set_option maxRecDepth 100000 in
theorem orders_ns4 (a b c ka kb X Y P Q : Nat) (ra rb rx ry : Int)
    (k1 : ∀ w, Calls Try.prog 21 #[.int .u64 (a : Int)] w fun e w' => e = .returned (.int .i64 (ka : Int)) ∧ w = w') (k2 : ∀ w, Calls Try.prog 21 #[.int .u64 (b : Int)] w fun e w' => e = .returned (.int .i64 (kb : Int)) ∧ w = w') (n1 : ((ka : Int) == 4) = false) (n2 : ((kb : Int) == 4) = false) (r1 : ∀ w, Calls Try.prog 22 #[.int .u64 (a : Int)] w fun e w' => e = .returned (.int .i64 ra) ∧ w = w') (r2 : ∀ w, Calls Try.prog 22 #[.int .u64 (b : Int)] w fun e w' => e = .returned (.int .i64 rb) ∧ w = w')
    (hs : ¬ rb < ra)
    (a1 : ∀ w, Calls Try.prog 23 #[.int .u64 (a : Int), .int .u64 (c : Int)] w fun e w' => e = .returned (.int .u64 (X : Int)) ∧ Below w.heap.size w w') (a2 : ∀ w, Calls Try.prog 23 #[.int .u64 (b : Int), .int .u64 (c : Int)] w fun e w' => e = .returned (.int .u64 (Y : Int)) ∧ Below w.heap.size w w')
    (x1 : (((X : Nat) : Int) == 9221120237041090560) = false) (y1 : (((Y : Nat) : Int) == 9221120237041090560) = false) (r3 : ∀ w, Calls Try.prog 22 #[.int .u64 (X : Int)] w fun e w' => e = .returned (.int .i64 rx) ∧ w = w') (r4 : ∀ w, Calls Try.prog 22 #[.int .u64 (Y : Int)] w fun e w' => e = .returned (.int .i64 ry) ∧ w = w') (h1 : ¬ ry < rx) (m1 : ∀ w, Calls Try.prog 24 #[.int .u64 (a : Int), .int .u64 (c : Int)] w fun e w' => e = .returned (.int .u64 (P : Int)) ∧ Below w.heap.size w w') (m2 : ∀ w, Calls Try.prog 24 #[.int .u64 (b : Int), .int .u64 (c : Int)] w fun e w' => e = .returned (.int .u64 (Q : Int)) ∧ Below w.heap.size w w')
    (p1 : (((P : Nat) : Int) == 9221120237041090560) = false) (q1 : (((Q : Nat) : Int) == 9221120237041090560) = true)
    (w : World) : Calls Try.prog 3 #[.int .u64 (a : Int), .int .u64 (b : Int), .int .u64 (c : Int)] w fun e w' => e = .returned (.bool true) ∧ Below w.heap.size w w' := by
  go_enter Try.func3, Try.ntmps3
  go_wp2_with fail
  refine (shown4 _).mono ?_
  rintro e w1 ⟨rfl, hb⟩
  have L := hb
  clear hb
  go_wp2_with fail
  refine (k1 _).mono ?_
  rintro e w' ⟨rfl, rfl⟩
  go_wp2_with fail
  refine (k2 _).mono ?_
  rintro e w' ⟨rfl, rfl⟩
  go_wp2_with fail
  refine (r1 _).mono ?_
  rintro e w' ⟨rfl, rfl⟩
  go_wp2_with fail
  refine (r2 _).mono ?_
  rintro e w' ⟨rfl, rfl⟩
  go_wp2_with fail
  refine (a1 _).mono ?_
  rintro e w2 ⟨rfl, hb⟩
  replace L := L.trans (hb.mono L.size)
  clear hb
  go_wp2_with fail
  refine (a2 _).mono ?_
  rintro e w3 ⟨rfl, hb⟩
  replace L := L.trans (hb.mono L.size)
  clear hb
  go_wp2_with fail
  refine (r3 _).mono ?_
  rintro e w' ⟨rfl, rfl⟩
  go_wp2_with fail
  refine (r4 _).mono ?_
  rintro e w' ⟨rfl, rfl⟩
  go_wp2_with fail
  refine (m1 _).mono ?_
  rintro e w4 ⟨rfl, hb⟩
  replace L := L.trans (hb.mono L.size)
  clear hb
  go_wp2_with fail
  refine (m2 _).mono ?_
  rintro e w5 ⟨rfl, hb⟩
  replace L := L.trans (hb.mono L.size)
  clear hb
  go_wp2
  go_ret
  exact ⟨rfl, L⟩

set_option maxHeartbeats 4000000 in
set_option maxRecDepth 100000 in
theorem orders_ns5 (a b c ka kb X Y P Q : Nat) (ra rb rx ry rp rq : Int)
    (k1 : ∀ w, Calls Try.prog 21 #[.int .u64 (a : Int)] w fun e w' => e = .returned (.int .i64 (ka : Int)) ∧ w = w') (k2 : ∀ w, Calls Try.prog 21 #[.int .u64 (b : Int)] w fun e w' => e = .returned (.int .i64 (kb : Int)) ∧ w = w') (n1 : ((ka : Int) == 4) = false) (n2 : ((kb : Int) == 4) = false) (r1 : ∀ w, Calls Try.prog 22 #[.int .u64 (a : Int)] w fun e w' => e = .returned (.int .i64 ra) ∧ w = w') (r2 : ∀ w, Calls Try.prog 22 #[.int .u64 (b : Int)] w fun e w' => e = .returned (.int .i64 rb) ∧ w = w')
    (hs : ¬ rb < ra)
    (a1 : ∀ w, Calls Try.prog 23 #[.int .u64 (a : Int), .int .u64 (c : Int)] w fun e w' => e = .returned (.int .u64 (X : Int)) ∧ Below w.heap.size w w') (a2 : ∀ w, Calls Try.prog 23 #[.int .u64 (b : Int), .int .u64 (c : Int)] w fun e w' => e = .returned (.int .u64 (Y : Int)) ∧ Below w.heap.size w w')
    (x1 : (((X : Nat) : Int) == 9221120237041090560) = false) (y1 : (((Y : Nat) : Int) == 9221120237041090560) = false) (r3 : ∀ w, Calls Try.prog 22 #[.int .u64 (X : Int)] w fun e w' => e = .returned (.int .i64 rx) ∧ w = w') (r4 : ∀ w, Calls Try.prog 22 #[.int .u64 (Y : Int)] w fun e w' => e = .returned (.int .i64 ry) ∧ w = w') (h1 : ¬ ry < rx) (m1 : ∀ w, Calls Try.prog 24 #[.int .u64 (a : Int), .int .u64 (c : Int)] w fun e w' => e = .returned (.int .u64 (P : Int)) ∧ Below w.heap.size w w') (m2 : ∀ w, Calls Try.prog 24 #[.int .u64 (b : Int), .int .u64 (c : Int)] w fun e w' => e = .returned (.int .u64 (Q : Int)) ∧ Below w.heap.size w w')
    (p1 : (((P : Nat) : Int) == 9221120237041090560) = false) (q1 : (((Q : Nat) : Int) == 9221120237041090560) = false) (hc : decide ((9223372036854775808 : Int) ≤ (c : Int)) = true) (r5 : ∀ w, Calls Try.prog 22 #[.int .u64 (P : Int)] w fun e w' => e = .returned (.int .i64 rp) ∧ w = w') (r6 : ∀ w, Calls Try.prog 22 #[.int .u64 (Q : Int)] w fun e w' => e = .returned (.int .i64 rq) ∧ w = w') (h2 : rq ≤ rp)
    (w : World) : Calls Try.prog 3 #[.int .u64 (a : Int), .int .u64 (b : Int), .int .u64 (c : Int)] w fun e w' => e = .returned (.bool true) ∧ Below w.heap.size w w' := by
  go_enter Try.func3, Try.ntmps3
  go_wp2_with fail
  refine (shown4 _).mono ?_
  rintro e w1 ⟨rfl, hb⟩
  have L := hb
  clear hb
  go_wp2_with fail
  refine (k1 _).mono ?_
  rintro e w' ⟨rfl, rfl⟩
  go_wp2_with fail
  refine (k2 _).mono ?_
  rintro e w' ⟨rfl, rfl⟩
  go_wp2_with fail
  refine (r1 _).mono ?_
  rintro e w' ⟨rfl, rfl⟩
  go_wp2_with fail
  refine (r2 _).mono ?_
  rintro e w' ⟨rfl, rfl⟩
  go_wp2_with fail
  refine (a1 _).mono ?_
  rintro e w2 ⟨rfl, hb⟩
  replace L := L.trans (hb.mono L.size)
  clear hb
  go_wp2_with fail
  refine (a2 _).mono ?_
  rintro e w3 ⟨rfl, hb⟩
  replace L := L.trans (hb.mono L.size)
  clear hb
  go_wp2_with fail
  refine (r3 _).mono ?_
  rintro e w' ⟨rfl, rfl⟩
  go_wp2_with fail
  refine (r4 _).mono ?_
  rintro e w' ⟨rfl, rfl⟩
  go_wp2_with fail
  refine (m1 _).mono ?_
  rintro e w4 ⟨rfl, hb⟩
  replace L := L.trans (hb.mono L.size)
  clear hb
  go_wp2_with fail
  refine (m2 _).mono ?_
  rintro e w5 ⟨rfl, hb⟩
  replace L := L.trans (hb.mono L.size)
  clear hb
  go_wp2_with fail
  refine (r5 _).mono ?_
  rintro e w' ⟨rfl, rfl⟩
  go_wp2_with fail
  refine (r6 _).mono ?_
  rintro e w' ⟨rfl, rfl⟩
  go_wp2
  go_ret
  exact ⟨by simp [h2], L⟩

set_option maxHeartbeats 4000000 in
set_option maxRecDepth 100000 in
theorem orders_ns6 (a b c ka kb X Y P Q : Nat) (ra rb rx ry rp rq : Int)
    (k1 : ∀ w, Calls Try.prog 21 #[.int .u64 (a : Int)] w fun e w' => e = .returned (.int .i64 (ka : Int)) ∧ w = w') (k2 : ∀ w, Calls Try.prog 21 #[.int .u64 (b : Int)] w fun e w' => e = .returned (.int .i64 (kb : Int)) ∧ w = w') (n1 : ((ka : Int) == 4) = false) (n2 : ((kb : Int) == 4) = false) (r1 : ∀ w, Calls Try.prog 22 #[.int .u64 (a : Int)] w fun e w' => e = .returned (.int .i64 ra) ∧ w = w') (r2 : ∀ w, Calls Try.prog 22 #[.int .u64 (b : Int)] w fun e w' => e = .returned (.int .i64 rb) ∧ w = w')
    (hs : ¬ rb < ra)
    (a1 : ∀ w, Calls Try.prog 23 #[.int .u64 (a : Int), .int .u64 (c : Int)] w fun e w' => e = .returned (.int .u64 (X : Int)) ∧ Below w.heap.size w w') (a2 : ∀ w, Calls Try.prog 23 #[.int .u64 (b : Int), .int .u64 (c : Int)] w fun e w' => e = .returned (.int .u64 (Y : Int)) ∧ Below w.heap.size w w')
    (x1 : (((X : Nat) : Int) == 9221120237041090560) = false) (y1 : (((Y : Nat) : Int) == 9221120237041090560) = false) (r3 : ∀ w, Calls Try.prog 22 #[.int .u64 (X : Int)] w fun e w' => e = .returned (.int .i64 rx) ∧ w = w') (r4 : ∀ w, Calls Try.prog 22 #[.int .u64 (Y : Int)] w fun e w' => e = .returned (.int .i64 ry) ∧ w = w') (h1 : ¬ ry < rx) (m1 : ∀ w, Calls Try.prog 24 #[.int .u64 (a : Int), .int .u64 (c : Int)] w fun e w' => e = .returned (.int .u64 (P : Int)) ∧ Below w.heap.size w w') (m2 : ∀ w, Calls Try.prog 24 #[.int .u64 (b : Int), .int .u64 (c : Int)] w fun e w' => e = .returned (.int .u64 (Q : Int)) ∧ Below w.heap.size w w')
    (p1 : (((P : Nat) : Int) == 9221120237041090560) = false) (q1 : (((Q : Nat) : Int) == 9221120237041090560) = false) (hc : decide ((9223372036854775808 : Int) ≤ (c : Int)) = false) (r5 : ∀ w, Calls Try.prog 22 #[.int .u64 (P : Int)] w fun e w' => e = .returned (.int .i64 rp) ∧ w = w') (r6 : ∀ w, Calls Try.prog 22 #[.int .u64 (Q : Int)] w fun e w' => e = .returned (.int .i64 rq) ∧ w = w') (h2 : rp ≤ rq)
    (w : World) : Calls Try.prog 3 #[.int .u64 (a : Int), .int .u64 (b : Int), .int .u64 (c : Int)] w fun e w' => e = .returned (.bool true) ∧ Below w.heap.size w w' := by
  go_enter Try.func3, Try.ntmps3
  go_wp2_with fail
  refine (shown4 _).mono ?_
  rintro e w1 ⟨rfl, hb⟩
  have L := hb
  clear hb
  go_wp2_with fail
  refine (k1 _).mono ?_
  rintro e w' ⟨rfl, rfl⟩
  go_wp2_with fail
  refine (k2 _).mono ?_
  rintro e w' ⟨rfl, rfl⟩
  go_wp2_with fail
  refine (r1 _).mono ?_
  rintro e w' ⟨rfl, rfl⟩
  go_wp2_with fail
  refine (r2 _).mono ?_
  rintro e w' ⟨rfl, rfl⟩
  go_wp2_with fail
  refine (a1 _).mono ?_
  rintro e w2 ⟨rfl, hb⟩
  replace L := L.trans (hb.mono L.size)
  clear hb
  go_wp2_with fail
  refine (a2 _).mono ?_
  rintro e w3 ⟨rfl, hb⟩
  replace L := L.trans (hb.mono L.size)
  clear hb
  go_wp2_with fail
  refine (r3 _).mono ?_
  rintro e w' ⟨rfl, rfl⟩
  go_wp2_with fail
  refine (r4 _).mono ?_
  rintro e w' ⟨rfl, rfl⟩
  go_wp2_with fail
  refine (m1 _).mono ?_
  rintro e w4 ⟨rfl, hb⟩
  replace L := L.trans (hb.mono L.size)
  clear hb
  go_wp2_with fail
  refine (m2 _).mono ?_
  rintro e w5 ⟨rfl, hb⟩
  replace L := L.trans (hb.mono L.size)
  clear hb
  go_wp2_with fail
  refine (r5 _).mono ?_
  rintro e w' ⟨rfl, rfl⟩
  go_wp2_with fail
  refine (r6 _).mono ?_
  rintro e w' ⟨rfl, rfl⟩
  go_wp2
  go_ret
  exact ⟨by simp [h2], L⟩

set_option maxHeartbeats 4000000 in
set_option maxRecDepth 100000 in
theorem orders_sw1 (a b c ka kb X Y kc : Nat) (ra rb : Int)
    (k1 : ∀ w, Calls Try.prog 21 #[.int .u64 (a : Int)] w fun e w' => e = .returned (.int .i64 (ka : Int)) ∧ w = w') (k2 : ∀ w, Calls Try.prog 21 #[.int .u64 (b : Int)] w fun e w' => e = .returned (.int .i64 (kb : Int)) ∧ w = w') (n1 : ((ka : Int) == 4) = false) (n2 : ((kb : Int) == 4) = false) (r1 : ∀ w, Calls Try.prog 22 #[.int .u64 (a : Int)] w fun e w' => e = .returned (.int .i64 ra) ∧ w = w') (r2 : ∀ w, Calls Try.prog 22 #[.int .u64 (b : Int)] w fun e w' => e = .returned (.int .i64 rb) ∧ w = w')
    (hs : rb < ra)
    (a1 : ∀ w, Calls Try.prog 23 #[.int .u64 (b : Int), .int .u64 (c : Int)] w fun e w' => e = .returned (.int .u64 (X : Int)) ∧ Below w.heap.size w w') (a2 : ∀ w, Calls Try.prog 23 #[.int .u64 (a : Int), .int .u64 (c : Int)] w fun e w' => e = .returned (.int .u64 (Y : Int)) ∧ Below w.heap.size w w')
    (x1 : (((X : Nat) : Int) == 9221120237041090560) = true)
    (k3 : ∀ w, Calls Try.prog 21 #[.int .u64 (c : Int)] w fun e w' => e = .returned (.int .i64 (kc : Int)) ∧ w = w') (n3 : 3 ≤ (kc : Int))
    (w : World) : Calls Try.prog 3 #[.int .u64 (a : Int), .int .u64 (b : Int), .int .u64 (c : Int)] w fun e w' => e = .returned (.bool true) ∧ Below w.heap.size w w' := by
  go_enter Try.func3, Try.ntmps3
  go_wp2_with fail
  refine (shown4 _).mono ?_
  rintro e w1 ⟨rfl, hb⟩
  have L := hb
  clear hb
  go_wp2_with fail
  refine (k1 _).mono ?_
  rintro e w' ⟨rfl, rfl⟩
  go_wp2_with fail
  refine (k2 _).mono ?_
  rintro e w' ⟨rfl, rfl⟩
  go_wp2_with fail
  refine (r1 _).mono ?_
  rintro e w' ⟨rfl, rfl⟩
  go_wp2_with fail
  refine (r2 _).mono ?_
  rintro e w' ⟨rfl, rfl⟩
  go_wp2_with fail
  refine (a1 _).mono ?_
  rintro e w2 ⟨rfl, hb⟩
  replace L := L.trans (hb.mono L.size)
  clear hb
  go_wp2_with fail
  refine (a2 _).mono ?_
  rintro e w3 ⟨rfl, hb⟩
  replace L := L.trans (hb.mono L.size)
  clear hb
  go_wp2_with fail
  refine (k3 _).mono ?_
  rintro e w' ⟨rfl, rfl⟩
  go_wp2
  go_ret
  exact ⟨by simp [n3], L⟩

set_option maxHeartbeats 4000000 in
set_option maxRecDepth 100000 in
theorem orders_sw2 (a b c ka kb X Y kc : Nat) (ra rb : Int)
    (k1 : ∀ w, Calls Try.prog 21 #[.int .u64 (a : Int)] w fun e w' => e = .returned (.int .i64 (ka : Int)) ∧ w = w') (k2 : ∀ w, Calls Try.prog 21 #[.int .u64 (b : Int)] w fun e w' => e = .returned (.int .i64 (kb : Int)) ∧ w = w') (n1 : ((ka : Int) == 4) = false) (n2 : ((kb : Int) == 4) = false) (r1 : ∀ w, Calls Try.prog 22 #[.int .u64 (a : Int)] w fun e w' => e = .returned (.int .i64 ra) ∧ w = w') (r2 : ∀ w, Calls Try.prog 22 #[.int .u64 (b : Int)] w fun e w' => e = .returned (.int .i64 rb) ∧ w = w')
    (hs : rb < ra)
    (a1 : ∀ w, Calls Try.prog 23 #[.int .u64 (b : Int), .int .u64 (c : Int)] w fun e w' => e = .returned (.int .u64 (X : Int)) ∧ Below w.heap.size w w') (a2 : ∀ w, Calls Try.prog 23 #[.int .u64 (a : Int), .int .u64 (c : Int)] w fun e w' => e = .returned (.int .u64 (Y : Int)) ∧ Below w.heap.size w w')
    (x1 : (((X : Nat) : Int) == 9221120237041090560) = false) (y1 : (((Y : Nat) : Int) == 9221120237041090560) = true)
    (k3 : ∀ w, Calls Try.prog 21 #[.int .u64 (c : Int)] w fun e w' => e = .returned (.int .i64 (kc : Int)) ∧ w = w') (n3 : 3 ≤ (kc : Int))
    (w : World) : Calls Try.prog 3 #[.int .u64 (a : Int), .int .u64 (b : Int), .int .u64 (c : Int)] w fun e w' => e = .returned (.bool true) ∧ Below w.heap.size w w' := by
  go_enter Try.func3, Try.ntmps3
  go_wp2_with fail
  refine (shown4 _).mono ?_
  rintro e w1 ⟨rfl, hb⟩
  have L := hb
  clear hb
  go_wp2_with fail
  refine (k1 _).mono ?_
  rintro e w' ⟨rfl, rfl⟩
  go_wp2_with fail
  refine (k2 _).mono ?_
  rintro e w' ⟨rfl, rfl⟩
  go_wp2_with fail
  refine (r1 _).mono ?_
  rintro e w' ⟨rfl, rfl⟩
  go_wp2_with fail
  refine (r2 _).mono ?_
  rintro e w' ⟨rfl, rfl⟩
  go_wp2_with fail
  refine (a1 _).mono ?_
  rintro e w2 ⟨rfl, hb⟩
  replace L := L.trans (hb.mono L.size)
  clear hb
  go_wp2_with fail
  refine (a2 _).mono ?_
  rintro e w3 ⟨rfl, hb⟩
  replace L := L.trans (hb.mono L.size)
  clear hb
  go_wp2_with fail
  refine (k3 _).mono ?_
  rintro e w' ⟨rfl, rfl⟩
  go_wp2
  go_ret
  exact ⟨by simp [n3], L⟩

set_option maxHeartbeats 4000000 in
set_option maxRecDepth 100000 in
theorem orders_sw3 (a b c ka kb X Y P Q : Nat) (ra rb rx ry : Int)
    (k1 : ∀ w, Calls Try.prog 21 #[.int .u64 (a : Int)] w fun e w' => e = .returned (.int .i64 (ka : Int)) ∧ w = w') (k2 : ∀ w, Calls Try.prog 21 #[.int .u64 (b : Int)] w fun e w' => e = .returned (.int .i64 (kb : Int)) ∧ w = w') (n1 : ((ka : Int) == 4) = false) (n2 : ((kb : Int) == 4) = false) (r1 : ∀ w, Calls Try.prog 22 #[.int .u64 (a : Int)] w fun e w' => e = .returned (.int .i64 ra) ∧ w = w') (r2 : ∀ w, Calls Try.prog 22 #[.int .u64 (b : Int)] w fun e w' => e = .returned (.int .i64 rb) ∧ w = w')
    (hs : rb < ra)
    (a1 : ∀ w, Calls Try.prog 23 #[.int .u64 (b : Int), .int .u64 (c : Int)] w fun e w' => e = .returned (.int .u64 (X : Int)) ∧ Below w.heap.size w w') (a2 : ∀ w, Calls Try.prog 23 #[.int .u64 (a : Int), .int .u64 (c : Int)] w fun e w' => e = .returned (.int .u64 (Y : Int)) ∧ Below w.heap.size w w')
    (x1 : (((X : Nat) : Int) == 9221120237041090560) = false) (y1 : (((Y : Nat) : Int) == 9221120237041090560) = false) (r3 : ∀ w, Calls Try.prog 22 #[.int .u64 (X : Int)] w fun e w' => e = .returned (.int .i64 rx) ∧ w = w') (r4 : ∀ w, Calls Try.prog 22 #[.int .u64 (Y : Int)] w fun e w' => e = .returned (.int .i64 ry) ∧ w = w') (h1 : ¬ ry < rx) (m1 : ∀ w, Calls Try.prog 24 #[.int .u64 (b : Int), .int .u64 (c : Int)] w fun e w' => e = .returned (.int .u64 (P : Int)) ∧ Below w.heap.size w w') (m2 : ∀ w, Calls Try.prog 24 #[.int .u64 (a : Int), .int .u64 (c : Int)] w fun e w' => e = .returned (.int .u64 (Q : Int)) ∧ Below w.heap.size w w')
    (p1 : (((P : Nat) : Int) == 9221120237041090560) = true)
    (w : World) : Calls Try.prog 3 #[.int .u64 (a : Int), .int .u64 (b : Int), .int .u64 (c : Int)] w fun e w' => e = .returned (.bool true) ∧ Below w.heap.size w w' := by
  go_enter Try.func3, Try.ntmps3
  go_wp2_with fail
  refine (shown4 _).mono ?_
  rintro e w1 ⟨rfl, hb⟩
  have L := hb
  clear hb
  go_wp2_with fail
  refine (k1 _).mono ?_
  rintro e w' ⟨rfl, rfl⟩
  go_wp2_with fail
  refine (k2 _).mono ?_
  rintro e w' ⟨rfl, rfl⟩
  go_wp2_with fail
  refine (r1 _).mono ?_
  rintro e w' ⟨rfl, rfl⟩
  go_wp2_with fail
  refine (r2 _).mono ?_
  rintro e w' ⟨rfl, rfl⟩
  go_wp2_with fail
  refine (a1 _).mono ?_
  rintro e w2 ⟨rfl, hb⟩
  replace L := L.trans (hb.mono L.size)
  clear hb
  go_wp2_with fail
  refine (a2 _).mono ?_
  rintro e w3 ⟨rfl, hb⟩
  replace L := L.trans (hb.mono L.size)
  clear hb
  go_wp2_with fail
  refine (r3 _).mono ?_
  rintro e w' ⟨rfl, rfl⟩
  go_wp2_with fail
  refine (r4 _).mono ?_
  rintro e w' ⟨rfl, rfl⟩
  go_wp2_with fail
  refine (m1 _).mono ?_
  rintro e w4 ⟨rfl, hb⟩
  replace L := L.trans (hb.mono L.size)
  clear hb
  go_wp2_with fail
  refine (m2 _).mono ?_
  rintro e w5 ⟨rfl, hb⟩
  replace L := L.trans (hb.mono L.size)
  clear hb
  go_wp2
  go_ret
  exact ⟨rfl, L⟩

set_option maxHeartbeats 4000000 in
set_option maxRecDepth 100000 in
theorem orders_sw4 (a b c ka kb X Y P Q : Nat) (ra rb rx ry : Int)
    (k1 : ∀ w, Calls Try.prog 21 #[.int .u64 (a : Int)] w fun e w' => e = .returned (.int .i64 (ka : Int)) ∧ w = w') (k2 : ∀ w, Calls Try.prog 21 #[.int .u64 (b : Int)] w fun e w' => e = .returned (.int .i64 (kb : Int)) ∧ w = w') (n1 : ((ka : Int) == 4) = false) (n2 : ((kb : Int) == 4) = false) (r1 : ∀ w, Calls Try.prog 22 #[.int .u64 (a : Int)] w fun e w' => e = .returned (.int .i64 ra) ∧ w = w') (r2 : ∀ w, Calls Try.prog 22 #[.int .u64 (b : Int)] w fun e w' => e = .returned (.int .i64 rb) ∧ w = w')
    (hs : rb < ra)
    (a1 : ∀ w, Calls Try.prog 23 #[.int .u64 (b : Int), .int .u64 (c : Int)] w fun e w' => e = .returned (.int .u64 (X : Int)) ∧ Below w.heap.size w w') (a2 : ∀ w, Calls Try.prog 23 #[.int .u64 (a : Int), .int .u64 (c : Int)] w fun e w' => e = .returned (.int .u64 (Y : Int)) ∧ Below w.heap.size w w')
    (x1 : (((X : Nat) : Int) == 9221120237041090560) = false) (y1 : (((Y : Nat) : Int) == 9221120237041090560) = false) (r3 : ∀ w, Calls Try.prog 22 #[.int .u64 (X : Int)] w fun e w' => e = .returned (.int .i64 rx) ∧ w = w') (r4 : ∀ w, Calls Try.prog 22 #[.int .u64 (Y : Int)] w fun e w' => e = .returned (.int .i64 ry) ∧ w = w') (h1 : ¬ ry < rx) (m1 : ∀ w, Calls Try.prog 24 #[.int .u64 (b : Int), .int .u64 (c : Int)] w fun e w' => e = .returned (.int .u64 (P : Int)) ∧ Below w.heap.size w w') (m2 : ∀ w, Calls Try.prog 24 #[.int .u64 (a : Int), .int .u64 (c : Int)] w fun e w' => e = .returned (.int .u64 (Q : Int)) ∧ Below w.heap.size w w')
    (p1 : (((P : Nat) : Int) == 9221120237041090560) = false) (q1 : (((Q : Nat) : Int) == 9221120237041090560) = true)
    (w : World) : Calls Try.prog 3 #[.int .u64 (a : Int), .int .u64 (b : Int), .int .u64 (c : Int)] w fun e w' => e = .returned (.bool true) ∧ Below w.heap.size w w' := by
  go_enter Try.func3, Try.ntmps3
  go_wp2_with fail
  refine (shown4 _).mono ?_
  rintro e w1 ⟨rfl, hb⟩
  have L := hb
  clear hb
  go_wp2_with fail
  refine (k1 _).mono ?_
  rintro e w' ⟨rfl, rfl⟩
  go_wp2_with fail
  refine (k2 _).mono ?_
  rintro e w' ⟨rfl, rfl⟩
  go_wp2_with fail
  refine (r1 _).mono ?_
  rintro e w' ⟨rfl, rfl⟩
  go_wp2_with fail
  refine (r2 _).mono ?_
  rintro e w' ⟨rfl, rfl⟩
  go_wp2_with fail
  refine (a1 _).mono ?_
  rintro e w2 ⟨rfl, hb⟩
  replace L := L.trans (hb.mono L.size)
  clear hb
  go_wp2_with fail
  refine (a2 _).mono ?_
  rintro e w3 ⟨rfl, hb⟩
  replace L := L.trans (hb.mono L.size)
  clear hb
  go_wp2_with fail
  refine (r3 _).mono ?_
  rintro e w' ⟨rfl, rfl⟩
  go_wp2_with fail
  refine (r4 _).mono ?_
  rintro e w' ⟨rfl, rfl⟩
  go_wp2_with fail
  refine (m1 _).mono ?_
  rintro e w4 ⟨rfl, hb⟩
  replace L := L.trans (hb.mono L.size)
  clear hb
  go_wp2_with fail
  refine (m2 _).mono ?_
  rintro e w5 ⟨rfl, hb⟩
  replace L := L.trans (hb.mono L.size)
  clear hb
  go_wp2
  go_ret
  exact ⟨rfl, L⟩

set_option maxHeartbeats 4000000 in
set_option maxRecDepth 100000 in
theorem orders_sw5 (a b c ka kb X Y P Q : Nat) (ra rb rx ry rp rq : Int)
    (k1 : ∀ w, Calls Try.prog 21 #[.int .u64 (a : Int)] w fun e w' => e = .returned (.int .i64 (ka : Int)) ∧ w = w') (k2 : ∀ w, Calls Try.prog 21 #[.int .u64 (b : Int)] w fun e w' => e = .returned (.int .i64 (kb : Int)) ∧ w = w') (n1 : ((ka : Int) == 4) = false) (n2 : ((kb : Int) == 4) = false) (r1 : ∀ w, Calls Try.prog 22 #[.int .u64 (a : Int)] w fun e w' => e = .returned (.int .i64 ra) ∧ w = w') (r2 : ∀ w, Calls Try.prog 22 #[.int .u64 (b : Int)] w fun e w' => e = .returned (.int .i64 rb) ∧ w = w')
    (hs : rb < ra)
    (a1 : ∀ w, Calls Try.prog 23 #[.int .u64 (b : Int), .int .u64 (c : Int)] w fun e w' => e = .returned (.int .u64 (X : Int)) ∧ Below w.heap.size w w') (a2 : ∀ w, Calls Try.prog 23 #[.int .u64 (a : Int), .int .u64 (c : Int)] w fun e w' => e = .returned (.int .u64 (Y : Int)) ∧ Below w.heap.size w w')
    (x1 : (((X : Nat) : Int) == 9221120237041090560) = false) (y1 : (((Y : Nat) : Int) == 9221120237041090560) = false) (r3 : ∀ w, Calls Try.prog 22 #[.int .u64 (X : Int)] w fun e w' => e = .returned (.int .i64 rx) ∧ w = w') (r4 : ∀ w, Calls Try.prog 22 #[.int .u64 (Y : Int)] w fun e w' => e = .returned (.int .i64 ry) ∧ w = w') (h1 : ¬ ry < rx) (m1 : ∀ w, Calls Try.prog 24 #[.int .u64 (b : Int), .int .u64 (c : Int)] w fun e w' => e = .returned (.int .u64 (P : Int)) ∧ Below w.heap.size w w') (m2 : ∀ w, Calls Try.prog 24 #[.int .u64 (a : Int), .int .u64 (c : Int)] w fun e w' => e = .returned (.int .u64 (Q : Int)) ∧ Below w.heap.size w w')
    (p1 : (((P : Nat) : Int) == 9221120237041090560) = false) (q1 : (((Q : Nat) : Int) == 9221120237041090560) = false) (hc : decide ((9223372036854775808 : Int) ≤ (c : Int)) = true) (r5 : ∀ w, Calls Try.prog 22 #[.int .u64 (P : Int)] w fun e w' => e = .returned (.int .i64 rp) ∧ w = w') (r6 : ∀ w, Calls Try.prog 22 #[.int .u64 (Q : Int)] w fun e w' => e = .returned (.int .i64 rq) ∧ w = w') (h2 : rq ≤ rp)
    (w : World) : Calls Try.prog 3 #[.int .u64 (a : Int), .int .u64 (b : Int), .int .u64 (c : Int)] w fun e w' => e = .returned (.bool true) ∧ Below w.heap.size w w' := by
  go_enter Try.func3, Try.ntmps3
  go_wp2_with fail
  refine (shown4 _).mono ?_
  rintro e w1 ⟨rfl, hb⟩
  have L := hb
  clear hb
  go_wp2_with fail
  refine (k1 _).mono ?_
  rintro e w' ⟨rfl, rfl⟩
  go_wp2_with fail
  refine (k2 _).mono ?_
  rintro e w' ⟨rfl, rfl⟩
  go_wp2_with fail
  refine (r1 _).mono ?_
  rintro e w' ⟨rfl, rfl⟩
  go_wp2_with fail
  refine (r2 _).mono ?_
  rintro e w' ⟨rfl, rfl⟩
  go_wp2_with fail
  refine (a1 _).mono ?_
  rintro e w2 ⟨rfl, hb⟩
  replace L := L.trans (hb.mono L.size)
  clear hb
  go_wp2_with fail
  refine (a2 _).mono ?_
  rintro e w3 ⟨rfl, hb⟩
  replace L := L.trans (hb.mono L.size)
  clear hb
  go_wp2_with fail
  refine (r3 _).mono ?_
  rintro e w' ⟨rfl, rfl⟩
  go_wp2_with fail
  refine (r4 _).mono ?_
  rintro e w' ⟨rfl, rfl⟩
  go_wp2_with fail
  refine (m1 _).mono ?_
  rintro e w4 ⟨rfl, hb⟩
  replace L := L.trans (hb.mono L.size)
  clear hb
  go_wp2_with fail
  refine (m2 _).mono ?_
  rintro e w5 ⟨rfl, hb⟩
  replace L := L.trans (hb.mono L.size)
  clear hb
  go_wp2_with fail
  refine (r5 _).mono ?_
  rintro e w' ⟨rfl, rfl⟩
  go_wp2_with fail
  refine (r6 _).mono ?_
  rintro e w' ⟨rfl, rfl⟩
  go_wp2
  go_ret
  exact ⟨by simp [h2], L⟩

set_option maxHeartbeats 4000000 in
set_option maxRecDepth 100000 in
theorem orders_sw6 (a b c ka kb X Y P Q : Nat) (ra rb rx ry rp rq : Int)
    (k1 : ∀ w, Calls Try.prog 21 #[.int .u64 (a : Int)] w fun e w' => e = .returned (.int .i64 (ka : Int)) ∧ w = w') (k2 : ∀ w, Calls Try.prog 21 #[.int .u64 (b : Int)] w fun e w' => e = .returned (.int .i64 (kb : Int)) ∧ w = w') (n1 : ((ka : Int) == 4) = false) (n2 : ((kb : Int) == 4) = false) (r1 : ∀ w, Calls Try.prog 22 #[.int .u64 (a : Int)] w fun e w' => e = .returned (.int .i64 ra) ∧ w = w') (r2 : ∀ w, Calls Try.prog 22 #[.int .u64 (b : Int)] w fun e w' => e = .returned (.int .i64 rb) ∧ w = w')
    (hs : rb < ra)
    (a1 : ∀ w, Calls Try.prog 23 #[.int .u64 (b : Int), .int .u64 (c : Int)] w fun e w' => e = .returned (.int .u64 (X : Int)) ∧ Below w.heap.size w w') (a2 : ∀ w, Calls Try.prog 23 #[.int .u64 (a : Int), .int .u64 (c : Int)] w fun e w' => e = .returned (.int .u64 (Y : Int)) ∧ Below w.heap.size w w')
    (x1 : (((X : Nat) : Int) == 9221120237041090560) = false) (y1 : (((Y : Nat) : Int) == 9221120237041090560) = false) (r3 : ∀ w, Calls Try.prog 22 #[.int .u64 (X : Int)] w fun e w' => e = .returned (.int .i64 rx) ∧ w = w') (r4 : ∀ w, Calls Try.prog 22 #[.int .u64 (Y : Int)] w fun e w' => e = .returned (.int .i64 ry) ∧ w = w') (h1 : ¬ ry < rx) (m1 : ∀ w, Calls Try.prog 24 #[.int .u64 (b : Int), .int .u64 (c : Int)] w fun e w' => e = .returned (.int .u64 (P : Int)) ∧ Below w.heap.size w w') (m2 : ∀ w, Calls Try.prog 24 #[.int .u64 (a : Int), .int .u64 (c : Int)] w fun e w' => e = .returned (.int .u64 (Q : Int)) ∧ Below w.heap.size w w')
    (p1 : (((P : Nat) : Int) == 9221120237041090560) = false) (q1 : (((Q : Nat) : Int) == 9221120237041090560) = false) (hc : decide ((9223372036854775808 : Int) ≤ (c : Int)) = false) (r5 : ∀ w, Calls Try.prog 22 #[.int .u64 (P : Int)] w fun e w' => e = .returned (.int .i64 rp) ∧ w = w') (r6 : ∀ w, Calls Try.prog 22 #[.int .u64 (Q : Int)] w fun e w' => e = .returned (.int .i64 rq) ∧ w = w') (h2 : rp ≤ rq)
    (w : World) : Calls Try.prog 3 #[.int .u64 (a : Int), .int .u64 (b : Int), .int .u64 (c : Int)] w fun e w' => e = .returned (.bool true) ∧ Below w.heap.size w w' := by
  go_enter Try.func3, Try.ntmps3
  go_wp2_with fail
  refine (shown4 _).mono ?_
  rintro e w1 ⟨rfl, hb⟩
  have L := hb
  clear hb
  go_wp2_with fail
  refine (k1 _).mono ?_
  rintro e w' ⟨rfl, rfl⟩
  go_wp2_with fail
  refine (k2 _).mono ?_
  rintro e w' ⟨rfl, rfl⟩
  go_wp2_with fail
  refine (r1 _).mono ?_
  rintro e w' ⟨rfl, rfl⟩
  go_wp2_with fail
  refine (r2 _).mono ?_
  rintro e w' ⟨rfl, rfl⟩
  go_wp2_with fail
  refine (a1 _).mono ?_
  rintro e w2 ⟨rfl, hb⟩
  replace L := L.trans (hb.mono L.size)
  clear hb
  go_wp2_with fail
  refine (a2 _).mono ?_
  rintro e w3 ⟨rfl, hb⟩
  replace L := L.trans (hb.mono L.size)
  clear hb
  go_wp2_with fail
  refine (r3 _).mono ?_
  rintro e w' ⟨rfl, rfl⟩
  go_wp2_with fail
  refine (r4 _).mono ?_
  rintro e w' ⟨rfl, rfl⟩
  go_wp2_with fail
  refine (m1 _).mono ?_
  rintro e w4 ⟨rfl, hb⟩
  replace L := L.trans (hb.mono L.size)
  clear hb
  go_wp2_with fail
  refine (m2 _).mono ?_
  rintro e w5 ⟨rfl, hb⟩
  replace L := L.trans (hb.mono L.size)
  clear hb
  go_wp2_with fail
  refine (r5 _).mono ?_
  rintro e w' ⟨rfl, rfl⟩
  go_wp2_with fail
  refine (r6 _).mono ?_
  rintro e w' ⟨rfl, rfl⟩
  go_wp2
  go_ret
  exact ⟨by simp [h2], L⟩

theorem nan_eq {x : Nat} (h : x = Fl.NAN) : (((x : Nat) : Int) == 9221120237041090560) = true := by rw [h]; rfl
theorem nan_ne {x : Nat} (h : x ≠ Fl.NAN) : (((x : Nat) : Int) == 9221120237041090560) = false := by
  unfold Fl.NAN at h; simp; omega
theorem mulN_lt {a b : Nat} : Fl.mulN a b < 18446744073709551616 := by
  by_cases h : Fl.mulN a b = Fl.NAN
  · rw [h]; decide
  · exact (Fl.mulN_kd h).2
theorem kd_ne4 {x : Nat} (h : Fl.kd x < 4) : ((((Fl.kd x : Nat) : Int)) == 4) = false := by simp; omega

/-- ArithOrders, walked -/
theorem orders_walk (a b c : Nat) (ha : a < 18446744073709551616) (hb : b < 18446744073709551616) (hc : c < 18446744073709551616) (w : World) :
    Calls Try.prog 3 #[.int .u64 (a : Int), .int .u64 (b : Int), .int .u64 (c : Int)] w fun e w' => e = .returned (.bool true) ∧ Below w.heap.size w w' := by
  have k1 := rkind_any a ha
  have k2 := rkind_any b hb
  have k3 := rkind_any c hc
  have r1 := rank4_any a ha
  have r2 := rank4_any b hb
  have la := Fl.kd_le a
  have lb := Fl.kd_le b
  by_cases c1 : Fl.kd a = 4
  · exact orders_none1 a b c _ k1 (by rw [c1]; rfl) w
  have n1 := kd_ne4 (x := a) (by omega)
  by_cases c2 : Fl.kd b = 4
  · exact orders_none2 a b c _ _ k1 k2 n1 (by rw [c2]; rfl) w
  have n2 := kd_ne4 (x := b) (by omega)
  by_cases hs : Fl.rank b < Fl.rank a
  rotate_left
  · have hl : Fl.rank a ≤ Fl.rank b := by omega
    have hA := Fl.add_orders (a := a) (b := b) (c := c) (by omega) (by omega) hl ha hb
    have hM := Fl.mul_orders (a := a) (b := b) (c := c) (by omega) (by omega) hl
    have lx := Fl.addN_lt ha hc
    have ly := Fl.addN_lt hb hc
    have lp := @mulN_lt a c
    have lq := @mulN_lt b c
    have a1 := add_any a c ha hc
    have a2 := add_any b c hb hc
    have m1 := mul_any a c ha hc
    have m2 := mul_any b c hb hc
    by_cases d1 : Fl.addN a c = Fl.NAN
    · have := hA.1 (.inl d1)
      exact orders_ns1 a b c _ _ _ _ _ _ _ k1 k2 n1 n2 r1 r2 hs a1 a2 (nan_eq d1) k3 (by omega) w
    by_cases d2 : Fl.addN b c = Fl.NAN
    · have := hA.1 (.inr d2)
      exact orders_ns2 a b c _ _ _ _ _ _ _ k1 k2 n1 n2 r1 r2 hs a1 a2 (nan_ne d1) (nan_eq d2) k3 (by omega) w
    have h1 := hA.2 d1 d2
    have r3 := rank4_any _ lx
    have r4 := rank4_any _ ly
    by_cases d3 : Fl.mulN a c = Fl.NAN
    · exact orders_ns3 a b c _ _ _ _ _ _ _ _ _ _ k1 k2 n1 n2 r1 r2 hs a1 a2 (nan_ne d1) (nan_ne d2) r3 r4 (by omega) m1 m2 (nan_eq d3) w
    by_cases d4 : Fl.mulN b c = Fl.NAN
    · exact orders_ns4 a b c _ _ _ _ _ _ _ _ _ _ k1 k2 n1 n2 r1 r2 hs a1 a2 (nan_ne d1) (nan_ne d2) r3 r4 (by omega) m1 m2 (nan_ne d3) (nan_eq d4) w
    have hM := hM d3 d4
    have r5 := rank4_any _ lp
    have r6 := rank4_any _ lq
    cases hn : Fl.ng c
    · exact orders_ns6 a b c _ _ _ _ _ _ _ _ _ _ _ _ k1 k2 n1 n2 r1 r2 hs a1 a2 (nan_ne d1) (nan_ne d2) r3 r4 (by omega) m1 m2 (nan_ne d3) (nan_ne d4) ((ng_dec c).trans hn) r5 r6 (hM.2 hn) w
    · exact orders_ns5 a b c _ _ _ _ _ _ _ _ _ _ _ _ k1 k2 n1 n2 r1 r2 hs a1 a2 (nan_ne d1) (nan_ne d2) r3 r4 (by omega) m1 m2 (nan_ne d3) (nan_ne d4) ((ng_dec c).trans hn) r5 r6 (hM.1 hn) w
  · have hl : Fl.rank b ≤ Fl.rank a := by omega
    have hA := Fl.add_orders (a := b) (b := a) (c := c) (by omega) (by omega) hl hb ha
    have hM := Fl.mul_orders (a := b) (b := a) (c := c) (by omega) (by omega) hl
    have lx := Fl.addN_lt hb hc
    have ly := Fl.addN_lt ha hc
    have lp := @mulN_lt b c
    have lq := @mulN_lt a c
    have a1 := add_any b c hb hc
    have a2 := add_any a c ha hc
    have m1 := mul_any b c hb hc
    have m2 := mul_any a c ha hc
    by_cases d1 : Fl.addN b c = Fl.NAN
    · have := hA.1 (.inl d1)
      exact orders_sw1 a b c _ _ _ _ _ _ _ k1 k2 n1 n2 r1 r2 hs a1 a2 (nan_eq d1) k3 (by omega) w
    by_cases d2 : Fl.addN a c = Fl.NAN
    · have := hA.1 (.inr d2)
      exact orders_sw2 a b c _ _ _ _ _ _ _ k1 k2 n1 n2 r1 r2 hs a1 a2 (nan_ne d1) (nan_eq d2) k3 (by omega) w
    have h1 := hA.2 d1 d2
    have r3 := rank4_any _ lx
    have r4 := rank4_any _ ly
    by_cases d3 : Fl.mulN b c = Fl.NAN
    · exact orders_sw3 a b c _ _ _ _ _ _ _ _ _ _ k1 k2 n1 n2 r1 r2 hs a1 a2 (nan_ne d1) (nan_ne d2) r3 r4 (by omega) m1 m2 (nan_eq d3) w
    by_cases d4 : Fl.mulN a c = Fl.NAN
    · exact orders_sw4 a b c _ _ _ _ _ _ _ _ _ _ k1 k2 n1 n2 r1 r2 hs a1 a2 (nan_ne d1) (nan_ne d2) r3 r4 (by omega) m1 m2 (nan_ne d3) (nan_eq d4) w
    have hM := hM d3 d4
    have r5 := rank4_any _ lp
    have r6 := rank4_any _ lq
    cases hn : Fl.ng c
    · exact orders_sw6 a b c _ _ _ _ _ _ _ _ _ _ _ _ k1 k2 n1 n2 r1 r2 hs a1 a2 (nan_ne d1) (nan_ne d2) r3 r4 (by omega) m1 m2 (nan_ne d3) (nan_ne d4) ((ng_dec c).trans hn) r5 r6 (hM.2 hn) w
    · exact orders_sw5 a b c _ _ _ _ _ _ _ _ _ _ _ _ k1 k2 n1 n2 r1 r2 hs a1 a2 (nan_ne d1) (nan_ne d2) r3 r4 (by omega) m1 m2 (nan_ne d3) (nan_ne d4) ((ng_dec c).trans hn) r5 r6 (hM.1 hn) w
end Go.Proofs.Ytaplggheadahhaa
