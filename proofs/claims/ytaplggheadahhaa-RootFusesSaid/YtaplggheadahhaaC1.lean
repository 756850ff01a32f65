/- The walks of wide.Mul, Add, Sub. -/
import Derived.Test.YtaplggheadahhaaA7
import Derived.Shelf.Spec.BitsCarry
namespace Go.Proofs.Ytaplggheadahhaa
open Go.RowKit
set_option linter.unusedVariables false
set_option linter.unusedSimpArgs false

theorem add64 (x y c : Nat) (hc : c ≤ 1) (w : World) :
    (callFunc 140 #[.int .u64 x, .int .u64 y, .int .u64 c]).run Try.prog w =
      .ok (.value (.tuple #[.int .u64 (((x + y + c) % 18446744073709551616 : Nat) : Int), .int .u64 (((x + y + c) / 18446744073709551616 : Nat) : Int)])) w := by
  rw [run_callFunc_extern Try.func140 (by kernel_rfl) (by kernel_rfl) (by kernel_rfl) (e := add64Entry) (by kernel_rfl), run_add64 x y c (by omega) (by omega) (by omega) (by omega)]
  simp only [Result.andThen]
  congr 5 <;> omega
theorem sub64 (x y b : Nat) (hb : b ≤ 1) (w : World) :
    (callFunc 141 #[.int .u64 x, .int .u64 y, .int .u64 b]).run Try.prog w =
      .ok (.value (.tuple #[.int .u64 (((x + 18446744073709551616 - y - b) % 18446744073709551616 : Nat) : Int), .int .u64 ((if x < y + b then 1 else 0 : Nat) : Int)])) w := by
  rw [run_callFunc_extern Try.func141 (by kernel_rfl) (by kernel_rfl) (by kernel_rfl) (e := sub64Entry) (by kernel_rfl), run_sub64 x y b hb]
  rfl

theorem ret_wb {a b c d : Nat} {x y : Bool} (h : a = c) (h' : b = d) (hx : x = y) : Ending.returned (.tuple #[.agg #[.int .u64 (a : Int), .int .u64 (b : Int)], .bool x]) = .returned (.tuple #[.agg #[.int .u64 (c : Int), .int .u64 (d : Int)], .bool y]) := by rw [h, h', hx]

set_option maxHeartbeats 1000000 in
set_option maxRecDepth 100000 in
theorem wadd_core (ah al bh bl L C H D : Nat) (A1 : ∀ w, (callFunc 140 #[.int .u64 al, .int .u64 bl, .int .u64 0]).run Try.prog w = .ok (.value (.tuple #[.int .u64 (L : Int), .int .u64 (C : Int)])) w)
    (A2 : ∀ w, (callFunc 140 #[.int .u64 ah, .int .u64 bh, .int .u64 C]).run Try.prog w = .ok (.value (.tuple #[.int .u64 (H : Int), .int .u64 (D : Int)])) w) (w : World) :
    Calls Try.prog 107 #[.agg #[.int .u64 (ah : Int), .int .u64 (al : Int)], .agg #[.int .u64 (bh : Int), .int .u64 (bl : Int)]] w fun e w' =>
      e = .returned (.tuple #[.agg #[.int .u64 (H : Int), .int .u64 (L : Int)], .bool (decide (0 < D))]) ∧ Below w.heap.size w w' := by
  go_enter Try.func107, Try.ntmps107
  go_wp2_with (first | simp only [A1] | simp only [A2])
  refine bodyPost_ret (v := .tuple #[.agg #[.int .u64 (H : Int), .int .u64 (L : Int)], .bool (decide (0 < D))]) (by simp [results, Try.results107, go_sem]) rfl ⟨rfl, ?_⟩
  repeat (first | exact Below.refl _ _ | refine Below.setCell ?_ (by simp) _ | refine below_drewN ?_ _ | refine Below.drew ?_ | refine Below.alloc ?_ (by simp; try omega) _)

/-- wide.Add -/
theorem wadd_any (ah al bh bl : Nat) (h1 : ah < 18446744073709551616) (h2 : al < 18446744073709551616) (h3 : bh < 18446744073709551616) (h4 : bl < 18446744073709551616) (w : World) :
    Calls Try.prog 107 #[.agg #[.int .u64 (ah : Int), .int .u64 (al : Int)], .agg #[.int .u64 (bh : Int), .int .u64 (bl : Int)]] w fun e w' =>
      e = .returned (.tuple #[.agg #[.int .u64 ((Fl.hi (ah * 18446744073709551616 + al + (bh * 18446744073709551616 + bl)) : Nat) : Int), .int .u64 ((Fl.lo (ah * 18446744073709551616 + al + (bh * 18446744073709551616 + bl)) : Nat) : Int)], .bool (decide (340282366920938463463374607431768211456 ≤ ah * 18446744073709551616 + al + (bh * 18446744073709551616 + bl)))]) ∧ Below w.heap.size w w' := by
  refine (wadd_core ah al bh bl _ _ _ _ (add64 al bl 0 (by omega)) (add64 ah bh ((al + bl + 0) / 18446744073709551616) (by omega)) w).mono fun e w' ⟨he, hb⟩ => ⟨he.trans (ret_wb ?_ ?_ ?_), hb⟩
  · unfold Fl.hi; omega
  · unfold Fl.lo; omega
  · rw [decide_eq_decide]; omega

set_option maxHeartbeats 1000000 in
set_option maxRecDepth 100000 in
theorem wsub_core (ah al bh bl L C H D : Nat) (A1 : ∀ w, (callFunc 141 #[.int .u64 al, .int .u64 bl, .int .u64 0]).run Try.prog w = .ok (.value (.tuple #[.int .u64 (L : Int), .int .u64 (C : Int)])) w)
    (A2 : ∀ w, (callFunc 141 #[.int .u64 ah, .int .u64 bh, .int .u64 C]).run Try.prog w = .ok (.value (.tuple #[.int .u64 (H : Int), .int .u64 (D : Int)])) w) (w : World) :
    Calls Try.prog 108 #[.agg #[.int .u64 (ah : Int), .int .u64 (al : Int)], .agg #[.int .u64 (bh : Int), .int .u64 (bl : Int)]] w fun e w' =>
      e = .returned (.tuple #[.agg #[.int .u64 (H : Int), .int .u64 (L : Int)], .bool (decide (0 < D))]) ∧ Below w.heap.size w w' := by
  go_enter Try.func108, Try.ntmps108
  go_wp2_with (first | simp only [A1] | simp only [A2])
  refine bodyPost_ret (v := .tuple #[.agg #[.int .u64 (H : Int), .int .u64 (L : Int)], .bool (decide (0 < D))]) (by simp [results, Try.results108, go_sem]) rfl ⟨rfl, ?_⟩
  repeat (first | exact Below.refl _ _ | refine Below.setCell ?_ (by simp) _ | refine below_drewN ?_ _ | refine Below.drew ?_ | refine Below.alloc ?_ (by simp; try omega) _)

/-- wide.Sub -/
theorem wsub_any (ah al bh bl : Nat) (h1 : ah < 18446744073709551616) (h2 : al < 18446744073709551616) (h3 : bh < 18446744073709551616) (h4 : bl < 18446744073709551616) (w : World) :
    Calls Try.prog 108 #[.agg #[.int .u64 (ah : Int), .int .u64 (al : Int)], .agg #[.int .u64 (bh : Int), .int .u64 (bl : Int)]] w fun e w' =>
      e = .returned (.tuple #[.agg #[.int .u64 ((Fl.hi (ah * 18446744073709551616 + al + 340282366920938463463374607431768211456 - (bh * 18446744073709551616 + bl)) : Nat) : Int), .int .u64 ((Fl.lo (ah * 18446744073709551616 + al + 340282366920938463463374607431768211456 - (bh * 18446744073709551616 + bl)) : Nat) : Int)], .bool (decide (ah * 18446744073709551616 + al < bh * 18446744073709551616 + bl))]) ∧ Below w.heap.size w w' := by
  refine (wsub_core ah al bh bl _ _ _ _ (sub64 al bl 0 (by omega)) (sub64 ah bh (if al < bl + 0 then 1 else 0) (by split <;> omega)) w).mono fun e w' ⟨he, hb⟩ => ⟨he.trans (ret_wb ?_ ?_ ?_), hb⟩
  · unfold Fl.hi; split <;> omega
  · unfold Fl.lo; omega
  · rw [decide_eq_decide]; split <;> split <;> omega

set_option maxHeartbeats 1000000 in
/-- wide.Mul -/
theorem wmul_any (x y : Nat) (hx : x < 18446744073709551616) (hy : y < 18446744073709551616) (w : World) :
    Calls Try.prog 63 #[.int .u64 (x : Int), .int .u64 (y : Int)] w fun e w' =>
      e = .returned (.agg #[.int .u64 ((Fl.hi (x * y) : Nat) : Int), .int .u64 ((Fl.lo (x * y) : Nat) : Int)]) ∧ Below w.heap.size w w' := by
  have hm := Try.bits_Mul64 x y hx hy
  have hp : x * y < 340282366920938463463374607431768211456 := by
    have := Nat.mul_lt_mul'' hx hy
    simpa using this
  have e1 : x * y / 18446744073709551616 = Fl.hi (x * y) := by unfold Fl.hi; omega
  have e2 : x * y % 18446744073709551616 = Fl.lo (x * y) := rfl
  rw [e1, e2] at hm
  generalize Fl.hi (x * y) = H at *
  generalize Fl.lo (x * y) = L at *
  clear e1 e2 hp
  go_enter Try.func63, Try.ntmps63
  go_wp2_with (go_at_call 112; refine (hm _).mono ?_; rintro e w1 ⟨rfl, rfl⟩)
  refine bodyPost_ret (v := .agg #[.int .u64 (H : Int), .int .u64 (L : Int)]) (by simp [results, Try.results63, go_sem]) rfl ⟨rfl, ?_⟩
  exact (Below.refl _ _).alloc (Nat.le_refl _) _
end Go.Proofs.Ytaplggheadahhaa
