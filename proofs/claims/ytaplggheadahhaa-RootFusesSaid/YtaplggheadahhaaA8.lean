/- The walk of float.Join's closure. -/
import Derived.Test.YtaplggheadahhaaA7
namespace Go.Proofs.Ytaplggheadahhaa
open Go.RowKit
set_option linter.unusedVariables false
set_option linter.unusedSimpArgs false

theorem field51_0 (x y : Int) (w : World) : (Instr.field 51 (.agg #[.int .u64 x, .int .u64 y]) 0).run Try.prog w = .ok (.int .u64 x) w := by kernel_rfl
theorem field51_1 (x y : Int) (w : World) : (Instr.field 51 (.agg #[.int .u64 x, .int .u64 y]) 1).run Try.prog w = .ok (.int .u64 y) w := by kernel_rfl

set_option maxHeartbeats 1000000 in
set_option maxRecDepth 100000 in
/-- nothing is cut off -/
theorem join1_le (hi lo b : Nat) (n : Int) (hl : lo < 18446744073709551616) (h0 : n ≤ 0) (h1 : -1000000000000 ≤ n) (w : World) (B : Blk w b 51 #[.int .u64 (hi : Int), .int .u64 (lo : Int)]) :
    Calls Try.prog 111 #[.int .i64 n, .pointer (some ⟨b, 0, none⟩)] w fun e w' =>
      e = .returned (.tuple #[.int .u64 ((Fl.lo ((hi * 18446744073709551616 + lo) * 2 ^ (-n).toNat) : Nat) : Int), .bool false, .bool false]) ∧ Below w.heap.size w w' := by
  have hs := wshl_any hi lo (-n) hl (by omega) (by omega)
  have c0 := B.cell 0 rfl
  have c1 := B.cell 1 rfl
  clear B
  generalize Fl.hi ((hi * 18446744073709551616 + lo) * 2 ^ (-n).toNat) = RH at *
  generalize Fl.lo ((hi * 18446744073709551616 + lo) * 2 ^ (-n).toNat) = RL at *
  have f0 := field51_0
  have f1 := field51_1
  go_enter Try.func111, Try.ntmps111
  go_wp2_with (go_at_call 91; refine (hs _).mono ?_; rintro e w1 ⟨rfl, hb⟩)
  go_ret3
  exact ⟨rfl, hb⟩

theorem and_1 (x : Nat) (h : x < 18446744073709551616) : Go.bits .and .u64 (x : Int) 1 = ((x % 2 : Nat) : Int) := by
  have := u64_and_nat x 1 h (by omega)
  rw [nat_mask1] at this
  exact this

set_option maxHeartbeats 2000000 in
set_option maxRecDepth 100000 in
/-- some bits are cut off -/
theorem join1_gt (hi lo b : Nat) (n : Int) (hh : hi < 18446744073709551616) (hl : lo < 18446744073709551616) (h0 : 1 ≤ n) (h1 : n ≤ 1000000000000) (w : World) (B : Blk w b 51 #[.int .u64 (hi : Int), .int .u64 (lo : Int)]) :
    Calls Try.prog 111 #[.int .i64 n, .pointer (some ⟨b, 0, none⟩)] w fun e w' =>
      e = .returned (.tuple #[.int .u64 ((Fl.hi ((hi * 18446744073709551616 + lo) / 2 ^ (n - 1).toNat * 2 ^ 63) : Nat) : Int), .bool (decide ((hi * 18446744073709551616 + lo) / 2 ^ (n - 1).toNat % 2 = 1)), .bool (decide ((hi * 18446744073709551616 + lo) % 2 ^ (n - 1).toNat ≠ 0))]) ∧ Below w.heap.size w w' := by
  have hr := wshr_any hi lo (n - 1) hh hl (by omega) (by omega)
  have hN : hi * 18446744073709551616 + lo < 340282366920938463463374607431768211456 := by omega
  have hQ : (hi * 18446744073709551616 + lo) / 2 ^ (n - 1).toNat < 340282366920938463463374607431768211456 := Nat.lt_of_le_of_lt (Nat.div_le_self _ _) hN
  generalize (decide ((hi * 18446744073709551616 + lo) % 2 ^ (n - 1).toNat ≠ 0)) = D at *
  generalize (hi * 18446744073709551616 + lo) / 2 ^ (n - 1).toNat = Q at *
  have hs := wshl_any (Fl.hi Q) (Fl.lo Q) 63 (Fl.lo_lt _) (by omega) (by omega)
  rw [Fl.jn_hi hQ, show (63 : Int).toNat = 63 from rfl] at hs
  have ea := and_1 (Fl.lo Q) (Fl.lo_lt _)
  have ed : ((((Fl.lo Q % 2 : Nat) : Int)) == 1) = decide (Q % 2 = 1) := by
    have : Fl.lo Q % 2 = Q % 2 := by unfold Fl.lo; omega
    rw [this, Bool.eq_iff_iff]; simp; omega
  generalize Fl.lo Q % 2 = J at *
  generalize decide (Q % 2 = 1) = H at *
  generalize Fl.hi (Q * 2 ^ 63) = R at *
  generalize Fl.lo (Q * 2 ^ 63) = R2 at *
  generalize Fl.hi Q = QH at *
  generalize Fl.lo Q = QL at *
  have c0 := B.cell 0 rfl
  have c1 := B.cell 1 rfl
  clear B hN hQ hh hl
  have f0 := field51_0
  have f1 := field51_1
  go_enter Try.func111, Try.ntmps111
  go_wp2_with fail
  refine (hr _).mono ?_
  rintro e w1 ⟨rfl, hb⟩
  have hz : w.heap.size ≤ w1.heap.size := hb.size
  have L1 : Below w.heap.size w (w1.alloc (.cells #[.int .u64 (QH : Int), .int .u64 (QL : Int)] 51)) := hb.alloc hz _
  have B1 : Blk (w1.alloc (.cells #[.int .u64 (QH : Int), .int .u64 (QL : Int)] 51)) w1.heap.size 51 #[.int .u64 (QH : Int), .int .u64 (QL : Int)] := Blk.new _ _ _
  clear hb hr c0 c1
  go_wp2_with fail
  go_region_held3 (fun w' => w'.cell? ⟨w1.heap.size, 0, none⟩ = some (.int .u64 QH) ∧ w'.cell? ⟨w1.heap.size, 1, none⟩ = some (.int .u64 QL)) (first | exact ⟨(B1.drew.belowS hb2).cell 0 rfl, (B1.drew.belowS hb2).cell 1 rfl⟩ | exact ⟨B1.drew.cell 0 rfl, B1.drew.cell 1 rfl⟩ | exact ⟨B1.cell 0 rfl, B1.cell 1 rfl⟩) (first | (go_at_call 91; refine (hs _).mono ?_; rintro e w2 ⟨rfl, hb2⟩))
  go_outline
  go_wp2
  go_ret3
  exact ⟨rfl, L1.drew.trans (hb2.mono (by simp; omega))⟩
end Go.Proofs.Ytaplggheadahhaa
