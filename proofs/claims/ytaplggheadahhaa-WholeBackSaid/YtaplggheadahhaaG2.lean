/- The walk of the law WholeBack. -/
import Derived.Test.YtaplggheadahhaaF5
import Derived.Test.YtaplggheadahhaaN3
namespace Go.Proofs.Ytaplggheadahhaa
open Go.RowKit
set_option linter.unusedVariables false
set_option linter.unusedSimpArgs false

set_option maxHeartbeats 400000 in
set_option maxRecDepth 100000 in
theorem wb_err (v u : Int) (x F : Nat) (m f : Int) (hv : v / 1024 = u)
    (h1 : ∀ w, Calls Try.prog 39 #[.int .i64 u] w fun e w' => e = .returned (.int .u64 (F : Int)) ∧ Below w.heap.size w w')
    (h2 : ∀ w, Calls Try.prog 41 #[.int .u64 (F : Int), .int .i64 2] w fun e w' => e = .returned (.tuple #[.int .i64 u, .int .i64 0]) ∧ Below w.heap.size w w')
    (h3 : ∀ w, Calls Try.prog 41 #[.int .u64 (x : Int), .int .i64 0] w fun e w' => e = .returned (.tuple #[.int .i64 0, .int .i64 f]) ∧ Below w.heap.size w w')
    (hf : (f == 0) = false) (hf2 : (f != 0) = true) (w : World) :
    Calls Try.prog 9 #[.int .i64 v, .int .u64 (x : Int)] w fun e w' => e = .returned (.bool true) ∧ Below w.heap.size w w' := by
  go_enter Try.func9, Try.ntmps9
  go_wp2_with fail
  refine (shown6 _).mono ?_
  rintro e w1 ⟨rfl, hb⟩
  have L := hb
  clear hb
  go_wp2_with fail
  refine (h1 _).mono ?_
  rintro e w2 ⟨rfl, hb⟩
  replace L := L.trans (hb.mono L.size)
  clear hb
  go_wp2_with fail
  refine (h2 _).mono ?_
  rintro e w3 ⟨rfl, hb⟩
  replace L := L.trans (hb.mono L.size)
  clear hb
  go_wp2_with fail
  refine (h3 _).mono ?_
  rintro e w4 ⟨rfl, hb⟩
  replace L := L.trans (hb.mono L.size)
  clear hb
  go_wp2
  go_ret
  exact ⟨rfl, L⟩

set_option maxHeartbeats 400000 in
set_option maxRecDepth 100000 in
theorem wb_same (v u : Int) (x F Y : Nat) (m : Int) (hv : v / 1024 = u)
    (h1 : ∀ w, Calls Try.prog 39 #[.int .i64 u] w fun e w' => e = .returned (.int .u64 (F : Int)) ∧ Below w.heap.size w w')
    (h2 : ∀ w, Calls Try.prog 41 #[.int .u64 (F : Int), .int .i64 2] w fun e w' => e = .returned (.tuple #[.int .i64 u, .int .i64 0]) ∧ Below w.heap.size w w')
    (h3 : ∀ w, Calls Try.prog 41 #[.int .u64 (x : Int), .int .i64 0] w fun e w' => e = .returned (.tuple #[.int .i64 m, .int .i64 0]) ∧ Below w.heap.size w w')
    (h4 : ∀ w, Calls Try.prog 37 #[.int .u64 (x : Int), .int .i64 0] w fun e w' => e = .returned (.tuple #[.int .u64 (Y : Int), .int .i64 0]) ∧ Below w.heap.size w w')
    (h5 : ∀ w, Calls Try.prog 39 #[.int .i64 m] w fun e w' => e = .returned (.int .u64 (Y : Int)) ∧ Below w.heap.size w w') (w : World) :
    Calls Try.prog 9 #[.int .i64 v, .int .u64 (x : Int)] w fun e w' => e = .returned (.bool true) ∧ Below w.heap.size w w' := by
  go_enter Try.func9, Try.ntmps9
  go_wp2_with fail
  refine (shown6 _).mono ?_
  rintro e w1 ⟨rfl, hb⟩
  have L := hb
  clear hb
  go_wp2_with fail
  refine (h1 _).mono ?_
  rintro e w2 ⟨rfl, hb⟩
  replace L := L.trans (hb.mono L.size)
  clear hb
  go_wp2_with fail
  refine (h2 _).mono ?_
  rintro e w3 ⟨rfl, hb⟩
  replace L := L.trans (hb.mono L.size)
  clear hb
  go_wp2_with fail
  refine (h3 _).mono ?_
  rintro e w4 ⟨rfl, hb⟩
  replace L := L.trans (hb.mono L.size)
  clear hb
  go_wp2_with fail
  refine (h4 _).mono ?_
  rintro e w5 ⟨rfl, hb⟩
  replace L := L.trans (hb.mono L.size)
  clear hb
  go_wp2_with fail
  refine (h5 _).mono ?_
  rintro e w6 ⟨rfl, hb⟩
  replace L := L.trans (hb.mono L.size)
  clear hb
  go_wp2
  go_ret
  exact ⟨rfl, L⟩

set_option maxHeartbeats 400000 in
set_option maxRecDepth 100000 in
theorem wb_zero (v u : Int) (x F : Nat) (m : Int) (hv : v / 1024 = u)
    (h1 : ∀ w, Calls Try.prog 39 #[.int .i64 u] w fun e w' => e = .returned (.int .u64 (F : Int)) ∧ Below w.heap.size w w')
    (h2 : ∀ w, Calls Try.prog 41 #[.int .u64 (F : Int), .int .i64 2] w fun e w' => e = .returned (.tuple #[.int .i64 u, .int .i64 0]) ∧ Below w.heap.size w w')
    (h3 : ∀ w, Calls Try.prog 41 #[.int .u64 (x : Int), .int .i64 0] w fun e w' => e = .returned (.tuple #[.int .i64 m, .int .i64 0]) ∧ Below w.heap.size w w')
    (h4 : ∀ w, Calls Try.prog 37 #[.int .u64 (x : Int), .int .i64 0] w fun e w' => e = .returned (.tuple #[.int .u64 9223372036854775808, .int .i64 0]) ∧ Below w.heap.size w w')
    (h5 : ∀ w, Calls Try.prog 39 #[.int .i64 m] w fun e w' => e = .returned (.int .u64 0) ∧ Below w.heap.size w w') (w : World) :
    Calls Try.prog 9 #[.int .i64 v, .int .u64 (x : Int)] w fun e w' => e = .returned (.bool true) ∧ Below w.heap.size w w' := by
  go_enter Try.func9, Try.ntmps9
  go_wp2_with fail
  refine (shown6 _).mono ?_
  rintro e w1 ⟨rfl, hb⟩
  have L := hb
  clear hb
  go_wp2_with fail
  refine (h1 _).mono ?_
  rintro e w2 ⟨rfl, hb⟩
  replace L := L.trans (hb.mono L.size)
  clear hb
  go_wp2_with fail
  refine (h2 _).mono ?_
  rintro e w3 ⟨rfl, hb⟩
  replace L := L.trans (hb.mono L.size)
  clear hb
  go_wp2_with fail
  refine (h3 _).mono ?_
  rintro e w4 ⟨rfl, hb⟩
  replace L := L.trans (hb.mono L.size)
  clear hb
  go_wp2_with fail
  refine (h4 _).mono ?_
  rintro e w5 ⟨rfl, hb⟩
  replace L := L.trans (hb.mono L.size)
  clear hb
  go_wp2_with fail
  refine (h5 _).mono ?_
  rintro e w6 ⟨rfl, hb⟩
  replace L := L.trans (hb.mono L.size)
  clear hb
  go_wp2
  go_ret
  exact ⟨rfl, L⟩

theorem toV_bd (x : Nat) (way : Int) : -9223372036854775808 ≤ toV x way ∧ toV x way ≤ 9223372036854775807 := by
  unfold toV
  split
  · omega
  split
  · omega
  split
  · rename_i hF
    unfold toF at hF
    have hF := of_decide_eq_true hF
    cases hn : Fl.ng x <;> simp [hn] at hF ⊢ <;> omega
  · omega

/-- WholeBack, walked -/
theorem wback_walk (v : Int) (x : Nat) (hv : -9223372036854775808 ≤ v ∧ v ≤ 9223372036854775807) (hx : x < 18446744073709551616) (w : World) :
    Calls Try.prog 9 #[.int .i64 v, .int .u64 (x : Int)] w fun e w' => e = .returned (.bool true) ∧ Below w.heap.size w w' := by
  obtain ⟨u, hu⟩ : ∃ u, v / 1024 = u := ⟨_, rfl⟩
  have hub : u.natAbs ≤ 9007199254740992 := by omega
  have h1 := from_any u (by omega) (by omega)
  obtain ⟨e1, e2⟩ := back_law u hub
  have hlt : fromN u < 18446744073709551616 := Fl.pk_lt (Fl.rnd_le_INF _ _ _)
  have h2 := to_any (fromN u) 2 hlt
  rw [e1, e2] at h2
  have h3 := to_any x 0 hx
  by_cases hf : toE x 0 = 0
  · rw [hf] at h3
    have h4 := whole_any x 0 hx
    rw [show wholeE 0 = 0 from rfl] at h4
    obtain ⟨b1, b2⟩ := toV_bd x 0
    have h5 := from_any (toV x 0) b1 b2
    rcases back_law2 x hx hf with h | ⟨g1, g2⟩
    · rw [h] at h5
      exact wb_same v u x _ _ _ hu h1 h2 h3 h4 h5 w
    · rw [g1] at h5
      rw [g2] at h4
      exact wb_zero v u x _ _ hu h1 h2 h3 h4 h5 w
  · rw [toV_err x hf] at h3
    exact wb_err v u x _ 0 _ hu h1 h2 h3 (by simpa using hf) (by simpa using hf) w
end Go.Proofs.Ytaplggheadahhaa
