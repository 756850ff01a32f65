/- contracts of tabardref4_zero, tabardref4_Mul, tabardref5_Power (assembled out of what the printer printed) -/
import Derived.Test.YtaplggheadahhaaRJ
import Derived.Test.YtaplggheadahhaaRE
namespace Go.Proofs.Ytaplggheadahhaa.R
open Go.RowKit Go.Proofs.YtaplggheadahhaaW.PrintWords Go.Proofs.YtaplggheadahhaaW.PrintLast Go.Proofs.YtaplggheadahhaaW.PrintMore
attribute [local go_sem] max2_int min2_int max_two min_two max_three min_three max_four min_four   -- for this text's walks alone
set_option linter.unusedVariables false
set_option linter.unusedSimpArgs false

/-! ### tabardref4_zero: function 137 -/
def tabardref4_zero.f (a0 : Bool) : Option (Int) := if a0 = true then (some 9223372036854775808) else (some 0)
set_option maxHeartbeats 8000000 in
set_option maxRecDepth 100000 in
theorem tabardref4_zero.calls (a0 : Bool) (r : Int) (w : World) (h : tabardref4_zero.f a0 = some r) :
    Calls Try.prog 137 #[.bool a0] w fun e w' => e = .returned (.int .u64 r) ∧ Drawn0 w w' := by
  have H : (if a0 = true then (some 9223372036854775808) else (some 0)) = some r := h
  clear h
  by_cases c2 : a0 = true
  · subst c2
    have H1 : (some 9223372036854775808) = some r := by rw [if_pos rfl] at H; exact H
    clear H
    have H := H1
    clear H1
    obtain rfl := Option.some.inj H
    go_enter Try.func137, Try.ntmps137
    go_wp2
    go_ret
    exact ⟨by first | rfl | (simp; done) | (simp [*]; done), by repeat (first | exact Drawn0.refl _ | apply Drawn0.step)⟩
  · replace c2 := Bool.eq_false_iff.mpr c2
    subst c2
    have H1 : (some 0) = some r := by rw [if_neg (show ¬ (false = true) by decide)] at H; exact H
    clear H
    have H := H1
    clear H1
    obtain rfl := Option.some.inj H
    go_enter Try.func137, Try.ntmps137
    go_wp2
    go_ret
    exact ⟨by first | rfl | (simp; done) | (simp [*]; done), by repeat (first | exact Drawn0.refl _ | apply Drawn0.step)⟩

/-! ### tabardref4_Mul: function 104 -/
def tabardref4_Mul.j0 : Nat → Int → Int → Int → Int → Bool → Bool → Option (Int)
  | 0, _, _, _, _, _, _ => none
  | k + 1, x0, x1, x5, x6, x7, x23 => if x23 = true then (some 9221120237041090560) else (if x5 = 3 then ((tabardref4_zero.f x7).bind fun t459 => (some (IntKind.u64.wrap (t459 + 9218868437227405312)))) else (if x6 = 3 then ((tabardref4_zero.f x7).bind fun t460 => (some (IntKind.u64.wrap (t460 + 9218868437227405312)))) else ((tabardref3_Split.f k x0).bind fun bt461 => ((tabardref3_Split.f k x1).bind fun bt464 => ((tabardref3_Nat.f k bt461.2.1).bind fun t467 => ((tabardref3_Nat.f k bt464.2.1).bind fun t470 => ((tabardref1_Times.f k t467 t470).bind fun t473 => ((tabardref3_Round.f k x7 t473 (wrap64 (bt461.2.2 + bt464.2.2)) false).bind fun t476 => (some t476)))))))))
def tabardref4_Mul.f (k : Nat) (a0 : Int) (a1 : Int) : Option (Int) := (tabardref3_Kind.f k a0).bind fun t455 => ((tabardref3_Kind.f k a1).bind fun t456 => ((tabardref3_Is.f a0).bind fun t457 => ((tabardref3_Is.f a1).bind fun t458 => (if t455 = 4 then (tabardref4_Mul.j0 k a0 a1 t455 t456 (t457 != t458) true) else (if t456 = 4 then (tabardref4_Mul.j0 k a0 a1 t455 t456 (t457 != t458) true) else (if t455 = 3 then (if t456 = 0 then (tabardref4_Mul.j0 k a0 a1 t455 t456 (t457 != t458) true) else (if t455 = 0 then (tabardref4_Mul.j0 k a0 a1 t455 t456 (t457 != t458) (t456 == 3)) else (tabardref4_Mul.j0 k a0 a1 t455 t456 (t457 != t458) false))) else (if t455 = 0 then (tabardref4_Mul.j0 k a0 a1 t455 t456 (t457 != t458) (t456 == 3)) else (tabardref4_Mul.j0 k a0 a1 t455 t456 (t457 != t458) false))))))))
theorem tabardref4_Mul.mono_l : ∀ k, (∀ y0 y1 y2 y3 y4 y5, LeO (tabardref4_Mul.j0 k y0 y1 y2 y3 y4 y5) (tabardref4_Mul.j0 (k + 1) y0 y1 y2 y3 y4 y5))
  | 0 => fun _ _ _ _ _ _ r h => by simp [tabardref4_Mul.j0] at h
  | k + 1 => by
    have ih0 := tabardref4_Mul.mono_l k
    · intro y0 y1 y2 y3 y4 y5
      unfold tabardref4_Mul.j0
      repeat' first
      | (with_reducible exact ih0 _ _ _ _ _ _)
      | (with_reducible exact tabardref1_Times.mono _ _ _)
      | (with_reducible exact tabardref3_Kind.mono _ _)
      | (with_reducible exact tabardref3_Nat.mono _ _)
      | (with_reducible exact tabardref3_Round.mono _ _ _ _ _)
      | (with_reducible exact tabardref3_Split.mono _ _)
      | (with_reducible exact LeO.refl _)
      | (with_reducible exact LeO.none _)
      | (with_reducible refine LeO.ite ?_ ?_)
      | (with_reducible refine LeO.bind ?_ (fun _ => ?_))
theorem tabardref4_Mul.mono : ∀ a0 a1 k, LeO (tabardref4_Mul.f k a0 a1) (tabardref4_Mul.f (k + 1) a0 a1) := by
  intro a0 a1 k
  have ih0 := tabardref4_Mul.mono_l k
  unfold tabardref4_Mul.f
  repeat' first
      | (with_reducible exact ih0 _ _ _ _ _ _)
      | (with_reducible exact tabardref1_Times.mono _ _ _)
      | (with_reducible exact tabardref3_Kind.mono _ _)
      | (with_reducible exact tabardref3_Nat.mono _ _)
      | (with_reducible exact tabardref3_Round.mono _ _ _ _ _)
      | (with_reducible exact tabardref3_Split.mono _ _)
      | (with_reducible exact LeO.refl _)
      | (with_reducible exact LeO.none _)
      | (with_reducible refine LeO.ite ?_ ?_)
      | (with_reducible refine LeO.bind ?_ (fun _ => ?_))
set_option maxHeartbeats 8000000 in
set_option maxRecDepth 100000 in
theorem tabardref4_Mul.calls (k : Nat) (a0 : Int) (a1 : Int) (r : Int) (w : World) (h : tabardref4_Mul.f k a0 a1 = some r) :
    Calls Try.prog 104 #[.int .u64 a0, .int .u64 a1] w fun e w' => e = .returned (.int .u64 r) ∧ Below w.heap.size w w' := by
  have HB := Aside0.mk (Below.refl w.heap.size w)
  have H : ((tabardref3_Kind.f k a0).bind fun t455 => ((tabardref3_Kind.f k a1).bind fun t456 => ((tabardref3_Is.f a0).bind fun t457 => ((tabardref3_Is.f a1).bind fun t458 => (if t455 = 4 then (tabardref4_Mul.j0 k a0 a1 t455 t456 (t457 != t458) true) else (if t456 = 4 then (tabardref4_Mul.j0 k a0 a1 t455 t456 (t457 != t458) true) else (if t455 = 3 then (if t456 = 0 then (tabardref4_Mul.j0 k a0 a1 t455 t456 (t457 != t458) true) else (if t455 = 0 then (tabardref4_Mul.j0 k a0 a1 t455 t456 (t457 != t458) (t456 == 3)) else (tabardref4_Mul.j0 k a0 a1 t455 t456 (t457 != t458) false))) else (if t455 = 0 then (tabardref4_Mul.j0 k a0 a1 t455 t456 (t457 != t458) (t456 == 3)) else (tabardref4_Mul.j0 k a0 a1 t455 t456 (t457 != t458) false))))))))) = some r := h
  clear h
  replace H := Option.bind_eq_some_iff.mp H
  obtain ⟨t455, A30, H⟩ := H
  try dsimp only at H
  have A3 := Aside0.mk A30
  clear A30
  replace H := Option.bind_eq_some_iff.mp H
  obtain ⟨t456, A40, H⟩ := H
  try dsimp only at H
  have A4 := Aside0.mk A40
  clear A40
  replace H := Option.bind_eq_some_iff.mp H
  obtain ⟨t457, A50, H⟩ := H
  try dsimp only at H
  have A5 := Aside0.mk A50
  clear A50
  replace H := Option.bind_eq_some_iff.mp H
  obtain ⟨t458, A60, H⟩ := H
  try dsimp only at H
  have A6 := Aside0.mk A60
  clear A60
  have HC7 := Aside0.mk H
  clear H
  go_enter Try.func104, Try.ntmps104
  go_upto_region 4 with (first | ((with_reducible refine gate_callee (f := 21) rfl ?_); refine goesL_ (some 15) rfl rfl Try.func21 (by kernel_rfl) rfl #[.int .u64 a0] rfl (by simp only [List.map_toArray, List.map_cons, List.map_nil] <;> rfl) ?_; (with_reducible refine (tabardref3_Kind.calls k a0 t455 _ A3.out).mono ?_); rintro e w' ⟨rfl, ⟨nd, rfl⟩⟩; refine ⟨_, rfl, ?_⟩) | ((with_reducible refine gate_callee (f := 21) rfl ?_); refine goesL_ (some 17) rfl rfl Try.func21 (by kernel_rfl) rfl #[.int .u64 a1] rfl (by simp only [List.map_toArray, List.map_cons, List.map_nil] <;> rfl) ?_; (with_reducible refine (tabardref3_Kind.calls k a1 t456 _ A4.out).mono ?_); rintro e w' ⟨rfl, ⟨nd, rfl⟩⟩; refine ⟨_, rfl, ?_⟩) | ((with_reducible refine gate_callee (f := 71) rfl ?_); refine goesL_ (some 19) rfl rfl Try.func71 (by kernel_rfl) rfl #[.int .u64 a0] rfl (by simp only [List.map_toArray, List.map_cons, List.map_nil] <;> rfl) ?_; (with_reducible refine (tabardref3_Is.calls a0 t457 _ A5.out).mono ?_); rintro e w' ⟨rfl, ⟨nd, rfl⟩⟩; refine ⟨_, rfl, ?_⟩) | ((with_reducible refine gate_callee (f := 71) rfl ?_); refine goesL_ (some 21) rfl rfl Try.func71 (by kernel_rfl) rfl #[.int .u64 a1] rfl (by simp only [List.map_toArray, List.map_cons, List.map_nil] <;> rfl) ?_; (with_reducible refine (tabardref3_Is.calls a1 t458 _ A6.out).mono ?_); rintro e w' ⟨rfl, ⟨nd, rfl⟩⟩; refine ⟨_, rfl, ?_⟩))
  (try simp only [Act.put, List.setIfInBounds_toArray, List.set_cons_zero, List.set_cons_succ])
  go_cut [23] (fun v23 wc => ∃ (kq : Nat) (x23_6 : Bool), v23 = .bool x23_6 ∧ Aside0 (tabardref4_Mul.j0 kq a0 a1 t455 t456 (t457 != t458) x23_6 = some r) ∧ Aside0 (kq ≤ k) ∧ Aside0 (Below w.heap.size w wc))
  case first =>
    have H := HC7.out
    clear HC7
    by_cases c8 : t455 = 4
    · rw [if_pos c8] at H
      have c8b0 : (t455 == 4) = true := beq_iff_eq.mpr c8
      have c8b1 : (t455 != 4) = false := bne_eq_false_iff_eq.mpr c8
      clear c8
      (first | rw [c8b0] | (simp only [i64_w, i32_w]; rw [c8b0]) | skip)
      have H' := Aside0.mk H
      clear H
      go_wp2
      go_meet
      case rel => exact ⟨_, (true), (by first | rfl | (simp; done) | (simp [*]; done)), H', ⟨by first | omega | exact Nat.le_refl _⟩, ⟨by repeat (first | (with_reducible first | exact HB.out | apply below_alloc | apply pw_below_drewN | apply below_drew1) | exact HB.out)⟩⟩
    · rw [if_neg c8] at H
      have c8b0 : (t455 == 4) = false := beq_eq_false_iff_ne.mpr c8
      have c8b1 : (t455 != 4) = true := bne_iff_ne.mpr c8
      (first | rw [c8b0] | (simp only [i64_w, i32_w]; rw [c8b0]) | skip)
      by_cases c9 : t456 = 4
      · rw [if_pos c9] at H
        have c9b0 : (t456 == 4) = true := beq_iff_eq.mpr c9
        have c9b1 : (t456 != 4) = false := bne_eq_false_iff_eq.mpr c9
        clear c9
        have H' := Aside0.mk H
        clear H
        go_wp2
        go_meet
        case rel => exact ⟨_, (true), (by first | rfl | (simp; done) | (simp [*]; done)), H', ⟨by first | omega | exact Nat.le_refl _⟩, ⟨by repeat (first | (with_reducible first | exact HB.out | apply below_alloc | apply pw_below_drewN | apply below_drew1) | exact HB.out)⟩⟩
      · rw [if_neg c9] at H
        have c9b0 : (t456 == 4) = false := beq_eq_false_iff_ne.mpr c9
        have c9b1 : (t456 != 4) = true := bne_iff_ne.mpr c9
        by_cases c10 : t455 = 3
        · rw [if_pos c10] at H
          have c10b0 : (t455 == 3) = true := beq_iff_eq.mpr c10
          have c10b1 : (t455 != 3) = false := bne_eq_false_iff_eq.mpr c10
          clear c10
          by_cases c11 : t456 = 0
          · rw [if_pos c11] at H
            have c11b0 : (t456 == 0) = true := beq_iff_eq.mpr c11
            have c11b1 : (t456 != 0) = false := bne_eq_false_iff_eq.mpr c11
            clear c11
            have H' := Aside0.mk H
            clear H
            go_wp2
            go_meet
            case rel => exact ⟨_, (true), (by first | rfl | (simp; done) | (simp [*]; done)), H', ⟨by first | omega | exact Nat.le_refl _⟩, ⟨by repeat (first | (with_reducible first | exact HB.out | apply below_alloc | apply pw_below_drewN | apply below_drew1) | exact HB.out)⟩⟩
          · rw [if_neg c11] at H
            have c11b0 : (t456 == 0) = false := beq_eq_false_iff_ne.mpr c11
            have c11b1 : (t456 != 0) = true := bne_iff_ne.mpr c11
            by_cases c12 : t455 = 0
            · rw [if_pos c12] at H
              have c12b0 : (t455 == 0) = true := beq_iff_eq.mpr c12
              have c12b1 : (t455 != 0) = false := bne_eq_false_iff_eq.mpr c12
              clear c12
              have H' := Aside0.mk H
              clear H
              go_wp2
              go_meet
              case rel => exact ⟨_, ((t456 == 3)), (by first | rfl | (simp; done) | (simp [*]; done)), H', ⟨by first | omega | exact Nat.le_refl _⟩, ⟨by repeat (first | (with_reducible first | exact HB.out | apply below_alloc | apply pw_below_drewN | apply below_drew1) | exact HB.out)⟩⟩
            · rw [if_neg c12] at H
              have c12b0 : (t455 == 0) = false := beq_eq_false_iff_ne.mpr c12
              have c12b1 : (t455 != 0) = true := bne_iff_ne.mpr c12
              have H' := Aside0.mk H
              clear H
              go_wp2
              go_meet
              case rel => exact ⟨_, (false), (by first | rfl | (simp; done) | (simp [*]; done)), H', ⟨by first | omega | exact Nat.le_refl _⟩, ⟨by repeat (first | (with_reducible first | exact HB.out | apply below_alloc | apply pw_below_drewN | apply below_drew1) | exact HB.out)⟩⟩
        · rw [if_neg c10] at H
          have c10b0 : (t455 == 3) = false := beq_eq_false_iff_ne.mpr c10
          have c10b1 : (t455 != 3) = true := bne_iff_ne.mpr c10
          by_cases c13 : t455 = 0
          · rw [if_pos c13] at H
            have c13b0 : (t455 == 0) = true := beq_iff_eq.mpr c13
            have c13b1 : (t455 != 0) = false := bne_eq_false_iff_eq.mpr c13
            clear c13
            have H' := Aside0.mk H
            clear H
            go_wp2
            go_meet
            case rel => exact ⟨_, ((t456 == 3)), (by first | rfl | (simp; done) | (simp [*]; done)), H', ⟨by first | omega | exact Nat.le_refl _⟩, ⟨by repeat (first | (with_reducible first | exact HB.out | apply below_alloc | apply pw_below_drewN | apply below_drew1) | exact HB.out)⟩⟩
          · rw [if_neg c13] at H
            have c13b0 : (t455 == 0) = false := beq_eq_false_iff_ne.mpr c13
            have c13b1 : (t455 != 0) = true := bne_iff_ne.mpr c13
            have H' := Aside0.mk H
            clear H
            go_wp2
            go_meet
            case rel => exact ⟨_, (false), (by first | rfl | (simp; done) | (simp [*]; done)), H', ⟨by first | omega | exact Nat.le_refl _⟩, ⟨by repeat (first | (with_reducible first | exact HB.out | apply below_alloc | apply pw_below_drewN | apply below_drew1) | exact HB.out)⟩⟩
  case rest =>
    clear HC7
    try clear c1
    try clear c2
    try clear p2
    try clear c7
    try clear c8
    try clear c8b0
    try clear c8b1
    try clear c9
    try clear c9b0
    try clear c9b1
    try clear c10
    try clear c10b0
    try clear c10b1
    try clear c11
    try clear c11b0
    try clear c11b1
    try clear c12
    try clear c12b0
    try clear c12b1
    try clear c13
    try clear c13b0
    try clear c13b1
    obtain ⟨kq, x23_6, rfl, HA, HJ6, HB⟩ := hcut
    cases kq with
    | zero => exact absurd HA.out (by simp [tabardref4_Mul.j0])
    | succ kj6 =>
      have H := HA.out
      clear HA
      simp only [tabardref4_Mul.j0] at H
      by_cases c14 : x23_6 = true
      · subst c14
        have H1 : (some 9221120237041090560) = some r := by rw [if_pos rfl] at H; exact H
        clear H
        have H := H1
        clear H1
        obtain rfl := Option.some.inj H
        go_wp2
        go_ret
        exact ⟨by first | rfl | (simp [errW_none, errW_some] <;> rfl) | (simp [*, errW_none, errW_some] <;> rfl), by repeat (first | (with_reducible first | exact HB.out | apply below_alloc | apply pw_below_drewN | apply below_drew1) | exact HB.out)⟩
      · replace c14 := Bool.eq_false_iff.mpr c14
        subst c14
        have H1 : (if t455 = 3 then ((tabardref4_zero.f (t457 != t458)).bind fun t459 => (some (IntKind.u64.wrap (t459 + 9218868437227405312)))) else (if t456 = 3 then ((tabardref4_zero.f (t457 != t458)).bind fun t460 => (some (IntKind.u64.wrap (t460 + 9218868437227405312)))) else ((tabardref3_Split.f kj6 a0).bind fun bt461 => ((tabardref3_Split.f kj6 a1).bind fun bt464 => ((tabardref3_Nat.f kj6 bt461.2.1).bind fun t467 => ((tabardref3_Nat.f kj6 bt464.2.1).bind fun t470 => ((tabardref1_Times.f kj6 t467 t470).bind fun t473 => ((tabardref3_Round.f kj6 (t457 != t458) t473 (wrap64 (bt461.2.2 + bt464.2.2)) false).bind fun t476 => (some t476))))))))) = some r := by rw [if_neg (show ¬ (false = true) by decide)] at H; exact H
        clear H
        have H := H1
        clear H1
        by_cases c15 : t455 = 3
        · rw [if_pos c15] at H
          have c15b0 : (t455 == 3) = true := beq_iff_eq.mpr c15
          have c15b1 : (t455 != 3) = false := bne_eq_false_iff_eq.mpr c15
          clear c15
          replace H := Option.bind_eq_some_iff.mp H
          obtain ⟨t459, A160, H⟩ := H
          try dsimp only at H
          have A16 := Aside0.mk A160
          clear A160
          obtain rfl := Option.some.inj H
          go_wp2_with (first | ((with_reducible refine gate_callee (f := 137) rfl ?_); refine goesL_ (some 54) rfl rfl Try.func137 (by kernel_rfl) rfl #[.bool (t457 != t458)] rfl (by simp only [List.map_toArray, List.map_cons, List.map_nil] <;> rfl) ?_; (with_reducible refine (tabardref4_zero.calls (t457 != t458) t459 _ A16.out).mono ?_); rintro e w' ⟨rfl, ⟨nd, rfl⟩⟩; refine ⟨_, rfl, ?_⟩))
          go_ret
          exact ⟨by first | rfl | (simp [errW_none, errW_some] <;> rfl) | (simp [*, errW_none, errW_some] <;> rfl), by repeat (first | (with_reducible first | exact HB.out | apply below_alloc | apply pw_below_drewN | apply below_drew1) | exact HB.out)⟩
        · rw [if_neg c15] at H
          have c15b0 : (t455 == 3) = false := beq_eq_false_iff_ne.mpr c15
          have c15b1 : (t455 != 3) = true := bne_iff_ne.mpr c15
          by_cases c17 : t456 = 3
          · rw [if_pos c17] at H
            have c17b0 : (t456 == 3) = true := beq_iff_eq.mpr c17
            have c17b1 : (t456 != 3) = false := bne_eq_false_iff_eq.mpr c17
            clear c17
            replace H := Option.bind_eq_some_iff.mp H
            obtain ⟨t460, A180, H⟩ := H
            try dsimp only at H
            have A18 := Aside0.mk A180
            clear A180
            obtain rfl := Option.some.inj H
            go_wp2_with (first | ((with_reducible refine gate_callee (f := 137) rfl ?_); refine goesL_ (some 54) rfl rfl Try.func137 (by kernel_rfl) rfl #[.bool (t457 != t458)] rfl (by simp only [List.map_toArray, List.map_cons, List.map_nil] <;> rfl) ?_; (with_reducible refine (tabardref4_zero.calls (t457 != t458) t460 _ A18.out).mono ?_); rintro e w' ⟨rfl, ⟨nd, rfl⟩⟩; refine ⟨_, rfl, ?_⟩))
            go_ret
            exact ⟨by first | rfl | (simp [errW_none, errW_some] <;> rfl) | (simp [*, errW_none, errW_some] <;> rfl), by repeat (first | (with_reducible first | exact HB.out | apply below_alloc | apply pw_below_drewN | apply below_drew1) | exact HB.out)⟩
          · rw [if_neg c17] at H
            have c17b0 : (t456 == 3) = false := beq_eq_false_iff_ne.mpr c17
            have c17b1 : (t456 != 3) = true := bne_iff_ne.mpr c17
            replace H := Option.bind_eq_some_iff.mp H
            obtain ⟨⟨t461, t462, t463⟩, A190, H⟩ := H
            try dsimp only at H
            have A19 := Aside0.mk A190
            clear A190
            replace H := Option.bind_eq_some_iff.mp H
            obtain ⟨⟨t464, t465, t466⟩, A200, H⟩ := H
            try dsimp only at H
            have A20 := Aside0.mk A200
            clear A200
            replace H := Option.bind_eq_some_iff.mp H
            obtain ⟨t467, A210, H⟩ := H
            try dsimp only at H
            have A21 := Aside0.mk A210
            clear A210
            replace H := Option.bind_eq_some_iff.mp H
            obtain ⟨t470, A220, H⟩ := H
            try dsimp only at H
            have A22 := Aside0.mk A220
            clear A220
            replace H := Option.bind_eq_some_iff.mp H
            obtain ⟨t473, A230, H⟩ := H
            try dsimp only at H
            have A23 := Aside0.mk A230
            clear A230
            replace H := Option.bind_eq_some_iff.mp H
            obtain ⟨t476, A240, H⟩ := H
            try dsimp only at H
            have A24 := Aside0.mk A240
            clear A240
            obtain rfl := Option.some.inj H
            go_wp2_with (first | ((with_reducible refine gate_callee (f := 55) rfl ?_); refine goesL_ (some 58) rfl rfl Try.func55 (by kernel_rfl) rfl #[.int .u64 a0] rfl (by simp only [List.map_toArray, List.map_cons, List.map_nil] <;> rfl) ?_; (with_reducible refine (tabardref3_Split.calls kj6 a0 t461 t462 t463 _ A19.out).mono ?_); rintro e w' ⟨rfl, ⟨nd, rfl⟩⟩; refine ⟨_, rfl, ?_⟩) | ((with_reducible refine gate_callee (f := 55) rfl ?_); refine goesL_ (some 64) rfl rfl Try.func55 (by kernel_rfl) rfl #[.int .u64 a1] rfl (by simp only [List.map_toArray, List.map_cons, List.map_nil] <;> rfl) ?_; (with_reducible refine (tabardref3_Split.calls kj6 a1 t464 t465 t466 _ A20.out).mono ?_); rintro e w' ⟨rfl, ⟨nd, rfl⟩⟩; refine ⟨_, rfl, ?_⟩) | ((with_reducible refine gate_callee (f := 76) rfl ?_); refine goesL_ (some 70) rfl rfl Try.func76 (by kernel_rfl) rfl #[.int .u64 t462] rfl (by simp only [List.map_toArray, List.map_cons, List.map_nil] <;> rfl) ?_; (with_reducible refine (tabardref3_Nat.calls kj6 t462 t467 _ A21.out).mono ?_); rintro e w25 ⟨v468, rfl, ho0, hb⟩; refine ⟨_, rfl, ?_⟩; have n0_ := Aside0.mk (Kd.R_lower ho0 (below_size (by repeat (first | (with_reducible first | exact HB.out | apply below_alloc | apply pw_below_drewN | apply below_drew1) | exact HB.out)))); have n1_ := Aside0.mk (below_step (by repeat (first | (with_reducible first | exact HB.out | apply below_alloc | apply pw_below_drewN | apply below_drew1) | exact HB.out)) hb); clear HB; have HO469 := n0_; have HB := n1_; clear n0_ n1_; (try clear hb); (try clear hb2); (try clear hk); (try clear hi); (try clear ho0)) | ((with_reducible refine gate_callee (f := 76) rfl ?_); refine goesL_ (some 72) rfl rfl Try.func76 (by kernel_rfl) rfl #[.int .u64 t465] rfl (by simp only [List.map_toArray, List.map_cons, List.map_nil] <;> rfl) ?_; (with_reducible refine (tabardref3_Nat.calls kj6 t465 t470 _ A22.out).mono ?_); rintro e w26 ⟨v471, rfl, ho0, hb⟩; refine ⟨_, rfl, ?_⟩; have n0_ := Aside0.mk (Kd.R_elder' (by (with_reducible repeat (first | apply Kd.R_alloc | apply Kd.R_drewN | apply Kd.R_drew)); exact HO469.out) (Kd.R_base ho0) hb); have n1_ := Aside0.mk (Kd.R_lower (Kd.R_new' ho0 (Kd.R_lt (by (with_reducible repeat (first | apply Kd.R_alloc | apply Kd.R_drewN | apply Kd.R_drew)); exact HO469.out))) (below_size (by repeat (first | (with_reducible first | exact HB.out | apply below_alloc | apply pw_below_drewN | apply below_drew1) | exact HB.out)))); have n2_ := Aside0.mk (below_step (by repeat (first | (with_reducible first | exact HB.out | apply below_alloc | apply pw_below_drewN | apply below_drew1) | exact HB.out)) hb); clear HO469; clear HB; have HO469 := n0_; have HO472 := n1_; have HB := n2_; clear n0_ n1_ n2_; (try clear hb); (try clear hb2); (try clear hk); (try clear hi); (try clear ho0); obtain ⟨Ao27, co27, eo27⟩ := Kd.R_slice HO469.out; subst eo27; obtain ⟨Ao28, co28, eo28⟩ := Kd.R_slice HO472.out; subst eo28) | ((with_reducible refine gate_callee (f := 94) rfl ?_); refine goesL_ (some 73) rfl rfl Try.func94 (by kernel_rfl) rfl #[.slice Ao27 t467.length co27, .slice Ao28 t470.length co28] rfl (by simp only [List.map_toArray, List.map_cons, List.map_nil] <;> rfl) ?_; (with_reducible refine (tabardref1_Times.calls kj6 _ _ t467 _ _ t470 t473 _ ?side1 ?side2 ?side3 ?side4 A23.out).mono ?_); (case side1 => repeat (first | exact (Kd.R_reads' HO469.out).2.2 | (with_reducible refine Kd.C_alloc ?_ _) | (with_reducible refine Kd.C_drewN ?_ _) | (with_reducible refine Kd.C_drew ?_))); (case side2 => exact (Kd.R_reads' HO469.out).2.1); (case side3 => repeat (first | exact (Kd.R_reads' HO472.out).2.2 | (with_reducible refine Kd.C_alloc ?_ _) | (with_reducible refine Kd.C_drewN ?_ _) | (with_reducible refine Kd.C_drew ?_))); (case side4 => exact (Kd.R_reads' HO472.out).2.1); rintro e w29 ⟨v474, rfl, ho0, hb⟩; refine ⟨_, rfl, ?_⟩; have n0_ := Aside0.mk (Kd.R_elder' (by (with_reducible repeat (first | apply Kd.R_alloc | apply Kd.R_drewN | apply Kd.R_drew)); exact HO469.out) (Kd.R_base ho0) hb); have n1_ := Aside0.mk (Kd.R_elder' (by (with_reducible repeat (first | apply Kd.R_alloc | apply Kd.R_drewN | apply Kd.R_drew)); exact HO472.out) (Kd.R_base ho0) hb); have n2_ := Aside0.mk (Kd.R_lower (Kd.R_new' (Kd.R_new' ho0 (Kd.R_lt (by (with_reducible repeat (first | apply Kd.R_alloc | apply Kd.R_drewN | apply Kd.R_drew)); exact HO469.out))) (Kd.R_lt (by (with_reducible repeat (first | apply Kd.R_alloc | apply Kd.R_drewN | apply Kd.R_drew)); exact HO472.out))) (below_size (by repeat (first | (with_reducible first | exact HB.out | apply below_alloc | apply pw_below_drewN | apply below_drew1) | exact HB.out)))); have n3_ := Aside0.mk (below_step (by repeat (first | (with_reducible first | exact HB.out | apply below_alloc | apply pw_below_drewN | apply below_drew1) | exact HB.out)) hb); clear HO469; clear HO472; clear HB; have HO469 := n0_; have HO472 := n1_; have HO475 := n2_; have HB := n3_; clear n0_ n1_ n2_ n3_; (try clear hb); (try clear hb2); (try clear hk); (try clear hi); (try clear ho0); obtain ⟨Ao30, co30, eo30⟩ := Kd.R_slice HO475.out; subst eo30) | ((with_reducible refine gate_callee (f := 74) rfl ?_); refine goesL_ (some 77) rfl rfl Try.func74 (by kernel_rfl) rfl #[.bool (t457 != t458), .slice Ao30 t473.length co30, .int .i64 (wrap64 (t463 + t466)), .bool false] rfl (by simp only [List.map_toArray, List.map_cons, List.map_nil] <;> rfl) ?_; (with_reducible refine (tabardref3_Round.calls kj6 (t457 != t458) _ _ t473 (wrap64 (t463 + t466)) false t476 _ ?side1 ?side2 A24.out).mono ?_); (case side1 => repeat (first | exact (Kd.R_reads' HO475.out).2.2 | (with_reducible refine Kd.C_alloc ?_ _) | (with_reducible refine Kd.C_drewN ?_ _) | (with_reducible refine Kd.C_drew ?_))); (case side2 => exact (Kd.R_reads' HO475.out).2.1); rintro e w31 ⟨rfl, hb⟩; refine ⟨_, rfl, ?_⟩; have n0_ := Aside0.mk (Kd.R_below (by (with_reducible repeat (first | apply Kd.R_alloc | apply Kd.R_drewN | apply Kd.R_drew)); exact HO469.out) hb); have n1_ := Aside0.mk (Kd.R_below (by (with_reducible repeat (first | apply Kd.R_alloc | apply Kd.R_drewN | apply Kd.R_drew)); exact HO472.out) hb); have n2_ := Aside0.mk (Kd.R_below (by (with_reducible repeat (first | apply Kd.R_alloc | apply Kd.R_drewN | apply Kd.R_drew)); exact HO475.out) hb); have n3_ := Aside0.mk (below_step (by repeat (first | (with_reducible first | exact HB.out | apply below_alloc | apply pw_below_drewN | apply below_drew1) | exact HB.out)) hb); clear HO469; clear HO472; clear HO475; clear HB; have HO469 := n0_; have HO472 := n1_; have HO475 := n2_; have HB := n3_; clear n0_ n1_ n2_ n3_; (try clear hb); (try clear hb2); (try clear hk); (try clear hi)))
            go_ret
            exact ⟨by first | rfl | (simp [errW_none, errW_some] <;> rfl) | (simp [*, errW_none, errW_some] <;> rfl), by repeat (first | (with_reducible first | exact HB.out | apply below_alloc | apply pw_below_drewN | apply below_drew1) | exact HB.out)⟩

/-! ### tabardref5_Power: function 54 -/
mutual
def tabardref5_Power.j0 : Nat → Int → Int → Int → Option (Int)
  | 0, _, _, _ => none
  | k + 1, x0, x1, x5 => tabardref5_Power.l0 k x0 x1 x5 4607182418800017408 63
def tabardref5_Power.l0 : Nat → Int → Int → Int → Int → Int → Option (Int)
  | 0, _, _, _, _, _ => none
  | k + 1, x0, x1, x5, x6, x7 => if x7 ≥ 0 then ((tabardref4_Mul.f k x6 x6).bind fun t479 => (if 0 ≤ (IntKind.u64.wrap (x7)) then (if (Int.tmod (shr .u64 x5 (IntKind.u64.wrap (x7))) 2) = 1 then ((tabardref4_Mul.f k t479 x0).bind fun t480 => (tabardref5_Power.l0 k x0 x1 x5 t480 (wrap64 (x7 - 1)))) else (tabardref5_Power.l0 k x0 x1 x5 t479 (wrap64 (x7 - 1)))) else (none))) else (if x1 < 0 then ((tabardref5_Div.f k 4607182418800017408 x6).bind fun t478 => (some t478)) else (some x6))
end
def tabardref5_Power.f (k : Nat) (a0 : Int) (a1 : Int) : Option (Int) := (tabardref5_none.f k a0).bind fun t477 => (if t477 = true then (some 9221120237041090560) else (if a1 < 0 then (tabardref5_Power.j0 k a0 a1 (IntKind.u64.wrap (-(IntKind.u64.wrap (a1))))) else (tabardref5_Power.j0 k a0 a1 (IntKind.u64.wrap (a1)))))
theorem tabardref5_Power.mono_l : ∀ k, (∀ y0 y1 y2, LeO (tabardref5_Power.j0 k y0 y1 y2) (tabardref5_Power.j0 (k + 1) y0 y1 y2)) ∧ (∀ y0 y1 y2 y3 y4, LeO (tabardref5_Power.l0 k y0 y1 y2 y3 y4) (tabardref5_Power.l0 (k + 1) y0 y1 y2 y3 y4))
  | 0 => ⟨fun _ _ _ r h => by simp [tabardref5_Power.j0] at h, fun _ _ _ _ _ r h => by simp [tabardref5_Power.l0] at h⟩
  | k + 1 => by
    obtain ⟨ih0, ih1⟩ := tabardref5_Power.mono_l k
    refine ⟨?_, ?_⟩
    · intro y0 y1 y2
      unfold tabardref5_Power.j0
      repeat' first
      | (with_reducible exact ih0 _ _ _)
      | (with_reducible exact ih1 _ _ _ _ _)
      | (with_reducible exact tabardref4_Mul.mono _ _ _)
      | (with_reducible exact tabardref5_Div.mono _ _ _)
      | (with_reducible exact tabardref5_none.mono _ _)
      | (with_reducible exact LeO.refl _)
      | (with_reducible exact LeO.none _)
      | (with_reducible refine LeO.ite ?_ ?_)
      | (with_reducible refine LeO.bind ?_ (fun _ => ?_))
    · intro y0 y1 y2 y3 y4
      unfold tabardref5_Power.l0
      repeat' first
      | (with_reducible exact ih0 _ _ _)
      | (with_reducible exact ih1 _ _ _ _ _)
      | (with_reducible exact tabardref4_Mul.mono _ _ _)
      | (with_reducible exact tabardref5_Div.mono _ _ _)
      | (with_reducible exact tabardref5_none.mono _ _)
      | (with_reducible exact LeO.refl _)
      | (with_reducible exact LeO.none _)
      | (with_reducible refine LeO.ite ?_ ?_)
      | (with_reducible refine LeO.bind ?_ (fun _ => ?_))
theorem tabardref5_Power.mono : ∀ a0 a1 k, LeO (tabardref5_Power.f k a0 a1) (tabardref5_Power.f (k + 1) a0 a1) := by
  intro a0 a1 k
  obtain ⟨ih0, ih1⟩ := tabardref5_Power.mono_l k
  unfold tabardref5_Power.f
  repeat' first
      | (with_reducible exact ih0 _ _ _)
      | (with_reducible exact ih1 _ _ _ _ _)
      | (with_reducible exact tabardref4_Mul.mono _ _ _)
      | (with_reducible exact tabardref5_Div.mono _ _ _)
      | (with_reducible exact tabardref5_none.mono _ _)
      | (with_reducible exact LeO.refl _)
      | (with_reducible exact LeO.none _)
      | (with_reducible refine LeO.ite ?_ ?_)
      | (with_reducible refine LeO.bind ?_ (fun _ => ?_))
set_option maxHeartbeats 8000000 in
set_option maxRecDepth 100000 in
theorem tabardref5_Power.calls (k : Nat) (a0 : Int) (a1 : Int) (r : Int) (w : World) (h : tabardref5_Power.f k a0 a1 = some r) :
    Calls Try.prog 54 #[.int .u64 a0, .int .i64 a1] w fun e w' => e = .returned (.int .u64 r) ∧ Below w.heap.size w w' := by
  have HB := Aside0.mk (Below.refl w.heap.size w)
  have H : ((tabardref5_none.f k a0).bind fun t477 => (if t477 = true then (some 9221120237041090560) else (if a1 < 0 then (tabardref5_Power.j0 k a0 a1 (IntKind.u64.wrap (-(IntKind.u64.wrap (a1))))) else (tabardref5_Power.j0 k a0 a1 (IntKind.u64.wrap (a1)))))) = some r := h
  clear h
  replace H := Option.bind_eq_some_iff.mp H
  obtain ⟨t477, A30, H⟩ := H
  try dsimp only at H
  have A3 := Aside0.mk A30
  clear A30
  by_cases c4 : t477 = true
  · subst c4
    have H1 : (some 9221120237041090560) = some r := by rw [if_pos rfl] at H; exact H
    clear H
    have H := H1
    clear H1
    obtain rfl := Option.some.inj H
    go_enter Try.func54, Try.ntmps54
    go_wp2_with (first | ((with_reducible refine gate_callee (f := 84) rfl ?_); refine goesL_ (some 9) rfl rfl Try.func84 (by kernel_rfl) rfl #[.int .u64 a0] rfl (by simp only [List.map_toArray, List.map_cons, List.map_nil] <;> rfl) ?_; (with_reducible refine (tabardref5_none.calls k a0 true _ A3.out).mono ?_); rintro e w' ⟨rfl, ⟨nd, rfl⟩⟩; refine ⟨_, rfl, ?_⟩))
    go_ret
    exact ⟨by first | rfl | (simp [errW_none, errW_some] <;> rfl) | (simp [*, errW_none, errW_some] <;> rfl), by repeat (first | (with_reducible first | exact HB.out | apply below_alloc | apply pw_below_drewN | apply below_drew1) | exact HB.out)⟩
  · replace c4 := Bool.eq_false_iff.mpr c4
    subst c4
    have H1 : (if a1 < 0 then (tabardref5_Power.j0 k a0 a1 (IntKind.u64.wrap (-(IntKind.u64.wrap (a1))))) else (tabardref5_Power.j0 k a0 a1 (IntKind.u64.wrap (a1)))) = some r := by rw [if_neg (show ¬ (false = true) by decide)] at H; exact H
    clear H
    have H := H1
    clear H1
    have HC5 := Aside0.mk H
    clear H
    go_enter Try.func54, Try.ntmps54
    go_upto_if 13 with (first | ((with_reducible refine gate_callee (f := 84) rfl ?_); refine goesL_ (some 9) rfl rfl Try.func84 (by kernel_rfl) rfl #[.int .u64 a0] rfl (by simp only [List.map_toArray, List.map_cons, List.map_nil] <;> rfl) ?_; (with_reducible refine (tabardref5_none.calls k a0 false _ A3.out).mono ?_); rintro e w' ⟨rfl, ⟨nd, rfl⟩⟩; refine ⟨_, rfl, ?_⟩))
    (try simp only [Act.put, List.setIfInBounds_toArray, List.set_cons_zero, List.set_cons_succ])
    go_cut [5] (fun v5 wc => ∃ (kq : Nat) (x5_4 : Int), v5 = .int .u64 x5_4 ∧ Aside0 (tabardref5_Power.j0 kq a0 a1 x5_4 = some r) ∧ Aside0 (kq ≤ k) ∧ Aside0 (Below w.heap.size w wc))
    case first =>
      have H := HC5.out
      clear HC5
      by_cases c6 : a1 < 0
      · rw [if_pos c6] at H
        have c6b0 : decide (a1 < 0) = true := decide_eq_true c6
        clear c6
        (first | rw [c6b0] | (simp only [i64_w, i32_w]; rw [c6b0]) | skip)
        have H' := Aside0.mk H
        clear H
        go_wp2
        go_meet
        case rel => exact ⟨_, (IntKind.u64.wrap (-(IntKind.u64.wrap (a1)))), (by first | rfl | (simp; done) | (simp [*]; done)), H', ⟨by first | omega | exact Nat.le_refl _⟩, ⟨by repeat (first | (with_reducible first | exact HB.out | apply below_alloc | apply pw_below_drewN | apply below_drew1) | exact HB.out)⟩⟩
      · rw [if_neg c6] at H
        have c6b0 : decide (a1 < 0) = false := decide_eq_false c6
        clear c6
        (first | rw [c6b0] | (simp only [i64_w, i32_w]; rw [c6b0]) | skip)
        have H' := Aside0.mk H
        clear H
        go_wp2
        go_meet
        case rel => exact ⟨_, (IntKind.u64.wrap (a1)), (by first | rfl | (simp; done) | (simp [*]; done)), H', ⟨by first | omega | exact Nat.le_refl _⟩, ⟨by repeat (first | (with_reducible first | exact HB.out | apply below_alloc | apply pw_below_drewN | apply below_drew1) | exact HB.out)⟩⟩
    case rest =>
      clear HC5
      try clear p2
      try clear c4
      try clear c5
      try clear c6
      try clear c6b0
      obtain ⟨kq, x5_4, rfl, HA, HJ4, HB⟩ := hcut
      cases kq with
      | zero => exact absurd HA.out (by simp [tabardref5_Power.j0])
      | succ kj4 =>
        have H := HA.out
        clear HA
        simp only [tabardref5_Power.j0] at H
        have H' := Aside0.mk H
        clear H
        go_wp2
        go_loopg [6, 7] kj4 (fun kq v6 v7 w' => ∃ (x6_2 : Int) (x7_2 : Int), v6 = .int .u64 x6_2 ∧ v7 = .int .i64 x7_2 ∧ Aside0 (tabardref5_Power.l0 kq a0 a1 x5_4 x6_2 x7_2 = some r) ∧ Aside0 (kq ≤ kj4) ∧ Aside0 (Below w.heap.size w w'))
        case atStart => exact ⟨(4607182418800017408), (63), (by first | rfl | (simp; done) | (simp [*]; done)), (by first | rfl | (simp; done) | (simp [*]; done)), H', ⟨Nat.le_refl _⟩, ⟨by repeat (first | (with_reducible first | exact HB.out | apply below_alloc | apply pw_below_drewN | apply below_drew1) | exact HB.out)⟩⟩
        case round =>
          clear H'
          try clear p2
          try clear c4
          try clear c5
          try clear c6
          try clear c6b0
          try clear p2
          obtain ⟨x6_2, x7_2, rfl, rfl, HA, HK2, HB⟩ := hrel
          cases gk with
          | zero => exact absurd HA.out (by simp [tabardref5_Power.l0])
          | succ k2 =>
            have H := HA.out
            clear HA
            simp only [tabardref5_Power.l0] at H
            by_cases c7 : x7_2 ≥ 0
            · rw [if_pos c7] at H
              have c7b0 : decide (0 ≤ x7_2) = true := decide_eq_true c7
              clear c7
              replace H := Option.bind_eq_some_iff.mp H
              obtain ⟨t479, A80, H⟩ := H
              try dsimp only at H
              have A8 := Aside0.mk A80
              clear A80
              obtain ⟨ji9, hji9⟩ : ∃ j_ : Int, (IntKind.u64.wrap (x7_2)) = j_ := ⟨_, rfl⟩
              replace H : (if 0 ≤ (ji9) then (if (Int.tmod (shr .u64 x5_4 (ji9)) 2) = 1 then ((tabardref4_Mul.f k2 t479 a0).bind fun t480 => (tabardref5_Power.l0 k2 a0 a1 x5_4 t480 (wrap64 (x7_2 - 1)))) else (tabardref5_Power.l0 k2 a0 a1 x5_4 t479 (wrap64 (x7_2 - 1)))) else (none)) = some r := by first | (rw [hji9] at H; exact H) | (simp only [hji9] at H ⊢; exact H)
              (try rw [hji9] at A8)
              by_cases c10 : 0 ≤ (ji9)
              · rw [if_pos c10] at H
                have c10b0 := eq_true c10
                have c10b1 : decide (0 ≤ (ji9)) = true := decide_eq_true c10
                clear c10
                obtain ⟨ji11, hji11⟩ : ∃ j_ : Int, (shr .u64 x5_4 (ji9)) = j_ := ⟨_, rfl⟩
                replace H : (if (Int.tmod (ji11) 2) = 1 then ((tabardref4_Mul.f k2 t479 a0).bind fun t480 => (tabardref5_Power.l0 k2 a0 a1 x5_4 t480 (wrap64 (x7_2 - 1)))) else (tabardref5_Power.l0 k2 a0 a1 x5_4 t479 (wrap64 (x7_2 - 1)))) = some r := by first | (rw [hji11] at H; exact H) | (simp only [hji11] at H ⊢; exact H)
                (try rw [hji11] at A8)
                have hji11_ : (x5_4 / 2 ^ min (ji9).toNat 64) = ji11 := hji11
                have hji11z : (ji9) ≤ 64 → (x5_4 / 2 ^ (ji9).toNat) = ji11 := shr_small hji11
                by_cases c12 : (Int.tmod (ji11) 2) = 1
                · rw [if_pos c12] at H
                  have c12b0 : ((Int.tmod (ji11) 2) == 1) = true := beq_iff_eq.mpr c12
                  have c12b1 : ((Int.tmod (ji11) 2) != 1) = false := bne_eq_false_iff_eq.mpr c12
                  clear c12
                  replace H := Option.bind_eq_some_iff.mp H
                  obtain ⟨t480, A130, H⟩ := H
                  try dsimp only at H
                  have A13 := Aside0.mk A130
                  clear A130
                  have H' := Aside0.mk H
                  clear H
                  go_wp2_with (first | ((with_reducible refine gate_callee (f := 104) rfl ?_); refine goesL_ (some 22) rfl rfl Try.func104 (by kernel_rfl) rfl #[.int .u64 x6_2, .int .u64 x6_2] rfl (by simp only [List.map_toArray, List.map_cons, List.map_nil] <;> rfl) ?_; (with_reducible refine (tabardref4_Mul.calls k2 x6_2 x6_2 t479 _ A8.out).mono ?_); rintro e w14 ⟨rfl, hb⟩; refine ⟨_, rfl, ?_⟩; have n0_ := Aside0.mk (below_step (by repeat (first | (with_reducible first | exact HB.out | apply below_alloc | apply pw_below_drewN | apply below_drew1) | exact HB.out)) hb); clear HB; have HB := n0_; clear n0_; (try clear hb); (try clear hb2); (try clear hk); (try clear hi)) | ((with_reducible refine gate_callee (f := 104) rfl ?_); refine goesL_ (some 31) rfl rfl Try.func104 (by kernel_rfl) rfl #[.int .u64 t479, .int .u64 a0] rfl (by simp only [List.map_toArray, List.map_cons, List.map_nil] <;> rfl) ?_; (with_reducible refine (tabardref4_Mul.calls k2 t479 a0 t480 _ A13.out).mono ?_); rintro e w15 ⟨rfl, hb⟩; refine ⟨_, rfl, ?_⟩; have n0_ := Aside0.mk (below_step (by repeat (first | (with_reducible first | exact HB.out | apply below_alloc | apply pw_below_drewN | apply below_drew1) | exact HB.out)) hb); clear HB; have HB := n0_; clear n0_; (try clear hb); (try clear hb2); (try clear hk); (try clear hi)))
                  go_roundg k2
                  case measure => have := HJ4.out; have := HK2.out; omega
                  case rel => exact ⟨(t480), (wrap64 (x7_2 - 1)), (by first | rfl | (simp; done) | (simp [*]; done)), (by first | rfl | (simp; done) | (simp [*]; done)), H', ⟨by have := HJ4.out; have := HK2.out; omega⟩, ⟨by repeat (first | (with_reducible first | exact HB.out | apply below_alloc | apply pw_below_drewN | apply below_drew1) | exact HB.out)⟩⟩
                · rw [if_neg c12] at H
                  have c12b0 : ((Int.tmod (ji11) 2) == 1) = false := beq_eq_false_iff_ne.mpr c12
                  have c12b1 : ((Int.tmod (ji11) 2) != 1) = true := bne_iff_ne.mpr c12
                  have H' := Aside0.mk H
                  clear H
                  go_wp2_with (first | ((with_reducible refine gate_callee (f := 104) rfl ?_); refine goesL_ (some 22) rfl rfl Try.func104 (by kernel_rfl) rfl #[.int .u64 x6_2, .int .u64 x6_2] rfl (by simp only [List.map_toArray, List.map_cons, List.map_nil] <;> rfl) ?_; (with_reducible refine (tabardref4_Mul.calls k2 x6_2 x6_2 t479 _ A8.out).mono ?_); rintro e w16 ⟨rfl, hb⟩; refine ⟨_, rfl, ?_⟩; have n0_ := Aside0.mk (below_step (by repeat (first | (with_reducible first | exact HB.out | apply below_alloc | apply pw_below_drewN | apply below_drew1) | exact HB.out)) hb); clear HB; have HB := n0_; clear n0_; (try clear hb); (try clear hb2); (try clear hk); (try clear hi)))
                  go_roundg k2
                  case measure => have := HJ4.out; have := HK2.out; omega
                  case rel => exact ⟨(t479), (wrap64 (x7_2 - 1)), (by first | rfl | (simp; done) | (simp [*]; done)), (by first | rfl | (simp; done) | (simp [*]; done)), H', ⟨by have := HJ4.out; have := HK2.out; omega⟩, ⟨by repeat (first | (with_reducible first | exact HB.out | apply below_alloc | apply pw_below_drewN | apply below_drew1) | exact HB.out)⟩⟩
              · rw [if_neg c10] at H
                exact absurd H (by simp)
            · rw [if_neg c7] at H
              have c7b0 : decide (0 ≤ x7_2) = false := decide_eq_false c7
              clear c7
              by_cases c17 : a1 < 0
              · rw [if_pos c17] at H
                have c17b0 : decide (a1 < 0) = true := decide_eq_true c17
                clear c17
                replace H := Option.bind_eq_some_iff.mp H
                obtain ⟨t478, A180, H⟩ := H
                try dsimp only at H
                have A18 := Aside0.mk A180
                clear A180
                obtain rfl := Option.some.inj H
                go_wp2_with (first | ((with_reducible refine gate_callee (f := 46) rfl ?_); refine goesL_ (some 35) rfl rfl Try.func46 (by kernel_rfl) rfl #[.int .u64 4607182418800017408, .int .u64 x6_2] rfl (by simp only [List.map_toArray, List.map_cons, List.map_nil] <;> rfl) ?_; (with_reducible refine (tabardref5_Div.calls k2 4607182418800017408 x6_2 t478 _ A18.out).mono ?_); rintro e w19 ⟨rfl, hb⟩; refine ⟨_, rfl, ?_⟩; have n0_ := Aside0.mk (below_step (by repeat (first | (with_reducible first | exact HB.out | apply below_alloc | apply pw_below_drewN | apply below_drew1) | exact HB.out)) hb); clear HB; have HB := n0_; clear n0_; (try clear hb); (try clear hb2); (try clear hk); (try clear hi)))
                go_ret
                exact ⟨by first | rfl | (simp [errW_none, errW_some] <;> rfl) | (simp [*, errW_none, errW_some] <;> rfl), by repeat (first | (with_reducible first | exact HB.out | apply below_alloc | apply pw_below_drewN | apply below_drew1) | exact HB.out)⟩
              · rw [if_neg c17] at H
                have c17b0 : decide (a1 < 0) = false := decide_eq_false c17
                clear c17
                obtain rfl := Option.some.inj H
                go_wp2
                go_ret
                exact ⟨by first | rfl | (simp [errW_none, errW_some] <;> rfl) | (simp [*, errW_none, errW_some] <;> rfl), by repeat (first | (with_reducible first | exact HB.out | apply below_alloc | apply pw_below_drewN | apply below_drew1) | exact HB.out)⟩

-- NOT PRINTED: function 15 (tabardlaw5_RootPowers)

end Go.Proofs.Ytaplggheadahhaa.R
