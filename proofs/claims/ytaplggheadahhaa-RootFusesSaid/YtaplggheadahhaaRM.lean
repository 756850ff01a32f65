/- contract of tabardref5_Fma (assembled out of what the printer printed, a cut laid ahead of region 15) -/
import Derived.Test.YtaplggheadahhaaRI
import Derived.Test.YtaplggheadahhaaRJ
import Derived.Test.YtaplggheadahhaaRL
namespace Go.Proofs.Ytaplggheadahhaa.R
open Go.RowKit Go.Proofs.YtaplggheadahhaaW.PrintWords Go.Proofs.YtaplggheadahhaaW.PrintLast Go.Proofs.YtaplggheadahhaaW.PrintMore
attribute [local go_sem] max2_int min2_int max_two min_two max_three min_three max_four min_four   -- for this text's walks alone
set_option linter.unusedVariables false
set_option linter.unusedSimpArgs false

/-! ### tabardref5_Fma: function 50 -/
mutual
def tabardref5_Fma.j0 : Nat → Int → Int → Int → Bool → Bool → Option (Int)
  | 0, _, _, _, _, _ => none
  | k + 1, x0, x1, x2, x7, x8 => (tabardref5_none.f k x0).bind fun t435 => (if t435 = true then (tabardref5_Fma.j1 k x0 x1 x2 x7 x8 true) else ((tabardref5_none.f k x1).bind fun t436 => (if t436 = true then (tabardref5_Fma.j1 k x0 x1 x2 x7 x8 true) else ((tabardref5_none.f k x2).bind fun t437 => (if t437 = true then (tabardref5_Fma.j1 k x0 x1 x2 x7 x8 true) else (if x8 = true then ((tabardref5_zero.f k x0).bind fun t438 => (if t438 = true then (tabardref5_Fma.j1 k x0 x1 x2 x7 x8 true) else ((tabardref5_zero.f k x1).bind fun t439 => (if t439 = true then (tabardref5_Fma.j1 k x0 x1 x2 x7 x8 true) else ((tabardref5_endless.f k x2).bind fun t440 => (if t440 = true then ((tabardref3_Is.f x2).bind fun t441 => (tabardref5_Fma.j1 k x0 x1 x2 x7 x8 (t441 != x7))) else (tabardref5_Fma.j1 k x0 x1 x2 x7 x8 false))))))) else (tabardref5_Fma.j1 k x0 x1 x2 x7 x8 false)))))))
def tabardref5_Fma.j1 : Nat → Int → Int → Int → Bool → Bool → Bool → Option (Int)
  | 0, _, _, _, _, _, _ => none
  | k + 1, x0, x1, x2, x7, x8, x29 => if x29 = true then (some 9221120237041090560) else (if x8 = true then ((tabardref5_with.f x7 9218868437227405312).bind fun t442 => (some t442)) else ((tabardref5_endless.f k x2).bind fun t443 => (if t443 = true then (some x2) else ((tabardref3_Split.f k x0).bind fun bt444 => ((tabardref3_Split.f k x1).bind fun bt447 => ((tabardref3_Nat.f k bt444.2.1).bind fun t450 => ((tabardref3_Nat.f k bt447.2.1).bind fun t453 => ((tabardref1_Times.f k t450 t453).bind fun t456 => ((tabardref3_Up.f k t456 (wrap64 ((wrap64 (bt444.2.2 + bt447.2.2)) + 2148))).bind fun t459 => ((tabardref4_Exact.f k x2).bind fun bt463 => ((tabardref3_Up.f k bt463.2 1074).bind fun t468 => ((tabardref4_Plus.f k x7 t459 bt463.1 t468).bind fun bt471 => (if (bt471.2.length : Int) = 0 then ((tabardref5_zero.f k x0).bind fun t476 => (if t476 = true then ((tabardref5_zero.f k x2).bind fun t477 => (if t477 = true then (if x7 = true then ((tabardref3_Is.f x2).bind fun t478 => (if t478 = true then (some 9223372036854775808) else (some 0))) else (some 0)) else (some 0))) else ((tabardref5_zero.f k x1).bind fun t479 => (if t479 = true then ((tabardref5_zero.f k x2).bind fun t480 => (if t480 = true then (if x7 = true then ((tabardref3_Is.f x2).bind fun t481 => (if t481 = true then (some 9223372036854775808) else (some 0))) else (some 0)) else (some 0))) else (some 0))))) else ((tabardref3_Round.f k bt471.1 bt471.2 (-2148) false).bind fun t482 => (some t482)))))))))))))))
end
def tabardref5_Fma.f (k : Nat) (a0 : Int) (a1 : Int) (a2 : Int) : Option (Int) := (tabardref3_Is.f a0).bind fun t431 => ((tabardref3_Is.f a1).bind fun t432 => ((tabardref5_endless.f k a0).bind fun t433 => (if t433 = true then (tabardref5_Fma.j0 k a0 a1 a2 (t431 != t432) true) else ((tabardref5_endless.f k a1).bind fun t434 => (tabardref5_Fma.j0 k a0 a1 a2 (t431 != t432) t434)))))
theorem tabardref5_Fma.mono_l : ∀ k, (∀ y0 y1 y2 y3 y4, LeO (tabardref5_Fma.j0 k y0 y1 y2 y3 y4) (tabardref5_Fma.j0 (k + 1) y0 y1 y2 y3 y4)) ∧ (∀ y0 y1 y2 y3 y4 y5, LeO (tabardref5_Fma.j1 k y0 y1 y2 y3 y4 y5) (tabardref5_Fma.j1 (k + 1) y0 y1 y2 y3 y4 y5))
  | 0 => ⟨fun _ _ _ _ _ r h => by simp [tabardref5_Fma.j0] at h, fun _ _ _ _ _ _ r h => by simp [tabardref5_Fma.j1] at h⟩
  | k + 1 => by
    obtain ⟨ih0, ih1⟩ := tabardref5_Fma.mono_l k
    refine ⟨?_, ?_⟩
    · intro y0 y1 y2 y3 y4
      unfold tabardref5_Fma.j0
      repeat' first
      | (with_reducible exact ih0 _ _ _ _ _)
      | (with_reducible exact ih1 _ _ _ _ _ _)
      | (with_reducible exact tabardref1_Times.mono _ _ _)
      | (with_reducible exact tabardref3_Nat.mono _ _)
      | (with_reducible exact tabardref3_Round.mono _ _ _ _ _)
      | (with_reducible exact tabardref3_Split.mono _ _)
      | (with_reducible exact tabardref3_Up.mono _ _ _)
      | (with_reducible exact tabardref4_Exact.mono _ _)
      | (with_reducible exact tabardref4_Plus.mono _ _ _ _ _)
      | (with_reducible exact tabardref5_endless.mono _ _)
      | (with_reducible exact tabardref5_none.mono _ _)
      | (with_reducible exact tabardref5_zero.mono _ _)
      | (with_reducible exact LeO.refl _)
      | (with_reducible exact LeO.none _)
      | (with_reducible refine LeO.ite ?_ ?_)
      | (with_reducible refine LeO.bind ?_ (fun _ => ?_))
    · intro y0 y1 y2 y3 y4 y5
      unfold tabardref5_Fma.j1
      repeat' first
      | (with_reducible exact ih0 _ _ _ _ _)
      | (with_reducible exact ih1 _ _ _ _ _ _)
      | (with_reducible exact tabardref1_Times.mono _ _ _)
      | (with_reducible exact tabardref3_Nat.mono _ _)
      | (with_reducible exact tabardref3_Round.mono _ _ _ _ _)
      | (with_reducible exact tabardref3_Split.mono _ _)
      | (with_reducible exact tabardref3_Up.mono _ _ _)
      | (with_reducible exact tabardref4_Exact.mono _ _)
      | (with_reducible exact tabardref4_Plus.mono _ _ _ _ _)
      | (with_reducible exact tabardref5_endless.mono _ _)
      | (with_reducible exact tabardref5_none.mono _ _)
      | (with_reducible exact tabardref5_zero.mono _ _)
      | (with_reducible exact LeO.refl _)
      | (with_reducible exact LeO.none _)
      | (with_reducible refine LeO.ite ?_ ?_)
      | (with_reducible refine LeO.bind ?_ (fun _ => ?_))
theorem tabardref5_Fma.mono : ∀ a0 a1 a2 k, LeO (tabardref5_Fma.f k a0 a1 a2) (tabardref5_Fma.f (k + 1) a0 a1 a2) := by
  intro a0 a1 a2 k
  obtain ⟨ih0, ih1⟩ := tabardref5_Fma.mono_l k
  unfold tabardref5_Fma.f
  repeat' first
      | (with_reducible exact ih0 _ _ _ _ _)
      | (with_reducible exact ih1 _ _ _ _ _ _)
      | (with_reducible exact tabardref1_Times.mono _ _ _)
      | (with_reducible exact tabardref3_Nat.mono _ _)
      | (with_reducible exact tabardref3_Round.mono _ _ _ _ _)
      | (with_reducible exact tabardref3_Split.mono _ _)
      | (with_reducible exact tabardref3_Up.mono _ _ _)
      | (with_reducible exact tabardref4_Exact.mono _ _)
      | (with_reducible exact tabardref4_Plus.mono _ _ _ _ _)
      | (with_reducible exact tabardref5_endless.mono _ _)
      | (with_reducible exact tabardref5_none.mono _ _)
      | (with_reducible exact tabardref5_zero.mono _ _)
      | (with_reducible exact LeO.refl _)
      | (with_reducible exact LeO.none _)
      | (with_reducible refine LeO.ite ?_ ?_)
      | (with_reducible refine LeO.bind ?_ (fun _ => ?_))
set_option maxHeartbeats 8000000 in
set_option maxRecDepth 100000 in
theorem tabardref5_Fma.calls (k : Nat) (a0 : Int) (a1 : Int) (a2 : Int) (r : Int) (w : World) (h : tabardref5_Fma.f k a0 a1 a2 = some r) :
    Calls Try.prog 50 #[.int .u64 a0, .int .u64 a1, .int .u64 a2] w fun e w' => e = .returned (.int .u64 r) ∧ Below w.heap.size w w' := by
  have hu85 := Try.underlying85
  have HB := Aside0.mk (Below.refl w.heap.size w)
  have H : ((tabardref3_Is.f a0).bind fun t431 => ((tabardref3_Is.f a1).bind fun t432 => ((tabardref5_endless.f k a0).bind fun t433 => (if t433 = true then (tabardref5_Fma.j0 k a0 a1 a2 (t431 != t432) true) else ((tabardref5_endless.f k a1).bind fun t434 => (tabardref5_Fma.j0 k a0 a1 a2 (t431 != t432) t434)))))) = some r := h
  clear h
  replace H := Option.bind_eq_some_iff.mp H
  obtain ⟨t431, A40, H⟩ := H
  try dsimp only at H
  have A4 := Aside0.mk A40
  clear A40
  replace H := Option.bind_eq_some_iff.mp H
  obtain ⟨t432, A50, H⟩ := H
  try dsimp only at H
  have A5 := Aside0.mk A50
  clear A50
  have HC6 := Aside0.mk H
  clear H
  go_enter Try.func50, Try.ntmps50
  go_upto_region 2 with (first | ((with_reducible refine gate_callee (f := 71) rfl ?_); refine goesL_ (some 19) rfl rfl Try.func71 (by kernel_rfl) rfl #[.int .u64 a0] rfl (by simp only [List.map_toArray, List.map_cons, List.map_nil] <;> rfl) ?_; (with_reducible refine (tabardref3_Is.calls a0 t431 _ A4.out).mono ?_); rintro e w' ⟨rfl, ⟨nd, rfl⟩⟩; refine ⟨_, rfl, ?_⟩) | ((with_reducible refine gate_callee (f := 71) rfl ?_); refine goesL_ (some 21) rfl rfl Try.func71 (by kernel_rfl) rfl #[.int .u64 a1] rfl (by simp only [List.map_toArray, List.map_cons, List.map_nil] <;> rfl) ?_; (with_reducible refine (tabardref3_Is.calls a1 t432 _ A5.out).mono ?_); rintro e w' ⟨rfl, ⟨nd, rfl⟩⟩; refine ⟨_, rfl, ?_⟩))
  (try simp only [Act.put, List.setIfInBounds_toArray, List.set_cons_zero, List.set_cons_succ])
  go_cut [8] (fun v8 wc => ∃ (kq : Nat) (x8_5 : Bool), v8 = .bool x8_5 ∧ Aside0 (tabardref5_Fma.j0 kq a0 a1 a2 (t431 != t432) x8_5 = some r) ∧ Aside0 (kq ≤ k) ∧ Aside0 (Below w.heap.size w wc))
  case first =>
    have H := HC6.out
    clear HC6
    replace H := Option.bind_eq_some_iff.mp H
    obtain ⟨t433, A70, H⟩ := H
    try dsimp only at H
    have A7 := Aside0.mk A70
    clear A70
    by_cases c8 : t433 = true
    · subst c8
      rw [if_pos rfl] at H
      have H' := Aside0.mk H
      clear H
      go_wp2_with (first | ((with_reducible refine gate_callee (f := 85) rfl ?_); refine goesL_ (some 24) rfl rfl Try.func85 (by kernel_rfl) rfl #[.int .u64 a0] rfl (by simp only [List.map_toArray, List.map_cons, List.map_nil] <;> rfl) ?_; (with_reducible refine (tabardref5_endless.calls k a0 true _ A7.out).mono ?_); rintro e w' ⟨rfl, ⟨nd, rfl⟩⟩; refine ⟨_, rfl, ?_⟩))
      go_meet
      case rel => exact ⟨_, (true), (by first | rfl | (simp; done) | (simp [*]; done)), H', ⟨by first | omega | exact Nat.le_refl _⟩, ⟨by repeat (first | (with_reducible first | exact HB.out | apply below_alloc | apply pw_below_drewN | apply below_drew1) | exact HB.out)⟩⟩
    · replace c8 := Bool.eq_false_iff.mpr c8
      subst c8
      rw [if_neg (show ¬ (false = true) by decide)] at H
      replace H := Option.bind_eq_some_iff.mp H
      obtain ⟨t434, A90, H⟩ := H
      try dsimp only at H
      have A9 := Aside0.mk A90
      clear A90
      have H' := Aside0.mk H
      clear H
      go_wp2_with (first | ((with_reducible refine gate_callee (f := 85) rfl ?_); refine goesL_ (some 24) rfl rfl Try.func85 (by kernel_rfl) rfl #[.int .u64 a0] rfl (by simp only [List.map_toArray, List.map_cons, List.map_nil] <;> rfl) ?_; (with_reducible refine (tabardref5_endless.calls k a0 false _ A7.out).mono ?_); rintro e w' ⟨rfl, ⟨nd, rfl⟩⟩; refine ⟨_, rfl, ?_⟩) | (go_at_call 85; (with_reducible refine (tabardref5_endless.calls k a1 t434 _ A9.out).mono ?_); rintro e w' ⟨rfl, ⟨nd, rfl⟩⟩))
      go_meet
      case rel => exact ⟨_, (t434), (by first | rfl | (simp; done) | (simp [*]; done)), H', ⟨by first | omega | exact Nat.le_refl _⟩, ⟨by repeat (first | (with_reducible first | exact HB.out | apply below_alloc | apply pw_below_drewN | apply below_drew1) | exact HB.out)⟩⟩
  case rest =>
    clear HC6
    try clear p2
    try clear c5
    try clear c7
    try clear c8
    obtain ⟨kq, x8_5, rfl, HA, HJ5, HB⟩ := hcut
    cases kq with
    | zero => exact absurd HA.out (by simp [tabardref5_Fma.j0])
    | succ kj5 =>
      have H := HA.out
      clear HA
      simp only [tabardref5_Fma.j0] at H
      have HC10 := Aside0.mk H
      clear H
      go_upto_region 3 with (fail)
      go_cut [29] (fun v29 wc => ∃ (kq : Nat) (x29_9 : Bool), v29 = .bool x29_9 ∧ Aside0 (tabardref5_Fma.j1 kq a0 a1 a2 (t431 != t432) x8_5 x29_9 = some r) ∧ Aside0 (kq ≤ kj5) ∧ Aside0 (Below w.heap.size w wc))
      case first =>
        have H := HC10.out
        clear HC10
        replace H := Option.bind_eq_some_iff.mp H
        obtain ⟨t435, A110, H⟩ := H
        try dsimp only at H
        have A11 := Aside0.mk A110
        clear A110
        by_cases c12 : t435 = true
        · subst c12
          rw [if_pos rfl] at H
          have H' := Aside0.mk H
          clear H
          go_wp2_with (first | ((with_reducible refine gate_callee (f := 84) rfl ?_); refine goesL_ (some 31) rfl rfl Try.func84 (by kernel_rfl) rfl #[.int .u64 a0] rfl (by simp only [List.map_toArray, List.map_cons, List.map_nil] <;> rfl) ?_; (with_reducible refine (tabardref5_none.calls kj5 a0 true _ A11.out).mono ?_); rintro e w' ⟨rfl, ⟨nd, rfl⟩⟩; refine ⟨_, rfl, ?_⟩))
          go_meet
          case rel => exact ⟨_, (true), (by first | rfl | (simp; done) | (simp [*]; done)), H', ⟨by have := HJ5.out; first | omega | exact Nat.le_refl _⟩, ⟨by repeat (first | (with_reducible first | exact HB.out | apply below_alloc | apply pw_below_drewN | apply below_drew1) | exact HB.out)⟩⟩
        · replace c12 := Bool.eq_false_iff.mpr c12
          subst c12
          rw [if_neg (show ¬ (false = true) by decide)] at H
          replace H := Option.bind_eq_some_iff.mp H
          obtain ⟨t436, A130, H⟩ := H
          try dsimp only at H
          have A13 := Aside0.mk A130
          clear A130
          by_cases c14 : t436 = true
          · subst c14
            rw [if_pos rfl] at H
            have H' := Aside0.mk H
            clear H
            go_wp2_with (first | ((with_reducible refine gate_callee (f := 84) rfl ?_); refine goesL_ (some 31) rfl rfl Try.func84 (by kernel_rfl) rfl #[.int .u64 a0] rfl (by simp only [List.map_toArray, List.map_cons, List.map_nil] <;> rfl) ?_; (with_reducible refine (tabardref5_none.calls kj5 a0 false _ A11.out).mono ?_); rintro e w' ⟨rfl, ⟨nd, rfl⟩⟩; refine ⟨_, rfl, ?_⟩) | (go_at_call 84; (with_reducible refine (tabardref5_none.calls kj5 a1 true _ A13.out).mono ?_); rintro e w' ⟨rfl, ⟨nd, rfl⟩⟩))
            go_meet
            case rel => exact ⟨_, (true), (by first | rfl | (simp; done) | (simp [*]; done)), H', ⟨by have := HJ5.out; first | omega | exact Nat.le_refl _⟩, ⟨by repeat (first | (with_reducible first | exact HB.out | apply below_alloc | apply pw_below_drewN | apply below_drew1) | exact HB.out)⟩⟩
          · replace c14 := Bool.eq_false_iff.mpr c14
            subst c14
            rw [if_neg (show ¬ (false = true) by decide)] at H
            replace H := Option.bind_eq_some_iff.mp H
            obtain ⟨t437, A150, H⟩ := H
            try dsimp only at H
            have A15 := Aside0.mk A150
            clear A150
            by_cases c16 : t437 = true
            · subst c16
              rw [if_pos rfl] at H
              have H' := Aside0.mk H
              clear H
              go_wp2_with (first | ((with_reducible refine gate_callee (f := 84) rfl ?_); refine goesL_ (some 31) rfl rfl Try.func84 (by kernel_rfl) rfl #[.int .u64 a0] rfl (by simp only [List.map_toArray, List.map_cons, List.map_nil] <;> rfl) ?_; (with_reducible refine (tabardref5_none.calls kj5 a0 false _ A11.out).mono ?_); rintro e w' ⟨rfl, ⟨nd, rfl⟩⟩; refine ⟨_, rfl, ?_⟩) | (go_at_call 84; (with_reducible refine (tabardref5_none.calls kj5 a1 false _ A13.out).mono ?_); rintro e w' ⟨rfl, ⟨nd, rfl⟩⟩) | (go_at_call 84; (with_reducible refine (tabardref5_none.calls kj5 a2 true _ A15.out).mono ?_); rintro e w' ⟨rfl, ⟨nd, rfl⟩⟩))
              go_meet
              case rel => exact ⟨_, (true), (by first | rfl | (simp; done) | (simp [*]; done)), H', ⟨by have := HJ5.out; first | omega | exact Nat.le_refl _⟩, ⟨by repeat (first | (with_reducible first | exact HB.out | apply below_alloc | apply pw_below_drewN | apply below_drew1) | exact HB.out)⟩⟩
            · replace c16 := Bool.eq_false_iff.mpr c16
              subst c16
              rw [if_neg (show ¬ (false = true) by decide)] at H
              by_cases c17 : x8_5 = true
              · subst c17
                rw [if_pos rfl] at H
                replace H := Option.bind_eq_some_iff.mp H
                obtain ⟨t438, A180, H⟩ := H
                try dsimp only at H
                have A18 := Aside0.mk A180
                clear A180
                by_cases c19 : t438 = true
                · subst c19
                  rw [if_pos rfl] at H
                  have H' := Aside0.mk H
                  clear H
                  go_wp2_with (first | ((with_reducible refine gate_callee (f := 84) rfl ?_); refine goesL_ (some 31) rfl rfl Try.func84 (by kernel_rfl) rfl #[.int .u64 a0] rfl (by simp only [List.map_toArray, List.map_cons, List.map_nil] <;> rfl) ?_; (with_reducible refine (tabardref5_none.calls kj5 a0 false _ A11.out).mono ?_); rintro e w' ⟨rfl, ⟨nd, rfl⟩⟩; refine ⟨_, rfl, ?_⟩) | (go_at_call 84; (with_reducible refine (tabardref5_none.calls kj5 a1 false _ A13.out).mono ?_); rintro e w' ⟨rfl, ⟨nd, rfl⟩⟩) | (go_at_call 84; (with_reducible refine (tabardref5_none.calls kj5 a2 false _ A15.out).mono ?_); rintro e w' ⟨rfl, ⟨nd, rfl⟩⟩) | (go_at_call 86; (with_reducible refine (tabardref5_zero.calls kj5 a0 true _ A18.out).mono ?_); rintro e w' ⟨rfl, ⟨nd, rfl⟩⟩))
                  go_meet
                  case rel => exact ⟨_, (true), (by first | rfl | (simp; done) | (simp [*]; done)), H', ⟨by have := HJ5.out; first | omega | exact Nat.le_refl _⟩, ⟨by repeat (first | (with_reducible first | exact HB.out | apply below_alloc | apply pw_below_drewN | apply below_drew1) | exact HB.out)⟩⟩
                · replace c19 := Bool.eq_false_iff.mpr c19
                  subst c19
                  rw [if_neg (show ¬ (false = true) by decide)] at H
                  replace H := Option.bind_eq_some_iff.mp H
                  obtain ⟨t439, A200, H⟩ := H
                  try dsimp only at H
                  have A20 := Aside0.mk A200
                  clear A200
                  by_cases c21 : t439 = true
                  · subst c21
                    rw [if_pos rfl] at H
                    have H' := Aside0.mk H
                    clear H
                    go_wp2_with (first | ((with_reducible refine gate_callee (f := 84) rfl ?_); refine goesL_ (some 31) rfl rfl Try.func84 (by kernel_rfl) rfl #[.int .u64 a0] rfl (by simp only [List.map_toArray, List.map_cons, List.map_nil] <;> rfl) ?_; (with_reducible refine (tabardref5_none.calls kj5 a0 false _ A11.out).mono ?_); rintro e w' ⟨rfl, ⟨nd, rfl⟩⟩; refine ⟨_, rfl, ?_⟩) | (go_at_call 84; (with_reducible refine (tabardref5_none.calls kj5 a1 false _ A13.out).mono ?_); rintro e w' ⟨rfl, ⟨nd, rfl⟩⟩) | (go_at_call 84; (with_reducible refine (tabardref5_none.calls kj5 a2 false _ A15.out).mono ?_); rintro e w' ⟨rfl, ⟨nd, rfl⟩⟩) | (go_at_call 86; (with_reducible refine (tabardref5_zero.calls kj5 a0 false _ A18.out).mono ?_); rintro e w' ⟨rfl, ⟨nd, rfl⟩⟩) | (go_at_call 86; (with_reducible refine (tabardref5_zero.calls kj5 a1 true _ A20.out).mono ?_); rintro e w' ⟨rfl, ⟨nd, rfl⟩⟩))
                    go_meet
                    case rel => exact ⟨_, (true), (by first | rfl | (simp; done) | (simp [*]; done)), H', ⟨by have := HJ5.out; first | omega | exact Nat.le_refl _⟩, ⟨by repeat (first | (with_reducible first | exact HB.out | apply below_alloc | apply pw_below_drewN | apply below_drew1) | exact HB.out)⟩⟩
                  · replace c21 := Bool.eq_false_iff.mpr c21
                    subst c21
                    rw [if_neg (show ¬ (false = true) by decide)] at H
                    replace H := Option.bind_eq_some_iff.mp H
                    obtain ⟨t440, A220, H⟩ := H
                    try dsimp only at H
                    have A22 := Aside0.mk A220
                    clear A220
                    by_cases c23 : t440 = true
                    · subst c23
                      rw [if_pos rfl] at H
                      replace H := Option.bind_eq_some_iff.mp H
                      obtain ⟨t441, A240, H⟩ := H
                      try dsimp only at H
                      have A24 := Aside0.mk A240
                      clear A240
                      have H' := Aside0.mk H
                      clear H
                      go_wp2_with (first | ((with_reducible refine gate_callee (f := 84) rfl ?_); refine goesL_ (some 31) rfl rfl Try.func84 (by kernel_rfl) rfl #[.int .u64 a0] rfl (by simp only [List.map_toArray, List.map_cons, List.map_nil] <;> rfl) ?_; (with_reducible refine (tabardref5_none.calls kj5 a0 false _ A11.out).mono ?_); rintro e w' ⟨rfl, ⟨nd, rfl⟩⟩; refine ⟨_, rfl, ?_⟩) | (go_at_call 84; (with_reducible refine (tabardref5_none.calls kj5 a1 false _ A13.out).mono ?_); rintro e w' ⟨rfl, ⟨nd, rfl⟩⟩) | (go_at_call 84; (with_reducible refine (tabardref5_none.calls kj5 a2 false _ A15.out).mono ?_); rintro e w' ⟨rfl, ⟨nd, rfl⟩⟩) | (go_at_call 86; (with_reducible refine (tabardref5_zero.calls kj5 a0 false _ A18.out).mono ?_); rintro e w' ⟨rfl, ⟨nd, rfl⟩⟩) | (go_at_call 86; (with_reducible refine (tabardref5_zero.calls kj5 a1 false _ A20.out).mono ?_); rintro e w' ⟨rfl, ⟨nd, rfl⟩⟩) | (go_at_call 85; (with_reducible refine (tabardref5_endless.calls kj5 a2 true _ A22.out).mono ?_); rintro e w' ⟨rfl, ⟨nd, rfl⟩⟩) | (go_at_call 71; (with_reducible refine (tabardref3_Is.calls a2 t441 _ A24.out).mono ?_); rintro e w' ⟨rfl, ⟨nd, rfl⟩⟩))
                      go_meet
                      case rel => exact ⟨_, ((t441 != (t431 != t432))), (by first | rfl | (simp; done) | (simp [*]; done)), H', ⟨by have := HJ5.out; first | omega | exact Nat.le_refl _⟩, ⟨by repeat (first | (with_reducible first | exact HB.out | apply below_alloc | apply pw_below_drewN | apply below_drew1) | exact HB.out)⟩⟩
                    · replace c23 := Bool.eq_false_iff.mpr c23
                      subst c23
                      rw [if_neg (show ¬ (false = true) by decide)] at H
                      have H' := Aside0.mk H
                      clear H
                      go_wp2_with (first | ((with_reducible refine gate_callee (f := 84) rfl ?_); refine goesL_ (some 31) rfl rfl Try.func84 (by kernel_rfl) rfl #[.int .u64 a0] rfl (by simp only [List.map_toArray, List.map_cons, List.map_nil] <;> rfl) ?_; (with_reducible refine (tabardref5_none.calls kj5 a0 false _ A11.out).mono ?_); rintro e w' ⟨rfl, ⟨nd, rfl⟩⟩; refine ⟨_, rfl, ?_⟩) | (go_at_call 84; (with_reducible refine (tabardref5_none.calls kj5 a1 false _ A13.out).mono ?_); rintro e w' ⟨rfl, ⟨nd, rfl⟩⟩) | (go_at_call 84; (with_reducible refine (tabardref5_none.calls kj5 a2 false _ A15.out).mono ?_); rintro e w' ⟨rfl, ⟨nd, rfl⟩⟩) | (go_at_call 86; (with_reducible refine (tabardref5_zero.calls kj5 a0 false _ A18.out).mono ?_); rintro e w' ⟨rfl, ⟨nd, rfl⟩⟩) | (go_at_call 86; (with_reducible refine (tabardref5_zero.calls kj5 a1 false _ A20.out).mono ?_); rintro e w' ⟨rfl, ⟨nd, rfl⟩⟩) | (go_at_call 85; (with_reducible refine (tabardref5_endless.calls kj5 a2 false _ A22.out).mono ?_); rintro e w' ⟨rfl, ⟨nd, rfl⟩⟩))
                      go_meet
                      case rel => exact ⟨_, (false), (by first | rfl | (simp; done) | (simp [*]; done)), H', ⟨by have := HJ5.out; first | omega | exact Nat.le_refl _⟩, ⟨by repeat (first | (with_reducible first | exact HB.out | apply below_alloc | apply pw_below_drewN | apply below_drew1) | exact HB.out)⟩⟩
              · replace c17 := Bool.eq_false_iff.mpr c17
                subst c17
                rw [if_neg (show ¬ (false = true) by decide)] at H
                have H' := Aside0.mk H
                clear H
                go_wp2_with (first | ((with_reducible refine gate_callee (f := 84) rfl ?_); refine goesL_ (some 31) rfl rfl Try.func84 (by kernel_rfl) rfl #[.int .u64 a0] rfl (by simp only [List.map_toArray, List.map_cons, List.map_nil] <;> rfl) ?_; (with_reducible refine (tabardref5_none.calls kj5 a0 false _ A11.out).mono ?_); rintro e w' ⟨rfl, ⟨nd, rfl⟩⟩; refine ⟨_, rfl, ?_⟩) | (go_at_call 84; (with_reducible refine (tabardref5_none.calls kj5 a1 false _ A13.out).mono ?_); rintro e w' ⟨rfl, ⟨nd, rfl⟩⟩) | (go_at_call 84; (with_reducible refine (tabardref5_none.calls kj5 a2 false _ A15.out).mono ?_); rintro e w' ⟨rfl, ⟨nd, rfl⟩⟩))
                go_meet
                case rel => exact ⟨_, (false), (by first | rfl | (simp; done) | (simp [*]; done)), H', ⟨by have := HJ5.out; first | omega | exact Nat.le_refl _⟩, ⟨by repeat (first | (with_reducible first | exact HB.out | apply below_alloc | apply pw_below_drewN | apply below_drew1) | exact HB.out)⟩⟩
      case rest =>
        clear HC10
        try clear c1
        try clear c2
        try clear p2
        try clear c5
        try clear c7
        try clear c8
        try clear c12
        try clear c14
        try clear c16
        try clear c17
        try clear c19
        try clear c21
        try clear c23
        try clear p2
        obtain ⟨kq, x29_9, rfl, HA, HJ9, HB⟩ := hcut
        cases kq with
        | zero => exact absurd HA.out (by simp [tabardref5_Fma.j1])
        | succ kj9 =>
          have H := HA.out
          clear HA
          simp only [tabardref5_Fma.j1] at H
          by_cases c25 : x29_9 = true
          · subst c25
            rw [if_pos rfl] at H
            obtain rfl := Option.some.inj H
            go_wp2
            go_ret
            exact ⟨by first | rfl | (simp <;> rfl) | (simp [*] <;> rfl), by repeat (first | (with_reducible first | exact HB.out | apply below_alloc | apply pw_below_drewN | apply below_drew1) | exact HB.out)⟩
          · replace c25 := Bool.eq_false_iff.mpr c25
            subst c25
            rw [if_neg (show ¬ (false = true) by decide)] at H
            by_cases c26 : x8_5 = true
            · subst c26
              rw [if_pos rfl] at H
              replace H := Option.bind_eq_some_iff.mp H
              obtain ⟨t442, A270, H⟩ := H
              try dsimp only at H
              have A27 := Aside0.mk A270
              clear A270
              obtain rfl := Option.some.inj H
              go_wp2_with (first | ((with_reducible refine gate_callee (f := 87) rfl ?_); refine goesL_ (some 67) rfl rfl Try.func87 (by kernel_rfl) rfl #[.bool (t431 != t432), .int .u64 9218868437227405312] rfl (by simp only [List.map_toArray, List.map_cons, List.map_nil] <;> rfl) ?_; (with_reducible refine (tabardref5_with.calls (t431 != t432) 9218868437227405312 t442 _ A27.out).mono ?_); rintro e w' ⟨rfl, ⟨nd, rfl⟩⟩; refine ⟨_, rfl, ?_⟩))
              go_ret
              exact ⟨by first | rfl | (simp <;> rfl) | (simp [*] <;> rfl), by repeat (first | (with_reducible first | exact HB.out | apply below_alloc | apply pw_below_drewN | apply below_drew1) | exact HB.out)⟩
            · replace c26 := Bool.eq_false_iff.mpr c26
              subst c26
              rw [if_neg (show ¬ (false = true) by decide)] at H
              replace H := Option.bind_eq_some_iff.mp H
              obtain ⟨t443, A280, H⟩ := H
              try dsimp only at H
              have A28 := Aside0.mk A280
              clear A280
              by_cases c29 : t443 = true
              · subst c29
                rw [if_pos rfl] at H
                obtain rfl := Option.some.inj H
                go_wp2_with (first | ((with_reducible refine gate_callee (f := 85) rfl ?_); refine goesL_ (some 70) rfl rfl Try.func85 (by kernel_rfl) rfl #[.int .u64 a2] rfl (by simp only [List.map_toArray, List.map_cons, List.map_nil] <;> rfl) ?_; (with_reducible refine (tabardref5_endless.calls kj9 a2 true _ A28.out).mono ?_); rintro e w' ⟨rfl, ⟨nd, rfl⟩⟩; refine ⟨_, rfl, ?_⟩))
                go_ret
                exact ⟨by first | rfl | (simp <;> rfl) | (simp [*] <;> rfl), by repeat (first | (with_reducible first | exact HB.out | apply below_alloc | apply pw_below_drewN | apply below_drew1) | exact HB.out)⟩
              · replace c29 := Bool.eq_false_iff.mpr c29
                subst c29
                rw [if_neg (show ¬ (false = true) by decide)] at H
                replace H := Option.bind_eq_some_iff.mp H
                obtain ⟨⟨t444, t445, t446⟩, A300, H⟩ := H
                try dsimp only at H
                have A30 := Aside0.mk A300
                clear A300
                replace H := Option.bind_eq_some_iff.mp H
                obtain ⟨⟨t447, t448, t449⟩, A310, H⟩ := H
                try dsimp only at H
                have A31 := Aside0.mk A310
                clear A310
                replace H := Option.bind_eq_some_iff.mp H
                obtain ⟨t450, A320, H⟩ := H
                try dsimp only at H
                have A32 := Aside0.mk A320
                clear A320
                replace H := Option.bind_eq_some_iff.mp H
                obtain ⟨t453, A330, H⟩ := H
                try dsimp only at H
                have A33 := Aside0.mk A330
                clear A330
                replace H := Option.bind_eq_some_iff.mp H
                obtain ⟨t456, A340, H⟩ := H
                try dsimp only at H
                have A34 := Aside0.mk A340
                clear A340
                replace H := Option.bind_eq_some_iff.mp H
                obtain ⟨t459, A350, H⟩ := H
                try dsimp only at H
                have A35 := Aside0.mk A350
                clear A350
                replace H := Option.bind_eq_some_iff.mp H
                obtain ⟨⟨t463, t464⟩, A360, H⟩ := H
                try dsimp only at H
                have A36 := Aside0.mk A360
                clear A360
                replace H := Option.bind_eq_some_iff.mp H
                obtain ⟨t468, A370, H⟩ := H
                try dsimp only at H
                have A37 := Aside0.mk A370
                clear A370
                replace H := Option.bind_eq_some_iff.mp H
                obtain ⟨⟨t471, t472⟩, A380, H⟩ := H
                try dsimp only at H
                have A38 := Aside0.mk A380
                clear A380
                have HC38 := Aside0.mk H
                clear H
                go_upto_region 14 with (first | ((with_reducible refine gate_callee (f := 85) rfl ?_); refine goesL_ (some 70) rfl rfl Try.func85 (by kernel_rfl) rfl #[.int .u64 a2] rfl (by simp only [List.map_toArray, List.map_cons, List.map_nil] <;> rfl) ?_; (with_reducible refine (tabardref5_endless.calls kj9 a2 false _ A28.out).mono ?_); rintro e w' ⟨rfl, ⟨nd, rfl⟩⟩; refine ⟨_, rfl, ?_⟩; (try (rw [drewN_self wc]; generalize hq_ : World.drewN wc _ = wc; have n0_ : Aside0 (Below w.heap.size w wc) := ⟨by rw [← hq_]; exact (by repeat (first | (with_reducible first | exact HB.out | apply below_alloc | apply pw_below_drewN | apply below_drew1) | exact HB.out))⟩; clear HB hq_; have HB := n0_; clear n0_))) | ((with_reducible refine gate_callee (f := 55) rfl ?_); refine goesL_ (some 74) rfl rfl Try.func55 (by kernel_rfl) rfl #[.int .u64 a0] rfl (by simp only [List.map_toArray, List.map_cons, List.map_nil] <;> rfl) ?_; (with_reducible refine (tabardref3_Split.calls kj9 a0 t444 t445 t446 _ A30.out).mono ?_); rintro e w' ⟨rfl, ⟨nd, rfl⟩⟩; refine ⟨_, rfl, ?_⟩; (try (rw [drewN_self wc]; generalize hq_ : World.drewN wc _ = wc; have n0_ : Aside0 (Below w.heap.size w wc) := ⟨by rw [← hq_]; exact (by repeat (first | (with_reducible first | exact HB.out | apply below_alloc | apply pw_below_drewN | apply below_drew1) | exact HB.out))⟩; clear HB hq_; have HB := n0_; clear n0_))) | ((with_reducible refine gate_callee (f := 55) rfl ?_); refine goesL_ (some 80) rfl rfl Try.func55 (by kernel_rfl) rfl #[.int .u64 a1] rfl (by simp only [List.map_toArray, List.map_cons, List.map_nil] <;> rfl) ?_; (with_reducible refine (tabardref3_Split.calls kj9 a1 t447 t448 t449 _ A31.out).mono ?_); rintro e w' ⟨rfl, ⟨nd, rfl⟩⟩; refine ⟨_, rfl, ?_⟩; (try (rw [drewN_self wc]; generalize hq_ : World.drewN wc _ = wc; have n0_ : Aside0 (Below w.heap.size w wc) := ⟨by rw [← hq_]; exact (by repeat (first | (with_reducible first | exact HB.out | apply below_alloc | apply pw_below_drewN | apply below_drew1) | exact HB.out))⟩; clear HB hq_; have HB := n0_; clear n0_))) | ((with_reducible refine gate_callee (f := 76) rfl ?_); refine goesL_ (some 86) rfl rfl Try.func76 (by kernel_rfl) rfl #[.int .u64 t445] rfl (by simp only [List.map_toArray, List.map_cons, List.map_nil] <;> rfl) ?_; (with_reducible refine (tabardref3_Nat.calls kj9 t445 t450 _ A32.out).mono ?_); rintro e w280 ⟨v451, rfl, ho0, hb⟩; refine ⟨_, rfl, ?_⟩; have n0_ := Aside0.mk (Kd.R_lower ho0 (below_size (by repeat (first | (with_reducible first | exact HB.out | apply below_alloc | apply pw_below_drewN | apply below_drew1) | exact HB.out)))); have n1_ := Aside0.mk (below_step (by repeat (first | (with_reducible first | exact HB.out | apply below_alloc | apply pw_below_drewN | apply below_drew1) | exact HB.out)) hb); clear HB; have HO452 := n0_; have HB := n1_; clear n0_ n1_; (try clear hb); (try clear hb2); (try clear hk); (try clear hi); (try clear ho0)) | ((with_reducible refine gate_callee (f := 76) rfl ?_); refine goesL_ (some 88) rfl rfl Try.func76 (by kernel_rfl) rfl #[.int .u64 t448] rfl (by simp only [List.map_toArray, List.map_cons, List.map_nil] <;> rfl) ?_; (with_reducible refine (tabardref3_Nat.calls kj9 t448 t453 _ A33.out).mono ?_); rintro e w281 ⟨v454, rfl, ho0, hb⟩; refine ⟨_, rfl, ?_⟩; have n0_ := Aside0.mk (Kd.R_elder' (by (with_reducible repeat (first | apply Kd.R_alloc | apply Kd.R_drewN | apply Kd.R_drew)); exact HO452.out) (Kd.R_base ho0) hb); have n1_ := Aside0.mk (Kd.R_lower (Kd.R_new' ho0 (Kd.R_lt (by (with_reducible repeat (first | apply Kd.R_alloc | apply Kd.R_drewN | apply Kd.R_drew)); exact HO452.out))) (below_size (by repeat (first | (with_reducible first | exact HB.out | apply below_alloc | apply pw_below_drewN | apply below_drew1) | exact HB.out)))); have n2_ := Aside0.mk (below_step (by repeat (first | (with_reducible first | exact HB.out | apply below_alloc | apply pw_below_drewN | apply below_drew1) | exact HB.out)) hb); clear HO452; clear HB; have HO452 := n0_; have HO455 := n1_; have HB := n2_; clear n0_ n1_ n2_; (try clear hb); (try clear hb2); (try clear hk); (try clear hi); (try clear ho0); obtain ⟨Ao282, co282, eo282⟩ := Kd.R_slice HO452.out; subst eo282; obtain ⟨Ao283, co283, eo283⟩ := Kd.R_slice HO455.out; subst eo283) | ((with_reducible refine gate_callee (f := 94) rfl ?_); refine goesL_ (some 89) rfl rfl Try.func94 (by kernel_rfl) rfl #[.slice Ao282 t450.length co282, .slice Ao283 t453.length co283] rfl (by simp only [List.map_toArray, List.map_cons, List.map_nil] <;> rfl) ?_; (with_reducible refine (tabardref1_Times.calls kj9 _ _ t450 _ _ t453 t456 _ ?side1 ?side2 ?side3 ?side4 A34.out).mono ?_); (case side1 => repeat (first | exact (Kd.R_reads' HO452.out).2.2 | (with_reducible refine Kd.C_alloc ?_ _) | (with_reducible refine Kd.C_drewN ?_ _) | (with_reducible refine Kd.C_drew ?_))); (case side2 => exact (Kd.R_reads' HO452.out).2.1); (case side3 => repeat (first | exact (Kd.R_reads' HO455.out).2.2 | (with_reducible refine Kd.C_alloc ?_ _) | (with_reducible refine Kd.C_drewN ?_ _) | (with_reducible refine Kd.C_drew ?_))); (case side4 => exact (Kd.R_reads' HO455.out).2.1); rintro e w284 ⟨v457, rfl, ho0, hb⟩; refine ⟨_, rfl, ?_⟩; have n0_ := Aside0.mk (Kd.R_elder' (by (with_reducible repeat (first | apply Kd.R_alloc | apply Kd.R_drewN | apply Kd.R_drew)); exact HO452.out) (Kd.R_base ho0) hb); have n1_ := Aside0.mk (Kd.R_elder' (by (with_reducible repeat (first | apply Kd.R_alloc | apply Kd.R_drewN | apply Kd.R_drew)); exact HO455.out) (Kd.R_base ho0) hb); have n2_ := Aside0.mk (Kd.R_lower (Kd.R_new' (Kd.R_new' ho0 (Kd.R_lt (by (with_reducible repeat (first | apply Kd.R_alloc | apply Kd.R_drewN | apply Kd.R_drew)); exact HO452.out))) (Kd.R_lt (by (with_reducible repeat (first | apply Kd.R_alloc | apply Kd.R_drewN | apply Kd.R_drew)); exact HO455.out))) (below_size (by repeat (first | (with_reducible first | exact HB.out | apply below_alloc | apply pw_below_drewN | apply below_drew1) | exact HB.out)))); have n3_ := Aside0.mk (below_step (by repeat (first | (with_reducible first | exact HB.out | apply below_alloc | apply pw_below_drewN | apply below_drew1) | exact HB.out)) hb); clear HO452; clear HO455; clear HB; have HO452 := n0_; have HO455 := n1_; have HO458 := n2_; have HB := n3_; clear n0_ n1_ n2_ n3_; (try clear hb); (try clear hb2); (try clear hk); (try clear hi); (try clear ho0); obtain ⟨Ao285, co285, eo285⟩ := Kd.R_slice HO458.out; subst eo285) | ((with_reducible refine gate_callee (f := 89) rfl ?_); refine goesL_ (some 94) rfl rfl Try.func89 (by kernel_rfl) rfl #[.slice Ao285 t456.length co285, .int .i64 (wrap64 ((wrap64 (t446 + t449)) + 2148))] rfl (by simp only [List.map_toArray, List.map_cons, List.map_nil] <;> rfl) ?_; (with_reducible refine (tabardref3_Up.calls kj9 _ _ t456 (wrap64 ((wrap64 (t446 + t449)) + 2148)) t459 _ ?side1 ?side2 A35.out).mono ?_); (case side1 => repeat (first | exact (Kd.R_reads' HO458.out).2.2 | (with_reducible refine Kd.C_alloc ?_ _) | (with_reducible refine Kd.C_drewN ?_ _) | (with_reducible refine Kd.C_drew ?_))); (case side2 => exact (Kd.R_reads' HO458.out).2.1); rintro e w286 ⟨v460, rfl, ho0, hb⟩; refine ⟨_, rfl, ?_⟩; have n0_ := Aside0.mk (Kd.R_elder' (by (with_reducible repeat (first | apply Kd.R_alloc | apply Kd.R_drewN | apply Kd.R_drew)); exact HO452.out) (Kd.R_base ho0) hb); have n1_ := Aside0.mk (Kd.R_elder' (by (with_reducible repeat (first | apply Kd.R_alloc | apply Kd.R_drewN | apply Kd.R_drew)); exact HO455.out) (Kd.R_base ho0) hb); have n2_ := Aside0.mk (Kd.R_elder' (by (with_reducible repeat (first | apply Kd.R_alloc | apply Kd.R_drewN | apply Kd.R_drew)); exact HO458.out) (Kd.R_base ho0) hb); have n3_ := Aside0.mk (Kd.R_lower (Kd.R_new' (Kd.R_new' (Kd.R_new' ho0 (Kd.R_lt (by (with_reducible repeat (first | apply Kd.R_alloc | apply Kd.R_drewN | apply Kd.R_drew)); exact HO452.out))) (Kd.R_lt (by (with_reducible repeat (first | apply Kd.R_alloc | apply Kd.R_drewN | apply Kd.R_drew)); exact HO455.out))) (Kd.R_lt (by (with_reducible repeat (first | apply Kd.R_alloc | apply Kd.R_drewN | apply Kd.R_drew)); exact HO458.out))) (below_size (by repeat (first | (with_reducible first | exact HB.out | apply below_alloc | apply pw_below_drewN | apply below_drew1) | exact HB.out)))); have n4_ := Aside0.mk (below_step (by repeat (first | (with_reducible first | exact HB.out | apply below_alloc | apply pw_below_drewN | apply below_drew1) | exact HB.out)) hb); clear HO452; clear HO455; clear HO458; clear HB; have HO452 := n0_; have HO455 := n1_; have HO458 := n2_; have HO461 := n3_; have HB := n4_; clear n0_ n1_ n2_ n3_ n4_; (try clear hb); (try clear hb2); (try clear hk); (try clear hi); (try clear ho0); obtain ⟨Ao287, co287, eo287⟩ := Kd.R_slice HO461.out; subst eo287) | ((with_reducible refine gate_dst (N := 15) rfl ?_); refine box_event ?hg (N := 15) ?hd (cs := #[.bool false, .slice none 0 0]) (t := 85) ?hr ?_; (case hd => rfl); (case hg => rfl); (case hr => first | (go_simp; done) | (go_simp; rfl)); intro gb462 hg w288 hbox hb; have n0_ := Aside0.mk (Kd.R_below (by (with_reducible repeat (first | apply Kd.R_alloc | apply Kd.R_drewN | apply Kd.R_drew)); exact HO452.out) hb); have n1_ := Aside0.mk (Kd.R_below (by (with_reducible repeat (first | apply Kd.R_alloc | apply Kd.R_drewN | apply Kd.R_drew)); exact HO455.out) hb); have n2_ := Aside0.mk (Kd.R_below (by (with_reducible repeat (first | apply Kd.R_alloc | apply Kd.R_drewN | apply Kd.R_drew)); exact HO458.out) hb); have n3_ := Aside0.mk (Kd.R_below (by (with_reducible repeat (first | apply Kd.R_alloc | apply Kd.R_drewN | apply Kd.R_drew)); exact HO461.out) hb); have n4_ := Aside0.mk (below_step (by repeat (first | (with_reducible first | exact HB.out | apply below_alloc | apply pw_below_drewN | apply below_drew1) | exact HB.out)) hb); have n5_ := Aside0.mk (hbox); have n6_ := Aside0.mk ((by rw [hg]; exact (below_size (by repeat (first | (with_reducible first | exact HB.out | apply below_alloc | apply pw_below_drewN | apply below_drew1) | exact HB.out))) : w.heap.size ≤ gb462)); have n7_ := Aside0.mk ((by rw [hg]; exact (below_size (by repeat (first | (with_reducible first | exact HB.out | apply below_alloc | apply pw_below_drewN | apply below_drew1) | exact HB.out))) : w.heap.size ≤ gb462)); clear HO452; clear HO455; clear HO458; clear HO461; clear HB; have HO452 := n0_; have HO455 := n1_; have HO458 := n2_; have HO461 := n3_; have HB := n4_; have BK462 := n5_; have GW462 := n6_; have GE462 := n7_; clear n0_ n1_ n2_ n3_ n4_ n5_ n6_ n7_; clear hb hbox hg; have hcz289_0 : w288.cell? ⟨gb462, 0, none⟩ = some (.bool false) := (blk_cell BK462.out 0).trans rfl; have hcz289_1 : w288.cell? ⟨gb462, 1, none⟩ = some (.slice none 0 0) := (blk_cell BK462.out 1).trans rfl; have hfz289_0 := blk_frozen BK462.out 0; have hfz289_1 := blk_frozen BK462.out 1) | ((with_reducible refine gate_callee (f := 100) rfl ?_); refine goesL_ (some 97) rfl rfl Try.func100 (by kernel_rfl) rfl #[.int .u64 a2] rfl (by simp only [List.map_toArray, List.map_cons, List.map_nil] <;> rfl) ?_; (with_reducible refine (tabardref4_Exact.calls kj9 a2 t463 t464 _ A36.out).mono ?_); rintro e w290 ⟨v465, rfl, ho0, hb⟩; refine ⟨_, rfl, ?_⟩; have n0_ := Aside0.mk (Kd.R_elder' (by (with_reducible repeat (first | apply Kd.R_alloc | apply Kd.R_drewN | apply Kd.R_drew)); exact (Kd.R_mono (Kd.R_far (p := ⟨gb462, 1, none⟩) (Kd.R_far (p := ⟨gb462, 0, none⟩) (Kd.R_types HO452.out BK462.out (by decide)) (fun _ hk => hk.2) (.bool (t431 != t432))) (fun _ hk => hk.2) (.slice Ao287 t459.length co287)) (fun _ h_ => h_.1))) (Kd.R_base ho0) hb); have n1_ := Aside0.mk (Kd.R_elder' (by (with_reducible repeat (first | apply Kd.R_alloc | apply Kd.R_drewN | apply Kd.R_drew)); exact (Kd.R_mono (Kd.R_far (p := ⟨gb462, 1, none⟩) (Kd.R_far (p := ⟨gb462, 0, none⟩) (Kd.R_types HO455.out BK462.out (by decide)) (fun _ hk => hk.2) (.bool (t431 != t432))) (fun _ hk => hk.2) (.slice Ao287 t459.length co287)) (fun _ h_ => h_.1))) (Kd.R_base ho0) hb); have n2_ := Aside0.mk (Kd.R_elder' (by (with_reducible repeat (first | apply Kd.R_alloc | apply Kd.R_drewN | apply Kd.R_drew)); exact (Kd.R_mono (Kd.R_far (p := ⟨gb462, 1, none⟩) (Kd.R_far (p := ⟨gb462, 0, none⟩) (Kd.R_types HO458.out BK462.out (by decide)) (fun _ hk => hk.2) (.bool (t431 != t432))) (fun _ hk => hk.2) (.slice Ao287 t459.length co287)) (fun _ h_ => h_.1))) (Kd.R_base ho0) hb); have n3_ := Aside0.mk (Kd.R_elder' (by (with_reducible repeat (first | apply Kd.R_alloc | apply Kd.R_drewN | apply Kd.R_drew)); exact (Kd.R_mono (Kd.R_far (p := ⟨gb462, 1, none⟩) (Kd.R_far (p := ⟨gb462, 0, none⟩) (Kd.R_types HO461.out BK462.out (by decide)) (fun _ hk => hk.2) (.bool (t431 != t432))) (fun _ hk => hk.2) (.slice Ao287 t459.length co287)) (fun _ h_ => h_.1))) (Kd.R_base ho0) hb); have n4_ := Aside0.mk (Kd.R_lower (Kd.R_new' (Kd.R_new' (Kd.R_new' (Kd.R_new' ho0 (Kd.R_lt (by (with_reducible repeat (first | apply Kd.R_alloc | apply Kd.R_drewN | apply Kd.R_drew)); exact (Kd.R_mono (Kd.R_far (p := ⟨gb462, 1, none⟩) (Kd.R_far (p := ⟨gb462, 0, none⟩) (Kd.R_types HO452.out BK462.out (by decide)) (fun _ hk => hk.2) (.bool (t431 != t432))) (fun _ hk => hk.2) (.slice Ao287 t459.length co287)) (fun _ h_ => h_.1))))) (Kd.R_lt (by (with_reducible repeat (first | apply Kd.R_alloc | apply Kd.R_drewN | apply Kd.R_drew)); exact (Kd.R_mono (Kd.R_far (p := ⟨gb462, 1, none⟩) (Kd.R_far (p := ⟨gb462, 0, none⟩) (Kd.R_types HO455.out BK462.out (by decide)) (fun _ hk => hk.2) (.bool (t431 != t432))) (fun _ hk => hk.2) (.slice Ao287 t459.length co287)) (fun _ h_ => h_.1))))) (Kd.R_lt (by (with_reducible repeat (first | apply Kd.R_alloc | apply Kd.R_drewN | apply Kd.R_drew)); exact (Kd.R_mono (Kd.R_far (p := ⟨gb462, 1, none⟩) (Kd.R_far (p := ⟨gb462, 0, none⟩) (Kd.R_types HO458.out BK462.out (by decide)) (fun _ hk => hk.2) (.bool (t431 != t432))) (fun _ hk => hk.2) (.slice Ao287 t459.length co287)) (fun _ h_ => h_.1))))) (Kd.R_lt (by (with_reducible repeat (first | apply Kd.R_alloc | apply Kd.R_drewN | apply Kd.R_drew)); exact (Kd.R_mono (Kd.R_far (p := ⟨gb462, 1, none⟩) (Kd.R_far (p := ⟨gb462, 0, none⟩) (Kd.R_types HO461.out BK462.out (by decide)) (fun _ hk => hk.2) (.bool (t431 != t432))) (fun _ hk => hk.2) (.slice Ao287 t459.length co287)) (fun _ h_ => h_.1))))) (below_size (by repeat (first | (with_reducible first | exact HB.out | apply below_alloc | apply pw_below_drewN | apply below_drew1 | refine below_set ?_ GE462.out) | exact HB.out)))); have n5_ := Aside0.mk (blk_below (g := gb462) (o := .cells #[.bool (t431 != t432), .slice Ao287 t459.length co287] 85 (0, 0)) (by (with_reducible repeat (first | refine blk_drewN ?_ _ | refine blk_drew ?_ | refine blk_alloc ?_ _)); refine blk_put (cs := #[.bool (t431 != t432), .slice none 0 0]) ?_ 1 _ rfl; (with_reducible repeat (first | refine blk_drewN ?_ _ | refine blk_drew ?_ | refine blk_alloc ?_ _)); refine blk_put (cs := #[.bool false, .slice none 0 0]) ?_ 0 _ rfl; (with_reducible repeat (first | refine blk_drewN ?_ _ | refine blk_drew ?_ | refine blk_alloc ?_ _)); exact BK462.out) hb); have n6_ := Aside0.mk (below_step (by repeat (first | (with_reducible first | exact HB.out | apply below_alloc | apply pw_below_drewN | apply below_drew1 | refine below_set ?_ GE462.out) | exact HB.out)) hb); clear HO452; clear HO455; clear HO458; clear HO461; clear BK462; clear HB; have HO452 := n0_; have HO455 := n1_; have HO458 := n2_; have HO461 := n3_; have HO466 := n4_; have BK462 := n5_; have HB := n6_; clear n0_ n1_ n2_ n3_ n4_ n5_ n6_; (try clear hb); (try clear hb2); (try clear hk); (try clear hi); (try clear ho0)) | ((with_reducible refine gate_dst (N := 16) rfl ?_); refine box_event ?hg (N := 16) ?hd (cs := #[.bool false, .slice none 0 0]) (t := 85) ?hr ?_; (case hd => rfl); (case hg => rfl); (case hr => first | (go_simp; done) | (go_simp; rfl)); intro gb467 hg w291 hbox hb; have n0_ := Aside0.mk (Kd.R_below (by (with_reducible repeat (first | apply Kd.R_alloc | apply Kd.R_drewN | apply Kd.R_drew)); exact HO452.out) hb); have n1_ := Aside0.mk (Kd.R_below (by (with_reducible repeat (first | apply Kd.R_alloc | apply Kd.R_drewN | apply Kd.R_drew)); exact HO455.out) hb); have n2_ := Aside0.mk (Kd.R_below (by (with_reducible repeat (first | apply Kd.R_alloc | apply Kd.R_drewN | apply Kd.R_drew)); exact HO458.out) hb); have n3_ := Aside0.mk (Kd.R_below (by (with_reducible repeat (first | apply Kd.R_alloc | apply Kd.R_drewN | apply Kd.R_drew)); exact HO461.out) hb); have n4_ := Aside0.mk (Kd.R_below (by (with_reducible repeat (first | apply Kd.R_alloc | apply Kd.R_drewN | apply Kd.R_drew)); exact HO466.out) hb); have n5_ := Aside0.mk (blk_below (g := gb462) (o := .cells #[.bool (t431 != t432), .slice Ao287 t459.length co287] 85 (0, 0)) (by (with_reducible repeat (first | refine blk_drewN ?_ _ | refine blk_drew ?_ | refine blk_alloc ?_ _)); exact BK462.out) hb); have n6_ := Aside0.mk (below_step (by repeat (first | (with_reducible first | exact HB.out | apply below_alloc | apply pw_below_drewN | apply below_drew1 | refine below_set ?_ GE462.out) | exact HB.out)) hb); have n7_ := Aside0.mk (hbox); have n8_ := Aside0.mk ((by rw [hg]; exact (below_size (by repeat (first | (with_reducible first | exact HB.out | apply below_alloc | apply pw_below_drewN | apply below_drew1 | refine below_set ?_ GE462.out) | exact HB.out))) : w.heap.size ≤ gb467)); have n9_ := Aside0.mk ((by rw [hg]; exact (below_size (by repeat (first | (with_reducible first | exact HB.out | apply below_alloc | apply pw_below_drewN | apply below_drew1 | refine below_set ?_ GE462.out) | exact HB.out))) : w.heap.size ≤ gb467)); have n10_ := Aside0.mk ((by rw [hg]; exact Nat.ne_of_lt (blk_lt (g := gb462) (o := .cells #[.bool (t431 != t432), .slice Ao287 t459.length co287] 85 (0, 0)) (by (with_reducible repeat (first | refine blk_drewN ?_ _ | refine blk_drew ?_ | refine blk_alloc ?_ _)); exact BK462.out)) : gb462 ≠ gb467)); have n11_ := Aside0.mk ((by rw [hg]; exact Nat.ne_of_gt (blk_lt (g := gb462) (o := .cells #[.bool (t431 != t432), .slice Ao287 t459.length co287] 85 (0, 0)) (by (with_reducible repeat (first | refine blk_drewN ?_ _ | refine blk_drew ?_ | refine blk_alloc ?_ _)); exact BK462.out)) : gb467 ≠ gb462)); clear HO452; clear HO455; clear HO458; clear HO461; clear HO466; clear BK462; clear HB; have HO452 := n0_; have HO455 := n1_; have HO458 := n2_; have HO461 := n3_; have HO466 := n4_; have BK462 := n5_; have HB := n6_; have BK467 := n7_; have GW467 := n8_; have GE467 := n9_; have NB462_467 := n10_; have NB467_462 := n11_; clear n0_ n1_ n2_ n3_ n4_ n5_ n6_ n7_ n8_ n9_ n10_ n11_; clear hb hbox hg; have hnb292 := NB467_462.out; have hnc292 := NB462_467.out; have hcz293_0 : w291.cell? ⟨gb467, 0, none⟩ = some (.bool false) := (blk_cell BK467.out 0).trans rfl; have hcz293_1 : w291.cell? ⟨gb467, 1, none⟩ = some (.slice none 0 0) := (blk_cell BK467.out 1).trans rfl; have hfz293_0 := blk_frozen BK467.out 0; have hfz293_1 := blk_frozen BK467.out 1; obtain ⟨Ao294, co294, eo294⟩ := Kd.R_slice HO466.out; subst eo294) | ((with_reducible refine gate_callee (f := 89) rfl ?_); refine goesL_ (some 100) rfl rfl Try.func89 (by kernel_rfl) rfl #[.slice Ao294 t464.length co294, .int .i64 1074] rfl (by simp only [List.map_toArray, List.map_cons, List.map_nil] <;> rfl) ?_; (with_reducible refine (tabardref3_Up.calls kj9 _ _ t464 1074 t468 _ ?side1 ?side2 A37.out).mono ?_); (case side1 => refine (Kd.R_reads' (e := 98) (base := w.heap.size) (ok := fun k_ => ((((True ∧ some k_ ≠ (.slice Ao282 t450.length co282 : Value).ownBlock) ∧ some k_ ≠ (.slice Ao283 t453.length co283 : Value).ownBlock) ∧ some k_ ≠ (.slice Ao285 t456.length co285 : Value).ownBlock) ∧ some k_ ≠ (.slice Ao287 t459.length co287 : Value).ownBlock)) (n := t464.length) (c := co294) ?_).2.2; exact (by (with_reducible repeat (first | apply Kd.R_alloc | apply Kd.R_drewN | apply Kd.R_drew)); exact (Kd.R_mono (Kd.R_far (p := ⟨gb467, 1, none⟩) (Kd.R_far (p := ⟨gb467, 0, none⟩) (Kd.R_types HO466.out BK467.out (by decide)) (fun _ hk => hk.2) (.bool t463)) (fun _ hk => hk.2) (.slice Ao294 t464.length co294)) (fun _ h_ => h_.1)))); (case side2 => exact (Kd.R_reads' HO466.out).2.1); rintro e w295 ⟨v469, rfl, ho0, hb⟩; refine ⟨_, rfl, ?_⟩; have n0_ := Aside0.mk (Kd.R_elder' (by (with_reducible repeat (first | apply Kd.R_alloc | apply Kd.R_drewN | apply Kd.R_drew)); exact (Kd.R_mono (Kd.R_far (p := ⟨gb467, 1, none⟩) (Kd.R_far (p := ⟨gb467, 0, none⟩) (Kd.R_types HO452.out BK467.out (by decide)) (fun _ hk => hk.2) (.bool t463)) (fun _ hk => hk.2) (.slice Ao294 t464.length co294)) (fun _ h_ => h_.1))) (Kd.R_base ho0) hb); have n1_ := Aside0.mk (Kd.R_elder' (by (with_reducible repeat (first | apply Kd.R_alloc | apply Kd.R_drewN | apply Kd.R_drew)); exact (Kd.R_mono (Kd.R_far (p := ⟨gb467, 1, none⟩) (Kd.R_far (p := ⟨gb467, 0, none⟩) (Kd.R_types HO455.out BK467.out (by decide)) (fun _ hk => hk.2) (.bool t463)) (fun _ hk => hk.2) (.slice Ao294 t464.length co294)) (fun _ h_ => h_.1))) (Kd.R_base ho0) hb); have n2_ := Aside0.mk (Kd.R_elder' (by (with_reducible repeat (first | apply Kd.R_alloc | apply Kd.R_drewN | apply Kd.R_drew)); exact (Kd.R_mono (Kd.R_far (p := ⟨gb467, 1, none⟩) (Kd.R_far (p := ⟨gb467, 0, none⟩) (Kd.R_types HO458.out BK467.out (by decide)) (fun _ hk => hk.2) (.bool t463)) (fun _ hk => hk.2) (.slice Ao294 t464.length co294)) (fun _ h_ => h_.1))) (Kd.R_base ho0) hb); have n3_ := Aside0.mk (Kd.R_elder' (by (with_reducible repeat (first | apply Kd.R_alloc | apply Kd.R_drewN | apply Kd.R_drew)); exact (Kd.R_mono (Kd.R_far (p := ⟨gb467, 1, none⟩) (Kd.R_far (p := ⟨gb467, 0, none⟩) (Kd.R_types HO461.out BK467.out (by decide)) (fun _ hk => hk.2) (.bool t463)) (fun _ hk => hk.2) (.slice Ao294 t464.length co294)) (fun _ h_ => h_.1))) (Kd.R_base ho0) hb); have n4_ := Aside0.mk (Kd.R_elder' (by (with_reducible repeat (first | apply Kd.R_alloc | apply Kd.R_drewN | apply Kd.R_drew)); exact (Kd.R_mono (Kd.R_far (p := ⟨gb467, 1, none⟩) (Kd.R_far (p := ⟨gb467, 0, none⟩) (Kd.R_types HO466.out BK467.out (by decide)) (fun _ hk => hk.2) (.bool t463)) (fun _ hk => hk.2) (.slice Ao294 t464.length co294)) (fun _ h_ => h_.1))) (Kd.R_base ho0) hb); have n5_ := Aside0.mk (Kd.R_lower (Kd.R_new' (Kd.R_new' (Kd.R_new' (Kd.R_new' (Kd.R_new' ho0 (Kd.R_lt (by (with_reducible repeat (first | apply Kd.R_alloc | apply Kd.R_drewN | apply Kd.R_drew)); exact (Kd.R_mono (Kd.R_far (p := ⟨gb467, 1, none⟩) (Kd.R_far (p := ⟨gb467, 0, none⟩) (Kd.R_types HO452.out BK467.out (by decide)) (fun _ hk => hk.2) (.bool t463)) (fun _ hk => hk.2) (.slice Ao294 t464.length co294)) (fun _ h_ => h_.1))))) (Kd.R_lt (by (with_reducible repeat (first | apply Kd.R_alloc | apply Kd.R_drewN | apply Kd.R_drew)); exact (Kd.R_mono (Kd.R_far (p := ⟨gb467, 1, none⟩) (Kd.R_far (p := ⟨gb467, 0, none⟩) (Kd.R_types HO455.out BK467.out (by decide)) (fun _ hk => hk.2) (.bool t463)) (fun _ hk => hk.2) (.slice Ao294 t464.length co294)) (fun _ h_ => h_.1))))) (Kd.R_lt (by (with_reducible repeat (first | apply Kd.R_alloc | apply Kd.R_drewN | apply Kd.R_drew)); exact (Kd.R_mono (Kd.R_far (p := ⟨gb467, 1, none⟩) (Kd.R_far (p := ⟨gb467, 0, none⟩) (Kd.R_types HO458.out BK467.out (by decide)) (fun _ hk => hk.2) (.bool t463)) (fun _ hk => hk.2) (.slice Ao294 t464.length co294)) (fun _ h_ => h_.1))))) (Kd.R_lt (by (with_reducible repeat (first | apply Kd.R_alloc | apply Kd.R_drewN | apply Kd.R_drew)); exact (Kd.R_mono (Kd.R_far (p := ⟨gb467, 1, none⟩) (Kd.R_far (p := ⟨gb467, 0, none⟩) (Kd.R_types HO461.out BK467.out (by decide)) (fun _ hk => hk.2) (.bool t463)) (fun _ hk => hk.2) (.slice Ao294 t464.length co294)) (fun _ h_ => h_.1))))) (Kd.R_lt (by (with_reducible repeat (first | apply Kd.R_alloc | apply Kd.R_drewN | apply Kd.R_drew)); exact (Kd.R_mono (Kd.R_far (p := ⟨gb467, 1, none⟩) (Kd.R_far (p := ⟨gb467, 0, none⟩) (Kd.R_types HO466.out BK467.out (by decide)) (fun _ hk => hk.2) (.bool t463)) (fun _ hk => hk.2) (.slice Ao294 t464.length co294)) (fun _ h_ => h_.1))))) (below_size (by repeat (first | (with_reducible first | exact HB.out | apply below_alloc | apply pw_below_drewN | apply below_drew1 | refine below_set ?_ GE462.out | refine below_set ?_ GE467.out) | exact HB.out)))); have n6_ := Aside0.mk (blk_below (g := gb462) (o := .cells #[.bool (t431 != t432), .slice Ao287 t459.length co287] 85 (0, 0)) (by (with_reducible repeat (first | refine blk_drewN ?_ _ | refine blk_drew ?_ | refine blk_alloc ?_ _)); refine blk_far ?_ NB462_467.out _; (with_reducible repeat (first | refine blk_drewN ?_ _ | refine blk_drew ?_ | refine blk_alloc ?_ _)); refine blk_far ?_ NB462_467.out _; (with_reducible repeat (first | refine blk_drewN ?_ _ | refine blk_drew ?_ | refine blk_alloc ?_ _)); exact BK462.out) hb); have n7_ := Aside0.mk (blk_below (g := gb467) (o := .cells #[.bool t463, .slice Ao294 t464.length co294] 85 (0, 0)) (by (with_reducible repeat (first | refine blk_drewN ?_ _ | refine blk_drew ?_ | refine blk_alloc ?_ _)); refine blk_put (cs := #[.bool t463, .slice none 0 0]) ?_ 1 _ rfl; (with_reducible repeat (first | refine blk_drewN ?_ _ | refine blk_drew ?_ | refine blk_alloc ?_ _)); refine blk_put (cs := #[.bool false, .slice none 0 0]) ?_ 0 _ rfl; (with_reducible repeat (first | refine blk_drewN ?_ _ | refine blk_drew ?_ | refine blk_alloc ?_ _)); exact BK467.out) hb); have n8_ := Aside0.mk (below_step (by repeat (first | (with_reducible first | exact HB.out | apply below_alloc | apply pw_below_drewN | apply below_drew1 | refine below_set ?_ GE462.out | refine below_set ?_ GE467.out) | exact HB.out)) hb); clear HO452; clear HO455; clear HO458; clear HO461; clear HO466; clear BK462; clear BK467; clear HB; have HO452 := n0_; have HO455 := n1_; have HO458 := n2_; have HO461 := n3_; have HO466 := n4_; have HO470 := n5_; have BK462 := n6_; have BK467 := n7_; have HB := n8_; clear n0_ n1_ n2_ n3_ n4_ n5_ n6_ n7_ n8_; (try clear hb); (try clear hb2); (try clear hk); (try clear hi); (try clear ho0); obtain ⟨Ao296, co296, eo296⟩ := Kd.R_slice HO470.out; subst eo296; have hcz297_0 : w295.cell? ⟨gb467, 0, none⟩ = some (.bool t463) := (blk_cell BK467.out 0).trans rfl; have hcz297_1 : w295.cell? ⟨gb467, 1, none⟩ = some (.slice Ao294 t464.length co294) := (blk_cell BK467.out 1).trans rfl; have hfz297_0 := blk_frozen BK467.out 0; have hfz297_1 := blk_frozen BK467.out 1; have hcz298_0 : w295.cell? ⟨gb462, 0, none⟩ = some (.bool (t431 != t432)) := (blk_cell BK462.out 0).trans rfl; have hcz298_1 : w295.cell? ⟨gb462, 1, none⟩ = some (.slice Ao287 t459.length co287) := (blk_cell BK462.out 1).trans rfl; have hfz298_0 := blk_frozen BK462.out 0; have hfz298_1 := blk_frozen BK462.out 1))
                (try simp only [Act.put, List.setIfInBounds_toArray, List.set_cons_zero, List.set_cons_succ])
                go_cut [17] (fun v17 wc => ∃ (gb co : Nat) (Ao : Option Addr), v17 = .pointer (some ⟨gb, 0, none⟩) ∧ Aside0 (wc.heap[gb]? = some (.cells #[.bool t471, .slice Ao t472.length co] 85 (0, 0))) ∧ Aside0 (Kd.R (Kd.int .u32) 98 wc w.heap.size (fun _ => True) (.slice Ao t472.length co) t472) ∧ Aside0 (Below w.heap.size w wc))
                case first =>
                  go_wp2_with (first | ((with_reducible refine gate_callee (f := 101) rfl ?_); refine goesL_ (some 104) rfl rfl Try.func101 (by kernel_rfl) rfl #[.agg #[.bool (t431 != t432), .slice Ao287 t459.length co287], .agg #[.bool t463, .slice Ao296 t468.length co296]] rfl (by simp only [List.map_toArray, List.map_cons, List.map_nil] <;> rfl) ?_; (with_reducible refine (tabardref4_Plus.calls kj9 (t431 != t432) _ _ t459 t463 _ _ t468 t471 t472 _ ?side1 ?side2 ?side3 ?side4 A38.out).mono ?_); (case side1 => refine (Kd.R_reads' (e := 98) (base := w.heap.size) (ok := fun k_ => (((((True ∧ some k_ ≠ (.slice Ao282 t450.length co282 : Value).ownBlock) ∧ some k_ ≠ (.slice Ao283 t453.length co283 : Value).ownBlock) ∧ some k_ ≠ (.slice Ao285 t456.length co285 : Value).ownBlock) ∧ some k_ ≠ (.slice Ao294 t464.length co294 : Value).ownBlock) ∧ some k_ ≠ (.slice Ao296 t468.length co296 : Value).ownBlock)) (n := t459.length) (c := co287) ?_).2.2; exact (by (with_reducible repeat (first | apply Kd.R_alloc | apply Kd.R_drewN | apply Kd.R_drew)); exact (Kd.R_mono (Kd.R_far (p := ⟨gb467, 1, none⟩) (Kd.R_types HO461.out BK467.out (by decide)) (fun _ hk => hk.2) (.slice Ao296 t468.length co296)) (fun _ h_ => h_.1)))); (case side2 => exact (Kd.R_reads' HO461.out).2.1); (case side3 => refine (Kd.R_reads' (e := 98) (base := w.heap.size) (ok := fun k_ => (((((True ∧ some k_ ≠ (.slice Ao282 t450.length co282 : Value).ownBlock) ∧ some k_ ≠ (.slice Ao283 t453.length co283 : Value).ownBlock) ∧ some k_ ≠ (.slice Ao285 t456.length co285 : Value).ownBlock) ∧ some k_ ≠ (.slice Ao287 t459.length co287 : Value).ownBlock) ∧ some k_ ≠ (.slice Ao294 t464.length co294 : Value).ownBlock)) (n := t468.length) (c := co296) ?_).2.2; exact (by (with_reducible repeat (first | apply Kd.R_alloc | apply Kd.R_drewN | apply Kd.R_drew)); exact (Kd.R_mono (Kd.R_far (p := ⟨gb467, 1, none⟩) (Kd.R_types HO470.out BK467.out (by decide)) (fun _ hk => hk.2) (.slice Ao296 t468.length co296)) (fun _ h_ => h_.1)))); (case side4 => exact (Kd.R_reads' HO470.out).2.1); rintro e w299 ⟨v473, rfl, ho0, hb⟩; refine ⟨_, rfl, ?_⟩; have n6_ := Aside0.mk (Kd.R_lower (Kd.R_new' (Kd.R_new' (Kd.R_new' (Kd.R_new' (Kd.R_new' (Kd.R_new' ho0 (Kd.R_lt (by (with_reducible repeat (first | apply Kd.R_alloc | apply Kd.R_drewN | apply Kd.R_drew)); exact (Kd.R_mono (Kd.R_far (p := ⟨gb467, 1, none⟩) (Kd.R_types HO452.out BK467.out (by decide)) (fun _ hk => hk.2) (.slice Ao296 t468.length co296)) (fun _ h_ => h_.1))))) (Kd.R_lt (by (with_reducible repeat (first | apply Kd.R_alloc | apply Kd.R_drewN | apply Kd.R_drew)); exact (Kd.R_mono (Kd.R_far (p := ⟨gb467, 1, none⟩) (Kd.R_types HO455.out BK467.out (by decide)) (fun _ hk => hk.2) (.slice Ao296 t468.length co296)) (fun _ h_ => h_.1))))) (Kd.R_lt (by (with_reducible repeat (first | apply Kd.R_alloc | apply Kd.R_drewN | apply Kd.R_drew)); exact (Kd.R_mono (Kd.R_far (p := ⟨gb467, 1, none⟩) (Kd.R_types HO458.out BK467.out (by decide)) (fun _ hk => hk.2) (.slice Ao296 t468.length co296)) (fun _ h_ => h_.1))))) (Kd.R_lt (by (with_reducible repeat (first | apply Kd.R_alloc | apply Kd.R_drewN | apply Kd.R_drew)); exact (Kd.R_mono (Kd.R_far (p := ⟨gb467, 1, none⟩) (Kd.R_types HO461.out BK467.out (by decide)) (fun _ hk => hk.2) (.slice Ao296 t468.length co296)) (fun _ h_ => h_.1))))) (Kd.R_lt (by (with_reducible repeat (first | apply Kd.R_alloc | apply Kd.R_drewN | apply Kd.R_drew)); exact (Kd.R_mono (Kd.R_far (p := ⟨gb467, 1, none⟩) (Kd.R_types HO466.out BK467.out (by decide)) (fun _ hk => hk.2) (.slice Ao296 t468.length co296)) (fun _ h_ => h_.1))))) (Kd.R_lt (by (with_reducible repeat (first | apply Kd.R_alloc | apply Kd.R_drewN | apply Kd.R_drew)); exact (Kd.R_mono (Kd.R_far (p := ⟨gb467, 1, none⟩) (Kd.R_types HO470.out BK467.out (by decide)) (fun _ hk => hk.2) (.slice Ao296 t468.length co296)) (fun _ h_ => h_.1))))) (below_size (by repeat (first | (with_reducible first | exact HB.out | apply below_alloc | apply pw_below_drewN | apply below_drew1 | refine below_set ?_ GE462.out | refine below_set ?_ GE467.out) | exact HB.out)))); have n7_ := Aside0.mk (blk_below (g := gb462) (o := .cells #[.bool (t431 != t432), .slice Ao287 t459.length co287] 85 (0, 0)) (by (with_reducible repeat (first | refine blk_drewN ?_ _ | refine blk_drew ?_ | refine blk_alloc ?_ _)); refine blk_far ?_ NB462_467.out _; (with_reducible repeat (first | refine blk_drewN ?_ _ | refine blk_drew ?_ | refine blk_alloc ?_ _)); exact BK462.out) hb); have n8_ := Aside0.mk (blk_below (g := gb467) (o := .cells #[.bool t463, .slice Ao296 t468.length co296] 85 (0, 0)) (by (with_reducible repeat (first | refine blk_drewN ?_ _ | refine blk_drew ?_ | refine blk_alloc ?_ _)); refine blk_put (cs := #[.bool t463, .slice Ao294 t464.length co294]) ?_ 1 _ rfl; (with_reducible repeat (first | refine blk_drewN ?_ _ | refine blk_drew ?_ | refine blk_alloc ?_ _)); exact BK467.out) hb); have n9_ := Aside0.mk (below_step (by repeat (first | (with_reducible first | exact HB.out | apply below_alloc | apply pw_below_drewN | apply below_drew1 | refine below_set ?_ GE462.out | refine below_set ?_ GE467.out) | exact HB.out)) hb); clear BK462; clear BK467; clear HB; have HO474 := n6_; have BK462 := n7_; have BK467 := n8_; have HB := n9_; clear n6_ n7_ n8_ n9_; (try clear hb); (try clear hb2); (try clear hk); (try clear hi); (try clear ho0)) | ((with_reducible refine gate_dst (N := 17) rfl ?_); refine box_event ?hg (N := 17) ?hd (cs := #[.bool false, .slice none 0 0]) (t := 85) ?hr ?_; (case hd => rfl); (case hg => rfl); (case hr => first | (go_simp; done) | (go_simp; rfl)); intro gb475 hg w300 hbox hb; have n6_ := Aside0.mk (Kd.R_below (by (with_reducible repeat (first | apply Kd.R_alloc | apply Kd.R_drewN | apply Kd.R_drew)); exact HO474.out) hb); have n7_ := Aside0.mk (blk_below (g := gb462) (o := .cells #[.bool (t431 != t432), .slice Ao287 t459.length co287] 85 (0, 0)) (by (with_reducible repeat (first | refine blk_drewN ?_ _ | refine blk_drew ?_ | refine blk_alloc ?_ _)); exact BK462.out) hb); have n8_ := Aside0.mk (blk_below (g := gb467) (o := .cells #[.bool t463, .slice Ao296 t468.length co296] 85 (0, 0)) (by (with_reducible repeat (first | refine blk_drewN ?_ _ | refine blk_drew ?_ | refine blk_alloc ?_ _)); exact BK467.out) hb); have n9_ := Aside0.mk (below_step (by repeat (first | (with_reducible first | exact HB.out | apply below_alloc | apply pw_below_drewN | apply below_drew1 | refine below_set ?_ GE462.out | refine below_set ?_ GE467.out) | exact HB.out)) hb); have n10_ := Aside0.mk (hbox); have n11_ := Aside0.mk ((by rw [hg]; exact (below_size (by repeat (first | (with_reducible first | exact HB.out | apply below_alloc | apply pw_below_drewN | apply below_drew1 | refine below_set ?_ GE462.out | refine below_set ?_ GE467.out) | exact HB.out))) : w.heap.size ≤ gb475)); have n12_ := Aside0.mk ((by rw [hg]; exact (below_size (by repeat (first | (with_reducible first | exact HB.out | apply below_alloc | apply pw_below_drewN | apply below_drew1 | refine below_set ?_ GE462.out | refine below_set ?_ GE467.out) | exact HB.out))) : w.heap.size ≤ gb475)); have n13_ := Aside0.mk ((by rw [hg]; exact Nat.ne_of_lt (blk_lt (g := gb462) (o := .cells #[.bool (t431 != t432), .slice Ao287 t459.length co287] 85 (0, 0)) (by (with_reducible repeat (first | refine blk_drewN ?_ _ | refine blk_drew ?_ | refine blk_alloc ?_ _)); exact BK462.out)) : gb462 ≠ gb475)); have n14_ := Aside0.mk ((by rw [hg]; exact Nat.ne_of_gt (blk_lt (g := gb462) (o := .cells #[.bool (t431 != t432), .slice Ao287 t459.length co287] 85 (0, 0)) (by (with_reducible repeat (first | refine blk_drewN ?_ _ | refine blk_drew ?_ | refine blk_alloc ?_ _)); exact BK462.out)) : gb475 ≠ gb462)); have n15_ := Aside0.mk ((by rw [hg]; exact Nat.ne_of_lt (blk_lt (g := gb467) (o := .cells #[.bool t463, .slice Ao296 t468.length co296] 85 (0, 0)) (by (with_reducible repeat (first | refine blk_drewN ?_ _ | refine blk_drew ?_ | refine blk_alloc ?_ _)); exact BK467.out)) : gb467 ≠ gb475)); have n16_ := Aside0.mk ((by rw [hg]; exact Nat.ne_of_gt (blk_lt (g := gb467) (o := .cells #[.bool t463, .slice Ao296 t468.length co296] 85 (0, 0)) (by (with_reducible repeat (first | refine blk_drewN ?_ _ | refine blk_drew ?_ | refine blk_alloc ?_ _)); exact BK467.out)) : gb475 ≠ gb467)); clear HO474; clear BK462; clear BK467; clear HB; have HO474 := n6_; have BK462 := n7_; have BK467 := n8_; have HB := n9_; have BK475 := n10_; have GW475 := n11_; have GE475 := n12_; have NB462_475 := n13_; have NB475_462 := n14_; have NB467_475 := n15_; have NB475_467 := n16_; clear n6_ n7_ n8_ n9_ n10_ n11_ n12_ n13_ n14_ n15_ n16_; clear hb hbox hg; have hnb301 := NB475_462.out; have hnc301 := NB462_475.out; have hnb302 := NB475_467.out; have hnc302 := NB467_475.out; have hcz303_0 : w300.cell? ⟨gb475, 0, none⟩ = some (.bool false) := (blk_cell BK475.out 0).trans rfl; have hcz303_1 : w300.cell? ⟨gb475, 1, none⟩ = some (.slice none 0 0) := (blk_cell BK475.out 1).trans rfl; have hfz303_0 := blk_frozen BK475.out 0; have hfz303_1 := blk_frozen BK475.out 1; obtain ⟨Ao304, co304, eo304⟩ := Kd.R_slice HO474.out; subst eo304))
                  go_meet
                  case rel => exact ⟨gb475, co304, Ao304, rfl, ⟨by (with_reducible repeat (first | refine blk_drewN ?_ _ | refine blk_drew ?_ | refine blk_alloc ?_ _)); refine blk_put (cs := #[.bool t471, .slice none 0 0]) ?_ 1 _ rfl; (with_reducible repeat (first | refine blk_drewN ?_ _ | refine blk_drew ?_ | refine blk_alloc ?_ _)); refine blk_put (cs := #[.bool false, .slice none 0 0]) ?_ 0 _ rfl; (with_reducible repeat (first | refine blk_drewN ?_ _ | refine blk_drew ?_ | refine blk_alloc ?_ _)); exact BK475.out⟩, ⟨by (with_reducible repeat (first | apply Kd.R_alloc | apply Kd.R_drewN | apply Kd.R_drew)); exact (Kd.R_mono (Kd.R_far (p := ⟨gb475, 1, none⟩) (Kd.R_far (p := ⟨gb475, 0, none⟩) (Kd.R_types HO474.out BK475.out (by decide)) (fun _ hk => hk.2) (.bool t471)) (fun _ hk => hk.2) (.slice Ao304 t472.length co304)) (fun _ _ => trivial))⟩, ⟨by repeat (first | (with_reducible first | exact HB.out | apply below_alloc | apply pw_below_drewN | apply below_drew1 | refine below_set ?_ GE462.out | refine below_set ?_ GE467.out | refine below_set ?_ GE475.out) | exact HB.out)⟩⟩
                case rest =>
                  have H := HC38.out
                  clear HC38
                  obtain ⟨gb475, co304, Ao304, rfl, BK475, HO474, HB⟩ := hcut
                  have hcz303_0 : wc.cell? ⟨gb475, 0, none⟩ = some (.bool t471) := (blk_cell BK475.out 0).trans rfl
                  have hcz303_1 : wc.cell? ⟨gb475, 1, none⟩ = some (.slice Ao304 t472.length co304) := (blk_cell BK475.out 1).trans rfl
                  have hfz303_0 := blk_frozen BK475.out 0
                  have hfz303_1 := blk_frozen BK475.out 1
                  by_cases c39 : (t472.length : Int) = 0
                  · rw [if_pos c39] at H
                    have c39b0 : ((t472.length : Int) == 0) = true := beq_iff_eq.mpr c39
                    have c39b1 : ((t472.length : Int) != 0) = false := bne_eq_false_iff_eq.mpr c39
                    clear c39
                    replace H := Option.bind_eq_some_iff.mp H
                    obtain ⟨t476, A400, H⟩ := H
                    try dsimp only at H
                    have A40 := Aside0.mk A400
                    clear A400
                    by_cases c41 : t476 = true
                    · subst c41
                      rw [if_pos rfl] at H
                      replace H := Option.bind_eq_some_iff.mp H
                      obtain ⟨t477, A420, H⟩ := H
                      try dsimp only at H
                      have A42 := Aside0.mk A420
                      clear A420
                      by_cases c43 : t477 = true
                      · subst c43
                        rw [if_pos rfl] at H
                        by_cases c44 : (t431 != t432) = true
                        · rw [if_pos c44] at H
                          have c44b0 : (t431 != t432) = true := c44
                          (try (have c44b1 : decide (t431 = t432) = false := by simpa using c44))
                          (try (have c44b2 : (t431 == t432) = false := by simpa using c44))
                          (try (have c44b3 : ¬ (t431 = t432) := by simpa using c44))
                          clear c44
                          replace H := Option.bind_eq_some_iff.mp H
                          obtain ⟨t478, A450, H⟩ := H
                          try dsimp only at H
                          have A45 := Aside0.mk A450
                          clear A450
                          by_cases c46 : t478 = true
                          · subst c46
                            rw [if_pos rfl] at H
                            obtain rfl := Option.some.inj H
                            go_wp2_with (first | ((with_reducible refine gate_callee (f := 86) rfl ?_); refine goesL_ (some 110) rfl rfl Try.func86 (by kernel_rfl) rfl #[.int .u64 a0] rfl (by simp only [List.map_toArray, List.map_cons, List.map_nil] <;> rfl) ?_; (with_reducible refine (tabardref5_zero.calls kj9 a0 true _ A40.out).mono ?_); rintro e w' ⟨rfl, ⟨nd, rfl⟩⟩; refine ⟨_, rfl, ?_⟩) | (go_at_call 86; (with_reducible refine (tabardref5_zero.calls kj9 a2 true _ A42.out).mono ?_); rintro e w' ⟨rfl, ⟨nd, rfl⟩⟩) | (go_at_call 71; (with_reducible refine (tabardref3_Is.calls a2 true _ A45.out).mono ?_); rintro e w' ⟨rfl, ⟨nd, rfl⟩⟩))
                            go_ret
                            exact ⟨by first | rfl | (simp <;> rfl) | (simp [*] <;> rfl), by repeat (first | (with_reducible first | exact HB.out | apply below_alloc | apply pw_below_drewN | apply below_drew1) | exact HB.out)⟩
                          · replace c46 := Bool.eq_false_iff.mpr c46
                            subst c46
                            rw [if_neg (show ¬ (false = true) by decide)] at H
                            obtain rfl := Option.some.inj H
                            go_wp2_with (first | ((with_reducible refine gate_callee (f := 86) rfl ?_); refine goesL_ (some 110) rfl rfl Try.func86 (by kernel_rfl) rfl #[.int .u64 a0] rfl (by simp only [List.map_toArray, List.map_cons, List.map_nil] <;> rfl) ?_; (with_reducible refine (tabardref5_zero.calls kj9 a0 true _ A40.out).mono ?_); rintro e w' ⟨rfl, ⟨nd, rfl⟩⟩; refine ⟨_, rfl, ?_⟩) | (go_at_call 86; (with_reducible refine (tabardref5_zero.calls kj9 a2 true _ A42.out).mono ?_); rintro e w' ⟨rfl, ⟨nd, rfl⟩⟩) | (go_at_call 71; (with_reducible refine (tabardref3_Is.calls a2 false _ A45.out).mono ?_); rintro e w' ⟨rfl, ⟨nd, rfl⟩⟩))
                            go_ret
                            exact ⟨by first | rfl | (simp <;> rfl) | (simp [*] <;> rfl), by repeat (first | (with_reducible first | exact HB.out | apply below_alloc | apply pw_below_drewN | apply below_drew1) | exact HB.out)⟩
                        · rw [if_neg c44] at H
                          have c44b0 : (t431 != t432) = false := by simpa using c44
                          (try (have c44b1 : decide (t431 = t432) = true := by simpa using c44))
                          (try (have c44b2 : (t431 == t432) = true := by simpa using c44))
                          clear c44
                          obtain rfl := Option.some.inj H
                          go_wp2_with (first | ((with_reducible refine gate_callee (f := 86) rfl ?_); refine goesL_ (some 110) rfl rfl Try.func86 (by kernel_rfl) rfl #[.int .u64 a0] rfl (by simp only [List.map_toArray, List.map_cons, List.map_nil] <;> rfl) ?_; (with_reducible refine (tabardref5_zero.calls kj9 a0 true _ A40.out).mono ?_); rintro e w' ⟨rfl, ⟨nd, rfl⟩⟩; refine ⟨_, rfl, ?_⟩) | (go_at_call 86; (with_reducible refine (tabardref5_zero.calls kj9 a2 true _ A42.out).mono ?_); rintro e w' ⟨rfl, ⟨nd, rfl⟩⟩))
                          go_ret
                          exact ⟨by first | rfl | (simp <;> rfl) | (simp [*] <;> rfl), by repeat (first | (with_reducible first | exact HB.out | apply below_alloc | apply pw_below_drewN | apply below_drew1) | exact HB.out)⟩
                      · replace c43 := Bool.eq_false_iff.mpr c43
                        subst c43
                        rw [if_neg (show ¬ (false = true) by decide)] at H
                        obtain rfl := Option.some.inj H
                        go_wp2_with (first | ((with_reducible refine gate_callee (f := 86) rfl ?_); refine goesL_ (some 110) rfl rfl Try.func86 (by kernel_rfl) rfl #[.int .u64 a0] rfl (by simp only [List.map_toArray, List.map_cons, List.map_nil] <;> rfl) ?_; (with_reducible refine (tabardref5_zero.calls kj9 a0 true _ A40.out).mono ?_); rintro e w' ⟨rfl, ⟨nd, rfl⟩⟩; refine ⟨_, rfl, ?_⟩) | (go_at_call 86; (with_reducible refine (tabardref5_zero.calls kj9 a2 false _ A42.out).mono ?_); rintro e w' ⟨rfl, ⟨nd, rfl⟩⟩))
                        go_ret
                        exact ⟨by first | rfl | (simp <;> rfl) | (simp [*] <;> rfl), by repeat (first | (with_reducible first | exact HB.out | apply below_alloc | apply pw_below_drewN | apply below_drew1) | exact HB.out)⟩
                    · replace c41 := Bool.eq_false_iff.mpr c41
                      subst c41
                      rw [if_neg (show ¬ (false = true) by decide)] at H
                      replace H := Option.bind_eq_some_iff.mp H
                      obtain ⟨t479, A1470, H⟩ := H
                      try dsimp only at H
                      have A147 := Aside0.mk A1470
                      clear A1470
                      by_cases c148 : t479 = true
                      · subst c148
                        rw [if_pos rfl] at H
                        replace H := Option.bind_eq_some_iff.mp H
                        obtain ⟨t480, A1490, H⟩ := H
                        try dsimp only at H
                        have A149 := Aside0.mk A1490
                        clear A1490
                        by_cases c150 : t480 = true
                        · subst c150
                          rw [if_pos rfl] at H
                          by_cases c151 : (t431 != t432) = true
                          · rw [if_pos c151] at H
                            have c151b0 : (t431 != t432) = true := c151
                            (try (have c151b1 : decide (t431 = t432) = false := by simpa using c151))
                            (try (have c151b2 : (t431 == t432) = false := by simpa using c151))
                            (try (have c151b3 : ¬ (t431 = t432) := by simpa using c151))
                            clear c151
                            replace H := Option.bind_eq_some_iff.mp H
                            obtain ⟨t481, A1520, H⟩ := H
                            try dsimp only at H
                            have A152 := Aside0.mk A1520
                            clear A1520
                            by_cases c153 : t481 = true
                            · subst c153
                              rw [if_pos rfl] at H
                              obtain rfl := Option.some.inj H
                              go_wp2_with (first | ((with_reducible refine gate_callee (f := 86) rfl ?_); refine goesL_ (some 110) rfl rfl Try.func86 (by kernel_rfl) rfl #[.int .u64 a0] rfl (by simp only [List.map_toArray, List.map_cons, List.map_nil] <;> rfl) ?_; (with_reducible refine (tabardref5_zero.calls kj9 a0 false _ A40.out).mono ?_); rintro e w' ⟨rfl, ⟨nd, rfl⟩⟩; refine ⟨_, rfl, ?_⟩) | (go_at_call 86; (with_reducible refine (tabardref5_zero.calls kj9 a1 true _ A147.out).mono ?_); rintro e w' ⟨rfl, ⟨nd, rfl⟩⟩) | (go_at_call 86; (with_reducible refine (tabardref5_zero.calls kj9 a2 true _ A149.out).mono ?_); rintro e w' ⟨rfl, ⟨nd, rfl⟩⟩) | (go_at_call 71; (with_reducible refine (tabardref3_Is.calls a2 true _ A152.out).mono ?_); rintro e w' ⟨rfl, ⟨nd, rfl⟩⟩))
                              go_ret
                              exact ⟨by first | rfl | (simp <;> rfl) | (simp [*] <;> rfl), by repeat (first | (with_reducible first | exact HB.out | apply below_alloc | apply pw_below_drewN | apply below_drew1) | exact HB.out)⟩
                            · replace c153 := Bool.eq_false_iff.mpr c153
                              subst c153
                              rw [if_neg (show ¬ (false = true) by decide)] at H
                              obtain rfl := Option.some.inj H
                              go_wp2_with (first | ((with_reducible refine gate_callee (f := 86) rfl ?_); refine goesL_ (some 110) rfl rfl Try.func86 (by kernel_rfl) rfl #[.int .u64 a0] rfl (by simp only [List.map_toArray, List.map_cons, List.map_nil] <;> rfl) ?_; (with_reducible refine (tabardref5_zero.calls kj9 a0 false _ A40.out).mono ?_); rintro e w' ⟨rfl, ⟨nd, rfl⟩⟩; refine ⟨_, rfl, ?_⟩) | (go_at_call 86; (with_reducible refine (tabardref5_zero.calls kj9 a1 true _ A147.out).mono ?_); rintro e w' ⟨rfl, ⟨nd, rfl⟩⟩) | (go_at_call 86; (with_reducible refine (tabardref5_zero.calls kj9 a2 true _ A149.out).mono ?_); rintro e w' ⟨rfl, ⟨nd, rfl⟩⟩) | (go_at_call 71; (with_reducible refine (tabardref3_Is.calls a2 false _ A152.out).mono ?_); rintro e w' ⟨rfl, ⟨nd, rfl⟩⟩))
                              go_ret
                              exact ⟨by first | rfl | (simp <;> rfl) | (simp [*] <;> rfl), by repeat (first | (with_reducible first | exact HB.out | apply below_alloc | apply pw_below_drewN | apply below_drew1) | exact HB.out)⟩
                          · rw [if_neg c151] at H
                            have c151b0 : (t431 != t432) = false := by simpa using c151
                            (try (have c151b1 : decide (t431 = t432) = true := by simpa using c151))
                            (try (have c151b2 : (t431 == t432) = true := by simpa using c151))
                            clear c151
                            obtain rfl := Option.some.inj H
                            go_wp2_with (first | ((with_reducible refine gate_callee (f := 86) rfl ?_); refine goesL_ (some 110) rfl rfl Try.func86 (by kernel_rfl) rfl #[.int .u64 a0] rfl (by simp only [List.map_toArray, List.map_cons, List.map_nil] <;> rfl) ?_; (with_reducible refine (tabardref5_zero.calls kj9 a0 false _ A40.out).mono ?_); rintro e w' ⟨rfl, ⟨nd, rfl⟩⟩; refine ⟨_, rfl, ?_⟩) | (go_at_call 86; (with_reducible refine (tabardref5_zero.calls kj9 a1 true _ A147.out).mono ?_); rintro e w' ⟨rfl, ⟨nd, rfl⟩⟩) | (go_at_call 86; (with_reducible refine (tabardref5_zero.calls kj9 a2 true _ A149.out).mono ?_); rintro e w' ⟨rfl, ⟨nd, rfl⟩⟩))
                            go_ret
                            exact ⟨by first | rfl | (simp <;> rfl) | (simp [*] <;> rfl), by repeat (first | (with_reducible first | exact HB.out | apply below_alloc | apply pw_below_drewN | apply below_drew1) | exact HB.out)⟩
                        · replace c150 := Bool.eq_false_iff.mpr c150
                          subst c150
                          rw [if_neg (show ¬ (false = true) by decide)] at H
                          obtain rfl := Option.some.inj H
                          go_wp2_with (first | ((with_reducible refine gate_callee (f := 86) rfl ?_); refine goesL_ (some 110) rfl rfl Try.func86 (by kernel_rfl) rfl #[.int .u64 a0] rfl (by simp only [List.map_toArray, List.map_cons, List.map_nil] <;> rfl) ?_; (with_reducible refine (tabardref5_zero.calls kj9 a0 false _ A40.out).mono ?_); rintro e w' ⟨rfl, ⟨nd, rfl⟩⟩; refine ⟨_, rfl, ?_⟩) | (go_at_call 86; (with_reducible refine (tabardref5_zero.calls kj9 a1 true _ A147.out).mono ?_); rintro e w' ⟨rfl, ⟨nd, rfl⟩⟩) | (go_at_call 86; (with_reducible refine (tabardref5_zero.calls kj9 a2 false _ A149.out).mono ?_); rintro e w' ⟨rfl, ⟨nd, rfl⟩⟩))
                          go_ret
                          exact ⟨by first | rfl | (simp <;> rfl) | (simp [*] <;> rfl), by repeat (first | (with_reducible first | exact HB.out | apply below_alloc | apply pw_below_drewN | apply below_drew1) | exact HB.out)⟩
                      · replace c148 := Bool.eq_false_iff.mpr c148
                        subst c148
                        rw [if_neg (show ¬ (false = true) by decide)] at H
                        obtain rfl := Option.some.inj H
                        go_wp2_with (first | ((with_reducible refine gate_callee (f := 86) rfl ?_); refine goesL_ (some 110) rfl rfl Try.func86 (by kernel_rfl) rfl #[.int .u64 a0] rfl (by simp only [List.map_toArray, List.map_cons, List.map_nil] <;> rfl) ?_; (with_reducible refine (tabardref5_zero.calls kj9 a0 false _ A40.out).mono ?_); rintro e w' ⟨rfl, ⟨nd, rfl⟩⟩; refine ⟨_, rfl, ?_⟩) | (go_at_call 86; (with_reducible refine (tabardref5_zero.calls kj9 a1 false _ A147.out).mono ?_); rintro e w' ⟨rfl, ⟨nd, rfl⟩⟩))
                        go_ret
                        exact ⟨by first | rfl | (simp <;> rfl) | (simp [*] <;> rfl), by repeat (first | (with_reducible first | exact HB.out | apply below_alloc | apply pw_below_drewN | apply below_drew1) | exact HB.out)⟩
                  · rw [if_neg c39] at H
                    have c39b0 : ((t472.length : Int) == 0) = false := beq_eq_false_iff_ne.mpr c39
                    have c39b1 : ((t472.length : Int) != 0) = true := bne_iff_ne.mpr c39
                    have c39b2 : ¬ (t472 = []) := fun h_ => c39 (by rw [h_]; rfl)
                    replace H := Option.bind_eq_some_iff.mp H
                    obtain ⟨t482, A2790, H⟩ := H
                    try dsimp only at H
                    have A279 := Aside0.mk A2790
                    clear A2790
                    obtain rfl := Option.some.inj H
                    go_wp2_with (first | (go_at_call 74; (with_reducible refine (tabardref3_Round.calls kj9 t471 _ _ t472 (-2148) false t482 _ ?side1 ?side2 A279.out).mono ?_); (case side1 => refine (Kd.R_reads' (e := 98) (base := w.heap.size) (ok := fun _ => True) (n := t472.length) (c := co304) ?_).2.2; exact (by (with_reducible repeat (first | apply Kd.R_alloc | apply Kd.R_drewN | apply Kd.R_drew)); exact HO474.out)); (case side2 => exact (Kd.R_reads' HO474.out).2.1); rintro e w305 ⟨rfl, hb⟩; have n10_ := Aside0.mk (below_step (by repeat (first | (with_reducible first | exact HB.out | apply below_alloc | apply pw_below_drewN | apply below_drew1) | exact HB.out)) hb); clear HB; have HB := n10_; clear n10_ hb))
                    go_ret
                    exact ⟨by first | rfl | (simp <;> rfl) | (simp [*] <;> rfl), by repeat (first | (with_reducible first | exact HB.out | apply below_alloc | apply pw_below_drewN | apply below_drew1) | exact HB.out)⟩
end Go.Proofs.Ytaplggheadahhaa.R
