/- contracts of tabardref5_Div (assembled out of what the printer printed) -/
import Derived.Test.YtaplggheadahhaaRI
namespace Go.Proofs.Ytaplggheadahhaa.R
open Go.RowKit Go.Proofs.YtaplggheadahhaaW.PrintWords Go.Proofs.YtaplggheadahhaaW.PrintLast Go.Proofs.YtaplggheadahhaaW.PrintMore
attribute [local go_sem] max2_int min2_int max_two min_two max_three min_three max_four min_four   -- for this text's walks alone
set_option linter.unusedVariables false
set_option linter.unusedSimpArgs false

/-! ### tabardref5_Div: function 46 -/
mutual
def tabardref5_Div.j0 : Nat → Int → Int → Bool → Bool → Option (Int)
  | 0, _, _, _, _ => none
  | k + 1, x0, x1, x5, x19 => if x19 = true then (some 9221120237041090560) else ((tabardref5_endless.f k x0).bind fun t415 => (if t415 = true then (tabardref5_Div.j1 k x0 x1 x5 true) else ((tabardref5_zero.f k x1).bind fun t416 => (tabardref5_Div.j1 k x0 x1 x5 t416))))
def tabardref5_Div.j1 : Nat → Int → Int → Bool → Bool → Option (Int)
  | 0, _, _, _, _ => none
  | k + 1, x0, x1, x5, x42 => if x42 = true then ((tabardref5_with.f x5 9218868437227405312).bind fun t417 => (some t417)) else ((tabardref5_zero.f k x0).bind fun t418 => (if t418 = true then ((tabardref5_with.f x5 0).bind fun t419 => (some t419)) else ((tabardref5_endless.f k x1).bind fun t420 => (if t420 = true then ((tabardref5_with.f x5 0).bind fun t421 => (some t421)) else ((tabardref3_Split.f k x0).bind fun bt422 => ((tabardref3_Split.f k x1).bind fun bt425 => ((tabardref3_Nat.f k bt422.2.1).bind fun t428 => ((tabardref3_Up.f k t428 128).bind fun t431 => ((tabardref3_Nat.f k bt425.2.1).bind fun t434 => ((tabardref1_Parts.f k t431 t434).bind fun bt437 => ((tabardref3_Round.f k x5 bt437.1 (wrap64 ((wrap64 (bt422.2.2 - bt425.2.2)) - 128)) (decide ((bt437.2.length : Int) > 0))).bind fun t443 => (some t443))))))))))))
end
def tabardref5_Div.f (k : Nat) (a0 : Int) (a1 : Int) : Option (Int) := (tabardref3_Is.f a0).bind fun t405 => ((tabardref3_Is.f a1).bind fun t406 => ((tabardref5_none.f k a0).bind fun t407 => (if t407 = true then (tabardref5_Div.j0 k a0 a1 (t405 != t406) true) else ((tabardref5_none.f k a1).bind fun t408 => (if t408 = true then (tabardref5_Div.j0 k a0 a1 (t405 != t406) true) else ((tabardref5_endless.f k a0).bind fun t409 => (if t409 = true then ((tabardref5_endless.f k a1).bind fun t410 => (if t410 = true then (tabardref5_Div.j0 k a0 a1 (t405 != t406) true) else ((tabardref5_zero.f k a0).bind fun t411 => (if t411 = true then ((tabardref5_zero.f k a1).bind fun t412 => (tabardref5_Div.j0 k a0 a1 (t405 != t406) t412)) else (tabardref5_Div.j0 k a0 a1 (t405 != t406) false))))) else ((tabardref5_zero.f k a0).bind fun t413 => (if t413 = true then ((tabardref5_zero.f k a1).bind fun t414 => (tabardref5_Div.j0 k a0 a1 (t405 != t406) t414)) else (tabardref5_Div.j0 k a0 a1 (t405 != t406) false))))))))))
theorem tabardref5_Div.mono_l : ∀ k, (∀ y0 y1 y2 y3, LeO (tabardref5_Div.j0 k y0 y1 y2 y3) (tabardref5_Div.j0 (k + 1) y0 y1 y2 y3)) ∧ (∀ y0 y1 y2 y3, LeO (tabardref5_Div.j1 k y0 y1 y2 y3) (tabardref5_Div.j1 (k + 1) y0 y1 y2 y3))
  | 0 => ⟨fun _ _ _ _ r h => by simp [tabardref5_Div.j0] at h, fun _ _ _ _ r h => by simp [tabardref5_Div.j1] at h⟩
  | k + 1 => by
    obtain ⟨ih0, ih1⟩ := tabardref5_Div.mono_l k
    refine ⟨?_, ?_⟩
    · intro y0 y1 y2 y3
      unfold tabardref5_Div.j0
      repeat' first
      | (with_reducible exact ih0 _ _ _ _)
      | (with_reducible exact ih1 _ _ _ _)
      | (with_reducible exact tabardref1_Parts.mono _ _ _)
      | (with_reducible exact tabardref3_Nat.mono _ _)
      | (with_reducible exact tabardref3_Round.mono _ _ _ _ _)
      | (with_reducible exact tabardref3_Split.mono _ _)
      | (with_reducible exact tabardref3_Up.mono _ _ _)
      | (with_reducible exact tabardref5_endless.mono _ _)
      | (with_reducible exact tabardref5_none.mono _ _)
      | (with_reducible exact tabardref5_zero.mono _ _)
      | (with_reducible exact LeO.refl _)
      | (with_reducible exact LeO.none _)
      | (with_reducible refine LeO.ite ?_ ?_)
      | (with_reducible refine LeO.bind ?_ (fun _ => ?_))
    · intro y0 y1 y2 y3
      unfold tabardref5_Div.j1
      repeat' first
      | (with_reducible exact ih0 _ _ _ _)
      | (with_reducible exact ih1 _ _ _ _)
      | (with_reducible exact tabardref1_Parts.mono _ _ _)
      | (with_reducible exact tabardref3_Nat.mono _ _)
      | (with_reducible exact tabardref3_Round.mono _ _ _ _ _)
      | (with_reducible exact tabardref3_Split.mono _ _)
      | (with_reducible exact tabardref3_Up.mono _ _ _)
      | (with_reducible exact tabardref5_endless.mono _ _)
      | (with_reducible exact tabardref5_none.mono _ _)
      | (with_reducible exact tabardref5_zero.mono _ _)
      | (with_reducible exact LeO.refl _)
      | (with_reducible exact LeO.none _)
      | (with_reducible refine LeO.ite ?_ ?_)
      | (with_reducible refine LeO.bind ?_ (fun _ => ?_))
theorem tabardref5_Div.mono : ∀ a0 a1 k, LeO (tabardref5_Div.f k a0 a1) (tabardref5_Div.f (k + 1) a0 a1) := by
  intro a0 a1 k
  obtain ⟨ih0, ih1⟩ := tabardref5_Div.mono_l k
  unfold tabardref5_Div.f
  repeat' first
      | (with_reducible exact ih0 _ _ _ _)
      | (with_reducible exact ih1 _ _ _ _)
      | (with_reducible exact tabardref1_Parts.mono _ _ _)
      | (with_reducible exact tabardref3_Nat.mono _ _)
      | (with_reducible exact tabardref3_Round.mono _ _ _ _ _)
      | (with_reducible exact tabardref3_Split.mono _ _)
      | (with_reducible exact tabardref3_Up.mono _ _ _)
      | (with_reducible exact tabardref5_endless.mono _ _)
      | (with_reducible exact tabardref5_none.mono _ _)
      | (with_reducible exact tabardref5_zero.mono _ _)
      | (with_reducible exact LeO.refl _)
      | (with_reducible exact LeO.none _)
      | (with_reducible refine LeO.ite ?_ ?_)
      | (with_reducible refine LeO.bind ?_ (fun _ => ?_))
set_option maxHeartbeats 8000000 in
set_option maxRecDepth 100000 in
theorem tabardref5_Div.calls (k : Nat) (a0 : Int) (a1 : Int) (r : Int) (w : World) (h : tabardref5_Div.f k a0 a1 = some r) :
    Calls Try.prog 46 #[.int .u64 a0, .int .u64 a1] w fun e w' => e = .returned (.int .u64 r) ∧ Below w.heap.size w w' := by
  have HB := Aside0.mk (Below.refl w.heap.size w)
  have H : ((tabardref3_Is.f a0).bind fun t405 => ((tabardref3_Is.f a1).bind fun t406 => ((tabardref5_none.f k a0).bind fun t407 => (if t407 = true then (tabardref5_Div.j0 k a0 a1 (t405 != t406) true) else ((tabardref5_none.f k a1).bind fun t408 => (if t408 = true then (tabardref5_Div.j0 k a0 a1 (t405 != t406) true) else ((tabardref5_endless.f k a0).bind fun t409 => (if t409 = true then ((tabardref5_endless.f k a1).bind fun t410 => (if t410 = true then (tabardref5_Div.j0 k a0 a1 (t405 != t406) true) else ((tabardref5_zero.f k a0).bind fun t411 => (if t411 = true then ((tabardref5_zero.f k a1).bind fun t412 => (tabardref5_Div.j0 k a0 a1 (t405 != t406) t412)) else (tabardref5_Div.j0 k a0 a1 (t405 != t406) false))))) else ((tabardref5_zero.f k a0).bind fun t413 => (if t413 = true then ((tabardref5_zero.f k a1).bind fun t414 => (tabardref5_Div.j0 k a0 a1 (t405 != t406) t414)) else (tabardref5_Div.j0 k a0 a1 (t405 != t406) false))))))))))) = some r := h
  clear h
  replace H := Option.bind_eq_some_iff.mp H
  obtain ⟨t405, A30, H⟩ := H
  try dsimp only at H
  have A3 := Aside0.mk A30
  clear A30
  replace H := Option.bind_eq_some_iff.mp H
  obtain ⟨t406, A40, H⟩ := H
  try dsimp only at H
  have A4 := Aside0.mk A40
  clear A40
  have HC5 := Aside0.mk H
  clear H
  go_enter Try.func46, Try.ntmps46
  go_upto_region 2 with (first | ((with_reducible refine gate_callee (f := 71) rfl ?_); refine goesL_ (some 15) rfl rfl Try.func71 (by kernel_rfl) rfl #[.int .u64 a0] rfl (by simp only [List.map_toArray, List.map_cons, List.map_nil] <;> rfl) ?_; (with_reducible refine (tabardref3_Is.calls a0 t405 _ A3.out).mono ?_); rintro e w' ⟨rfl, ⟨nd, rfl⟩⟩; refine ⟨_, rfl, ?_⟩) | ((with_reducible refine gate_callee (f := 71) rfl ?_); refine goesL_ (some 17) rfl rfl Try.func71 (by kernel_rfl) rfl #[.int .u64 a1] rfl (by simp only [List.map_toArray, List.map_cons, List.map_nil] <;> rfl) ?_; (with_reducible refine (tabardref3_Is.calls a1 t406 _ A4.out).mono ?_); rintro e w' ⟨rfl, ⟨nd, rfl⟩⟩; refine ⟨_, rfl, ?_⟩))
  (try simp only [Act.put, List.setIfInBounds_toArray, List.set_cons_zero, List.set_cons_succ])
  go_cut [19] (fun v19 wc => ∃ (kq : Nat) (x19_4 : Bool), v19 = .bool x19_4 ∧ Aside0 (tabardref5_Div.j0 kq a0 a1 (t405 != t406) x19_4 = some r) ∧ Aside0 (kq ≤ k) ∧ Aside0 (Below w.heap.size w wc))
  case first =>
    have H := HC5.out
    clear HC5
    replace H := Option.bind_eq_some_iff.mp H
    obtain ⟨t407, A60, H⟩ := H
    try dsimp only at H
    have A6 := Aside0.mk A60
    clear A60
    by_cases c7 : t407 = true
    · subst c7
      have H1 : (tabardref5_Div.j0 k a0 a1 (t405 != t406) true) = some r := by rw [if_pos rfl] at H; exact H
      clear H
      have H := H1
      clear H1
      have H' := Aside0.mk H
      clear H
      go_wp2_with (first | ((with_reducible refine gate_callee (f := 84) rfl ?_); refine goesL_ (some 21) rfl rfl Try.func84 (by kernel_rfl) rfl #[.int .u64 a0] rfl (by simp only [List.map_toArray, List.map_cons, List.map_nil] <;> rfl) ?_; (with_reducible refine (tabardref5_none.calls k a0 true _ A6.out).mono ?_); rintro e w' ⟨rfl, ⟨nd, rfl⟩⟩; refine ⟨_, rfl, ?_⟩))
      go_meet
      case rel => exact ⟨_, (true), (by first | rfl | (simp; done) | (simp [*]; done)), H', ⟨by first | omega | exact Nat.le_refl _⟩, ⟨by repeat (first | (with_reducible first | exact HB.out | apply below_alloc | apply pw_below_drewN | apply below_drew1) | exact HB.out)⟩⟩
    · replace c7 := Bool.eq_false_iff.mpr c7
      subst c7
      have H1 : ((tabardref5_none.f k a1).bind fun t408 => (if t408 = true then (tabardref5_Div.j0 k a0 a1 (t405 != t406) true) else ((tabardref5_endless.f k a0).bind fun t409 => (if t409 = true then ((tabardref5_endless.f k a1).bind fun t410 => (if t410 = true then (tabardref5_Div.j0 k a0 a1 (t405 != t406) true) else ((tabardref5_zero.f k a0).bind fun t411 => (if t411 = true then ((tabardref5_zero.f k a1).bind fun t412 => (tabardref5_Div.j0 k a0 a1 (t405 != t406) t412)) else (tabardref5_Div.j0 k a0 a1 (t405 != t406) false))))) else ((tabardref5_zero.f k a0).bind fun t413 => (if t413 = true then ((tabardref5_zero.f k a1).bind fun t414 => (tabardref5_Div.j0 k a0 a1 (t405 != t406) t414)) else (tabardref5_Div.j0 k a0 a1 (t405 != t406) false))))))) = some r := by rw [if_neg (show ¬ (false = true) by decide)] at H; exact H
      clear H
      have H := H1
      clear H1
      replace H := Option.bind_eq_some_iff.mp H
      obtain ⟨t408, A80, H⟩ := H
      try dsimp only at H
      have A8 := Aside0.mk A80
      clear A80
      by_cases c9 : t408 = true
      · subst c9
        have H1 : (tabardref5_Div.j0 k a0 a1 (t405 != t406) true) = some r := by rw [if_pos rfl] at H; exact H
        clear H
        have H := H1
        clear H1
        have H' := Aside0.mk H
        clear H
        go_wp2_with (first | ((with_reducible refine gate_callee (f := 84) rfl ?_); refine goesL_ (some 21) rfl rfl Try.func84 (by kernel_rfl) rfl #[.int .u64 a0] rfl (by simp only [List.map_toArray, List.map_cons, List.map_nil] <;> rfl) ?_; (with_reducible refine (tabardref5_none.calls k a0 false _ A6.out).mono ?_); rintro e w' ⟨rfl, ⟨nd, rfl⟩⟩; refine ⟨_, rfl, ?_⟩) | (go_at_call 84; (with_reducible refine (tabardref5_none.calls k a1 true _ A8.out).mono ?_); rintro e w' ⟨rfl, ⟨nd, rfl⟩⟩))
        go_meet
        case rel => exact ⟨_, (true), (by first | rfl | (simp; done) | (simp [*]; done)), H', ⟨by first | omega | exact Nat.le_refl _⟩, ⟨by repeat (first | (with_reducible first | exact HB.out | apply below_alloc | apply pw_below_drewN | apply below_drew1) | exact HB.out)⟩⟩
      · replace c9 := Bool.eq_false_iff.mpr c9
        subst c9
        have H1 : ((tabardref5_endless.f k a0).bind fun t409 => (if t409 = true then ((tabardref5_endless.f k a1).bind fun t410 => (if t410 = true then (tabardref5_Div.j0 k a0 a1 (t405 != t406) true) else ((tabardref5_zero.f k a0).bind fun t411 => (if t411 = true then ((tabardref5_zero.f k a1).bind fun t412 => (tabardref5_Div.j0 k a0 a1 (t405 != t406) t412)) else (tabardref5_Div.j0 k a0 a1 (t405 != t406) false))))) else ((tabardref5_zero.f k a0).bind fun t413 => (if t413 = true then ((tabardref5_zero.f k a1).bind fun t414 => (tabardref5_Div.j0 k a0 a1 (t405 != t406) t414)) else (tabardref5_Div.j0 k a0 a1 (t405 != t406) false))))) = some r := by rw [if_neg (show ¬ (false = true) by decide)] at H; exact H
        clear H
        have H := H1
        clear H1
        replace H := Option.bind_eq_some_iff.mp H
        obtain ⟨t409, A100, H⟩ := H
        try dsimp only at H
        have A10 := Aside0.mk A100
        clear A100
        by_cases c11 : t409 = true
        · subst c11
          have H1 : ((tabardref5_endless.f k a1).bind fun t410 => (if t410 = true then (tabardref5_Div.j0 k a0 a1 (t405 != t406) true) else ((tabardref5_zero.f k a0).bind fun t411 => (if t411 = true then ((tabardref5_zero.f k a1).bind fun t412 => (tabardref5_Div.j0 k a0 a1 (t405 != t406) t412)) else (tabardref5_Div.j0 k a0 a1 (t405 != t406) false))))) = some r := by rw [if_pos rfl] at H; exact H
          clear H
          have H := H1
          clear H1
          replace H := Option.bind_eq_some_iff.mp H
          obtain ⟨t410, A120, H⟩ := H
          try dsimp only at H
          have A12 := Aside0.mk A120
          clear A120
          by_cases c13 : t410 = true
          · subst c13
            have H1 : (tabardref5_Div.j0 k a0 a1 (t405 != t406) true) = some r := by rw [if_pos rfl] at H; exact H
            clear H
            have H := H1
            clear H1
            have H' := Aside0.mk H
            clear H
            go_wp2_with (first | ((with_reducible refine gate_callee (f := 84) rfl ?_); refine goesL_ (some 21) rfl rfl Try.func84 (by kernel_rfl) rfl #[.int .u64 a0] rfl (by simp only [List.map_toArray, List.map_cons, List.map_nil] <;> rfl) ?_; (with_reducible refine (tabardref5_none.calls k a0 false _ A6.out).mono ?_); rintro e w' ⟨rfl, ⟨nd, rfl⟩⟩; refine ⟨_, rfl, ?_⟩) | (go_at_call 84; (with_reducible refine (tabardref5_none.calls k a1 false _ A8.out).mono ?_); rintro e w' ⟨rfl, ⟨nd, rfl⟩⟩) | (go_at_call 85; (with_reducible refine (tabardref5_endless.calls k a0 true _ A10.out).mono ?_); rintro e w' ⟨rfl, ⟨nd, rfl⟩⟩) | (go_at_call 85; (with_reducible refine (tabardref5_endless.calls k a1 true _ A12.out).mono ?_); rintro e w' ⟨rfl, ⟨nd, rfl⟩⟩))
            go_meet
            case rel => exact ⟨_, (true), (by first | rfl | (simp; done) | (simp [*]; done)), H', ⟨by first | omega | exact Nat.le_refl _⟩, ⟨by repeat (first | (with_reducible first | exact HB.out | apply below_alloc | apply pw_below_drewN | apply below_drew1) | exact HB.out)⟩⟩
          · replace c13 := Bool.eq_false_iff.mpr c13
            subst c13
            have H1 : ((tabardref5_zero.f k a0).bind fun t411 => (if t411 = true then ((tabardref5_zero.f k a1).bind fun t412 => (tabardref5_Div.j0 k a0 a1 (t405 != t406) t412)) else (tabardref5_Div.j0 k a0 a1 (t405 != t406) false))) = some r := by rw [if_neg (show ¬ (false = true) by decide)] at H; exact H
            clear H
            have H := H1
            clear H1
            replace H := Option.bind_eq_some_iff.mp H
            obtain ⟨t411, A140, H⟩ := H
            try dsimp only at H
            have A14 := Aside0.mk A140
            clear A140
            by_cases c15 : t411 = true
            · subst c15
              have H1 : ((tabardref5_zero.f k a1).bind fun t412 => (tabardref5_Div.j0 k a0 a1 (t405 != t406) t412)) = some r := by rw [if_pos rfl] at H; exact H
              clear H
              have H := H1
              clear H1
              replace H := Option.bind_eq_some_iff.mp H
              obtain ⟨t412, A160, H⟩ := H
              try dsimp only at H
              have A16 := Aside0.mk A160
              clear A160
              have H' := Aside0.mk H
              clear H
              go_wp2_with (first | ((with_reducible refine gate_callee (f := 84) rfl ?_); refine goesL_ (some 21) rfl rfl Try.func84 (by kernel_rfl) rfl #[.int .u64 a0] rfl (by simp only [List.map_toArray, List.map_cons, List.map_nil] <;> rfl) ?_; (with_reducible refine (tabardref5_none.calls k a0 false _ A6.out).mono ?_); rintro e w' ⟨rfl, ⟨nd, rfl⟩⟩; refine ⟨_, rfl, ?_⟩) | (go_at_call 84; (with_reducible refine (tabardref5_none.calls k a1 false _ A8.out).mono ?_); rintro e w' ⟨rfl, ⟨nd, rfl⟩⟩) | (go_at_call 85; (with_reducible refine (tabardref5_endless.calls k a0 true _ A10.out).mono ?_); rintro e w' ⟨rfl, ⟨nd, rfl⟩⟩) | (go_at_call 85; (with_reducible refine (tabardref5_endless.calls k a1 false _ A12.out).mono ?_); rintro e w' ⟨rfl, ⟨nd, rfl⟩⟩) | (go_at_call 86; (with_reducible refine (tabardref5_zero.calls k a0 true _ A14.out).mono ?_); rintro e w' ⟨rfl, ⟨nd, rfl⟩⟩) | (go_at_call 86; (with_reducible refine (tabardref5_zero.calls k a1 t412 _ A16.out).mono ?_); rintro e w' ⟨rfl, ⟨nd, rfl⟩⟩))
              go_meet
              case rel => exact ⟨_, (t412), (by first | rfl | (simp; done) | (simp [*]; done)), H', ⟨by first | omega | exact Nat.le_refl _⟩, ⟨by repeat (first | (with_reducible first | exact HB.out | apply below_alloc | apply pw_below_drewN | apply below_drew1) | exact HB.out)⟩⟩
            · replace c15 := Bool.eq_false_iff.mpr c15
              subst c15
              have H1 : (tabardref5_Div.j0 k a0 a1 (t405 != t406) false) = some r := by rw [if_neg (show ¬ (false = true) by decide)] at H; exact H
              clear H
              have H := H1
              clear H1
              have H' := Aside0.mk H
              clear H
              go_wp2_with (first | ((with_reducible refine gate_callee (f := 84) rfl ?_); refine goesL_ (some 21) rfl rfl Try.func84 (by kernel_rfl) rfl #[.int .u64 a0] rfl (by simp only [List.map_toArray, List.map_cons, List.map_nil] <;> rfl) ?_; (with_reducible refine (tabardref5_none.calls k a0 false _ A6.out).mono ?_); rintro e w' ⟨rfl, ⟨nd, rfl⟩⟩; refine ⟨_, rfl, ?_⟩) | (go_at_call 84; (with_reducible refine (tabardref5_none.calls k a1 false _ A8.out).mono ?_); rintro e w' ⟨rfl, ⟨nd, rfl⟩⟩) | (go_at_call 85; (with_reducible refine (tabardref5_endless.calls k a0 true _ A10.out).mono ?_); rintro e w' ⟨rfl, ⟨nd, rfl⟩⟩) | (go_at_call 85; (with_reducible refine (tabardref5_endless.calls k a1 false _ A12.out).mono ?_); rintro e w' ⟨rfl, ⟨nd, rfl⟩⟩) | (go_at_call 86; (with_reducible refine (tabardref5_zero.calls k a0 false _ A14.out).mono ?_); rintro e w' ⟨rfl, ⟨nd, rfl⟩⟩))
              go_meet
              case rel => exact ⟨_, (false), (by first | rfl | (simp; done) | (simp [*]; done)), H', ⟨by first | omega | exact Nat.le_refl _⟩, ⟨by repeat (first | (with_reducible first | exact HB.out | apply below_alloc | apply pw_below_drewN | apply below_drew1) | exact HB.out)⟩⟩
        · replace c11 := Bool.eq_false_iff.mpr c11
          subst c11
          have H1 : ((tabardref5_zero.f k a0).bind fun t413 => (if t413 = true then ((tabardref5_zero.f k a1).bind fun t414 => (tabardref5_Div.j0 k a0 a1 (t405 != t406) t414)) else (tabardref5_Div.j0 k a0 a1 (t405 != t406) false))) = some r := by rw [if_neg (show ¬ (false = true) by decide)] at H; exact H
          clear H
          have H := H1
          clear H1
          replace H := Option.bind_eq_some_iff.mp H
          obtain ⟨t413, A170, H⟩ := H
          try dsimp only at H
          have A17 := Aside0.mk A170
          clear A170
          by_cases c18 : t413 = true
          · subst c18
            have H1 : ((tabardref5_zero.f k a1).bind fun t414 => (tabardref5_Div.j0 k a0 a1 (t405 != t406) t414)) = some r := by rw [if_pos rfl] at H; exact H
            clear H
            have H := H1
            clear H1
            replace H := Option.bind_eq_some_iff.mp H
            obtain ⟨t414, A190, H⟩ := H
            try dsimp only at H
            have A19 := Aside0.mk A190
            clear A190
            have H' := Aside0.mk H
            clear H
            go_wp2_with (first | ((with_reducible refine gate_callee (f := 84) rfl ?_); refine goesL_ (some 21) rfl rfl Try.func84 (by kernel_rfl) rfl #[.int .u64 a0] rfl (by simp only [List.map_toArray, List.map_cons, List.map_nil] <;> rfl) ?_; (with_reducible refine (tabardref5_none.calls k a0 false _ A6.out).mono ?_); rintro e w' ⟨rfl, ⟨nd, rfl⟩⟩; refine ⟨_, rfl, ?_⟩) | (go_at_call 84; (with_reducible refine (tabardref5_none.calls k a1 false _ A8.out).mono ?_); rintro e w' ⟨rfl, ⟨nd, rfl⟩⟩) | (go_at_call 85; (with_reducible refine (tabardref5_endless.calls k a0 false _ A10.out).mono ?_); rintro e w' ⟨rfl, ⟨nd, rfl⟩⟩) | (go_at_call 86; (with_reducible refine (tabardref5_zero.calls k a0 true _ A17.out).mono ?_); rintro e w' ⟨rfl, ⟨nd, rfl⟩⟩) | (go_at_call 86; (with_reducible refine (tabardref5_zero.calls k a1 t414 _ A19.out).mono ?_); rintro e w' ⟨rfl, ⟨nd, rfl⟩⟩))
            go_meet
            case rel => exact ⟨_, (t414), (by first | rfl | (simp; done) | (simp [*]; done)), H', ⟨by first | omega | exact Nat.le_refl _⟩, ⟨by repeat (first | (with_reducible first | exact HB.out | apply below_alloc | apply pw_below_drewN | apply below_drew1) | exact HB.out)⟩⟩
          · replace c18 := Bool.eq_false_iff.mpr c18
            subst c18
            have H1 : (tabardref5_Div.j0 k a0 a1 (t405 != t406) false) = some r := by rw [if_neg (show ¬ (false = true) by decide)] at H; exact H
            clear H
            have H := H1
            clear H1
            have H' := Aside0.mk H
            clear H
            go_wp2_with (first | ((with_reducible refine gate_callee (f := 84) rfl ?_); refine goesL_ (some 21) rfl rfl Try.func84 (by kernel_rfl) rfl #[.int .u64 a0] rfl (by simp only [List.map_toArray, List.map_cons, List.map_nil] <;> rfl) ?_; (with_reducible refine (tabardref5_none.calls k a0 false _ A6.out).mono ?_); rintro e w' ⟨rfl, ⟨nd, rfl⟩⟩; refine ⟨_, rfl, ?_⟩) | (go_at_call 84; (with_reducible refine (tabardref5_none.calls k a1 false _ A8.out).mono ?_); rintro e w' ⟨rfl, ⟨nd, rfl⟩⟩) | (go_at_call 85; (with_reducible refine (tabardref5_endless.calls k a0 false _ A10.out).mono ?_); rintro e w' ⟨rfl, ⟨nd, rfl⟩⟩) | (go_at_call 86; (with_reducible refine (tabardref5_zero.calls k a0 false _ A17.out).mono ?_); rintro e w' ⟨rfl, ⟨nd, rfl⟩⟩))
            go_meet
            case rel => exact ⟨_, (false), (by first | rfl | (simp; done) | (simp [*]; done)), H', ⟨by first | omega | exact Nat.le_refl _⟩, ⟨by repeat (first | (with_reducible first | exact HB.out | apply below_alloc | apply pw_below_drewN | apply below_drew1) | exact HB.out)⟩⟩
  case rest =>
    clear HC5
    try clear c1
    try clear p2
    try clear c4
    try clear c7
    try clear c8
    try clear c9
    try clear c11
    try clear c13
    try clear c15
    try clear c18
    obtain ⟨kq, x19_4, rfl, HA, HJ4, HB⟩ := hcut
    cases kq with
    | zero => exact absurd HA.out (by simp [tabardref5_Div.j0])
    | succ kj4 =>
      have H := HA.out
      clear HA
      simp only [tabardref5_Div.j0] at H
      by_cases c20 : x19_4 = true
      · subst c20
        have H1 : (some 9221120237041090560) = some r := by rw [if_pos rfl] at H; exact H
        clear H
        have H := H1
        clear H1
        obtain rfl := Option.some.inj H
        go_wp2
        go_ret
        exact ⟨by first | rfl | (simp [errW_none, errW_some] <;> rfl) | (simp [*, errW_none, errW_some] <;> rfl), by repeat (first | (with_reducible first | exact HB.out | apply below_alloc | apply pw_below_drewN | apply below_drew1) | exact HB.out)⟩
      · replace c20 := Bool.eq_false_iff.mpr c20
        subst c20
        have H1 : ((tabardref5_endless.f kj4 a0).bind fun t415 => (if t415 = true then (tabardref5_Div.j1 kj4 a0 a1 (t405 != t406) true) else ((tabardref5_zero.f kj4 a1).bind fun t416 => (tabardref5_Div.j1 kj4 a0 a1 (t405 != t406) t416)))) = some r := by rw [if_neg (show ¬ (false = true) by decide)] at H; exact H
        clear H
        have H := H1
        clear H1
        have HC21 := Aside0.mk H
        clear H
        go_upto_region 4 with (fail)
        go_cut [42] (fun v42 wc => ∃ (kq : Nat) (x42_20 : Bool), v42 = .bool x42_20 ∧ Aside0 (tabardref5_Div.j1 kq a0 a1 (t405 != t406) x42_20 = some r) ∧ Aside0 (kq ≤ kj4) ∧ Aside0 (Below w.heap.size w wc))
        case first =>
          have H := HC21.out
          clear HC21
          replace H := Option.bind_eq_some_iff.mp H
          obtain ⟨t415, A220, H⟩ := H
          try dsimp only at H
          have A22 := Aside0.mk A220
          clear A220
          by_cases c23 : t415 = true
          · subst c23
            have H1 : (tabardref5_Div.j1 kj4 a0 a1 (t405 != t406) true) = some r := by rw [if_pos rfl] at H; exact H
            clear H
            have H := H1
            clear H1
            have H' := Aside0.mk H
            clear H
            go_wp2_with (first | ((with_reducible refine gate_callee (f := 85) rfl ?_); refine goesL_ (some 44) rfl rfl Try.func85 (by kernel_rfl) rfl #[.int .u64 a0] rfl (by simp only [List.map_toArray, List.map_cons, List.map_nil] <;> rfl) ?_; (with_reducible refine (tabardref5_endless.calls kj4 a0 true _ A22.out).mono ?_); rintro e w' ⟨rfl, ⟨nd, rfl⟩⟩; refine ⟨_, rfl, ?_⟩))
            go_meet
            case rel => exact ⟨_, (true), (by first | rfl | (simp; done) | (simp [*]; done)), H', ⟨by have := HJ4.out; first | omega | exact Nat.le_refl _⟩, ⟨by repeat (first | (with_reducible first | exact HB.out | apply below_alloc | apply pw_below_drewN | apply below_drew1) | exact HB.out)⟩⟩
          · replace c23 := Bool.eq_false_iff.mpr c23
            subst c23
            have H1 : ((tabardref5_zero.f kj4 a1).bind fun t416 => (tabardref5_Div.j1 kj4 a0 a1 (t405 != t406) t416)) = some r := by rw [if_neg (show ¬ (false = true) by decide)] at H; exact H
            clear H
            have H := H1
            clear H1
            replace H := Option.bind_eq_some_iff.mp H
            obtain ⟨t416, A240, H⟩ := H
            try dsimp only at H
            have A24 := Aside0.mk A240
            clear A240
            have H' := Aside0.mk H
            clear H
            go_wp2_with (first | ((with_reducible refine gate_callee (f := 85) rfl ?_); refine goesL_ (some 44) rfl rfl Try.func85 (by kernel_rfl) rfl #[.int .u64 a0] rfl (by simp only [List.map_toArray, List.map_cons, List.map_nil] <;> rfl) ?_; (with_reducible refine (tabardref5_endless.calls kj4 a0 false _ A22.out).mono ?_); rintro e w' ⟨rfl, ⟨nd, rfl⟩⟩; refine ⟨_, rfl, ?_⟩) | (go_at_call 86; (with_reducible refine (tabardref5_zero.calls kj4 a1 t416 _ A24.out).mono ?_); rintro e w' ⟨rfl, ⟨nd, rfl⟩⟩))
            go_meet
            case rel => exact ⟨_, (t416), (by first | rfl | (simp; done) | (simp [*]; done)), H', ⟨by have := HJ4.out; first | omega | exact Nat.le_refl _⟩, ⟨by repeat (first | (with_reducible first | exact HB.out | apply below_alloc | apply pw_below_drewN | apply below_drew1) | exact HB.out)⟩⟩
        case rest =>
          clear HC21
          try clear c1
          try clear c2
          try clear p2
          try clear c4
          try clear c7
          try clear c8
          try clear c9
          try clear c11
          try clear c13
          try clear c15
          try clear c18
          try clear c20
          try clear c23
          try clear p2
          obtain ⟨kq, x42_20, rfl, HA, HJ20, HB⟩ := hcut
          cases kq with
          | zero => exact absurd HA.out (by simp [tabardref5_Div.j1])
          | succ kj20 =>
            have H := HA.out
            clear HA
            simp only [tabardref5_Div.j1] at H
            by_cases c25 : x42_20 = true
            · subst c25
              have H1 : ((tabardref5_with.f (t405 != t406) 9218868437227405312).bind fun t417 => (some t417)) = some r := by rw [if_pos rfl] at H; exact H
              clear H
              have H := H1
              clear H1
              replace H := Option.bind_eq_some_iff.mp H
              obtain ⟨t417, A260, H⟩ := H
              try dsimp only at H
              have A26 := Aside0.mk A260
              clear A260
              obtain rfl := Option.some.inj H
              go_wp2_with (first | ((with_reducible refine gate_callee (f := 87) rfl ?_); refine goesL_ (some 50) rfl rfl Try.func87 (by kernel_rfl) rfl #[.bool (t405 != t406), .int .u64 9218868437227405312] rfl (by simp only [List.map_toArray, List.map_cons, List.map_nil] <;> rfl) ?_; (with_reducible refine (tabardref5_with.calls (t405 != t406) 9218868437227405312 t417 _ A26.out).mono ?_); rintro e w' ⟨rfl, ⟨nd, rfl⟩⟩; refine ⟨_, rfl, ?_⟩))
              go_ret
              exact ⟨by first | rfl | (simp [errW_none, errW_some] <;> rfl) | (simp [*, errW_none, errW_some] <;> rfl), by repeat (first | (with_reducible first | exact HB.out | apply below_alloc | apply pw_below_drewN | apply below_drew1) | exact HB.out)⟩
            · replace c25 := Bool.eq_false_iff.mpr c25
              subst c25
              have H1 : ((tabardref5_zero.f kj20 a0).bind fun t418 => (if t418 = true then ((tabardref5_with.f (t405 != t406) 0).bind fun t419 => (some t419)) else ((tabardref5_endless.f kj20 a1).bind fun t420 => (if t420 = true then ((tabardref5_with.f (t405 != t406) 0).bind fun t421 => (some t421)) else ((tabardref3_Split.f kj20 a0).bind fun bt422 => ((tabardref3_Split.f kj20 a1).bind fun bt425 => ((tabardref3_Nat.f kj20 bt422.2.1).bind fun t428 => ((tabardref3_Up.f kj20 t428 128).bind fun t431 => ((tabardref3_Nat.f kj20 bt425.2.1).bind fun t434 => ((tabardref1_Parts.f kj20 t431 t434).bind fun bt437 => ((tabardref3_Round.f kj20 (t405 != t406) bt437.1 (wrap64 ((wrap64 (bt422.2.2 - bt425.2.2)) - 128)) (decide ((bt437.2.length : Int) > 0))).bind fun t443 => (some t443)))))))))))) = some r := by rw [if_neg (show ¬ (false = true) by decide)] at H; exact H
              clear H
              have H := H1
              clear H1
              replace H := Option.bind_eq_some_iff.mp H
              obtain ⟨t418, A270, H⟩ := H
              try dsimp only at H
              have A27 := Aside0.mk A270
              clear A270
              by_cases c28 : t418 = true
              · subst c28
                have H1 : ((tabardref5_with.f (t405 != t406) 0).bind fun t419 => (some t419)) = some r := by rw [if_pos rfl] at H; exact H
                clear H
                have H := H1
                clear H1
                replace H := Option.bind_eq_some_iff.mp H
                obtain ⟨t419, A290, H⟩ := H
                try dsimp only at H
                have A29 := Aside0.mk A290
                clear A290
                obtain rfl := Option.some.inj H
                go_wp2_with (first | ((with_reducible refine gate_callee (f := 86) rfl ?_); refine goesL_ (some 53) rfl rfl Try.func86 (by kernel_rfl) rfl #[.int .u64 a0] rfl (by simp only [List.map_toArray, List.map_cons, List.map_nil] <;> rfl) ?_; (with_reducible refine (tabardref5_zero.calls kj20 a0 true _ A27.out).mono ?_); rintro e w' ⟨rfl, ⟨nd, rfl⟩⟩; refine ⟨_, rfl, ?_⟩) | ((with_reducible refine gate_callee (f := 87) rfl ?_); refine goesL_ (some 59) rfl rfl Try.func87 (by kernel_rfl) rfl #[.bool (t405 != t406), .int .u64 0] rfl (by simp only [List.map_toArray, List.map_cons, List.map_nil] <;> rfl) ?_; (with_reducible refine (tabardref5_with.calls (t405 != t406) 0 t419 _ A29.out).mono ?_); rintro e w' ⟨rfl, ⟨nd, rfl⟩⟩; refine ⟨_, rfl, ?_⟩))
                go_ret
                exact ⟨by first | rfl | (simp [errW_none, errW_some] <;> rfl) | (simp [*, errW_none, errW_some] <;> rfl), by repeat (first | (with_reducible first | exact HB.out | apply below_alloc | apply pw_below_drewN | apply below_drew1) | exact HB.out)⟩
              · replace c28 := Bool.eq_false_iff.mpr c28
                subst c28
                have H1 : ((tabardref5_endless.f kj20 a1).bind fun t420 => (if t420 = true then ((tabardref5_with.f (t405 != t406) 0).bind fun t421 => (some t421)) else ((tabardref3_Split.f kj20 a0).bind fun bt422 => ((tabardref3_Split.f kj20 a1).bind fun bt425 => ((tabardref3_Nat.f kj20 bt422.2.1).bind fun t428 => ((tabardref3_Up.f kj20 t428 128).bind fun t431 => ((tabardref3_Nat.f kj20 bt425.2.1).bind fun t434 => ((tabardref1_Parts.f kj20 t431 t434).bind fun bt437 => ((tabardref3_Round.f kj20 (t405 != t406) bt437.1 (wrap64 ((wrap64 (bt422.2.2 - bt425.2.2)) - 128)) (decide ((bt437.2.length : Int) > 0))).bind fun t443 => (some t443)))))))))) = some r := by rw [if_neg (show ¬ (false = true) by decide)] at H; exact H
                clear H
                have H := H1
                clear H1
                replace H := Option.bind_eq_some_iff.mp H
                obtain ⟨t420, A300, H⟩ := H
                try dsimp only at H
                have A30 := Aside0.mk A300
                clear A300
                by_cases c31 : t420 = true
                · subst c31
                  have H1 : ((tabardref5_with.f (t405 != t406) 0).bind fun t421 => (some t421)) = some r := by rw [if_pos rfl] at H; exact H
                  clear H
                  have H := H1
                  clear H1
                  replace H := Option.bind_eq_some_iff.mp H
                  obtain ⟨t421, A320, H⟩ := H
                  try dsimp only at H
                  have A32 := Aside0.mk A320
                  clear A320
                  obtain rfl := Option.some.inj H
                  go_wp2_with (first | ((with_reducible refine gate_callee (f := 86) rfl ?_); refine goesL_ (some 53) rfl rfl Try.func86 (by kernel_rfl) rfl #[.int .u64 a0] rfl (by simp only [List.map_toArray, List.map_cons, List.map_nil] <;> rfl) ?_; (with_reducible refine (tabardref5_zero.calls kj20 a0 false _ A27.out).mono ?_); rintro e w' ⟨rfl, ⟨nd, rfl⟩⟩; refine ⟨_, rfl, ?_⟩) | (go_at_call 85; (with_reducible refine (tabardref5_endless.calls kj20 a1 true _ A30.out).mono ?_); rintro e w' ⟨rfl, ⟨nd, rfl⟩⟩) | ((with_reducible refine gate_callee (f := 87) rfl ?_); refine goesL_ (some 59) rfl rfl Try.func87 (by kernel_rfl) rfl #[.bool (t405 != t406), .int .u64 0] rfl (by simp only [List.map_toArray, List.map_cons, List.map_nil] <;> rfl) ?_; (with_reducible refine (tabardref5_with.calls (t405 != t406) 0 t421 _ A32.out).mono ?_); rintro e w' ⟨rfl, ⟨nd, rfl⟩⟩; refine ⟨_, rfl, ?_⟩))
                  go_ret
                  exact ⟨by first | rfl | (simp [errW_none, errW_some] <;> rfl) | (simp [*, errW_none, errW_some] <;> rfl), by repeat (first | (with_reducible first | exact HB.out | apply below_alloc | apply pw_below_drewN | apply below_drew1) | exact HB.out)⟩
                · replace c31 := Bool.eq_false_iff.mpr c31
                  subst c31
                  have H1 : ((tabardref3_Split.f kj20 a0).bind fun bt422 => ((tabardref3_Split.f kj20 a1).bind fun bt425 => ((tabardref3_Nat.f kj20 bt422.2.1).bind fun t428 => ((tabardref3_Up.f kj20 t428 128).bind fun t431 => ((tabardref3_Nat.f kj20 bt425.2.1).bind fun t434 => ((tabardref1_Parts.f kj20 t431 t434).bind fun bt437 => ((tabardref3_Round.f kj20 (t405 != t406) bt437.1 (wrap64 ((wrap64 (bt422.2.2 - bt425.2.2)) - 128)) (decide ((bt437.2.length : Int) > 0))).bind fun t443 => (some t443)))))))) = some r := by rw [if_neg (show ¬ (false = true) by decide)] at H; exact H
                  clear H
                  have H := H1
                  clear H1
                  replace H := Option.bind_eq_some_iff.mp H
                  obtain ⟨⟨t422, t423, t424⟩, A330, H⟩ := H
                  try dsimp only at H
                  have A33 := Aside0.mk A330
                  clear A330
                  replace H := Option.bind_eq_some_iff.mp H
                  obtain ⟨⟨t425, t426, t427⟩, A340, H⟩ := H
                  try dsimp only at H
                  have A34 := Aside0.mk A340
                  clear A340
                  replace H := Option.bind_eq_some_iff.mp H
                  obtain ⟨t428, A350, H⟩ := H
                  try dsimp only at H
                  have A35 := Aside0.mk A350
                  clear A350
                  replace H := Option.bind_eq_some_iff.mp H
                  obtain ⟨t431, A360, H⟩ := H
                  try dsimp only at H
                  have A36 := Aside0.mk A360
                  clear A360
                  replace H := Option.bind_eq_some_iff.mp H
                  obtain ⟨t434, A370, H⟩ := H
                  try dsimp only at H
                  have A37 := Aside0.mk A370
                  clear A370
                  replace H := Option.bind_eq_some_iff.mp H
                  obtain ⟨⟨t437, t438⟩, A380, H⟩ := H
                  try dsimp only at H
                  have A38 := Aside0.mk A380
                  clear A380
                  replace H := Option.bind_eq_some_iff.mp H
                  obtain ⟨t443, A390, H⟩ := H
                  try dsimp only at H
                  have A39 := Aside0.mk A390
                  clear A390
                  obtain rfl := Option.some.inj H
                  obtain ⟨bm, hbm⟩ : ∃ bm : Bool, decide ((t438.length : Int) > 0) = bm := ⟨_, rfl⟩
                  rw [hbm] at A39
                  have hbm1 : decide ((0 : Int) < (t438.length : Int)) = bm := hbm
                  have hbm2 : decide (0 < t438.length) = bm := by rw [← hbm]; exact decide_eq_decide.2 (by omega)
                  clear hbm
                  go_wp2_with (first | ((with_reducible refine gate_callee (f := 86) rfl ?_); refine goesL_ (some 53) rfl rfl Try.func86 (by kernel_rfl) rfl #[.int .u64 a0] rfl (by simp only [List.map_toArray, List.map_cons, List.map_nil] <;> rfl) ?_; (with_reducible refine (tabardref5_zero.calls kj20 a0 false _ A27.out).mono ?_); rintro e w' ⟨rfl, ⟨nd, rfl⟩⟩; refine ⟨_, rfl, ?_⟩) | (go_at_call 85; (with_reducible refine (tabardref5_endless.calls kj20 a1 false _ A30.out).mono ?_); rintro e w' ⟨rfl, ⟨nd, rfl⟩⟩) | ((with_reducible refine gate_callee (f := 55) rfl ?_); refine goesL_ (some 62) rfl rfl Try.func55 (by kernel_rfl) rfl #[.int .u64 a0] rfl (by simp only [List.map_toArray, List.map_cons, List.map_nil] <;> rfl) ?_; (with_reducible refine (tabardref3_Split.calls kj20 a0 t422 t423 t424 _ A33.out).mono ?_); rintro e w' ⟨rfl, ⟨nd, rfl⟩⟩; refine ⟨_, rfl, ?_⟩) | ((with_reducible refine gate_callee (f := 55) rfl ?_); refine goesL_ (some 68) rfl rfl Try.func55 (by kernel_rfl) rfl #[.int .u64 a1] rfl (by simp only [List.map_toArray, List.map_cons, List.map_nil] <;> rfl) ?_; (with_reducible refine (tabardref3_Split.calls kj20 a1 t425 t426 t427 _ A34.out).mono ?_); rintro e w' ⟨rfl, ⟨nd, rfl⟩⟩; refine ⟨_, rfl, ?_⟩) | ((with_reducible refine gate_callee (f := 76) rfl ?_); refine goesL_ (some 74) rfl rfl Try.func76 (by kernel_rfl) rfl #[.int .u64 t423] rfl (by simp only [List.map_toArray, List.map_cons, List.map_nil] <;> rfl) ?_; (with_reducible refine (tabardref3_Nat.calls kj20 t423 t428 _ A35.out).mono ?_); rintro e w40 ⟨v429, rfl, ho0, hb⟩; refine ⟨_, rfl, ?_⟩; have n0_ := Aside0.mk (Kd.R_lower ho0 (below_size (by repeat (first | (with_reducible first | exact HB.out | apply below_alloc | apply pw_below_drewN | apply below_drew1) | exact HB.out)))); have n1_ := Aside0.mk (below_step (by repeat (first | (with_reducible first | exact HB.out | apply below_alloc | apply pw_below_drewN | apply below_drew1) | exact HB.out)) hb); clear HB; have HO430 := n0_; have HB := n1_; clear n0_ n1_; (try clear hb); (try clear hb2); (try clear hk); (try clear hi); (try clear ho0); obtain ⟨Ao41, co41, eo41⟩ := Kd.R_slice HO430.out; subst eo41) | ((with_reducible refine gate_callee (f := 89) rfl ?_); refine goesL_ (some 75) rfl rfl Try.func89 (by kernel_rfl) rfl #[.slice Ao41 t428.length co41, .int .i64 128] rfl (by simp only [List.map_toArray, List.map_cons, List.map_nil] <;> rfl) ?_; (with_reducible refine (tabardref3_Up.calls kj20 _ _ t428 128 t431 _ ?side1 ?side2 A36.out).mono ?_); (case side1 => repeat (first | exact (Kd.R_reads' HO430.out).2.2 | (with_reducible refine Kd.C_alloc ?_ _) | (with_reducible refine Kd.C_drewN ?_ _) | (with_reducible refine Kd.C_drew ?_))); (case side2 => exact (Kd.R_reads' HO430.out).2.1); rintro e w42 ⟨v432, rfl, ho0, hb⟩; refine ⟨_, rfl, ?_⟩; have n0_ := Aside0.mk (Kd.R_elder' (by (with_reducible repeat (first | apply Kd.R_alloc | apply Kd.R_drewN | apply Kd.R_drew)); exact HO430.out) (Kd.R_base ho0) hb); have n1_ := Aside0.mk (Kd.R_lower (Kd.R_new' ho0 (Kd.R_lt (by (with_reducible repeat (first | apply Kd.R_alloc | apply Kd.R_drewN | apply Kd.R_drew)); exact HO430.out))) (below_size (by repeat (first | (with_reducible first | exact HB.out | apply below_alloc | apply pw_below_drewN | apply below_drew1) | exact HB.out)))); have n2_ := Aside0.mk (below_step (by repeat (first | (with_reducible first | exact HB.out | apply below_alloc | apply pw_below_drewN | apply below_drew1) | exact HB.out)) hb); clear HO430; clear HB; have HO430 := n0_; have HO433 := n1_; have HB := n2_; clear n0_ n1_ n2_; (try clear hb); (try clear hb2); (try clear hk); (try clear hi); (try clear ho0)) | ((with_reducible refine gate_callee (f := 76) rfl ?_); refine goesL_ (some 77) rfl rfl Try.func76 (by kernel_rfl) rfl #[.int .u64 t426] rfl (by simp only [List.map_toArray, List.map_cons, List.map_nil] <;> rfl) ?_; (with_reducible refine (tabardref3_Nat.calls kj20 t426 t434 _ A37.out).mono ?_); rintro e w43 ⟨v435, rfl, ho0, hb⟩; refine ⟨_, rfl, ?_⟩; have n0_ := Aside0.mk (Kd.R_elder' (by (with_reducible repeat (first | apply Kd.R_alloc | apply Kd.R_drewN | apply Kd.R_drew)); exact HO430.out) (Kd.R_base ho0) hb); have n1_ := Aside0.mk (Kd.R_elder' (by (with_reducible repeat (first | apply Kd.R_alloc | apply Kd.R_drewN | apply Kd.R_drew)); exact HO433.out) (Kd.R_base ho0) hb); have n2_ := Aside0.mk (Kd.R_lower (Kd.R_new' (Kd.R_new' ho0 (Kd.R_lt (by (with_reducible repeat (first | apply Kd.R_alloc | apply Kd.R_drewN | apply Kd.R_drew)); exact HO430.out))) (Kd.R_lt (by (with_reducible repeat (first | apply Kd.R_alloc | apply Kd.R_drewN | apply Kd.R_drew)); exact HO433.out))) (below_size (by repeat (first | (with_reducible first | exact HB.out | apply below_alloc | apply pw_below_drewN | apply below_drew1) | exact HB.out)))); have n3_ := Aside0.mk (below_step (by repeat (first | (with_reducible first | exact HB.out | apply below_alloc | apply pw_below_drewN | apply below_drew1) | exact HB.out)) hb); clear HO430; clear HO433; clear HB; have HO430 := n0_; have HO433 := n1_; have HO436 := n2_; have HB := n3_; clear n0_ n1_ n2_ n3_; (try clear hb); (try clear hb2); (try clear hk); (try clear hi); (try clear ho0); obtain ⟨Ao44, co44, eo44⟩ := Kd.R_slice HO433.out; subst eo44; obtain ⟨Ao45, co45, eo45⟩ := Kd.R_slice HO436.out; subst eo45) | ((with_reducible refine gate_callee (f := 88) rfl ?_); refine goesL_ (some 78) rfl rfl Try.func88 (by kernel_rfl) rfl #[.slice Ao44 t431.length co44, .slice Ao45 t434.length co45] rfl (by simp only [List.map_toArray, List.map_cons, List.map_nil] <;> rfl) ?_; (with_reducible refine (tabardref1_Parts.calls kj20 _ _ t431 _ _ t434 t437 t438 _ ?side1 ?side2 ?side3 ?side4 A38.out).mono ?_); (case side1 => repeat (first | exact (Kd.R_reads' HO433.out).2.2 | (with_reducible refine Kd.C_alloc ?_ _) | (with_reducible refine Kd.C_drewN ?_ _) | (with_reducible refine Kd.C_drew ?_))); (case side2 => exact (Kd.R_reads' HO433.out).2.1); (case side3 => repeat (first | exact (Kd.R_reads' HO436.out).2.2 | (with_reducible refine Kd.C_alloc ?_ _) | (with_reducible refine Kd.C_drewN ?_ _) | (with_reducible refine Kd.C_drew ?_))); (case side4 => exact (Kd.R_reads' HO436.out).2.1); rintro e w46 ⟨v439, v441, rfl, ho0, ho1, hb⟩; refine ⟨_, rfl, ?_⟩; have n0_ := Aside0.mk (Kd.R_mono (Kd.R_told (Kd.R_told (Kd.R_old (by (with_reducible repeat (first | apply Kd.R_alloc | apply Kd.R_drewN | apply Kd.R_drew)); exact HO430.out) hb) (Kd.R_base ho0)) (Kd.R_base ho1)) (fun _ h_ => h_.1)); have n1_ := Aside0.mk (Kd.R_mono (Kd.R_told (Kd.R_told (Kd.R_old (by (with_reducible repeat (first | apply Kd.R_alloc | apply Kd.R_drewN | apply Kd.R_drew)); exact HO433.out) hb) (Kd.R_base ho0)) (Kd.R_base ho1)) (fun _ h_ => h_.1)); have n2_ := Aside0.mk (Kd.R_mono (Kd.R_told (Kd.R_told (Kd.R_old (by (with_reducible repeat (first | apply Kd.R_alloc | apply Kd.R_drewN | apply Kd.R_drew)); exact HO436.out) hb) (Kd.R_base ho0)) (Kd.R_base ho1)) (fun _ h_ => h_.1)); have n3_ := Aside0.mk (Kd.R_lower (Kd.R_new' (Kd.R_new' (Kd.R_new' ho0 (Kd.R_lt (by (with_reducible repeat (first | apply Kd.R_alloc | apply Kd.R_drewN | apply Kd.R_drew)); exact HO430.out))) (Kd.R_lt (by (with_reducible repeat (first | apply Kd.R_alloc | apply Kd.R_drewN | apply Kd.R_drew)); exact HO433.out))) (Kd.R_lt (by (with_reducible repeat (first | apply Kd.R_alloc | apply Kd.R_drewN | apply Kd.R_drew)); exact HO436.out))) (below_size (by repeat (first | (with_reducible first | exact HB.out | apply below_alloc | apply pw_below_drewN | apply below_drew1) | exact HB.out)))); have n4_ := Aside0.mk (Kd.R_lower (Kd.R_new' (Kd.R_new' (Kd.R_new' ho1 (Kd.R_lt (by (with_reducible repeat (first | apply Kd.R_alloc | apply Kd.R_drewN | apply Kd.R_drew)); exact HO430.out))) (Kd.R_lt (by (with_reducible repeat (first | apply Kd.R_alloc | apply Kd.R_drewN | apply Kd.R_drew)); exact HO433.out))) (Kd.R_lt (by (with_reducible repeat (first | apply Kd.R_alloc | apply Kd.R_drewN | apply Kd.R_drew)); exact HO436.out))) (below_size (by repeat (first | (with_reducible first | exact HB.out | apply below_alloc | apply pw_below_drewN | apply below_drew1) | exact HB.out)))); have n5_ := Aside0.mk (below_step (by repeat (first | (with_reducible first | exact HB.out | apply below_alloc | apply pw_below_drewN | apply below_drew1) | exact HB.out)) hb); clear HO430; clear HO433; clear HO436; clear HB; have HO430 := n0_; have HO433 := n1_; have HO436 := n2_; have HO440 := n3_; have HO442 := n4_; have HB := n5_; clear n0_ n1_ n2_ n3_ n4_ n5_; (try clear hb); (try clear hb2); (try clear hk); (try clear hi); (try clear ho0); (try clear ho1); obtain ⟨Ao47, co47, eo47⟩ := Kd.R_slice HO442.out; subst eo47; obtain ⟨Ao48, co48, eo48⟩ := Kd.R_slice HO440.out; subst eo48) | ((with_reducible refine gate_callee (f := 74) rfl ?_); refine goesL_ (some 90) rfl rfl Try.func74 (by kernel_rfl) rfl #[.bool (t405 != t406), .slice Ao48 t437.length co48, .int .i64 (wrap64 ((wrap64 (t424 - t427)) - 128)), .bool bm] rfl (by simp only [List.map_toArray, List.map_cons, List.map_nil] <;> rfl) ?_; (with_reducible refine (tabardref3_Round.calls kj20 (t405 != t406) _ _ t437 (wrap64 ((wrap64 (t424 - t427)) - 128)) bm t443 _ ?side1 ?side2 A39.out).mono ?_); (case side1 => repeat (first | exact (Kd.R_reads' HO440.out).2.2 | (with_reducible refine Kd.C_alloc ?_ _) | (with_reducible refine Kd.C_drewN ?_ _) | (with_reducible refine Kd.C_drew ?_))); (case side2 => exact (Kd.R_reads' HO440.out).2.1); rintro e w49 ⟨rfl, hb⟩; refine ⟨_, rfl, ?_⟩; have n0_ := Aside0.mk (Kd.R_below (by (with_reducible repeat (first | apply Kd.R_alloc | apply Kd.R_drewN | apply Kd.R_drew)); exact HO430.out) hb); have n1_ := Aside0.mk (Kd.R_below (by (with_reducible repeat (first | apply Kd.R_alloc | apply Kd.R_drewN | apply Kd.R_drew)); exact HO433.out) hb); have n2_ := Aside0.mk (Kd.R_below (by (with_reducible repeat (first | apply Kd.R_alloc | apply Kd.R_drewN | apply Kd.R_drew)); exact HO436.out) hb); have n3_ := Aside0.mk (Kd.R_below (by (with_reducible repeat (first | apply Kd.R_alloc | apply Kd.R_drewN | apply Kd.R_drew)); exact HO440.out) hb); have n4_ := Aside0.mk (Kd.R_below (by (with_reducible repeat (first | apply Kd.R_alloc | apply Kd.R_drewN | apply Kd.R_drew)); exact HO442.out) hb); have n5_ := Aside0.mk (below_step (by repeat (first | (with_reducible first | exact HB.out | apply below_alloc | apply pw_below_drewN | apply below_drew1) | exact HB.out)) hb); clear HO430; clear HO433; clear HO436; clear HO440; clear HO442; clear HB; have HO430 := n0_; have HO433 := n1_; have HO436 := n2_; have HO440 := n3_; have HO442 := n4_; have HB := n5_; clear n0_ n1_ n2_ n3_ n4_ n5_; (try clear hb); (try clear hb2); (try clear hk); (try clear hi)))
                  go_ret
                  exact ⟨by first | rfl | (simp [errW_none, errW_some] <;> rfl) | (simp [*, errW_none, errW_some] <;> rfl), by repeat (first | (with_reducible first | exact HB.out | apply below_alloc | apply pw_below_drewN | apply below_drew1) | exact HB.out)⟩

end Go.Proofs.Ytaplggheadahhaa.R
