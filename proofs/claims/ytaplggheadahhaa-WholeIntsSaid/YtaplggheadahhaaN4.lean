/- Plain laws of rounding to a whole number, for WholeNears. No walk in it. -/
import Derived.Test.YtaplggheadahhaaN3
namespace Go.Proofs.Ytaplggheadahhaa
set_option linter.unusedVariables false
set_option linter.unusedSimpArgs false

/-- a way that may be -/
def Way (i : Int) : Prop := 0 ≤ i ∧ i ≤ 5
theorem not_bad {i : Int} (h : Way i) : ¬ (i < 0 ∨ 5 < i) := by unfold Way at h; omega

theorem wholeV_large {x : Nat} {i : Int} (hi : Way i) (hk : Fl.kd x < 3) (hs : 1074 ≤ Fl.sh (Fl.ab x)) : wholeV x i = x := by
  have c2 : ¬ Fl.kd x = 4 := by omega
  have c3 : ¬ Fl.kd x = 3 := by omega
  unfold wholeV; rw [if_neg (not_bad hi), if_neg c2, if_neg c3, if_pos hs]
theorem wholeV_small {x : Nat} {i : Int} (hi : Way i) (hk : Fl.kd x < 3) (hs : ¬ 1074 ≤ Fl.sh (Fl.ab x)) : wholeV x i = Fl.pk (Fl.ng x) (Fl.int (wholeR x i)) := by
  have c2 : ¬ Fl.kd x = 4 := by omega
  have c3 : ¬ Fl.kd x = 3 := by omega
  unfold wholeV; rw [if_neg (not_bad hi), if_neg c2, if_neg c3, if_neg hs]; rfl
theorem isB_large {x : Nat} (hk : Fl.kd x < 3) (hs : 1074 ≤ Fl.sh (Fl.ab x)) : isB x = true := by
  unfold isB; rw [decide_eq_true hk, decide_eq_true hs]; rfl
theorem isB_small {x : Nat} (hk : Fl.kd x < 3) (hs : ¬ 1074 ≤ Fl.sh (Fl.ab x)) : isB x = !(Fl.half x || Fl.rest x) := by
  unfold isB; rw [decide_eq_true hk, decide_eq_false hs]; simp

theorem int_facts (neg : Bool) {k : Nat} (hk : k ≤ 9007199254740992) :
    Fl.ab (Fl.pk neg (Fl.int k)) = Fl.int k ∧ Fl.ng (Fl.pk neg (Fl.int k)) = neg ∧ Fl.kd (Fl.pk neg (Fl.int k)) < 3 ∧ Fl.pk neg (Fl.int k) < 18446744073709551616 := by
  have h := (Fl.int_V53 hk).1
  have e1 : Fl.ab (Fl.pk neg (Fl.int k)) = Fl.int k := Fl.ab_pk (Nat.le_of_lt h)
  exact ⟨e1, Fl.ng_pk (Nat.le_of_lt h), by rw [Fl.kd_fin_iff, e1]; exact h, Fl.pk_lt (Nat.le_of_lt h)⟩
/-- a whole number is whole, and rounds to itself -/
theorem int_self (neg : Bool) {k : Nat} (hk : k ≤ 9007199254740992) :
    isB (Fl.pk neg (Fl.int k)) = true ∧ ∀ i, Way i → wholeV (Fl.pk neg (Fl.int k)) i = Fl.pk neg (Fl.int k) := by
  obtain ⟨e1, e2, e3, e4⟩ := int_facts neg hk
  obtain ⟨p1, p2⟩ := int_parts hk e1
  by_cases hs : 1074 ≤ Fl.sh (Fl.ab (Fl.pk neg (Fl.int k)))
  · exact ⟨isB_large e3 hs, fun i hi => wholeV_large hi e3 hs⟩
  · obtain ⟨w1, w2⟩ := p1 (by omega)
    refine ⟨by rw [isB_small e3 hs, w2]; rfl, fun i hi => ?_⟩
    rw [wholeV_small hi e3 hs, e2]
    unfold wholeR; rw [incW_imp w2, if_neg (by decide), w1]

theorem wholeR_le (x : Nat) (i : Int) : wholeR x i ≤ 9007199254740992 := by
  have := @whole_lt x
  unfold wholeR; split <;> omega

theorem rank_le_of {a b : Nat} (hn : Fl.ng a = Fl.ng b) (h : if Fl.ng b = true then Fl.ab b ≤ Fl.ab a else Fl.ab a ≤ Fl.ab b) : Fl.rank a ≤ Fl.rank b := by
  unfold Fl.rank; rw [hn]; split <;> rename_i h1 <;> simp only [h1] at h <;> simp at h <;> omega
theorem cmp_le {a b : Nat} (h : Fl.rank a ≤ Fl.rank b) : cmpN a b ≤ 0 := by
  unfold cmpN cmpI; (repeat' split) <;> omega

/-- what a greater number less a lesser one tells -/
theorem sub_pos {a b : Nat} (ka : Fl.kd a < 3) (kb : Fl.kd b < 3) {T : Nat} (hT : Fl.sV a - Fl.sV b = (T : Int)) (h0 : 0 < T) : Fl.subN a b = Fl.rnd T (-1074) false := by
  have c4 : ¬ Fl.kd b = 4 := by omega
  have hab : Fl.ab b ≤ Fl.INF := by have := Fl.kd_fin kb; omega
  have e1 : Fl.negN b = Fl.pk (!Fl.ng b) (Fl.ab b) := by unfold Fl.negN; rw [if_neg c4]
  have e2 : Fl.ab (Fl.negN b) = Fl.ab b := by rw [e1]; exact Fl.ab_pk hab
  have e3 : Fl.ng (Fl.negN b) = !Fl.ng b := by rw [e1]; exact Fl.ng_pk hab
  have e4 : Fl.kd (Fl.negN b) < 3 := by rw [Fl.kd_fin_iff, e2]; exact Fl.kd_fin kb
  have e5 : Fl.sV (Fl.negN b) = -Fl.sV b := by unfold Fl.sV; rw [e2, e3]; cases Fl.ng b <;> simp
  have hS : Fl.sV a + Fl.sV (Fl.negN b) = (T : Int) := by rw [e5]; omega
  unfold Fl.subN Fl.addN
  have d1 : ¬ (Fl.kd a = 4 ∨ Fl.kd (Fl.negN b) = 4) := by omega
  have d2 : ¬ (Fl.kd a = 3 ∧ Fl.kd (Fl.negN b) = 3 ∧ a ≠ Fl.negN b) := by omega
  have d3 : ¬ Fl.kd a = 3 := by omega
  have d4 : ¬ Fl.kd (Fl.negN b) = 3 := by omega
  have d5 : ¬ (Fl.kd a = 0 ∧ Fl.kd (Fl.negN b) = 0) := fun h => by
    rw [Fl.sV_zero h.1, Fl.sV_zero h.2] at hS; omega
  rw [if_neg d1, if_neg d2, if_neg d3, if_neg d4, if_neg d5, hS, if_neg (by omega), decide_eq_false (by omega), Int.natAbs_natCast]
  unfold Fl.pk; rw [if_neg (by decide)]

theorem one_int : Fl.int 1 = 4607182418800017408 := by decide +kernel

structure Nears (x : Nat) : Prop where
  a : isB x = (decide (wholeV x 4 = x) && decide (wholeV x 5 = x))
  b1 : ∀ i, Way i → ∀ j, Way j → wholeV (wholeV x i) j = wholeV x i
  b2 : ∀ i, Way i → isB (wholeV x i) = true
  b3 : ∀ i, Way i → wholeV x i = wholeV x 4 ∨ wholeV x i = wholeV x 5
  b4 : ∀ i, Way i → Fl.ng (wholeV x i) = Fl.ng x
  b5 : ∀ i, Way i → wholeV x i < 18446744073709551616
  c1 : cmpN (wholeV x 4) x ≤ 0
  c2 : cmpN x (wholeV x 5) ≤ 0
  d : isB x = false → Fl.subN (wholeV x 5) (wholeV x 4) = 4607182418800017408
  e : wholeV (Fl.pk (!Fl.ng x) (Fl.ab x)) 4 = Fl.pk (!Fl.ng (wholeV x 5)) (Fl.ab (wholeV x 5))

theorem nears_fin (x : Nat) (hx : x < 18446744073709551616) (hk : Fl.kd x < 3) : Nears x := by
  have w4 : Way 4 := by unfold Way; omega
  have w5 : Way 5 := by unfold Way; omega
  have hf := Fl.kd_fin hk
  have f1 : Fl.ab (Fl.pk (!Fl.ng x) (Fl.ab x)) = Fl.ab x := Fl.ab_pk (Nat.le_of_lt hf)
  have f2 : Fl.ng (Fl.pk (!Fl.ng x) (Fl.ab x)) = !Fl.ng x := Fl.ng_pk (Nat.le_of_lt hf)
  have f3 : Fl.kd (Fl.pk (!Fl.ng x) (Fl.ab x)) < 3 := by rw [Fl.kd_fin_iff, f1]; exact hf
  by_cases hs : 1074 ≤ Fl.sh (Fl.ab x)
  · have hv := fun i hi => wholeV_large (x := x) (i := i) hi hk hs
    have hB := isB_large hk hs
    have hr : cmpN x x ≤ 0 := cmp_le (Int.le_refl _)
    refine ⟨?_, ?_, ?_, ?_, ?_, ?_, ?_, ?_, ?_, ?_⟩
    · rw [hv 4 w4, hv 5 w5, hB]; simp
    · intro i hi j hj; rw [hv i hi, hv j hj]
    · intro i hi; rw [hv i hi]; exact hB
    · intro i hi; rw [hv i hi, hv 4 w4]; exact .inl rfl
    · intro i hi; rw [hv i hi]
    · intro i hi; rw [hv i hi]; exact hx
    · rw [hv 4 w4]; exact hr
    · rw [hv 5 w5]; exact hr
    · rw [hB]; intro h; cases h
    · rw [hv 5 w5]; exact wholeV_large w4 f3 (by rw [f1]; exact hs)
  · have hv := fun i hi => wholeV_small (x := x) (i := i) hi hk hs
    have hB := isB_small hk hs
    obtain ⟨v1, v2, v3⟩ := V_whole (x := x) (by omega)
    have hl := @whole_lt x
    have hle := wholeR_le x
    have e4 : wholeR x 4 = if (Fl.ng x && (Fl.half x || Fl.rest x)) = true then Fl.whole x + 1 else Fl.whole x := rfl
    have e5 : wholeR x 5 = if (!Fl.ng x && (Fl.half x || Fl.rest x)) = true then Fl.whole x + 1 else Fl.whole x := rfl
    have hi0 := Fl.int_V53 (k := Fl.whole x) (by omega)
    have hi1 := Fl.int_V53 (k := Fl.whole x + 1) (by omega)
    have hne : Fl.int (Fl.whole x) ≠ Fl.int (Fl.whole x + 1) := fun h => by have := Fl.int_inj (by omega) (by omega) h; omega
    have m0 : Fl.int (Fl.whole x) ≤ Fl.ab x := by rw [← Fl.V_le_iff, hi0.2]; exact v1
    have m1 : Fl.ab x ≤ Fl.int (Fl.whole x + 1) := by rw [← Fl.V_le_iff, hi1.2]; exact Nat.le_of_lt v2
    have hpk := Fl.pk_ab hx
    -- the three parts that hang on whether anything is cut off
    have hex : (Fl.half x || Fl.rest x) = false → Fl.int (Fl.whole x) = Fl.ab x := fun h => by
      apply Fl.V_inj; rw [hi0.2]; exact (v3.1 h).symm
    have hin : (Fl.half x || Fl.rest x) = true → Fl.int (Fl.whole x) ≠ Fl.ab x := fun h he => by
      have : (Fl.half x || Fl.rest x) = false := v3.2 (by rw [← he]; exact hi0.2)
      rw [h] at this; cases this
    have hR : ∀ i, wholeR x i = Fl.whole x ∨ ((Fl.half x || Fl.rest x) = true ∧ wholeR x i = Fl.whole x + 1) := fun i => by
      cases hD : (Fl.half x || Fl.rest x)
      · left; unfold wholeR; rw [incW_imp hD, if_neg (by decide)]
      · unfold wholeR; split
        · exact .inr ⟨rfl, rfl⟩
        · exact .inl rfl
    refine ⟨?_, ?_, ?_, ?_, ?_, ?_, ?_, ?_, ?_, ?_⟩
    · rw [hB, hv 4 w4, hv 5 w5, e4, e5]
      cases hD : (Fl.half x || Fl.rest x)
      · simp only [Bool.and_false, Bool.false_eq_true, if_false]
        rw [hex hD, hpk]; simp
      · have h0 : Fl.pk (Fl.ng x) (Fl.int (Fl.whole x)) ≠ x := fun h => by
          have := (int_facts (Fl.ng x) (k := Fl.whole x) (by omega)).1
          rw [h] at this; exact hin hD this.symm
        cases hn : Fl.ng x
        · rw [hn] at h0; simp [h0]
        · rw [hn] at h0; simp [h0]
    · intro i hi j hj; rw [hv i hi]; exact (int_self _ (hle i)).2 j hj
    · intro i hi; rw [hv i hi]; exact (int_self _ (hle i)).1
    · intro i hi; rw [hv i hi, hv 4 w4, hv 5 w5, e4, e5]
      rcases hR i with h | ⟨hD, h⟩
      · rw [h]
        cases hn : Fl.ng x
        · left; simp
        · right; simp
      · rw [h, hD]
        cases hn : Fl.ng x
        · right; simp
        · left; simp
    · intro i hi; rw [hv i hi]; exact (int_facts _ (hle i)).2.1
    · intro i hi; rw [hv i hi]; exact (int_facts _ (hle i)).2.2.2
    · apply cmp_le
      have g := int_facts (Fl.ng x) (hle 4)
      rw [hv 4 w4]
      apply rank_le_of g.2.1
      rw [g.1]
      cases hn : Fl.ng x
      · simp only [Bool.false_eq_true, if_false]
        rw [e4, hn]; simp; exact m0
      · simp only [if_true]
        rw [e4, hn]
        cases hD : (Fl.half x || Fl.rest x)
        · simp; rw [hex hD]; exact Nat.le_refl _
        · simp; exact m1
    · apply cmp_le
      have g := int_facts (Fl.ng x) (hle 5)
      rw [hv 5 w5]
      apply rank_le_of g.2.1.symm
      rw [g.1, g.2.1]
      cases hn : Fl.ng x
      · simp only [Bool.false_eq_true, if_false]
        rw [e5, hn]
        cases hD : (Fl.half x || Fl.rest x)
        · simp; rw [hex hD]; exact Nat.le_refl _
        · simp; exact m1
      · simp only [if_true]
        rw [e5, hn]; simp; exact m0
    · intro hb
      have hD : (Fl.half x || Fl.rest x) = true := by
        rw [hB] at hb
        cases h : (Fl.half x || Fl.rest x)
        · rw [h] at hb; cases hb
        · rfl
      have g4 := int_facts (Fl.ng x) (hle 4)
      have g5 := int_facts (Fl.ng x) (hle 5)
      rw [hv 4 w4, hv 5 w5]
      have hT : Fl.sV (Fl.pk (Fl.ng x) (Fl.int (wholeR x 5))) - Fl.sV (Fl.pk (Fl.ng x) (Fl.int (wholeR x 4))) = (Fl.UN : Int) := by
        unfold Fl.sV
        rw [g4.1, g5.1, g4.2.1, g5.2.1, (Fl.int_V53 (hle 4)).2, (Fl.int_V53 (hle 5)).2, e4, e5, hD]
        cases hn : Fl.ng x
        · simp [Nat.add_mul]; omega
        · simp [Nat.add_mul]; omega
      rw [sub_pos g5.2.2.1 g4.2.2.1 hT Fl.UN_pos]
      have := Fl.int_eq 1
      rw [Nat.one_mul] at this
      rw [← this]; exact one_int
    · have g5 := int_facts (Fl.ng x) (hle 5)
      rw [hv 5 w5, g5.1, g5.2.1]
      have hs' : ¬ 1074 ≤ Fl.sh (Fl.ab (Fl.pk (!Fl.ng x) (Fl.ab x))) := by rw [f1]; exact hs
      rw [wholeV_small w4 f3 hs', f2]
      have hw : Fl.whole (Fl.pk (!Fl.ng x) (Fl.ab x)) = Fl.whole x := by unfold Fl.whole Fl.tt; rw [f1]
      have hh : Fl.half (Fl.pk (!Fl.ng x) (Fl.ab x)) = Fl.half x := by unfold Fl.half Fl.tt; rw [f1]
      have hr : Fl.rest (Fl.pk (!Fl.ng x) (Fl.ab x)) = Fl.rest x := by unfold Fl.rest Fl.tt; rw [f1]
      have : wholeR (Fl.pk (!Fl.ng x) (Fl.ab x)) 4 = wholeR x 5 := by
        rw [e5]; unfold wholeR; rw [hw, hh, hr, f2]; rfl
      rw [this]
end Go.Proofs.Ytaplggheadahhaa
