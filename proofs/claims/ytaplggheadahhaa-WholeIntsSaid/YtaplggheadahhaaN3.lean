/- Plain arithmetic of whole numbers as binary64: what they are worth, that they are themselves. No walk in it. -/
import Derived.Test.YtaplggheadahhaaF4
namespace Go.Proofs.Ytaplggheadahhaa
set_option linter.unusedVariables false
set_option linter.unusedSimpArgs false

/-- one, in units of 2^-1074 -/
def Fl.UN : Nat := Fl.pw 1074
theorem Fl.UN_of {j : Nat} (h : j = 1074) : Fl.UN = 2 ^ j := by rw [show Fl.UN = Fl.pw j by rw [h]; rfl]; rfl
theorem Fl.UN_pos : 0 < Fl.UN := by
  obtain ⟨j, hj⟩ : ∃ j : Nat, j = 1074 := ⟨_, rfl⟩
  rw [Fl.UN_of hj]; exact Nat.pow_pos (by decide)
/-- a whole number's bits -/
def Fl.int (k : Nat) : Nat := Fl.rnd k 0 false
theorem Fl.int_eq (k : Nat) : Fl.int k = Fl.rnd (k * Fl.UN) (-1074) false := by
  obtain ⟨j, hj⟩ : ∃ j : Nat, j = 1074 := ⟨_, rfl⟩
  unfold Fl.int
  have := Fl.rnd_scale k 0 j
  rw [show (0 : Int) - (j : Int) = -1074 by omega] at this
  rw [Fl.UN_of hj]; exact this.symm
theorem Fl.lt_TOP {a b c : Nat} (h : a < 2 ^ b) (hb : b + c ≤ 2098) : a * 2 ^ c < Fl.TOP := by
  have h1 : a * 2 ^ c < 2 ^ (b + c) := by rw [Nat.pow_add]; exact Nat.mul_lt_mul_of_pos_right h (Nat.pow_pos (by decide))
  obtain ⟨t, ht⟩ : ∃ t : Nat, t = 2098 := ⟨_, rfl⟩
  have h2 : Fl.TOP = 2 ^ t := by rw [show Fl.TOP = Fl.pw t by rw [ht]; rfl]; rfl
  rw [h2]
  exact Nat.lt_of_lt_of_le h1 (Nat.pow_le_pow_right (by decide) (by omega))
/-- m * 2^j, m of at most 53 bits: what it is worth -/
theorem Fl.int_V {m j : Nat} (hm : m < 9007199254740992) (hj : j ≤ 900) : Fl.int (m * 2 ^ j) < Fl.INF ∧ Fl.V (Fl.int (m * 2 ^ j)) = m * 2 ^ j * Fl.UN := by
  obtain ⟨i, hi⟩ : ∃ i : Nat, i = 1074 := ⟨_, rfl⟩
  rw [Fl.int_eq, Fl.UN_of hi, Nat.mul_assoc, ← Nat.pow_add]
  exact Fl.rnd_rep hm (Fl.lt_TOP (b := 53) (by rw [Fl.pow53]; exact hm) (by omega))
theorem Fl.int_V53 {k : Nat} (hk : k ≤ 9007199254740992) : Fl.int k < Fl.INF ∧ Fl.V (Fl.int k) = k * Fl.UN := by
  rcases Nat.eq_or_lt_of_le hk with rfl | h
  · have := Fl.int_V (m := 1) (j := 53) (by decide) (by decide)
    rw [show 1 * 2 ^ 53 = 9007199254740992 from rfl] at this
    exact this
  · have := Fl.int_V (m := k) (j := 0) h (by decide)
    rw [Nat.pow_zero, Nat.mul_one] at this
    exact this
theorem Fl.int_zero : Fl.int 0 = 0 := Fl.rnd_zero _ _
theorem Fl.int_inj {j k : Nat} (hj : j ≤ 9007199254740992) (hk : k ≤ 9007199254740992) (h : Fl.int j = Fl.int k) : j = k := by
  have h1 := (Fl.int_V53 hj).2
  have h2 := (Fl.int_V53 hk).2
  rw [h, h2] at h1
  exact (Nat.eq_of_mul_eq_mul_right Fl.UN_pos h1).symm
theorem Fl.int_mono {j k : Nat} (h : j ≤ k) : Fl.int j ≤ Fl.int k := Fl.rnd_mono h 0

/-- what is below the point: the whole part and what is cut off -/
theorem whole_split {X : Nat} (hs : Fl.sh X < 1074) : Fl.mant X / 2 ^ (1074 - Fl.sh X - 1) / 2 = Fl.mant X / 2 ^ (1074 - Fl.sh X) := by
  rw [Nat.div_div_eq_div_mul, ← Nat.pow_succ]; congr 2; omega
theorem Fl.V_frac {X : Nat} (hs : Fl.sh X < 1074) : Fl.V X = Fl.mant X * 2 ^ Fl.sh X ∧ Fl.UN = 2 ^ (1074 - Fl.sh X) * 2 ^ Fl.sh X := by
  refine ⟨rfl, ?_⟩
  rw [← Nat.pow_add]; exact Fl.UN_of (by omega)

theorem whole_eq {x : Nat} (hs : Fl.sh (Fl.ab x) < 1074) : Fl.whole x = Fl.mant (Fl.ab x) / 2 ^ (1074 - Fl.sh (Fl.ab x)) := whole_split hs

/-- is anything cut off? -/
theorem exact_iff {x : Nat} (hs : Fl.sh (Fl.ab x) < 1074) : (Fl.half x || Fl.rest x) = decide (Fl.mant (Fl.ab x) % 2 ^ (1074 - Fl.sh (Fl.ab x)) ≠ 0) := by
  unfold Fl.half Fl.rest Fl.tt
  obtain ⟨t, ht⟩ : ∃ t, 1074 - Fl.sh (Fl.ab x) = t + 1 := ⟨1074 - Fl.sh (Fl.ab x) - 1, by omega⟩
  rw [ht, Nat.add_sub_cancel]
  have h1 : Fl.mant (Fl.ab x) % 2 ^ (t + 1) = Fl.mant (Fl.ab x) % 2 ^ t + 2 ^ t * (Fl.mant (Fl.ab x) / 2 ^ t % 2) := by rw [Nat.pow_succ, Nat.mod_mul]
  rw [h1]
  have hp : 0 < 2 ^ t := Nat.pow_pos (by decide)
  generalize Fl.mant (Fl.ab x) % 2 ^ t = r at *
  have hq : Fl.mant (Fl.ab x) / 2 ^ t % 2 = 0 ∨ Fl.mant (Fl.ab x) / 2 ^ t % 2 = 1 := by
    generalize Fl.mant (Fl.ab x) / 2 ^ t = q; omega
  generalize Fl.mant (Fl.ab x) / 2 ^ t % 2 = q at *
  generalize 2 ^ t = P at *
  rw [Bool.eq_iff_iff]
  rcases hq with rfl | rfl
  · simp
  · simp; omega

/-- the whole part and what is cut off, in units -/
theorem V_whole {x : Nat} (hs : Fl.sh (Fl.ab x) < 1074) :
    Fl.whole x * Fl.UN ≤ Fl.V (Fl.ab x) ∧ Fl.V (Fl.ab x) < (Fl.whole x + 1) * Fl.UN ∧ ((Fl.half x || Fl.rest x) = false ↔ Fl.V (Fl.ab x) = Fl.whole x * Fl.UN) := by
  rw [exact_iff hs, whole_eq hs]
  obtain ⟨e1, e2⟩ := Fl.V_frac hs
  rw [e1, e2]
  have hp : 0 < 2 ^ Fl.sh (Fl.ab x) := Nat.pow_pos (by decide)
  have hq : 0 < 2 ^ (1074 - Fl.sh (Fl.ab x)) := Nat.pow_pos (by decide)
  have hd := Nat.div_add_mod (Fl.mant (Fl.ab x)) (2 ^ (1074 - Fl.sh (Fl.ab x)))
  have hm := Nat.mod_lt (Fl.mant (Fl.ab x)) hq
  generalize Fl.mant (Fl.ab x) / 2 ^ (1074 - Fl.sh (Fl.ab x)) = q at *
  generalize Fl.mant (Fl.ab x) % 2 ^ (1074 - Fl.sh (Fl.ab x)) = r at *
  generalize 2 ^ (1074 - Fl.sh (Fl.ab x)) = P at *
  generalize Fl.mant (Fl.ab x) = M at *
  generalize 2 ^ Fl.sh (Fl.ab x) = S at *
  have e3 : M = q * P + r := by rw [Nat.mul_comm] at hd; omega
  refine ⟨?_, ?_, ?_⟩
  · rw [← Nat.mul_assoc]; exact Nat.mul_le_mul_right _ (by omega)
  · rw [← Nat.mul_assoc]; exact Nat.mul_lt_mul_of_pos_right (by rw [Nat.add_mul]; omega) hp
  · rw [← Nat.mul_assoc]
    constructor
    · intro h
      have : r = 0 := by simpa using h
      rw [e3, this, Nat.add_zero]
    · intro h
      have := Nat.eq_of_mul_eq_mul_right hp h
      simp; omega

/-- a whole number of at most 53 bits has nothing behind the point -/
theorem int_parts {y k : Nat} (hk : k ≤ 9007199254740992) (hy : Fl.ab y = Fl.int k) :
    (Fl.sh (Fl.ab y) < 1074 → Fl.whole y = k ∧ (Fl.half y || Fl.rest y) = false) ∧ (1074 ≤ Fl.sh (Fl.ab y) → Fl.mant (Fl.ab y) * 2 ^ (Fl.sh (Fl.ab y) - 1074) = k) := by
  have hv := (Fl.int_V53 hk).2
  rw [← hy] at hv
  constructor
  · intro hs
    obtain ⟨h1, h2, h3⟩ := V_whole hs
    rw [hv] at h1 h2 h3
    have hp := Fl.UN_pos
    have g1 := Nat.le_of_mul_le_mul_right h1 hp
    have g2 := Nat.lt_of_mul_lt_mul_right h2
    have : Fl.whole y = k := by omega
    exact ⟨this, h3.2 (by rw [this])⟩
  · intro hs
    have e1 : Fl.V (Fl.ab y) = Fl.mant (Fl.ab y) * 2 ^ (Fl.sh (Fl.ab y) - 1074) * Fl.UN := by
      obtain ⟨i, hi⟩ : ∃ i : Nat, i = 1074 := ⟨_, rfl⟩
      unfold Fl.V; rw [Fl.UN_of hi, Nat.mul_assoc, ← Nat.pow_add]; congr 2; omega
    rw [e1] at hv
    exact Nat.eq_of_mul_eq_mul_right Fl.UN_pos hv
theorem int_of_large {y : Nat} (hf : Fl.ab y < Fl.INF) (hs : 1074 ≤ Fl.sh (Fl.ab y)) : Fl.int (Fl.mant (Fl.ab y) * 2 ^ (Fl.sh (Fl.ab y) - 1074)) = Fl.ab y := by
  obtain ⟨i, hi⟩ : ∃ i : Nat, i = 1074 := ⟨_, rfl⟩
  rw [Fl.int_eq, Fl.UN_of hi, Nat.mul_assoc, ← Nat.pow_add, show Fl.sh (Fl.ab y) - 1074 + i = Fl.sh (Fl.ab y) by omega]
  exact Fl.rnd_self hf

theorem incW_imp {way : Int} {neg half rest odd : Bool} (h : (half || rest) = false) : incW way neg half rest odd = false := by
  cases half <;> cases rest <;> simp at h
  unfold incW; (repeat' split) <;> simp

/-- To of From of an int of 53 bits -/
theorem back_law (v : Int) (h : v.natAbs ≤ 9007199254740992) : toV (fromN v) 2 = v ∧ toE (fromN v) 2 = 0 := by
  obtain ⟨hI, hV⟩ := Fl.int_V53 h
  have e1 : Fl.ab (fromN v) = Fl.int v.natAbs := Fl.ab_pk (Nat.le_of_lt hI)
  have e2 : Fl.ng (fromN v) = decide (v < 0) := Fl.ng_pk (Nat.le_of_lt hI)
  have hk : Fl.kd (fromN v) < 3 := by rw [Fl.kd_fin_iff, e1]; exact hI
  obtain ⟨p1, p2⟩ := int_parts h e1
  have hM : toM (fromN v) 2 = v.natAbs := by
    unfold toM
    by_cases hs : 1074 ≤ Fl.sh (Fl.ab (fromN v))
    · rw [if_pos hs]; exact p2 hs
    · rw [if_neg hs]
      obtain ⟨w1, w2⟩ := p1 (by omega)
      unfold wholeR; rw [incW_imp w2, if_neg (by decide), w1]
  have hF : toF (fromN v) 2 = true := by unfold toF; rw [hM]; exact decide_eq_true (.inl (by omega))
  unfold toV toE
  have c1 : ¬ ((2 : Int) < 0 ∨ (5 : Int) < 2) := by omega
  have c2 : ¬ 3 ≤ Fl.kd (fromN v) := by omega
  rw [if_neg c1, if_neg c1, if_neg c2, if_neg c2, hF, if_pos rfl, if_pos rfl, hM, e2]
  refine ⟨?_, rfl⟩
  by_cases hn : v < 0 <;> simp [hn] <;> omega

/-- From of To -/
theorem back_law2 (x : Nat) (hx : x < 18446744073709551616) (h : toE x 0 = 0) : fromN (toV x 0) = wholeV x 0 ∨ (fromN (toV x 0) = 0 ∧ wholeV x 0 = 9223372036854775808) := by
  unfold toE at h
  rw [if_neg (by omega)] at h
  by_cases hk : 3 ≤ Fl.kd x
  · rw [if_pos hk] at h; omega
  rw [if_neg hk] at h
  have hF : toF x 0 = true := by cases hF : toF x 0 <;> simp [hF] at h ⊢
  unfold toV wholeV
  have c1 : ¬ ((0 : Int) < 0 ∨ (5 : Int) < 0) := by omega
  have c2 : ¬ Fl.kd x = 4 := by omega
  have c3 : ¬ Fl.kd x = 3 := by omega
  rw [if_neg c1, if_neg hk, if_pos hF, if_neg c1, if_neg c2, if_neg c3]
  have hf := Fl.kd_fin (x := x) (by omega)
  by_cases hs : 1074 ≤ Fl.sh (Fl.ab x)
  · rw [if_pos hs]
    left
    have hM : toM x 0 = Fl.mant (Fl.ab x) * 2 ^ (Fl.sh (Fl.ab x) - 1074) := by unfold toM; rw [if_pos hs]
    have hi := int_of_large hf hs
    rw [← hM] at hi
    have h0 : 0 < toM x 0 := by rw [hM]; exact Nat.mul_pos (by have := Fl.mant_ge (x := Fl.ab x) (by omega); omega) (Nat.pow_pos (by decide))
    have hp := Fl.pk_ab hx
    unfold fromN
    cases hn : Fl.ng x
    · rw [if_neg (by decide), decide_eq_false (by omega), Int.natAbs_natCast]
      rw [hn] at hp
      exact (congrArg (Fl.pk false) hi).trans hp
    · rw [if_pos rfl, decide_eq_true (by omega), Int.natAbs_neg, Int.natAbs_natCast]
      rw [hn] at hp
      exact (congrArg (Fl.pk true) hi).trans hp
  · rw [if_neg hs]
    have hM : toM x 0 = wholeR x 0 := by unfold toM; rw [if_neg hs]
    rw [hM]
    unfold fromN
    cases hn : Fl.ng x
    · left
      rw [if_neg (by decide), decide_eq_false (by omega), Int.natAbs_natCast]
    · rw [if_pos rfl, Int.natAbs_neg, Int.natAbs_natCast]
      rcases Nat.eq_zero_or_pos (wholeR x 0) with h0 | h0
      · right
        rw [h0, Fl.rnd_zero]; exact ⟨rfl, rfl⟩
      · left
        rw [decide_eq_true (by omega)]
theorem toV_err (x : Nat) (h : toE x 0 ≠ 0) : toV x 0 = 0 := by
  unfold toE at h; unfold toV
  rw [if_neg (by omega)] at h ⊢
  by_cases hk : 3 ≤ Fl.kd x
  · rw [if_pos hk]
  · rw [if_neg hk] at h ⊢
    by_cases hF : toF x 0 = true
    · rw [if_pos hF] at h; exact absurd rfl h
    · rw [if_neg hF]
end Go.Proofs.Ytaplggheadahhaa
