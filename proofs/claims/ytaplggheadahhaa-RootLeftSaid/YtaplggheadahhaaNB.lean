/- Plain facts on quotients and fused sums: by one, by itself, with nothing added. -/
import Derived.Test.YtaplggheadahhaaNA
import Derived.Test.YtaplggheadahhaaN2
namespace Go.Proofs.Ytaplggheadahhaa.Fl
set_option linter.unusedVariables false
set_option linter.unusedSimpArgs false

theorem one_kd : kd 4607182418800017408 = 2 := by decide
theorem one_ng : ng 4607182418800017408 = false := by decide
theorem one_ab : ab 4607182418800017408 = 4607182418800017408 := by decide
theorem one_mant : mant 4607182418800017408 = 4503599627370496 := by decide
theorem one_sh : sh 4607182418800017408 = 1022 := by decide
theorem pow_52 (s K : Nat) (h : 52 + s = K) : 4503599627370496 * 2 ^ s = 2 ^ K := by rw [← h, Nat.pow_add]
theorem one_sV : sV 4607182418800017408 = ((p2 1074 : Nat) : Int) := by
  unfold sV
  rw [one_ng, one_ab, if_neg (by decide)]
  unfold V
  rw [one_mant, one_sh]
  obtain ⟨s, hs⟩ : ∃ s, s = 1022 := ⟨_, rfl⟩
  obtain ⟨K, hK⟩ : ∃ K, K = 1074 := ⟨_, rfl⟩
  rw [← hs, ← hK, p2_eq, pow_52 s K (by omega)]
theorem bne_false (x : Bool) : (x != false) = x := by cases x <;> rfl
theorem pk_inf {a : Nat} (ha : a < 18446744073709551616) (h : kd a = 3) : pk (ng a) INF = a := by rw [← kd_inf.1 h]; exact pk_ab ha
theorem pk_zero {a : Nat} (ha : a < 18446744073709551616) (h : kd a = 0) : pk (ng a) 0 = a := by
  have := pk_ab ha
  rw [kd_zero.1 h] at this
  exact this
theorem dq_one {A k j l : Nat} (hk : k = j + l) (E : Int) : dq (mant A * p2 k) (2 ^ l) E = rnd (mant A) (E + j) false := by
  unfold dq
  have e : mant A * p2 k = mant A * 2 ^ j * 2 ^ l := by rw [p2_eq, hk, Nat.pow_add, Nat.mul_assoc]
  have hp : 0 < 2 ^ l := Nat.pow_pos (by decide)
  rw [e, Nat.mul_div_cancel _ hp, Nat.mul_mod_left]
  have := rnd_scale (mant A) (E + j) j
  rw [show E + (j : Int) - (j : Nat) = E by omega] at this
  exact this

theorem div_one (a : Nat) (ha : a < 18446744073709551616) : divN a 4607182418800017408 = if kd a = 4 then NAN else a := by
  have la := kd_le a
  unfold divN
  rw [one_kd, one_ng, one_ab, one_mant, one_sh, bne_false]
  by_cases c1 : kd a = 4
  · rw [if_pos (.inl c1), if_pos c1]
  rw [if_neg (by omega), if_neg c1]
  by_cases c2 : kd a = 3
  · rw [if_pos (.inl c2)]; exact pk_inf ha c2
  rw [if_neg (by omega)]
  by_cases c3 : kd a = 0
  · rw [if_pos (.inl c3)]; exact pk_zero ha c3
  rw [if_neg (by omega)]
  have ka : kd a < 3 := by omega
  have h := dq_one (A := ab a) (k := 128) (j := 76) (l := 52) (by omega) ((sh (ab a) : Int) - ((1022 : Nat) : Int) - 128)
  rw [show (4503599627370496 : Nat) = 2 ^ 52 from rfl, h, show (sh (ab a) : Int) - ((1022 : Nat) : Int) - 128 + ((76 : Nat) : Int) = (sh (ab a) : Int) - 1074 by omega, ← scale3]
  have h2 := rnd_self (kd_fin ka)
  unfold V at h2
  rw [h2]
  exact pk_ab ha
theorem rnd_128 : rnd (p2 128) (-128) false = 4607182418800017408 := by decide +kernel
theorem div_self (a : Nat) : divN a a = if kd a = 1 ∨ kd a = 2 then 4607182418800017408 else NAN := by
  have la := kd_le a
  unfold divN
  by_cases c1 : kd a = 1 ∨ kd a = 2
  · rw [if_pos c1, if_neg (by omega), if_neg (by omega), if_neg (by omega), show (ng a != ng a) = false by simp]
    have pb : 0 < ab a := by rcases Nat.eq_zero_or_pos (ab a) with h | h; (· exact absurd (kd_zero.2 h) (by omega)); exact h
    have h := dq_scale (p2 128) 1 (mant (ab a)) (-128) (mant_pos pb)
    rw [Nat.one_mul] at h
    rw [show (sh (ab a) : Int) - sh (ab a) - 128 = -128 by omega, Nat.mul_comm, h]
    unfold dq
    rw [Nat.div_one, Nat.mod_one]
    exact rnd_128
  · rw [if_neg c1, if_pos (by omega)]
theorem nan_ne_one : NAN ≠ 4607182418800017408 := by decide

theorem scaled {s : Int} : (if s * ((p2 1074 : Nat) : Int) = 0 then 0 else pk (decide (s * ((p2 1074 : Nat) : Int) < 0)) (rnd (s * ((p2 1074 : Nat) : Int)).natAbs (-2148) false)) = if s = 0 then 0 else pk (decide (s < 0)) (rnd s.natAbs (-1074) false) := by
  by_cases hs : s = 0
  · rw [if_pos hs, hs, Int.zero_mul, if_pos rfl]
  have r := scale_1074 s.natAbs
  have hp := p2_pos 1074
  rw [if_neg hs, Int.natAbs_mul, Int.natAbs_natCast, r]
  generalize p2 1074 = P at *
  have hP : (0 : Int) < (P : Int) := by omega
  rw [if_neg (fun h : s * (P : Int) = 0 => by rcases Int.mul_eq_zero.1 h with h | h; (· exact hs h); omega)]
  congr 1
  by_cases d : s < 0
  · rw [decide_eq_true d, decide_eq_true (Int.mul_neg_of_neg_of_pos d hP)]
  · rw [decide_eq_false d, decide_eq_false (fun h => by have := Int.mul_nonneg (show 0 ≤ s by omega) (Int.le_of_lt hP); omega)]

theorem fma_one (a b : Nat) (ha : a < 18446744073709551616) (hb : b < 18446744073709551616) : fmaN a 4607182418800017408 b = addN a b := by
  have la := kd_le a
  have lb := kd_le b
  by_cases c0 : kd a < 3 ∧ kd b < 3
  · obtain ⟨ka, kb⟩ := c0
    by_cases z : kd a = 0
    · rw [fma_add ka (by rw [one_kd]; decide) kb (.inl z), one_ng, bne_false, pk_zero ha z]
    have hf : fsum a 4607182418800017408 b = (sV a + sV b) * ((p2 1074 : Nat) : Int) := by unfold fsum; rw [one_sV, Int.add_mul]
    have eF : fmaN a 4607182418800017408 b = if (sV a + sV b) * ((p2 1074 : Nat) : Int) = 0 then 0 else pk (decide ((sV a + sV b) * ((p2 1074 : Nat) : Int) < 0)) (rnd ((sV a + sV b) * ((p2 1074 : Nat) : Int)).natAbs (-2148) false) := by
      unfold fmaN
      rw [one_kd, hf, if_neg (by omega), if_neg (by omega), if_neg (by omega), if_neg (show ¬ ((kd a = 0 ∨ 2 = 0) ∧ kd b = 0 ∧ (ng a != ng 4607182418800017408) = true ∧ ng b = true) from fun h => by omega)]
    have eA : addN a b = if sV a + sV b = 0 then 0 else pk (decide (sV a + sV b < 0)) (rnd (sV a + sV b).natAbs (-1074) false) := by
      unfold addN
      rw [if_neg (by omega), if_neg (by omega), if_neg (by omega), if_neg (by omega), if_neg (by omega)]
    rw [eF, eA]
    exact scaled
  unfold fmaN addN
  rw [one_kd, one_ng, bne_false]
  by_cases c1 : kd a = 4 ∨ kd b = 4
  · rw [if_pos c1, if_pos (by omega)]
  rw [if_neg c1]
  by_cases c2 : kd a = 3
  · have e1 := pk_inf ha c2
    by_cases c3 : kd b = 3
    · have e2 := pk_inf hb c3
      by_cases c4 : ng b = ng a
      · have : a = b := by rw [← e1, ← e2, c4]
        rw [if_neg (fun h => by rcases h with h | h | h | h | h; all_goals first | omega | exact h.2.2 c4), if_pos (.inl c2), if_neg (fun h => h.2.2 this), if_pos c2]
        exact e1
      · have : a ≠ b := fun h => c4 (by rw [h])
        rw [if_pos (.inr (.inr (.inr (.inr ⟨.inl c2, c3, c4⟩)))), if_pos ⟨c2, c3, this⟩]
    · rw [if_neg (by omega), if_pos (.inl c2), if_neg (by omega), if_pos c2]
      exact e1
  · have c3 : kd b = 3 := by omega
    rw [if_neg (by omega), if_neg (by omega), if_pos c3, if_neg (by omega), if_neg c2, if_pos c3]

theorem SG_kd : kd SG = 0 := by decide
theorem sV_mul_neg {a b : Nat} (h : sV a * sV b ≠ 0) : decide (sV a * sV b < 0) = (ng a != ng b) := by
  have e1 : sV a = if ng a = true then -(V (ab a) : Int) else V (ab a) := rfl
  have e2 : sV b = if ng b = true then -(V (ab b) : Int) else V (ab b) := rfl
  generalize V (ab a) = x at *
  generalize V (ab b) = y at *
  generalize sV a = s at *
  generalize sV b = t at *
  have hh : ∀ x y : Int, 0 ≤ x → 0 ≤ y → x * y ≠ 0 → 0 < x * y := fun x y h1 h2 h3 => by have := Int.mul_nonneg h1 h2; omega
  generalize ng a = na at *
  generalize ng b = nb at *
  cases na <;> cases nb
  · have e1 : s = (x : Int) := e1
    have e2 : t = (y : Int) := e2
    have := hh s t (by omega) (by omega) h; exact decide_eq_false (by omega)
  · have e1 : s = (x : Int) := e1
    have e2 : t = -(y : Int) := e2
    have g : s * t = -(s * y) := by rw [e2, Int.mul_neg]
    have := hh s y (by omega) (by omega) (by omega); exact decide_eq_true (by omega)
  · have e1 : s = -(x : Int) := e1
    have e2 : t = (y : Int) := e2
    have g : s * t = -(x * t) := by rw [e1, Int.neg_mul]
    have := hh x t (by omega) (by omega) (by omega); exact decide_eq_true (by omega)
  · have e1 : s = -(x : Int) := e1
    have e2 : t = -(y : Int) := e2
    have g : s * t = (x : Int) * y := by rw [e1, e2, Int.neg_mul_neg]
    have := hh x y (by omega) (by omega) (by omega); exact decide_eq_false (by omega)
theorem pk0_mod (n : Bool) : pk n 0 % 9223372036854775808 = 0 := by cases n <;> decide
theorem fma_nil (a b : Nat) : mulN a b = fmaN a b SG ∨ (mulN a b % 9223372036854775808 = 0 ∧ fmaN a b SG % 9223372036854775808 = 0) := by
  have la := kd_le a
  have lb := kd_le b
  by_cases c0 : kd a < 3 ∧ kd b < 3
  · obtain ⟨ka, kb⟩ := c0
    have e := mulN_fin ka kb
    have hf : fsum a b SG = sV a * sV b := by unfold fsum; rw [sV_zero SG_kd]; simp
    unfold fmaN
    rw [SG_kd, hf]
    rw [if_neg (by omega), if_neg (by omega), if_neg (by omega)]
    have hn : (sV a * sV b).natAbs = V (ab a) * V (ab b) := by rw [Int.natAbs_mul, natAbs_sV, natAbs_sV]
    by_cases z : sV a * sV b = 0
    · right
      rw [z] at hn
      rw [e, ← hn, if_pos z]
      refine ⟨?_, ?_⟩
      · rw [show (0 : Int).natAbs = 0 from rfl, rnd_zero]; exact pk0_mod _
      · split <;> decide
    · left
      rw [if_neg z, e, hn, sV_mul_neg z]
  left
  unfold fmaN mulN
  rw [SG_kd]
  by_cases c1 : kd a = 4 ∨ kd b = 4 ∨ (kd a = 3 ∧ kd b = 0) ∨ (kd a = 0 ∧ kd b = 3)
  · rw [if_pos c1, if_pos (by omega)]
  · rw [if_neg c1, if_pos (by omega), if_neg (by omega), if_pos (by omega)]
end Go.Proofs.Ytaplggheadahhaa.Fl
