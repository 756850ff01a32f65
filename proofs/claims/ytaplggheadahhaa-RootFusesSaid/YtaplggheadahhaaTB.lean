/- What the references' lists of limbs are worth: Len, from, low, Round. What the references' Round is worth. Chapter 6's reference answers what the specs say. The references of chapter 6 are the words that the program's walks name: order, sign, the lesser and the greater one, whole, from, to. -/
import Derived.Test.YtaplggheadahhaaRC
import Derived.Test.YtaplggheadahhaaTA
namespace Go.Proofs.Ytaplggheadahhaa.R
open Go.RowKit Go.Proofs.YtaplggheadahhaaW.PrintWords
set_option linter.unusedVariables false
set_option linter.unusedSimpArgs false

/-! ### Len -/
theorem bl_half {m : Nat} (h : 0 < m) : Fl.bl m = Fl.bl (m / 2) + 1 := by
  by_cases h2 : 0 < m / 2
  · have := Fl.bl_mul_add h2 1 (m % 2) (by omega)
    rw [show m / 2 * 2 ^ 1 + m % 2 = m by omega] at this
    exact this
  · have : m = 1 := by omega
    subst this; decide
theorem len_l0 : ∀ m n : Nat, m < 4294967296 → n + m < 4611686018427387904 → Ev fun k => tabardref1_Len.l0 k (n : Int) (m : Int) = some ((n + Fl.bl m : Nat) : Int) := by
  intro m
  induction m using Nat.strongRecOn with
  | _ m ih =>
    intro n hm hn
    by_cases h0 : m = 0
    · subst h0
      refine ⟨1, fun k hk => ?_⟩
      obtain ⟨j, rfl⟩ : ∃ j, k = j + 1 := ⟨k - 1, by omega⟩
      show tabardref1_Len.l0 (j + 1) _ _ = _
      unfold tabardref1_Len.l0
      rw [if_neg (by omega)]; rfl
    · have hb : Fl.bl m = Fl.bl (m / 2) + 1 := bl_half (by omega)
      refine (ih (m / 2) (by omega) (n + 1) (by omega) (by omega)).step fun k h => ?_
      unfold tabardref1_Len.l0
      rw [if_pos (by omega), w64 (by omega) (by omega), Int.tdiv_eq_ediv_of_nonneg (by omega), show (m : Int) / 2 % 4294967296 = ((m / 2 : Nat) : Int) by omega, show (n : Int) + 1 = ((n + 1 : Nat) : Int) by omega, h, hb]
      congr 2; omega
theorem len_ev (l : List Int) (h : Lm l) (hl : l.length < 1099511627776) : Ev fun k => tabardref1_Len.f k l = some ((Fl.bl (val l) : Nat) : Int) := by
  have t := trim_ev l h (by omega)
  have ll : (lst (val l)).length ≤ l.length := length_lst (val_lt h)
  generalize val l = n at *
  by_cases h0 : n = 0
  · subst h0
    refine t.imp fun k ht => ?_
    unfold tabardref1_Len.f
    rw [ht, lst_zero]; rfl
  · have g1 := lst_length_ge h0
    have g2 := @lst_length_lt n
    have g3 : (lst n).length ≠ 0 := by rw [lst_pos h0]; simp
    have g4 := val_limb (lm_lst n) ((lst n).length - 1)
    obtain ⟨r, hr, hr2⟩ := rd_ex (lm_lst n) ((((lst n).length - 1 : Nat)) : Int)
    obtain ⟨L, hL⟩ : ∃ L, (lst n).length = L + 1 := ⟨(lst n).length - 1, by omega⟩
    rw [hr, Int.toNat_natCast, val_lst] at g4
    rw [hL, Nat.add_sub_cancel] at g1 g4 hr
    rw [hL, pow_limb] at g2
    have p : 0 < 2 ^ (32 * L) := Nat.pow_pos (by decide)
    have d1 := Nat.div_lt_of_lt_mul (show n < 2 ^ (32 * L) * 4294967296 by rw [Nat.mul_comm]; exact g2)
    rw [Nat.mod_eq_of_lt d1] at g4
    have d2 : 0 < r := by rw [g4]; exact Nat.div_pos g1 p
    have e : n = r * 2 ^ (32 * L) + n % 2 ^ (32 * L) := by rw [g4, Nat.mul_comm]; exact (Nat.div_add_mod n _).symm
    have hb := Fl.bl_mul_add d2 (32 * L) (n % 2 ^ (32 * L)) (Nat.mod_lt _ p)
    rw [← e] at hb
    clear e g1 g2 g4 d1
    refine (t.and (len_l0 r (32 * L) hr2 (by omega))).imp fun k ⟨ht, h2⟩ => ?_
    unfold tabardref1_Len.f
    rw [ht]
    simp only [Option.bind_some]
    rw [hL, show (((L + 1 : Nat) : Int) - 1) = (L : Int) by omega, w64 (n := (L : Int)) (by omega) (by omega), if_neg (by omega), if_pos (by omega), if_pos (by omega), hr, w64 (by omega) (by omega), show 32 * (L : Int) = ((32 * L : Nat) : Int) by omega, h2, hb]
    congr 2; omega

/-! ### from -/
theorem pow_split (W i m : Nat) : W / 2 ^ i % 2 ^ (m + 1) = 2 * (W / 2 ^ (i + 1) % 2 ^ m) + W / 2 ^ i % 2 := by
  rw [div_pow_succ, Nat.pow_succ, Nat.mul_comm (2 ^ m) 2, Nat.mod_mul]
  omega
theorem from_l0 (l : List Int) (h : Lm l) (n : Nat) (hn : n < 1152921504606846976) : ∀ i m : Nat, i + m = 64 → Ev fun k => tabardref3_from.l0 k l (n : Int) ((val l / 2 ^ n / 2 ^ i % 2 ^ m : Nat) : Int) ((i : Int) - 1) = some ((val l / 2 ^ n % 18446744073709551616 : Nat) : Int) := by
  intro i
  induction i with
  | zero =>
    intro m hm
    refine ⟨1, fun k hk => ?_⟩
    obtain ⟨j, rfl⟩ : ∃ j, k = j + 1 := ⟨k - 1, by omega⟩
    show tabardref3_from.l0 (j + 1) _ _ _ _ = _
    rw [show m = 64 by omega]
    unfold tabardref3_from.l0
    rw [if_neg (by omega)]
    simp
  | succ i ih =>
    intro m hm
    have hs := pow_split (val l / 2 ^ n) i m
    have b1 : val l / 2 ^ n / 2 ^ (i + 1) % 2 ^ m < 9223372036854775808 := by
      refine Nat.lt_of_lt_of_le (Nat.mod_lt _ (Nat.pow_pos (by decide))) ?_
      rw [show (9223372036854775808:Nat) = 2 ^ 63 from rfl]; exact Nat.pow_le_pow_right (by decide) (by omega)
    have bq := bit_eq h (n + i) (by omega)
    have bt : ((val l).testBit (n + i)).toNat = val l / 2 ^ n / 2 ^ i % 2 := by
      rw [bit_nat, Nat.pow_add, Nat.div_div_eq_div_mul]
    rw [← bt] at hs
    have hh := ih (m + 1) (by omega)
    rw [hs] at hh
    clear hs bt ih
    generalize val l / 2 ^ n / 2 ^ (i + 1) % 2 ^ m = v at *
    generalize (val l).testBit (n + i) = b at *
    refine hh.step fun k hk => ?_
    have e0 : ((i + 1 : Nat) : Int) - 1 = (i : Int) := by omega
    have e1 : wrap64 ((n : Int) + (i : Int)) = ((n + i : Nat) : Int) := by rw [w64 (by omega) (by omega)]; omega
    have e2 : wrap64 ((i : Int) - 1) = (i : Int) - 1 := w64 (by omega) (by omega)
    have e3 : IntKind.u64.wrap (2 * (v : Int)) = ((2 * v : Nat) : Int) := by rw [u64 (by omega) (by omega)]; omega
    have e4 : IntKind.u64.wrap (((2 * v : Nat) : Int) + 1) = ((2 * v + 1 : Nat) : Int) := by rw [u64 (by omega) (by omega)]; omega
    unfold tabardref3_from.l0
    rw [e0, if_pos (Int.natCast_nonneg _), e1, bq]
    simp only [Option.bind_some]
    rw [e2, e3, e4]
    cases b
    · rw [if_neg (by simp)]; exact hk
    · rw [if_pos rfl]; exact hk
theorem from_ev (l : List Int) (h : Lm l) (n : Nat) (hn : n < 1152921504606846976) : Ev fun k => tabardref3_from.f k l (n : Int) = some ((val l / 2 ^ n % 18446744073709551616 : Nat) : Int) := by
  have := from_l0 l h n hn 64 0 rfl
  rw [show (2:Nat) ^ 0 = 1 from rfl, Nat.mod_one] at this
  exact this

/-! ### low -/
theorem mod_pow_succ (v i : Nat) : v % 2 ^ (i + 1) = v % 2 ^ i + 2 ^ i * (v / 2 ^ i % 2) := by rw [Nat.pow_succ, Nat.mod_mul]
theorem low_l0 (l : List Int) (h : Lm l) (n : Nat) (hn : n < 1152921504606846976) (hl : l.length < 17179869184) (R : Bool) (hR : decide (val l % 2 ^ n ≠ 0) = R) : ∀ d i : Nat, i + d = min n (32 * l.length) → val l % 2 ^ i = 0 → Ev fun k => tabardref3_low.l0 k l (n : Int) (i : Int) = some R := by
  have eL : wrap64 (32 * (l.length : Int)) = ((32 * l.length : Nat) : Int) := by rw [w64 (by omega) (by omega)]; omega
  intro d
  induction d with
  | zero =>
    intro i hi hv
    have z : val l % 2 ^ n = 0 := by
      by_cases c : n ≤ 32 * l.length
      · rw [show n = i by omega]; exact hv
      · rw [show i = 32 * l.length by omega, Nat.mod_eq_of_lt (val_lt h)] at hv
        rw [hv]; exact Nat.zero_mod _
    have hR0 : R = false := by rw [← hR, z]; rfl
    subst hR0
    refine ⟨2, fun k hk => ?_⟩
    obtain ⟨j, rfl⟩ : ∃ j, k = j + 2 := ⟨k - 2, by omega⟩
    show tabardref3_low.l0 (j + 2) _ _ _ = _
    unfold tabardref3_low.l0
    rw [eL]
    by_cases c : (i : Int) < (n : Int)
    · rw [if_pos c, decide_eq_false (by omega)]
      unfold tabardref3_low.j1
      rfl
    · rw [if_neg c]
      unfold tabardref3_low.j1
      rfl
  | succ d ih =>
    intro i hi hv
    have bq := bit_eq h i (by omega)
    have bt := bit_nat (val l) i
    have c1 : (i : Int) < (n : Int) := by omega
    have c2 : (i : Int) < ((32 * l.length : Nat) : Int) := by omega
    have e2 : wrap64 ((i : Int) + 1) = ((i + 1 : Nat) : Int) := by rw [w64 (by omega) (by omega)]; omega
    rcases hb : (val l).testBit i with _ | _
    · rw [hb] at bt bq
      have z : val l % 2 ^ (i + 1) = 0 := by rw [mod_pow_succ, hv, ← bt]; rfl
      refine ((ih (i + 1) (by omega) z).step (q := fun k => tabardref3_low.j1 k l (n : Int) (i : Int) true = some R) fun k hk => ?_).step fun k hk => ?_
      · unfold tabardref3_low.j1
        rw [if_pos rfl, bq]
        simp only [Option.bind_some]
        rw [if_neg (by simp), e2]
        exact hk
      · unfold tabardref3_low.l0
        rw [if_pos c1, eL, decide_eq_true c2]; exact hk
    · rw [hb] at bq
      have z : val l % 2 ^ n ≠ 0 := fun h0 => by
        have := Nat.testBit_mod_two_pow (val l) n i
        rw [h0, Nat.zero_testBit, hb, Bool.and_true] at this
        have h3 : i < n := Int.ofNat_lt.1 c1
        exact absurd h3 (of_decide_eq_false this.symm)
      have hR0 : R = true := by rw [← hR]; exact decide_eq_true z
      subst hR0
      refine ⟨2, fun k hk => ?_⟩
      obtain ⟨j, rfl⟩ : ∃ j, k = j + 2 := ⟨k - 2, by omega⟩
      show tabardref3_low.l0 (j + 2) _ _ _ = _
      unfold tabardref3_low.l0
      rw [eL, if_pos c1, decide_eq_true c2]
      unfold tabardref3_low.j1
      rw [if_pos rfl, bq]
      rfl
theorem low_ev (l : List Int) (h : Lm l) (n : Nat) (hn : n < 1152921504606846976) (hl : l.length < 17179869184) : Ev fun k => tabardref3_low.f k l (n : Int) = some (decide (val l % 2 ^ n ≠ 0)) :=
  low_l0 l h n hn hl _ rfl (min n (32 * l.length)) 0 (by omega) (by simp [Nat.mod_one])
end Go.Proofs.Ytaplggheadahhaa.R

namespace Go.Proofs.Ytaplggheadahhaa.R
open Go.RowKit Go.Proofs.YtaplggheadahhaaW.PrintWords
set_option linter.unusedVariables false
set_option linter.unusedSimpArgs false

theorem round_j4 (k : Nat) (s U m : Nat) (u : Int) (hs : s = 0 ∨ s = 9223372036854775808) (hu : u + 1074 = (U : Int)) (hU : U ≤ 10000) (hm : m < 9007199254740992) (h0 : m < 4503599627370496 → U = 0) :
    tabardref3_Round.j4 (k + 1) (s : Int) u (m : Int) = some ((s + min Fl.INF (U * 4503599627370496 + m) : Nat) : Int) := by
  have hI : Fl.INF = 9218868437227405312 := rfl
  rw [tabardref3_Round.j4]
  by_cases c : m < 4503599627370496
  · rw [if_pos (by omega), u64 (by omega) (by omega)]
    have := h0 c
    congr 1; omega
  · rw [if_neg (by omega)]
    have e1 : wrap64 (u + 1075) = ((U + 1 : Nat) : Int) := by rw [w64 (by omega) (by omega)]; omega
    rw [e1]
    by_cases c2 : 2046 ≤ U
    · rw [if_pos (by omega), u64 (by omega) (by omega)]
      congr 1; omega
    · rw [if_neg (by omega)]
      obtain ⟨A, hA⟩ : ∃ A : Nat, A = (U + 1) * 4503599627370496 := ⟨_, rfl⟩
      have e2 : IntKind.u64.wrap ((U + 1 : Nat) : Int) = ((U + 1 : Nat) : Int) := u64 (by omega) (by omega)
      have e3 : IntKind.u64.wrap (((U + 1 : Nat) : Int) * 4503599627370496) = (A : Int) := by rw [u64 (by omega) (by omega)]; omega
      have hB : A ≤ 9214364837600034816 := by omega
      have hC : min Fl.INF (U * 4503599627370496 + m) = A + m - 4503599627370496 := by omega
      rw [e2, e3, hC]
      clear hC e2 e3 hA hI e1 hU hu h0
      have e4 : IntKind.u64.wrap ((s : Int) + (A : Int)) = ((s + A : Nat) : Int) := by rw [u64 (by omega) (by omega)]; omega
      have e5 : IntKind.u64.wrap (((s + A : Nat) : Int) + (m : Int)) = ((s + A + m : Nat) : Int) := by rw [u64 (by omega) (by omega)]; omega
      have e6 : IntKind.u64.wrap (((s + A + m : Nat) : Int) - 4503599627370496) = ((s + (A + m - 4503599627370496) : Nat) : Int) := by rw [u64 (by omega) (by omega)]; omega
      rw [e4, e5, e6]
theorem round_j3 (k : Nat) (s U m : Nat) (u : Int) (hs : s = 0 ∨ s = 9223372036854775808) (hu : u + 1074 = (U : Int)) (hU : U < 10000) (hm : m ≤ 9007199254740992) (h0 : m < 4503599627370496 → U = 0) :
    tabardref3_Round.j3 (k + 2) (s : Int) u (m : Int) = some ((s + min Fl.INF (U * 4503599627370496 + m) : Nat) : Int) := by
  rw [tabardref3_Round.j3]
  by_cases c : m = 9007199254740992
  · rw [if_pos (by omega), w64 (by omega) (by omega)]
    have := round_j4 k s (U + 1) 4503599627370496 (u + 1) hs (by omega) (by omega) (by omega) (by omega)
    rw [show U * 4503599627370496 + m = (U + 1) * 4503599627370496 + 4503599627370496 by omega]
    exact this
  · rw [if_neg (by omega)]
    exact round_j4 k s U m u hs hu (by omega) (by omega) h0

theorem round_rq (n K : Nat) (more : Bool) : Fl.rq n K more = if (n.testBit (K - 1) && (decide (n % 2 ^ (K - 1) ≠ 0) || more || decide (n / 2 ^ K % 2 = 1))) = true then n / 2 ^ K + 1 else n / 2 ^ K := by
  unfold Fl.rq
  rw [Nat.testBit_eq_decide_div_mod_eq]
  congr 1
  simp [Bool.and_eq_true, Bool.or_eq_true, or_assoc]

theorem round_choice {α : Type} (lo half more od : Bool) (P : Prop) [Decidable P] (hP : P ↔ od = true) (a b : α) :
    (if lo = true then (if half = true then a else b) else (if half = true then (if more = true then a else (if P then a else b)) else b)) = if (half && (lo || more || od)) = true then a else b := by
  by_cases h : P
  · have := hP.1 h; subst this
    cases lo <;> cases half <;> cases more <;> simp [h]
  · have h2 : od = false := by cases od with
      | false => rfl
      | true => exact absurd (hP.2 rfl) h
    subst h2
    cases lo <;> cases half <;> cases more <;> simp [h]

theorem round_up (l : List Int) (h : Lm l) (hl : l.length < 1073741824) (e u : Int) (U d : Nat) (more : Bool) (s : Nat) (hs : s = 0 ∨ s = 9223372036854775808)
    (hU : u + 1074 = (U : Int)) (hU2 : U < 10000) (hd : e - u = (d : Int)) (hd2 : d < 10000) (hle : val l * 2 ^ d ≤ 9007199254740992) (hz : val l * 2 ^ d < 4503599627370496 → U = 0) :
    Ev fun k => tabardref3_Round.j2 k l e more (s : Int) u = some ((s + min Fl.INF (U * 4503599627370496 + val l * 2 ^ d) : Nat) : Int) := by
  have t1 := up_ev l h d (by omega) (by omega)
  have t2 := from_ev (lst (val l * 2 ^ d)) (lm_lst _) 0 (by omega)
  have w1 : wrap64 (e - u) = (d : Int) := by rw [hd]; exact w64 (by omega) (by omega)
  have c : u ≤ e := by omega
  rw [val_lst, Nat.pow_zero, Nat.div_one] at t2
  generalize val l * 2 ^ d = m at *
  rw [Nat.mod_eq_of_lt (by omega)] at t2
  have r := fun j => round_j3 j s U m u hs hU hU2 hle hz
  clear hle hz hd hU hs hl
  have ⟨K, ht⟩ := t1.and t2
  refine ⟨K + 3, fun k hk => ?_⟩
  obtain ⟨j, rfl⟩ : ∃ j, k = j + 3 := ⟨k - 3, by omega⟩
  obtain ⟨h1, h2⟩ := ht (j + 2) (by omega)
  show tabardref3_Round.j2 (j + 2 + 1) l e more (s : Int) u = _
  rw [tabardref3_Round.j2, if_pos c, w1, h1]
  simp only [Option.bind_some]
  rw [show (0 : Int) = ((0 : Nat) : Int) from rfl, h2]
  simp only [Option.bind_some]
  exact r j

theorem round_down (l : List Int) (h : Lm l) (hl : l.length < 1073741824) (e u : Int) (U d : Nat) (more : Bool) (s : Nat) (hs : s = 0 ∨ s = 9223372036854775808)
    (hU : u + 1074 = (U : Int)) (hU2 : U < 10000) (hd : u - e = ((d + 1 : Nat) : Int)) (hd2 : d < 2147483648) (hle : Fl.rq (val l) (d + 1) more ≤ 9007199254740992) (hz : Fl.rq (val l) (d + 1) more < 4503599627370496 → U = 0) :
    Ev fun k => tabardref3_Round.j2 k l e more (s : Int) u = some ((s + min Fl.INF (U * 4503599627370496 + Fl.rq (val l) (d + 1) more) : Nat) : Int) := by
  have hq := Fl.rq_ge (val l) (d + 1) more
  have t1 := from_ev l h (d + 1) (by omega)
  rw [Nat.mod_eq_of_lt (by omega)] at t1
  have t2 := bit_eq h d (by omega)
  have t3 := low_ev l h d (by omega) (by omega)
  have hr := round_rq (val l) (d + 1) more
  rw [show d + 1 - 1 = d from rfl] at hr
  have c : ¬ u ≤ e := by omega
  have w1 : wrap64 (u - e) = ((d + 1 : Nat) : Int) := by rw [hd]; exact w64 (by omega) (by omega)
  have w2 : wrap64 (((d + 1 : Nat) : Int) - 1) = (d : Int) := by rw [w64 (by omega) (by omega)]; omega
  generalize Fl.rq (val l) (d + 1) more = M at *
  generalize decide (val l % 2 ^ d ≠ 0) = lo at *
  generalize (val l).testBit d = half at *
  generalize val l / 2 ^ (d + 1) = m at *
  have r := fun j => round_j3 j s U M u hs hU hU2 hle hz
  have tm : Int.tmod (m : Int) 2 = 1 ↔ decide (m % 2 = 1) = true := by
    rw [Int.tmod_eq_emod_of_nonneg (Int.natCast_nonneg _), decide_eq_true_iff]; omega
  have um : IntKind.u64.wrap ((m : Int) + 1) = ((m + 1 : Nat) : Int) := by rw [u64 (by omega) (by omega)]; omega
  clear hle hz hd hU hs hl hq
  have ⟨K, ht⟩ := t1.and t3
  refine ⟨K + 3, fun k hk => ?_⟩
  obtain ⟨j, rfl⟩ : ∃ j, k = j + 3 := ⟨k - 3, by omega⟩
  obtain ⟨h1, h2⟩ := ht (j + 2) (by omega)
  show tabardref3_Round.j2 (j + 2 + 1) l e more (s : Int) u = _
  rw [← r j, tabardref3_Round.j2, if_neg c, w1, h1]
  simp only [Option.bind_some]
  rw [w2, t2]
  simp only [Option.bind_some]
  rw [h2]
  simp only [Option.bind_some]
  rw [round_choice lo half more _ _ tm, um, hr]
  split <;> rfl

theorem round_j2 (l : List Int) (h : Lm l) (hl : l.length < 1073741824) (e : Int) (he : -1073741824 ≤ e) (he2 : e ≤ 2000) (more : Bool) (s : Nat) (hs : s = 0 ∨ s = 9223372036854775808) (h0 : 0 < val l) (hu : Fl.un (val l) e < 8000) :
    Ev fun k => tabardref3_Round.j2 k l e more (s : Int) (Fl.un (val l) e) = some ((s + Fl.rnd (val l) e more : Nat) : Int) := by
  have hg := Fl.un_ge (val l) e
  have hle := Fl.sg_le h0 e more
  have hge := Fl.sg_ge h0 e more
  rw [Fl.rnd_eq h0]
  obtain ⟨U, hU⟩ : ∃ U : Nat, Fl.un (val l) e + 1074 = (U : Int) := ⟨(Fl.un (val l) e + 1074).toNat, by omega⟩
  rw [hU, Int.toNat_natCast]
  have hz : Fl.sg (val l) e more < 4503599627370496 → U = 0 := fun hlt => by
    rcases Nat.eq_zero_or_pos U with h1 | h1
    · exact h1
    · exact absurd (hge (by omega)) (by omega)
  clear hge
  unfold Fl.sg at hle hz ⊢
  generalize Fl.un (val l) e = u at *
  by_cases c : u ≤ e
  · rw [if_pos c] at hle hz ⊢
    obtain ⟨d, hd⟩ : ∃ d : Nat, e - u = (d : Int) := ⟨(e - u).toNat, by omega⟩
    rw [hd, Int.toNat_natCast] at hle hz ⊢
    exact round_up l h hl e u U d more s hs hU (by omega) hd (by omega) hle hz
  · rw [if_neg c] at hle hz ⊢
    obtain ⟨d, hd⟩ : ∃ d : Nat, u - e = ((d + 1 : Nat) : Int) := ⟨(u - e).toNat - 1, by omega⟩
    rw [hd, Int.toNat_natCast] at hle hz ⊢
    exact round_down l h hl e u U d more s hs hU (by omega) hd (by omega) hle hz

theorem pk_sum (neg : Bool) (m : Nat) : Fl.pk neg m = (if neg = true then 9223372036854775808 else 0) + m := by unfold Fl.pk; cases neg <;> simp <;> omega

theorem rnd_far {n : Nat} {e : Int} (more : Bool) (h0 : 0 < n) (h1 : e < -100000) (h2 : e + Fl.bl n < -2000) : Fl.rnd n e more = 0 := by
  have hu : Fl.un n e = -1074 := by unfold Fl.un; omega
  rw [Fl.rnd_eq h0]
  unfold Fl.sg
  rw [hu, if_neg (by omega)]
  obtain ⟨d, hd⟩ : ∃ d : Nat, -1074 - e = ((d + 1 : Nat) : Int) := ⟨(-1074 - e).toNat - 1, by omega⟩
  rw [show (-1074 - e).toNat = d + 1 by omega, show ((-1074 : Int) + 1074).toNat = 0 by omega]
  have hb : n < 2 ^ d := Nat.lt_of_lt_of_le (Fl.lt_bl n) (Nat.pow_le_pow_right (by decide) (by omega))
  have z1 : n / 2 ^ d = 0 := Nat.div_eq_of_lt hb
  unfold Fl.rq
  rw [show d + 1 - 1 = d from rfl, z1, if_neg (by simp), div_pow_succ, z1]
  simp
theorem rnd_inf {n : Nat} {e : Int} (more : Bool) (h0 : 0 < n) (h1 : 2000 < e) : Fl.rnd n e more = Fl.INF := by
  have hu : 1948 < Fl.un n e := by have := Fl.bl_pos h0; unfold Fl.un; omega
  have hI : Fl.INF = 9218868437227405312 := rfl
  rw [Fl.rnd_eq h0]
  generalize Fl.sg n e more = m
  generalize Fl.un n e = u at *
  omega

theorem round_ev (neg : Bool) (l : List Int) (h : Lm l) (hl : l.length < 1048576) (e : Int) (he : -1073741824 ≤ e) (he2 : e ≤ 1073741824) (more : Bool) (hu : e ≤ 2000 → Fl.un (val l) e < 8000) :
    Ev fun k => tabardref3_Round.f k neg l e more = some ((Fl.pk neg (Fl.rnd (val l) e more) : Nat) : Int) := by
  rw [pk_sum]
  have hs : (if neg = true then 9223372036854775808 else 0 : Nat) = 0 ∨ (if neg = true then 9223372036854775808 else 0 : Nat) = 9223372036854775808 := by cases neg <;> simp
  have hf : ∀ k, tabardref3_Round.f k neg l e more = tabardref3_Round.j0 k l e more (((if neg = true then 9223372036854775808 else 0 : Nat)) : Int) := fun k => by
    unfold tabardref3_Round.f; cases neg <;> rfl
  generalize (if neg = true then 9223372036854775808 else 0 : Nat) = s at *
  have t := len_ev l h (by omega)
  have hb : Fl.bl (val l) ≤ 32 * l.length := Fl.bl_le_of_lt (val_lt h)
  have hI : Fl.INF = 9218868437227405312 := rfl
  by_cases c0 : val l = 0
  · rw [c0, Fl.rnd_zero]
    rw [c0, Fl.bl_zero] at t
    have ⟨K, ht⟩ := t
    refine ⟨K + 2, fun k hk => ?_⟩
    obtain ⟨j, rfl⟩ : ∃ j, k = j + 2 := ⟨k - 2, by omega⟩
    have h1 := ht (j + 1) (by omega)
    show tabardref3_Round.f (j + 2) neg l e more = _
    rw [hf]
    rw [tabardref3_Round.j0]
    rw [h1]
    simp only [Option.bind_some]
    rw [if_pos (show ((0 : Nat) : Int) = 0 from rfl)]
    rw [tabardref3_Round.j1]
    rw [if_pos rfl]; rfl
  · have hp : 0 < val l := Nat.pos_of_ne_zero c0
    have hbp := Fl.bl_pos hp
    by_cases cf : e < -100000 ∧ e + Fl.bl (val l) < -2000
    · rw [rnd_far more hp cf.1 cf.2]
      have ⟨K, ht⟩ := t
      refine ⟨K + 2, fun k hk => ?_⟩
      obtain ⟨j, rfl⟩ : ∃ j, k = j + 2 := ⟨k - 2, by omega⟩
      have h1 : tabardref1_Len.f (j + 1) l = _ := ht (j + 1) (by omega)
      show tabardref3_Round.f (j + 2) neg l e more = _
      rw [hf]
      obtain ⟨c1, c2⟩ := cf
      generalize Fl.bl (val l) = L at *
      rw [tabardref3_Round.j0]
      rw [h1]
      simp only [Option.bind_some]
      rw [if_neg (by omega), if_pos c1, w64 (by omega) (by omega), decide_eq_true c2]
      rw [tabardref3_Round.j1]
      rw [if_pos rfl]; rfl
    · have hj0 : ∀ k, tabardref1_Len.f k l = some ((Fl.bl (val l) : Nat) : Int) → tabardref3_Round.j0 (k + 1) l e more (s : Int) = tabardref3_Round.j1 k l e more (s : Int) ((Fl.bl (val l) : Nat) : Int) false := fun k hk => by
        rw [tabardref3_Round.j0]
        rw [hk]
        simp only [Option.bind_some]
        generalize Fl.bl (val l) = L at *
        rw [if_neg (by omega)]
        by_cases c1 : e < -100000
        · rw [if_pos c1, w64 (by omega) (by omega), decide_eq_false (by omega)]
        · rw [if_neg c1]
      by_cases ci : e ≤ 2000
      · have hU := hu ci
        have t2 := round_j2 l h (by omega) e he ci more s hs hp hU
        have ⟨K, ht⟩ := t.and t2
        refine ⟨K + 2, fun k hk => ?_⟩
        obtain ⟨j, rfl⟩ : ∃ j, k = j + 2 := ⟨k - 2, by omega⟩
        have h1 := (ht (j + 1) (by omega)).1
        have h2 : tabardref3_Round.j2 j l e more (s : Int) (Fl.un (val l) e) = _ := (ht j (by omega)).2
        show tabardref3_Round.f (j + 2) neg l e more = _
        rw [hf, hj0 _ h1, ← h2]
        rw [tabardref3_Round.j1]
        unfold Fl.un
        clear ht h1 h2 t t2 hj0 hU hu
        generalize Fl.bl (val l) = L at *
        rw [if_neg (by simp), if_neg (by omega), w64 (n := e + (L : Int)) (by omega) (by omega), w64 (by omega) (by omega)]
        by_cases c3 : e + (L : Int) - 53 < -1074
        · rw [if_pos c3, show max (e + (L : Int) - 53) (-1074) = -1074 by omega]
        · rw [if_neg c3, show max (e + (L : Int) - 53) (-1074) = e + (L : Int) - 53 by omega]
      · rw [rnd_inf more hp (by omega)]
        have ⟨K, ht⟩ := t
        refine ⟨K + 2, fun k hk => ?_⟩
        obtain ⟨j, rfl⟩ : ∃ j, k = j + 2 := ⟨k - 2, by omega⟩
        have h1 := ht (j + 1) (by omega)
        show tabardref3_Round.f (j + 2) neg l e more = _
        rw [hf, hj0 _ h1]
        rw [tabardref3_Round.j1]
        rw [if_neg (by simp), if_pos (by omega), u64 (by omega) (by omega)]
        congr 1
end Go.Proofs.Ytaplggheadahhaa.R

namespace Go.Proofs.Ytaplggheadahhaa.R
open Go.RowKit Go.Proofs.YtaplggheadahhaaW.PrintWords
set_option linter.unusedVariables false
set_option linter.unusedSimpArgs false

theorem is3_eq (x : Nat) : tabardref3_Is.f (x : Int) = some (Fl.ng x) := by
  unfold tabardref3_Is.f Fl.ng
  congr 1
  by_cases c : 9223372036854775808 ≤ x
  · rw [decide_eq_true c, decide_eq_true (by omega)]
  · rw [decide_eq_false c, decide_eq_false (by omega)]
theorem kind_ev (x : Nat) : Ev fun k => tabardref3_Kind.f k (x : Int) = some ((Fl.kd x : Nat) : Int) := by
  have e1 : Int.tmod ((x : Int) / 4503599627370496) 2048 = ((x / 4503599627370496 % 2048 : Nat) : Int) := by rw [Int.tmod_eq_emod_of_nonneg (by omega)]; omega
  have e2 : Int.tmod (x : Int) 4503599627370496 = ((x % 4503599627370496 : Nat) : Int) := by rw [Int.tmod_eq_emod_of_nonneg (by omega)]; omega
  refine ⟨2, fun k hk => ?_⟩
  obtain ⟨j, rfl⟩ : ∃ j, k = j + 2 := ⟨k - 2, by omega⟩
  show tabardref3_Kind.f (j + 1 + 1) _ = _
  unfold tabardref3_Kind.f Fl.kd
  rw [e1, e2]
  generalize x / 4503599627370496 % 2048 = b
  generalize x % 4503599627370496 = f
  by_cases c1 : b = 2047
  · subst c1
    rw [if_pos (show ((2047 : Nat) : Int) = 2047 from rfl), if_pos rfl, tabardref3_Kind.j0]
    by_cases c2 : f = 0
    · subst c2; rfl
    · rw [if_neg c2, if_neg (by simp; omega), if_pos (show ((2047 : Nat) : Int) = 2047 from rfl)]; rfl
  · rw [if_neg (by omega), if_neg c1, tabardref3_Kind.j0, if_neg (by simp), if_neg (by omega)]
    by_cases c3 : b = 0
    · subst c3
      rw [if_pos (show ((0 : Nat) : Int) = 0 from rfl), if_pos rfl, tabardref3_Kind.j1]
      by_cases c2 : f = 0
      · subst c2; rfl
      · rw [if_neg c2, if_neg (by simp; omega), if_pos (show ((0 : Nat) : Int) = 0 from rfl)]; rfl
    · rw [if_neg (by omega), if_neg c3, tabardref3_Kind.j1, if_neg (by simp), if_neg (by omega)]; rfl
theorem split_ev (x : Nat) (hx : x < 18446744073709551616) (hk : Fl.kd x < 3) : Ev fun k => tabardref3_Split.f k (x : Int) = some (Fl.ng x, ((Fl.mant (Fl.ab x) : Nat) : Int), ((Fl.sh (Fl.ab x) : Nat) : Int) - 1074) := by
  have e1 : Int.tmod ((x : Int) / 4503599627370496) 2048 = ((x / 4503599627370496 % 2048 : Nat) : Int) := by rw [Int.tmod_eq_emod_of_nonneg (by omega)]; omega
  have e2 : Int.tmod (x : Int) 4503599627370496 = ((x % 4503599627370496 : Nat) : Int) := by rw [Int.tmod_eq_emod_of_nonneg (by omega)]; omega
  have ⟨K, h⟩ := kind_ev x
  refine ⟨K + 1, fun k hk2 => ?_⟩
  obtain ⟨j, rfl⟩ : ∃ j, k = j + 1 := ⟨k - 1, by omega⟩
  have h1 : tabardref3_Kind.f (j + 1) (x : Int) = _ := h (j + 1) (by omega)
  show tabardref3_Split.f (j + 1) _ = _
  unfold tabardref3_Split.f
  rw [h1]
  simp only [Option.bind_some]
  clear h1 h
  by_cases c : Fl.kd x < 2
  · have hs : Fl.sh (Fl.ab x) = 0 ∧ Fl.mant (Fl.ab x) = x % 4503599627370496 := by
      unfold Fl.kd at c; unfold Fl.sh Fl.mant Fl.ab
      split at c
      · split at c <;> omega
      · split at c
        · rw [if_pos (by omega)]; omega
        · omega
    rw [hs.1, hs.2]
    have hb : (if ((Fl.kd x : Nat) : Int) = 0 then tabardref3_Split.j0 (j + 1) (x : Int) ((Fl.kd x : Nat) : Int) (((Fl.kd x : Nat) : Int) == 0) else tabardref3_Split.j0 (j + 1) (x : Int) ((Fl.kd x : Nat) : Int) (((Fl.kd x : Nat) : Int) == 1)) = tabardref3_Split.j0 (j + 1) (x : Int) ((Fl.kd x : Nat) : Int) true := by
      rcases (show Fl.kd x = 0 ∨ Fl.kd x = 1 by omega) with h | h <;> rw [h] <;> rfl
    rw [hb, tabardref3_Split.j0, if_pos rfl, is3_eq, e2]
    rfl
  · have h2 : Fl.kd x = 2 := by omega
    have hs : ((Fl.sh (Fl.ab x) : Nat) : Int) - 1074 = ((x / 4503599627370496 % 2048 : Nat) : Int) - 1075 ∧ Fl.mant (Fl.ab x) = 4503599627370496 + x % 4503599627370496 := by
      unfold Fl.kd at h2; unfold Fl.sh Fl.mant Fl.ab
      split at h2
      · split at h2 <;> omega
      · split at h2
        · split at h2 <;> omega
        · rw [if_neg (by omega)]; omega
    rw [hs.1, hs.2, h2]
    have hb : (if ((2 : Nat) : Int) = 0 then tabardref3_Split.j0 (j + 1) (x : Int) ((2 : Nat) : Int) (((2 : Nat) : Int) == 0) else tabardref3_Split.j0 (j + 1) (x : Int) ((2 : Nat) : Int) (((2 : Nat) : Int) == 1)) = tabardref3_Split.j0 (j + 1) (x : Int) 2 false := rfl
    rw [hb, tabardref3_Split.j0, if_neg (by simp), if_pos rfl, is3_eq, e1, e2]
    simp only [Option.bind_some]
    rw [u64 (by omega) (by omega), w64 (n := ((x / 4503599627370496 % 2048 : Nat) : Int)) (by omega) (by omega), w64 (by omega) (by omega)]
    rfl
end Go.Proofs.Ytaplggheadahhaa.R
