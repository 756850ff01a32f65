/- The reference of the product is the product of naturals. -/
import Derived.Test.YtaplggheadahhaaRJ
import Derived.Test.YtaplggheadahhaaTA
namespace Go.Proofs.Ytaplggheadahhaa.R
open Go.RowKit Go.Proofs.YtaplggheadahhaaW.PrintWords
set_option linter.unusedVariables false
set_option linter.unusedSimpArgs false

theorem times_step_ (k : Nat) (a b out r : List Int) (i c j p s v c' j' : Int) (hj : j < (b.length : Int)) (hi : 0 ≤ i) (hi2 : i < (a.length : Int)) (hj0 : 0 ≤ j) (hp : wrap64 (i + j) = p) (hp0 : 0 ≤ p) (hp2 : p < (out.length : Int))
    (hs : IntKind.u64.wrap ((IntKind.u64.wrap ((IntKind.u64.wrap ((IntKind.u64.wrap (rd a i)) * (IntKind.u64.wrap (rd b j)))) + (IntKind.u64.wrap (rd out p)))) + c) = s) (hv : Int.tmod s 4294967296 % 4294967296 = v) (hc : s / 4294967296 = c') (hj' : wrap64 (j + 1) = j')
    (h : tabardref1_Times.l1 k a b (out.set p.toNat v) i c' j' = some r) : tabardref1_Times.l1 (k + 1) a b out i c j = some r := by
  rw [tabardref1_Times.l1, if_pos hj, if_pos hi, if_pos hi2, if_pos hj0, hp, if_pos hp0, if_pos hp2, hs, hv, hc, hj']
  exact h
theorem times_last_ (k : Nat) (a b out r : List Int) (i c j p v i' : Int) (hj : ¬ j < (b.length : Int)) (hp : wrap64 (i + (b.length : Int)) = p) (hp0 : 0 ≤ p) (hp2 : p < (out.length : Int)) (hv : c % 4294967296 = v) (hi' : wrap64 (i + 1) = i')
    (h : tabardref1_Times.l0 k a b (out.set p.toNat v) i' = some r) : tabardref1_Times.l1 (k + 1) a b out i c j = some r := by
  rw [tabardref1_Times.l1, if_neg hj, hp, if_pos hp0, if_pos hp2, hv, hi']
  exact h
theorem times_sum_ (x y o c : Nat) (hx : x < 4294967296) (hy : y < 4294967296) (ho : o < 4294967296) (hc : c < 4294967296) : x * y + o + c < 18446744073709551616 ∧ (x * y + o + c) / 4294967296 < 4294967296 := by
  have := Nat.mul_le_mul (show x ≤ 4294967295 by omega) (show y ≤ 4294967295 by omega)
  omega
theorem times_inv_ (A B C D E p q o s v c c' ai bj Bp : Nat) (hB : A + o * Bp = D + v * Bp) (hs : s = ai * bj + o + c) (hv : v + 4294967296 * c' = s) (h : D + c * Bp = C) : A + c' * (Bp * 4294967296) = C + ai * bj * Bp := by
  have e1 : (v + 4294967296 * c') * Bp = (ai * bj + o + c) * Bp := by rw [hv, hs]
  rw [Nat.add_mul, Nat.add_mul, Nat.add_mul] at e1
  have e2 : c' * (Bp * 4294967296) = 4294967296 * c' * Bp := by rw [Nat.mul_comm Bp, ← Nat.mul_assoc, Nat.mul_comm c']
  rw [e2]
  omega
theorem rd_set_ne (l : List Int) (n m : Nat) (v : Int) (h : n ≠ m) : rd (l.set n v) (m : Int) = rd l (m : Int) := by
  unfold rd
  simp [List.getElem?_set_ne h, List.getD]

section
variable (a b : List Int) (ha : Lm a) (hb : Lm b) (la : a.length < 1073741824) (lb : b.length < 1073741824) (r : List Int)
include ha hb la lb
theorem times_inner (i : Nat) (hi : i < a.length) (V0 : Nat)
    (next : ∀ out' : List Int, out'.length = a.length + b.length + 1 → Lm out' → val out' = V0 + (rd a (i : Int)).toNat * val b * 2 ^ (32 * i) → Ev fun k => tabardref1_Times.l0 k a b out' ((i + 1 : Nat) : Int) = some r) :
    ∀ (d j c : Nat) (out : List Int), j + d = b.length → c < 4294967296 → out.length = a.length + b.length + 1 → Lm out → rd out ((i + b.length : Nat) : Int) = 0 →
      val out + c * 2 ^ (32 * (i + j)) = V0 + (rd a (i : Int)).toNat * (val b % 2 ^ (32 * j)) * 2 ^ (32 * i) → Ev fun k => tabardref1_Times.l1 k a b out (i : Int) (c : Int) (j : Int) = some r := by
  intro d
  induction d with
  | zero =>
    intro j c out hj hc hl hm h0 hinv
    have hj : j = b.length := by omega
    subst hj
    have hs := val_set out (i + b.length) ((c : Nat) : Int) (by omega)
    rw [h0] at hs
    have hm2 := lm_set hm (i + b.length) (v := ((c : Nat) : Int)) (by omega)
    rw [val_mod_len hb (Nat.le_refl _)] at hinv
    have ⟨K, h⟩ := next (out.set (i + b.length) ((c : Nat) : Int)) (by rw [List.length_set]; exact hl) hm2 (by simp only [Int.toNat_natCast, Int.toNat_zero, Nat.zero_mul, Nat.add_zero] at hs; omega)
    refine ⟨K + 1, fun k hk => ?_⟩
    obtain ⟨k, rfl⟩ : ∃ j, k = j + 1 := ⟨k - 1, by omega⟩
    exact times_last_ k a b out r _ _ _ ((i + b.length : Nat) : Int) (c : Int) ((i + 1 : Nat) : Int) (by omega) (by rw [w64 (by omega) (by omega)]; omega) (by omega) (by omega) (by omega) (by rw [w64 (by omega) (by omega)]; omega) (h k (by omega))
  | succ d ih =>
    intro j c out hj hc hl hm h0 hinv
    obtain ⟨x, hx, hx2⟩ := rd_ex ha (i : Int)
    obtain ⟨y, hy, hy2⟩ := rd_ex hb (j : Int)
    obtain ⟨o, ho, ho2⟩ := rd_ex hm ((i + j : Nat) : Int)
    obtain ⟨q1, q2⟩ := times_sum_ x y o c hx2 hy2 ho2 hc
    have hs := val_set out (i + j) (((x * y + o + c) % 4294967296 : Nat) : Int) (by omega)
    have hm2 := lm_set hm (i + j) (v := (((x * y + o + c) % 4294967296 : Nat) : Int)) (by omega)
    have hbm := val_mod hb j
    rw [hy, Int.toNat_natCast] at hbm
    rw [ho, Int.toNat_natCast, Int.toNat_natCast] at hs
    have hz : rd (out.set (i + j) (((x * y + o + c) % 4294967296 : Nat) : Int)) ((i + b.length : Nat) : Int) = 0 := by rw [rd_set_ne _ _ _ _ (by omega)]; exact h0
    rw [hx, Int.toNat_natCast] at hinv ih
    have hI := times_inv_ _ 0 _ _ 0 0 0 _ _ _ _ ((x * y + o + c) / 4294967296) x y _ hs rfl (by omega) hinv
    have ⟨K, h⟩ := ih (j + 1) ((x * y + o + c) / 4294967296) _ (by omega) q2 (by rw [List.length_set]; exact hl) hm2 hz (by
      have e1 : 2 ^ (32 * (i + (j + 1))) = 2 ^ (32 * (i + j)) * 4294967296 := by rw [show 32 * (i + (j + 1)) = 32 * (i + j) + 32 by omega, Nat.pow_add]
      have e2 : x * y * 2 ^ (32 * (i + j)) = x * (y * 2 ^ (32 * j)) * 2 ^ (32 * i) := by rw [show 32 * (i + j) = 32 * j + 32 * i by omega, Nat.pow_add, ← Nat.mul_assoc, ← Nat.mul_assoc]
      rw [e1, hI, e2, hbm, Nat.mul_add, Nat.add_mul, Nat.add_assoc])
    refine ⟨K + 1, fun k hk => ?_⟩
    obtain ⟨k, rfl⟩ : ∃ j, k = j + 1 := ⟨k - 1, by omega⟩
    have hm3 : x * y < 18446744073709551616 := by omega
    have hw : IntKind.u64.wrap ((IntKind.u64.wrap ((IntKind.u64.wrap ((IntKind.u64.wrap (rd a (i : Int))) * (IntKind.u64.wrap (rd b (j : Int))))) + (IntKind.u64.wrap (rd out ((i + j : Nat) : Int))))) + (c : Int)) = ((x * y + o + c : Nat) : Int) := by
      rw [hx, hy, ho, u64 (n := (x : Int)) (by omega) (by omega), u64 (n := (y : Int)) (by omega) (by omega), u64 (n := (o : Int)) (by omega) (by omega), ← Int.natCast_mul]
      generalize x * y = z at *
      rw [u64 (n := (z : Int)) (by omega) (by omega), u64 (n := (z : Int) + (o : Int)) (by omega) (by omega), u64 (by omega) (by omega)]
      omega
    generalize x * y + o + c = s at *
    exact times_step_ k a b out r _ _ _ ((i + j : Nat) : Int) (s : Int) ((s % 4294967296 : Nat) : Int) ((s / 4294967296 : Nat) : Int) ((j + 1 : Nat) : Int) (by omega) (by omega) (by omega) (by omega) (by rw [w64 (by omega) (by omega)]; omega) (by omega) (by omega) hw (by rw [Int.tmod_eq_emod_of_nonneg (by omega)]; omega) (by omega) (by rw [w64 (by omega) (by omega)]; omega) (h k (by omega))
end
theorem times_outer (a b : List Int) (ha : Lm a) (hb : Lm b) (la : a.length < 1073741824) (lb : b.length < 1073741824) : ∀ (d i : Nat) (out : List Int), i + d = a.length → out.length = a.length + b.length + 1 → Lm out → val out = val a % 2 ^ (32 * i) * val b → Ev fun k => tabardref1_Times.l0 k a b out (i : Int) = some (lst (val a * val b)) := by
  intro d
  induction d with
  | zero =>
    intro i out hi hl hm hv
    have ⟨K, h⟩ := trim_ev out hm (by omega)
    rw [hv, val_mod_len ha (by omega)] at h
    refine ⟨K + 1, fun k hk => ?_⟩
    obtain ⟨k, rfl⟩ : ∃ j, k = j + 1 := ⟨k - 1, by omega⟩
    rw [tabardref1_Times.l0, if_neg (by omega), h k (by omega)]
    rfl
  | succ d ih =>
    intro i out hi hl hm hv
    have hz : rd out ((i + b.length : Nat) : Int) = 0 := by
      have h1 := val_limb hm (i + b.length)
      have h2 : val out < 2 ^ (32 * (i + b.length)) := by
        rw [hv, Nat.mul_add, Nat.pow_add]
        have := Nat.mod_lt (val a) (show 0 < 2 ^ (32 * i) from Nat.pow_pos (by decide))
        have h3 := val_lt hb
        exact Nat.mul_lt_mul'' this h3
      rw [Nat.div_eq_of_lt h2] at h1
      have := rd_nat hm ((i + b.length : Nat) : Int)
      omega
    have hI := times_inner a b ha hb la lb (lst (val a * val b)) i (by omega) (val out) (fun out' h1 h2 h3 => by
      refine ih (i + 1) out' (by omega) h1 h2 ?_
      rw [h3, hv, val_mod ha i, Nat.add_mul, Nat.mul_right_comm]) b.length 0 0 out (by omega) (by omega) hl hm hz (by simp [Nat.mod_one])
    have ⟨K, h⟩ := hI
    refine ⟨K + 1, fun k hk => ?_⟩
    obtain ⟨k, rfl⟩ : ∃ j, k = j + 1 := ⟨k - 1, by omega⟩
    rw [tabardref1_Times.l0, if_pos (by omega)]
    exact h k (by omega)
theorem times_ev (a b : List Int) (ha : Lm a) (hb : Lm b) (la : a.length < 1073741824) (lb : b.length < 1073741824) : Ev fun k => tabardref1_Times.f k a b = some (lst (val a * val b)) := by
  have h := times_outer a b ha hb la lb a.length 0 (List.replicate (a.length + b.length + 1) 0) (by omega) (by simp) (lm_zeros _) (by rw [val_zeros]; simp [Nat.mod_one])
  refine h.imp fun k h => ?_
  have e : wrap64 ((wrap64 ((a.length : Int) + (b.length : Int))) + 1) = ((a.length + b.length + 1 : Nat) : Int) := by
    rw [w64 (n := (a.length : Int) + (b.length : Int)) (by omega) (by omega), w64 (by omega) (by omega)]; omega
  unfold tabardref1_Times.f
  rw [e, if_pos (by omega), Int.toNat_natCast, if_pos (by omega)]
  exact h
end Go.Proofs.Ytaplggheadahhaa.R
