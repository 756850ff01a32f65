/- The reference of the root is the whole root. -/
import Derived.Test.YtaplggheadahhaaRF
import Derived.Test.YtaplggheadahhaaTJ
import Derived.Test.YtaplggheadahhaaTI
namespace Go.Proofs.Ytaplggheadahhaa.R
open Go.RowKit Go.Proofs.YtaplggheadahhaaW.PrintWords
set_option linter.unusedVariables false
set_option linter.unusedSimpArgs false

theorem sgn_le (a b : Nat) : sgn a b ≤ 0 ↔ a ≤ b := by
  unfold sgn; split
  · constructor <;> intro h <;> omega
  · split <;> constructor <;> intro h <;> omega
theorem root_more_ (k : Nat) (A r t : List Int) (x J : Int) (hJ : wrap64 (Int.tdiv x 32) = J) (h : (t.length : Int) ≤ J) (hl : t.length < 35184372088832) : tabardref5_root.l1 (k + 1) A r x t = tabardref5_root.l1 k A r x (t ++ [0]) := by
  rw [tabardref5_root.l1, hJ, if_pos h, if_pos hl]
theorem root_pad (A r : List Int) (i : Nat) (hi : i < 128) : ∀ (d : Nat) (t : List Int), (t.length + d = i / 32 + 1 ∨ (d = 0 ∧ i / 32 < t.length)) → Lm t → t.length ≤ 4 →
    ∃ t', Lm t' ∧ val t' = val t ∧ i / 32 < t'.length ∧ t'.length ≤ 4 ∧ ∀ k, tabardref5_root.l1 (k + d) A r (i : Int) t = tabardref5_root.l1 k A r (i : Int) t' := by
  intro d
  induction d with
  | zero => intro t h hm hl; exact ⟨t, hm, rfl, by omega, hl, fun k => rfl⟩
  | succ d ih =>
    intro t h hm hl
    obtain ⟨t', a1, a2, a3, a4, a5⟩ := ih (t ++ [0]) (.inl (by simp; omega)) (by rw [lm_append]; exact ⟨hm, lm_cons.2 ⟨by decide, lm_nil⟩⟩) (by simp; omega)
    refine ⟨t', a1, ?_, a3, a4, fun k => ?_⟩
    · rw [a2, val_append]
      have : val [0] = 0 := rfl
      rw [this, Nat.mul_zero, Nat.add_zero]
    · rw [← a5 k, show k + (d + 1) = k + d + 1 by omega]
      exact root_more_ _ A r t _ _ (parts_idx i (by omega)).1 (by omega) (by omega)
theorem root_hit_ (k : Nat) (A r t u y res : List Int) (x J S v x' g : Int) (hJ : wrap64 (Int.tdiv x 32) = J) (hS : IntKind.u64.wrap (Int.tmod x 32) = S) (h9 : wrap64 (x - 1) = x') (h1 : ¬ (t.length : Int) ≤ J) (h2 : 0 ≤ J) (h3 : J < (t.length : Int)) (h4 : 0 ≤ S) (hy : t.set J.toNat v = y)
    (hv : Go.bits .or .u32 (rd t J) (shl .u32 1 S) = v) (e1 : tabardref1_Times.f k y y = some u) (e2 : tabardref1_Cmp.f k u A = some g)
    (h : (g ≤ 0 ∧ tabardref5_root.l0 k A y x' = some res) ∨ (¬ g ≤ 0 ∧ tabardref5_root.l0 k A r x' = some res)) : tabardref5_root.l1 (k + 1) A r x t = some res := by
  have e : tabardref5_root.l1 (k + 1) A r x t = (if (t.length : Int) ≤ (wrap64 (Int.tdiv x 32)) then (if t.length < 35184372088832 then (tabardref5_root.l1 k A r x (t ++ [0])) else (none)) else (if 0 ≤ (wrap64 (Int.tdiv x 32)) then (if (wrap64 (Int.tdiv x 32)) < (t.length : Int) then (if 0 ≤ (IntKind.u64.wrap (Int.tmod x 32)) then ((some (t.set ((wrap64 (Int.tdiv x 32)) : Int).toNat (Go.bits .or .u32 (rd t (wrap64 (Int.tdiv x 32))) (shl .u32 1 (IntKind.u64.wrap (Int.tmod x 32)))) : List Int)).bind fun y399 => ((tabardref1_Times.f k y399 y399).bind fun t400 => ((tabardref1_Cmp.f k t400 A).bind fun t403 => (if t403 ≤ 0 then (tabardref5_root.l0 k A y399 (wrap64 (x - 1))) else (tabardref5_root.l0 k A r (wrap64 (x - 1))))))) else (none)) else (none)) else (none))) := by
    rw [tabardref5_root.l1]
  rw [hJ, hS, h9, hv, hy] at e
  rw [e, if_neg h1, if_pos h2, if_pos h3, if_pos h4, Option.bind_some, e1, Option.bind_some, e2, Option.bind_some]
  rcases h with ⟨h, h'⟩ | ⟨h, h'⟩
  · rw [if_pos h]; exact h'
  · rw [if_neg h]; exact h'
theorem root_start_ (k : Nat) (A r : List Int) (x : Int) (h : x ≥ 0) (hl : r.length ≤ 4) : tabardref5_root.l0 (k + 1) A r x = tabardref5_root.l1 k A r x r := by
  rw [tabardref5_root.l0, if_pos h]
  simp only [Option.bind_some, List.nil_append, List.length_nil]
  rw [if_pos (by omega)]
theorem root_end_ (k : Nat) (A r : List Int) (x : Int) (h : ¬ x ≥ 0) : tabardref5_root.l0 (k + 1) A r x = some r := by
  rw [tabardref5_root.l0, if_neg h]
theorem root_idx {a b i : Nat} (h : a < b) : (¬ (b : Int) ≤ ((a : Nat) : Int)) ∧ (0 : Int) ≤ ((a : Nat) : Int) ∧ ((a : Nat) : Int) < (b : Int) ∧ (0 : Int) ≤ ((i : Nat) : Int) := by omega
theorem root_fin (A r t y u l : List Int) (i : Int) (D : Nat) (v g J S x' : Int) (h0 : i ≥ 0) (hl : r.length ≤ 4) (i1 : wrap64 (Int.tdiv i 32) = J) (i2 : IntKind.u64.wrap (Int.tmod i 32) = S) (i3 : wrap64 (i - 1) = x') (h1 : ¬ (t.length : Int) ≤ J) (h2 : 0 ≤ J) (h3 : J < (t.length : Int)) (h4 : 0 ≤ S)
    (hy : t.set J.toNat v = y) (hv : Go.bits .or .u32 (rd t J) (shl .u32 1 S) = v) (a5 : ∀ k, tabardref5_root.l1 (k + D) A r i r = tabardref5_root.l1 k A r i t) (ht : Ev fun k => tabardref1_Times.f k y y = some u) (hc : Ev fun k => tabardref1_Cmp.f k u A = some g)
    (he : Ev fun k => ((g ≤ 0 ∧ tabardref5_root.l0 k A y x' = some l) ∨ (¬ g ≤ 0 ∧ tabardref5_root.l0 k A r x' = some l))) : Ev fun k => tabardref5_root.l0 k A r i = some l := by
  have ⟨K, h⟩ := (ht.and hc).and he
  refine ⟨K + D + 2, fun k hk => ?_⟩
  obtain ⟨j, rfl⟩ : ∃ j, k = j + 1 + D + 1 := ⟨k - D - 2, by omega⟩
  have ⟨⟨b1, b2⟩, b3⟩ := h j (by omega)
  have q1 := root_start_ (j + 1 + D) A r i h0 hl
  have q2 := a5 (j + 1)
  rw [q1, q2]
  exact root_hit_ j A r t u y l i J S v x' g i1 i2 i3 h1 h2 h3 h4 hy hv b1 b2 b3
theorem root_l0 (A : List Int) (N : Nat) (hA : Lm A) (hAl : A.length < 1048576) (hN : val A = N) : ∀ (i : Nat) (r : List Int) (Q : Nat), i ≤ 100 → Lm r → r.length ≤ 4 → val r = Q * 2 ^ i → val r * val r ≤ N → N < (val r + 2 ^ i) * (val r + 2 ^ i) →
    ∃ l, (Lm l ∧ l.length ≤ 4 ∧ Fl.IsRt N (val l)) ∧ Ev fun k => tabardref5_root.l0 k A r ((i : Int) - 1) = some l := by
  intro i
  induction i with
  | zero =>
    intro r Q hi hm hl hv h1 h2
    refine ⟨r, ⟨hm, hl, h1, h2⟩, ⟨1, fun k hk => ?_⟩⟩
    obtain ⟨k, rfl⟩ : ∃ j, k = j + 1 := ⟨k - 1, by omega⟩
    exact root_end_ k A r _ (by omega)
  | succ i ih =>
    intro r Q hi hm hl hv h1 h2
    obtain ⟨D, hD⟩ : ∃ D, D = i / 32 + 1 - r.length := ⟨_, rfl⟩
    obtain ⟨t, a1, a2, a3, a4, a5⟩ := root_pad A r i (by omega) D r (by omega) hm hl
    obtain ⟨s1, s2⟩ := set_bit a1 i Q a3 (by rw [a2, hv])
    obtain ⟨i1, i2, i3, i4⟩ := parts_idx i (by omega)
    have hsl : (t.set (i / 32) (Go.bits .or .u32 (rd t ((i / 32 : Nat) : Int)) (shl .u32 1 ((i % 32 : Nat) : Int)))).length ≤ 4 := by rw [List.length_set]; exact a4
    generalize hv' : Go.bits .or .u32 (rd t ((i / 32 : Nat) : Int)) (shl .u32 1 ((i % 32 : Nat) : Int)) = v at *
    have hsl' := hsl
    generalize hy : t.set (i / 32) v = y at *
    have ht := times_ev _ _ s1 s1 (by omega) (by omega)
    rw [s2, a2] at ht
    have hll : (lst ((val r + 2 ^ i) * (val r + 2 ^ i))).length ≤ 9 := by
      have h3 := val_lt s1
      rw [s2, a2] at h3
      obtain ⟨L, hL⟩ : ∃ L, L = y.length := ⟨_, rfl⟩
      rw [← hL] at h3 hsl
      refine Nat.le_trans (length_lst (m := L + L) (Nat.lt_of_lt_of_le (Nat.mul_lt_mul'' h3 h3) ?_)) (by omega)
      rw [← Nat.pow_add]
      exact Nat.pow_le_pow_right (by decide) (by omega)
    have hc := cmp_ev (lst ((val r + 2 ^ i) * (val r + 2 ^ i))) A (lm_lst _) hA (by omega) (by omega)
    rw [val_lst, hN] at hc
    have hp : 2 ^ (i + 1) = 2 ^ i + 2 ^ i := by rw [Nat.pow_succ]; omega
    have fin : ∀ l, (Ev fun k => ((sgn ((val r + 2 ^ i) * (val r + 2 ^ i)) N ≤ 0 ∧ tabardref5_root.l0 k A y ((i : Int) - 1) = some l) ∨ (¬ sgn ((val r + 2 ^ i) * (val r + 2 ^ i)) N ≤ 0 ∧ tabardref5_root.l0 k A r ((i : Int) - 1) = some l))) → Ev fun k => tabardref5_root.l0 k A r (((i + 1 : Nat) : Int) - 1) = some l := fun l he => by
      rw [i4]
      exact root_fin A r t y _ l (i : Int) D v _ _ _ _ (Int.natCast_nonneg i) hl i1 i2 i3 (root_idx (i := i % 32) a3).1 (root_idx (i := i % 32) a3).2.1 (root_idx (i := i % 32) a3).2.2.1 (root_idx (i := i % 32) a3).2.2.2 (by rw [Int.toNat_natCast]; exact hy) hv' a5 ht hc he
    by_cases c : (val r + 2 ^ i) * (val r + 2 ^ i) ≤ N
    · obtain ⟨l, p, he⟩ := ih y (2 * Q + 1) (Nat.le_of_succ_le hi) s1 hsl (by rw [s2, a2, hv, hp]; rw [← Nat.two_mul, Nat.add_mul, Nat.one_mul, Nat.mul_comm 2 Q, Nat.mul_assoc]) (by rw [s2, a2]; exact c) (by rw [s2, a2, Nat.add_assoc, ← hp]; exact h2)
      exact ⟨l, p, fin l (he.imp fun k h => .inl ⟨(sgn_le _ _).2 c, h⟩)⟩
    · obtain ⟨l, p, he⟩ := ih r (2 * Q) (Nat.le_of_succ_le hi) hm hl (by rw [hv, Nat.pow_succ, Nat.mul_comm (2 ^ i) 2, ← Nat.mul_assoc, Nat.mul_comm Q 2]) h1 (Nat.lt_of_not_le c)
      exact ⟨l, p, fin l (he.imp fun k h => .inr ⟨fun g => c ((sgn_le _ _).1 g), h⟩)⟩
theorem root_ev (A : List Int) (N : Nat) (hA : Lm A) (hAl : A.length < 1048576) (hN : val A = N) (hb : N < 2 ^ 200) : ∃ l, (Lm l ∧ l.length ≤ 4 ∧ Fl.IsRt N (val l)) ∧ Ev fun k => tabardref5_root.f k A 100 = some l := by
  obtain ⟨l, p, he⟩ := root_l0 A N hA hAl hN 100 [] 0 (by omega) lm_nil (by simp) (by rw [Nat.zero_mul]; rfl) (by rw [show val [] = 0 from rfl, Nat.zero_mul]; exact Nat.zero_le _) (by
    rw [show val [] = 0 from rfl, Nat.zero_add, ← Nat.pow_add]
    exact hb)
  refine ⟨l, p, he.imp fun k h => ?_⟩
  unfold tabardref5_root.f
  rw [w64 (by omega) (by omega)]
  exact h
end Go.Proofs.Ytaplggheadahhaa.R
